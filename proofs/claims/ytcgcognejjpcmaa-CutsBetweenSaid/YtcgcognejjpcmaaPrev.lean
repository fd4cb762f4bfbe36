/- The address ahead of an address, the program's and the document's. -/
import Derived.Test.YtcgcognejjpcmaaNext
import Derived.Test.YtcgcognejjpcmaaEql2
namespace Go.Proofs.Ytcgcognejjpcmaa
open Go.RowKit Go.Proofs.YtcgcognejjpcmaaW.PrintWords
set_option linter.unusedVariables false
set_option linter.unusedSimpArgs false
attribute [local go_sem] Later.cell_eq

/-- The address ahead of a; whether there is one. -/
def prevA (a : S24) : S24 := if a.f1 = 0 then (if a.f0 = 0 then a else ⟨a.f0 - 1, 18446744073709551615⟩) else ⟨a.f0, a.f1 - 1⟩
def prevB (a : S24) : Bool := !eqA a ⟨0, 0⟩
theorem sub64_run (x y b : Nat) (hb : b ≤ 1) (w : World) : (callFunc 79 #[.int .u64 x, .int .u64 y, .int .u64 b]).run Try.prog w =
    .ok (.value (.tuple #[.int .u64 (((x + 18446744073709551616 - y - b) % 18446744073709551616 : Nat) : Int), .int .u64 ((if x < y + b then 1 else 0 : Nat) : Int)])) w := by
  have h : (Extern.find Try.f79).isSome = true := by kernel_rfl
  rw [run_callFunc_extern (f := 79) (fn := Try.f79) (by kernel_rfl) (by kernel_rfl) (by kernel_rfl) (by kernel_rfl) (e := (Extern.find Try.f79).get h) (Option.some_get h).symm]
  have : b = 0 ∨ b = 1 := by omega
  rcases this with rfl | rfl <;> rfl
theorem sub64_is {x s c : Int} (hx : 0 ≤ x) (hs : (x + 18446744073709551615) % 18446744073709551616 = s) (hc : (if x < 1 then 1 else 0) = c) (w : World) :
    (callFunc 79 #[.int .u64 x, .int .u64 1, .int .u64 0]).run Try.prog w = .ok (.value (.tuple #[.int .u64 s, .int .u64 c])) w := by
  obtain ⟨n, rfl⟩ := Int.eq_ofNat_of_zero_le hx
  have h := sub64_run n 1 0 (by omega) w
  have e1 : (((n + 18446744073709551616 - 1 - 0) % 18446744073709551616 : Nat) : Int) = s := by omega
  have e2 : ((if n < 1 + 0 then 1 else 0 : Nat) : Int) = c := by
    subst hc
    by_cases hn : n < 1
    · rw [if_pos (by omega), if_pos (by omega)]; rfl
    · rw [if_neg (by omega), if_neg (by omega)]; rfl
  rw [e1, e2] at h
  exact h

theorem prevA_0 : prevA ⟨0, 0⟩ = ⟨0, 0⟩ ∧ prevB ⟨0, 0⟩ = false := ⟨rfl, rfl⟩
theorem prevA_1 {x : Int} (hx : x ≠ 0) : prevA ⟨x, 0⟩ = ⟨x - 1, 18446744073709551615⟩ ∧ prevB ⟨x, 0⟩ = true := by
  unfold prevA prevB
  simp [hx, eqA]
theorem prevA_2 {x y : Int} (hy : y ≠ 0) : prevA ⟨x, y⟩ = ⟨x, y - 1⟩ ∧ prevB ⟨x, y⟩ = true := by
  unfold prevA prevB
  simp [hy, eqA]
theorem wrap_1 {x : Int} (h0 : 0 ≤ x) (h1 : x < 18446744073709551616) (hx : x ≠ 0) : IntKind.u64.wrap (x - 1) = x - 1 := by
  simp [IntKind.wrap, IntKind.bits, IntKind.signed]; omega
set_option maxRecDepth 100000 in
set_option maxHeartbeats 1000000 in
theorem prev_any (a : S24) (ha : FitA a) (w : World) : Calls Try.prog 65 #[.agg #[.int .u64 a.f0, .int .u64 a.f1]] w fun e w' =>
    e = .returned (.tuple #[.agg #[.int .u64 (prevA a).f0, .int .u64 (prevA a).f1], .bool (prevB a)]) ∧ Below w.heap.size w w' := by
  obtain ⟨x, y⟩ := a
  obtain ⟨h0, h1, h2, h3⟩ := ha
  simp only at h0 h1 h2 h3
  by_cases hy : y = 0
  · subst hy
    by_cases hx : x = 0
    · subst hx
      rw [prevA_0.1, prevA_0.2]
      have HE := Aside0.mk (eqA_self ⟨0, 0⟩)
      go_enter Try.func65, Try.ntmps65
      go_wp2_with (first
        | (refine gate_dst (N := 8) rfl ?_; refine wl_eql24 rfl _ _ _ rfl ⟨0, 0⟩ ⟨0, 0⟩ rfl rfl ?_; rw [HE.out])
        | fail)
      have S := Aside0.mk (((St.nil w).alloc (.cells #[.int .u64 (0), .int .u64 (0)] 24)).alloc (.cells #[.int .u64 (0), .int .u64 (0)] 24))
      simp only [World.size_alloc, List.nil_append, List.cons_append] at S
      refine ends_ct rfl rfl rfl (S.out.get 1 rfl) Try.underlying24 rfl (by kernel_rfl) rfl ?_
      exact ⟨rfl, S.out.below⟩
    · have e2 := fun w => sub64_is (x := 0) (s := 18446744073709551615) (c := 1) (by decide) (by decide) (by decide) w
      have hw := wrap_1 h0 h1 hx
      rw [(prevA_1 hx).1, (prevA_1 hx).2]
      have HE := Aside0.mk (show eqA ⟨x, 0⟩ ⟨0, 0⟩ = false by simp [eqA, hx])
      go_enter Try.func65, Try.ntmps65
      go_wp2_with (first
        | (refine gate_dst (N := 8) rfl ?_; refine wl_eql24 rfl _ _ _ rfl ⟨x, 0⟩ ⟨0, 0⟩ rfl rfl ?_; rw [HE.out])
        | fail)
      have S := Aside0.mk (((St.nil w).alloc (.cells #[.int .u64 (x), .int .u64 (0)] 24)).alloc (.cells #[.int .u64 (x - 1), .int .u64 (18446744073709551615)] 24))
      simp only [World.size_alloc, List.nil_append, List.cons_append] at S
      refine ends_ct rfl rfl rfl (S.out.get 1 rfl) Try.underlying24 rfl (by kernel_rfl) rfl ?_
      exact ⟨rfl, S.out.below⟩
  · have e2 := fun w => sub64_is (x := y) (s := y - 1) (c := 0) h2 (by omega) (by rw [if_neg (by omega)]) w
    rw [(prevA_2 hy).1, (prevA_2 hy).2]
    have HE := Aside0.mk (show eqA ⟨x, y⟩ ⟨0, 0⟩ = false by simp [eqA, hy])
    go_enter Try.func65, Try.ntmps65
    go_wp2_with (first
      | (refine gate_dst (N := 8) rfl ?_; refine wl_eql24 rfl _ _ _ rfl ⟨x, y⟩ ⟨0, 0⟩ rfl rfl ?_; rw [HE.out])
      | fail)
    have S := Aside0.mk (((St.nil w).alloc (.cells #[.int .u64 (x), .int .u64 (y)] 24)).alloc (.cells #[.int .u64 (x), .int .u64 (y - 1)] 24))
    simp only [World.size_alloc, List.nil_append, List.cons_append] at S
    refine ends_ct rfl rfl rfl (S.out.get 1 rfl) Try.underlying24 rfl (by kernel_rfl) rfl ?_
    exact ⟨rfl, S.out.below⟩
end Go.Proofs.Ytcgcognejjpcmaa
