/- The address ahead of an address: the document's. -/
import Derived.Test.YtcgcognejjpcmaaPrev
namespace Go.Proofs.Ytcgcognejjpcmaa
open Go.RowKit Go.Proofs.YtcgcognejjpcmaaW.PrintWords
set_option linter.unusedVariables false
set_option linter.unusedSimpArgs false
attribute [local go_sem] Later.cell_eq

theorem wrap_m1 : IntKind.u64.wrap (-1) = 18446744073709551615 := rfl
set_option maxRecDepth 100000 in
set_option maxHeartbeats 1000000 in
theorem refprev_any (a : S24) (ha : FitA a) (w : World) : Calls Try.prog 69 #[.agg #[.int .u64 a.f0, .int .u64 a.f1]] w fun e w' =>
    e = .returned (.tuple #[.agg #[.int .u64 (prevA a).f0, .int .u64 (prevA a).f1], .bool (prevB a)]) ∧ Below w.heap.size w w' := by
  obtain ⟨x, y⟩ := a
  obtain ⟨h0, h1, h2, h3⟩ := ha
  simp only at h0 h1 h2 h3
  by_cases hy : y = 0
  · subst hy
    by_cases hx : x = 0
    · subst hx
      rw [prevA_0.1, prevA_0.2]
      have HE := Aside0.mk (eqA_self ⟨0, 0⟩)
      go_enter Try.func69, Try.ntmps69
      go_wp2_with (first
        | (refine gate_dst (N := 7) rfl ?_; refine wl_eql24 rfl _ _ _ rfl ⟨0, 0⟩ ⟨0, 0⟩ rfl rfl ?_; rw [HE.out])
        | fail)
      have S := Aside0.mk (((St.nil w).alloc (.cells #[.int .u64 0, .int .u64 0] 24)).alloc (.cells #[.int .u64 0, .int .u64 0] 24))
      simp only [World.size_alloc, List.nil_append, List.cons_append] at S
      refine ends_ct rfl rfl rfl (S.out.get 1 rfl) Try.underlying24 rfl (by kernel_rfl) rfl ?_
      exact ⟨rfl, S.out.below⟩
    · have hw := wrap_1 h0 h1 hx
      have hm := wrap_m1
      rw [(prevA_1 hx).1, (prevA_1 hx).2]
      have HE := Aside0.mk (show eqA ⟨x, 0⟩ ⟨0, 0⟩ = false by simp [eqA, hx])
      go_enter Try.func69, Try.ntmps69
      go_wp2_with (first
        | (refine gate_dst (N := 7) rfl ?_; refine wl_eql24 rfl _ _ _ rfl ⟨x, 0⟩ ⟨0, 0⟩ rfl rfl ?_; rw [HE.out])
        | fail)
      have S := Aside0.mk ((((St.nil w).alloc (.cells #[.int .u64 x, .int .u64 0] 24)).alloc (.cells #[.int .u64 (x - 1), .int .u64 18446744073709551615] 24)).alloc (.cells #[.int .u64 (x - 1), .int .u64 18446744073709551615] 24))
      simp only [World.size_alloc, List.nil_append, List.cons_append] at S
      refine ends_ct rfl rfl rfl (S.out.get 1 rfl) Try.underlying24 rfl (by kernel_rfl) rfl ?_
      exact ⟨rfl, S.out.below⟩
  · have hw := wrap_1 h2 h3 hy
    have hb : (y == 0) = false := by simpa using hy
    rw [(prevA_2 hy).1, (prevA_2 hy).2]
    have HE := Aside0.mk (show eqA ⟨x, y⟩ ⟨0, 0⟩ = false by simp [eqA, hy])
    go_enter Try.func69, Try.ntmps69
    go_wp2_with (first
      | (refine gate_dst (N := 7) rfl ?_; refine wl_eql24 rfl _ _ _ rfl ⟨x, y⟩ ⟨0, 0⟩ rfl rfl ?_; rw [HE.out])
      | fail)
    have S := Aside0.mk ((((St.nil w).alloc (.cells #[.int .u64 x, .int .u64 y] 24)).alloc (.cells #[.int .u64 x, .int .u64 (y - 1)] 24)).alloc (.cells #[.int .u64 x, .int .u64 (y - 1)] 24))
    simp only [World.size_alloc, List.nil_append, List.cons_append] at S
    refine ends_ct rfl rfl rfl (S.out.get 1 rfl) Try.underlying24 rfl (by kernel_rfl) rfl ?_
    exact ⟨rfl, S.out.below⟩
end Go.Proofs.Ytcgcognejjpcmaa
