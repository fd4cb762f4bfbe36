/- The address behind an address, the program's and the document's. -/
import Derived.Test.YtcgcognejjpcmaaMid
import Derived.Test.YtcgcognejjpcmaaEql
import Derived.Laws.Externs
namespace Go.Proofs.Ytcgcognejjpcmaa
open Go.RowKit Go.Proofs.YtcgcognejjpcmaaW.PrintWords
set_option linter.unusedVariables false
set_option linter.unusedSimpArgs false
attribute [local go_sem] Later.cell_eq

/-- The address behind a; whether there is one. -/
def nextA (a : S24) : S24 := if a.f1 = 18446744073709551615 then ⟨if a.f0 = 18446744073709551615 then 0 else a.f0 + 1, 0⟩ else ⟨a.f0, a.f1 + 1⟩
def nextB (a : S24) : Bool := !(a.f0 == 18446744073709551615 && a.f1 == 18446744073709551615)
/-- An address' numbers fit. -/
def FitA (a : S24) : Prop := 0 ≤ a.f0 ∧ a.f0 < 18446744073709551616 ∧ 0 ≤ a.f1 ∧ a.f1 < 18446744073709551616
theorem add64_any (x y z : Int) (hx : 0 ≤ x) (hy : 0 ≤ y) (hz : 0 ≤ z) (hz1 : z ≤ 1) (w : World) :
    (callFunc 78 #[.int .u64 x, .int .u64 y, .int .u64 z]).run Try.prog w = .ok (.value (.tuple #[.int .u64 ((x + y + z) % 18446744073709551616), .int .u64 ((x + y + z) / 18446744073709551616)])) w := by
  rw [run_callFunc_extern (f := 78) (fn := Try.f78) (by kernel_rfl) (by kernel_rfl) (by kernel_rfl) (by kernel_rfl) (e := add64Entry) (by kernel_rfl), run_add64 x y z hx hy hz hz1]
  simp only [Result.andThen]

theorem add64_is {x y z s c : Int} (hx : 0 ≤ x) (hy : 0 ≤ y) (hz : 0 ≤ z) (hz1 : z ≤ 1) (hs : (x + y + z) % 18446744073709551616 = s) (hc : (x + y + z) / 18446744073709551616 = c) (w : World) :
    (callFunc 78 #[.int .u64 x, .int .u64 y, .int .u64 z]).run Try.prog w = .ok (.value (.tuple #[.int .u64 s, .int .u64 c])) w := by rw [add64_any x y z hx hy hz hz1, hs, hc]
theorem nextA_1 {x y : Int} (hy : y ≠ 18446744073709551615) : nextA ⟨x, y⟩ = ⟨x, y + 1⟩ ∧ nextB ⟨x, y⟩ = true := by
  unfold nextA nextB
  rw [if_neg hy]
  simp [hy]
theorem nextA_2 {x : Int} (hx : x ≠ 18446744073709551615) : nextA ⟨x, 18446744073709551615⟩ = ⟨x + 1, 0⟩ ∧ nextB ⟨x, 18446744073709551615⟩ = true := by
  unfold nextA nextB
  simp [hx]
theorem nextA_3 : nextA ⟨18446744073709551615, 18446744073709551615⟩ = ⟨0, 0⟩ ∧ nextB ⟨18446744073709551615, 18446744073709551615⟩ = false := ⟨rfl, rfl⟩

set_option maxRecDepth 100000 in
theorem next_any (a : S24) (ha : FitA a) (w : World) : Calls Try.prog 57 #[.agg #[.int .u64 a.f0, .int .u64 a.f1]] w fun e w' =>
    e = .returned (.tuple #[.agg #[.int .u64 (nextA a).f0, .int .u64 (nextA a).f1], .bool (nextB a)]) ∧ Below w.heap.size w w' := by
  obtain ⟨x, y⟩ := a
  obtain ⟨h0, h1, h2, h3⟩ := ha
  simp only at h0 h1 h2 h3
  by_cases hy : y = 18446744073709551615
  · subst hy
    have e1 := fun w => add64_is (x := 18446744073709551615) (y := 1) (z := 0) (s := 0) (c := 1) (by decide) (by decide) (by decide) (by decide) (by decide) (by decide) w
    by_cases hx : x = 18446744073709551615
    · subst hx
      have e2 := fun w => add64_is (x := 18446744073709551615) (y := 0) (z := 1) (s := 0) (c := 1) (by decide) (by decide) (by decide) (by decide) (by decide) (by decide) w
      rw [nextA_3.1, nextA_3.2]
      go_enter Try.func57, Try.ntmps57
      go_wp2
      have S := Aside0.mk (((St.nil w).alloc (.cells #[.int .u64 (18446744073709551615), .int .u64 (18446744073709551615)] 24)).alloc (.cells #[.int .u64 (0), .int .u64 (0)] 24))
      simp only [World.size_alloc, List.nil_append, List.cons_append] at S
      refine ends_ct rfl rfl rfl (S.out.get 1 rfl) Try.underlying24 rfl (by kernel_rfl) rfl ?_
      exact ⟨rfl, S.out.below⟩
    · have e2 := fun w => add64_is (x := x) (y := 0) (z := 1) (s := x + 1) (c := 0) h0 (by decide) (by decide) (by decide) (by omega) (by omega) w
      rw [(nextA_2 hx).1, (nextA_2 hx).2]
      go_enter Try.func57, Try.ntmps57
      go_wp2
      have S := Aside0.mk (((St.nil w).alloc (.cells #[.int .u64 (x), .int .u64 (18446744073709551615)] 24)).alloc (.cells #[.int .u64 (x + 1), .int .u64 (0)] 24))
      simp only [World.size_alloc, List.nil_append, List.cons_append] at S
      refine ends_ct rfl rfl rfl (S.out.get 1 rfl) Try.underlying24 rfl (by kernel_rfl) rfl ?_
      exact ⟨rfl, S.out.below⟩
  · have e1 := fun w => add64_is (x := y) (y := 1) (z := 0) (s := y + 1) (c := 0) h2 (by decide) (by decide) (by decide) (by omega) (by omega) w
    have e2 := fun w => add64_is (x := x) (y := 0) (z := 0) (s := x) (c := 0) h0 (by decide) (by decide) (by decide) (by omega) (by omega) w
    rw [(nextA_1 hy).1, (nextA_1 hy).2]
    go_enter Try.func57, Try.ntmps57
    go_wp2
    have S := Aside0.mk (((St.nil w).alloc (.cells #[.int .u64 (x), .int .u64 (y)] 24)).alloc (.cells #[.int .u64 (x), .int .u64 (y + 1)] 24))
    simp only [World.size_alloc, List.nil_append, List.cons_append] at S
    refine ends_ct rfl rfl rfl (S.out.get 1 rfl) Try.underlying24 rfl (by kernel_rfl) rfl ?_
    exact ⟨rfl, S.out.below⟩

theorem inrange_1 {x : Int} (h0 : 0 ≤ x) (h1 : x < 18446744073709551616) (hx : x ≠ 18446744073709551615) : (x + 1) % 18446744073709551616 = x + 1 := by omega
theorem wrap_top : IntKind.u64.wrap 18446744073709551616 = 0 := rfl
set_option maxRecDepth 100000 in
theorem refnext_any (a : S24) (ha : FitA a) (w : World) : Calls Try.prog 58 #[.agg #[.int .u64 a.f0, .int .u64 a.f1]] w fun e w' =>
    e = .returned (.tuple #[.agg #[.int .u64 (nextA a).f0, .int .u64 (nextA a).f1], .bool (nextB a)]) ∧ Below w.heap.size w w' := by
  obtain ⟨x, y⟩ := a
  obtain ⟨h0, h1, h2, h3⟩ := ha
  simp only at h0 h1 h2 h3
  by_cases hy : y = 18446744073709551615
  · subst hy
    by_cases hx : x = 18446744073709551615
    · subst hx
      rw [nextA_3.1, nextA_3.2]
      go_enter Try.func58, Try.ntmps58
      go_upto_region 4 with fail
      try simp only [wrap_top]
      have S := Aside0.mk ((((St.nil w).alloc (.cells #[.int .u64 (18446744073709551615), .int .u64 (18446744073709551615)] 24)).alloc (.cells #[.int .u64 0, .int .u64 0] 24)).alloc (.cells #[.int .u64 (0), .int .u64 (0)] 24))
      simp only [World.size_alloc, List.nil_append, List.cons_append] at S
      generalize World.alloc _ _ = W0 at *
      refine Rg.put1 S.out 4 _ 24 _ _ 1 (w.heap.size + 1) 0 #[.int .u64 0, .int .u64 0] #[.int .u64 (0), .int .u64 (0)] 24 (by kernel_rfl) (by kernel_rfl) (by kernel_rfl) rfl ⟨rfl, rfl, rfl⟩ rfl (by omega) (by
          intro j hj g' o' h
          rcases j with _ | _ | _ | j
          · injection h with h; injection h with h _; omega
          · exact absurd rfl hj
          · injection h with h; injection h with h _; omega
          · cases h) (by simp) (by kernel_rfl) (by simp [Value.oneCell']) ?_
      apply Exists.intro
      refine ⟨?_, ?_, ?_, ?_⟩
      · intro w' S2
        replace S2 := Aside0.mk S2
        simp only [List.cons_append, List.nil_append, List.eraseIdx_cons_succ, List.eraseIdx_cons_zero] at S2
        simp only [Rg.cutOut, List.eraseIdx_cons_succ, List.eraseIdx_cons_zero]
        repeat (first
          | go_big_quiet_skip
          | (refine quiet_load_row 24 (.tmp 4) rfl rfl _ #[.int .u64 (0), .int .u64 (0)] 24 (0, 0) _ rfl (later_blk (S2.out.get 1 rfl)) Try.underlying24 rfl (by kernel_rfl) ?_; go_frame)
          | (refine quiet_neq24 rfl _ _ _ rfl ⟨0, 0⟩ ⟨0, 0⟩ rfl rfl ?_; rw [show (!eqA (⟨0, 0⟩ : S24) ⟨0, 0⟩) = false by simp [eqA]; try omega]; go_frame)
          | go_big_quiet_step (fail)
          | fail)
        exact wpQuiet_nil rfl
      · rfl
      · rfl
      · intro w5 hS5
        replace S := Aside0.mk hS5
        go_wp2
        refine ends_ct rfl rfl rfl (S.out.get 1 rfl) Try.underlying24 rfl (by kernel_rfl) rfl ?_
        exact ⟨rfl, S.out.below⟩
    · rw [(nextA_2 hx).1, (nextA_2 hx).2]
      go_enter Try.func58, Try.ntmps58
      go_upto_region 4 with fail
      try simp only [wrap_top]
      have S := Aside0.mk ((((St.nil w).alloc (.cells #[.int .u64 (x), .int .u64 (18446744073709551615)] 24)).alloc (.cells #[.int .u64 0, .int .u64 0] 24)).alloc (.cells #[.int .u64 (x + 1), .int .u64 (0)] 24))
      simp only [World.size_alloc, List.nil_append, List.cons_append] at S
      generalize World.alloc _ _ = W0 at *
      refine Rg.put1 S.out 4 _ 24 _ _ 1 (w.heap.size + 1) 0 #[.int .u64 0, .int .u64 0] #[.int .u64 (x + 1), .int .u64 (0)] 24 (by kernel_rfl) (by kernel_rfl) (by kernel_rfl) rfl ⟨rfl, rfl, rfl⟩ rfl (by omega) (by
          intro j hj g' o' h
          rcases j with _ | _ | _ | j
          · injection h with h; injection h with h _; omega
          · exact absurd rfl hj
          · injection h with h; injection h with h _; omega
          · cases h) (by simp) (by kernel_rfl) (by simp [Value.oneCell']) ?_
      apply Exists.intro
      refine ⟨?_, ?_, ?_, ?_⟩
      · intro w' S2
        replace S2 := Aside0.mk S2
        simp only [List.cons_append, List.nil_append, List.eraseIdx_cons_succ, List.eraseIdx_cons_zero] at S2
        simp only [Rg.cutOut, List.eraseIdx_cons_succ, List.eraseIdx_cons_zero]
        repeat (first
          | go_big_quiet_skip
          | (refine quiet_load_row 24 (.tmp 4) rfl rfl _ #[.int .u64 (x + 1), .int .u64 (0)] 24 (0, 0) _ rfl (later_blk (S2.out.get 1 rfl)) Try.underlying24 rfl (by kernel_rfl) ?_; go_frame)
          | (refine quiet_neq24 rfl _ _ _ rfl ⟨x + 1, 0⟩ ⟨0, 0⟩ rfl rfl ?_; rw [show (!eqA (⟨x + 1, 0⟩ : S24) ⟨0, 0⟩) = true by simp [eqA]; try omega]; go_frame)
          | go_big_quiet_step (fail)
          | fail)
        exact wpQuiet_nil rfl
      · rfl
      · rfl
      · intro w5 hS5
        replace S := Aside0.mk hS5
        go_wp2
        refine ends_ct rfl rfl rfl (S.out.get 1 rfl) Try.underlying24 rfl (by kernel_rfl) rfl ?_
        exact ⟨rfl, S.out.below⟩
  · rw [(nextA_1 hy).1, (nextA_1 hy).2]
    go_enter Try.func58, Try.ntmps58
    go_upto_region 4 with fail
    try simp only [wrap_top]
    have S := Aside0.mk ((((St.nil w).alloc (.cells #[.int .u64 (x), .int .u64 (y)] 24)).alloc (.cells #[.int .u64 0, .int .u64 0] 24)).alloc (.cells #[.int .u64 (x), .int .u64 (y + 1)] 24))
    simp only [World.size_alloc, List.nil_append, List.cons_append] at S
    generalize World.alloc _ _ = W0 at *
    refine Rg.put1 S.out 4 _ 24 _ _ 1 (w.heap.size + 1) 0 #[.int .u64 0, .int .u64 0] #[.int .u64 (x), .int .u64 (y + 1)] 24 (by kernel_rfl) (by kernel_rfl) (by kernel_rfl) rfl ⟨rfl, rfl, rfl⟩ rfl (by omega) (by
        intro j hj g' o' h
        rcases j with _ | _ | _ | j
        · injection h with h; injection h with h _; omega
        · exact absurd rfl hj
        · injection h with h; injection h with h _; omega
        · cases h) (by simp) (by kernel_rfl) (by simp [Value.oneCell']) ?_
    apply Exists.intro
    refine ⟨?_, ?_, ?_, ?_⟩
    · intro w' S2
      replace S2 := Aside0.mk S2
      simp only [List.cons_append, List.nil_append, List.eraseIdx_cons_succ, List.eraseIdx_cons_zero] at S2
      simp only [Rg.cutOut, List.eraseIdx_cons_succ, List.eraseIdx_cons_zero]
      repeat (first
        | go_big_quiet_skip
        | (refine quiet_load_row 24 (.tmp 4) rfl rfl _ #[.int .u64 (x), .int .u64 (y + 1)] 24 (0, 0) _ rfl (later_blk (S2.out.get 1 rfl)) Try.underlying24 rfl (by kernel_rfl) ?_; go_frame)
        | (refine quiet_neq24 rfl _ _ _ rfl ⟨x, y + 1⟩ ⟨0, 0⟩ rfl rfl ?_; rw [show (!eqA (⟨x, y + 1⟩ : S24) ⟨0, 0⟩) = true by simp [eqA]; try omega]; go_frame)
        | go_big_quiet_step (fail)
        | fail)
      exact wpQuiet_nil rfl
    · rfl
    · rfl
    · intro w5 hS5
      replace S := Aside0.mk hS5
      go_wp2
      refine ends_ct rfl rfl rfl (S.out.get 1 rfl) Try.underlying24 rfl (by kernel_rfl) rfl ?_
      exact ⟨rfl, S.out.below⟩
end Go.Proofs.Ytcgcognejjpcmaa
