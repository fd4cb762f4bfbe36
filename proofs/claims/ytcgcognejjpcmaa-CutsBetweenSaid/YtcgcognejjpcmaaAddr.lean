/- How two addresses compare, whether a range has one: the program's and the document's. -/
import Derived.Test.YtcgcognejjpcmaaBase
import Derived.Test.YtcgcognejjpcmaaRegion
namespace Go.Proofs.Ytcgcognejjpcmaa
open Go.RowKit Go.Proofs.YtcgcognejjpcmaaW.PrintWords
set_option linter.unusedVariables false
set_option linter.unusedSimpArgs false

/-- How two numbers compare. -/
def cmpI (a b : Int) : Int := if a < b then -1 else if b < a then 1 else 0
theorem isNaN_any (a : Int) (w : World) : Calls Try.prog 82 #[.int .u64 a] w fun e w' => e = .returned (.bool false) ∧ w = w' := by
  go_enter Try.func82, Try.ntmps82
  go_wp2
  go_ret
  exact ⟨by simp, rfl⟩
theorem cmpI_any (a b : Int) (w : World) : Calls Try.prog 71 #[.int .u64 a, .int .u64 b] w fun e w' => e = .returned (.int .i64 (cmpI a b)) ∧ w = w' := by
  rcases Int.lt_trichotomy a b with h | h | h
  · have H := Aside0.mk (show cmpI a b = -1 by unfold cmpI; rw [if_pos h])
    go_enter Try.func71, Try.ntmps71
    go_wp2_with (go_at_call 82; refine (isNaN_any _ _).mono ?_; rintro e w' ⟨rfl, rfl⟩)
    go_ret
    exact ⟨by rw [H.out]; rfl, rfl⟩
  · subst h
    have H := Aside0.mk (show cmpI a a = 0 by unfold cmpI; simp)
    go_enter Try.func71, Try.ntmps71
    go_wp2_with (go_at_call 82; refine (isNaN_any _ _).mono ?_; rintro e w' ⟨rfl, rfl⟩)
    go_ret
    exact ⟨by rw [H.out]; rfl, rfl⟩
  · have H := Aside0.mk (show cmpI a b = 1 by unfold cmpI; rw [if_neg (by omega), if_pos h])
    go_enter Try.func71, Try.ntmps71
    go_wp2_with (go_at_call 82; refine (isNaN_any _ _).mono ?_; rintro e w' ⟨rfl, rfl⟩)
    go_ret
    exact ⟨by rw [H.out]; rfl, rfl⟩

/-- cmp.Or of two numbers. -/
def orI (x y : Int) : Int := if x = 0 then y else x
/-- cmp.Or of two numbers that lie in a row of their own. -/
theorem or_any (x y : Int) (g : Nat) (t : TypeId) (w : World) (hg : w.heap[g]? = some (.cells #[.int .i64 x, .int .i64 y] t (0, 0))) :
    Calls Try.prog 70 #[.slice (some ⟨g, 0, none⟩) 2 2] w fun e w' => e = .returned (.int .i64 (orI x y)) ∧ w = w' := by
  have h0 : w.cell? ⟨g, 0, none⟩ = some (.int .i64 x) := by simp [World.cell?, hg]
  have h1 : w.cell? ⟨g, 1, none⟩ = some (.int .i64 y) := by simp [World.cell?, hg]
  clear hg
  by_cases hx : x = 0
  · have hb : (x != 0) = false := by simp [hx]
    have H := Aside0.mk (show orI x y = y from if_pos hx)
    clear hx
    by_cases hy : y = 0
    · have hc : (y != 0) = false := by simp [hy]
      have H2 := Aside0.mk hy
      clear hy
      go_enter Try.func70, Try.ntmps70
      go_wp2
      refine wp_loop_rounds 3 ?_
      rw [rounds_succ]
      go_wp2
      rw [rounds_succ]
      go_wp2
      rw [rounds_succ]
      go_wp2
      go_ret
      exact ⟨by rw [H.out, H2.out]; rfl, rfl⟩
    · have hc : (y != 0) = true := by simp [hy]
      clear hy
      go_enter Try.func70, Try.ntmps70
      go_wp2
      refine wp_loop_rounds 3 ?_
      rw [rounds_succ]
      go_wp2
      rw [rounds_succ]
      go_wp2
      go_ret
      exact ⟨by rw [H.out]; rfl, rfl⟩
  · have hb : (x != 0) = true := by simp [hx]
    have H := Aside0.mk (show orI x y = x from if_neg hx)
    clear hx
    go_enter Try.func70, Try.ntmps70
    go_wp2
    refine wp_loop_rounds 3 ?_
    rw [rounds_succ]
    go_wp2
    go_ret
    exact ⟨by rw [H.out]; rfl, rfl⟩

attribute [local go_sem] Later.cell_eq

/-- How two addresses compare. -/
def cmpA (a b : S24) : Int := if a.f0 < b.f0 then -1 else if b.f0 < a.f0 then 1 else if a.f1 < b.f1 then -1 else if b.f1 < a.f1 then 1 else 0
theorem cmpA_or (ah al bh bl : Int) : orI (cmpI ah bh) (cmpI al bl) = cmpA ⟨ah, al⟩ ⟨bh, bl⟩ := by
  unfold orI cmpI cmpA
  repeat' split
  all_goals first | rfl | omega | simp_all

set_option maxHeartbeats 1000000 in
theorem cmpA_any (ah al bh bl : Int) (w : World) : Calls Try.prog 46 #[.agg #[.int .u64 ah, .int .u64 al], .agg #[.int .u64 bh, .int .u64 bl]] w fun e w' =>
    e = .returned (.int .i64 (cmpA ⟨ah, al⟩ ⟨bh, bl⟩)) ∧ Below w.heap.size w w' := by
  go_enter Try.func46, Try.ntmps46
  go_wp2
  refine wp_region_later_tail 10 (by kernel_rfl) (by kernel_rfl) ?_
  simp only [List.take_succ_cons, List.take_zero, List.drop_succ_cons, List.drop_zero]
  repeat (first | go_big_quiet_step ((go_at_call 71; exact later_of ((cmpI_any _ _ _).mono fun _ _ ⟨he, hw⟩ => ⟨he, hw ▸ Below.refl _ _⟩))) | quiet_step ((go_at_call 71; exact later_of ((cmpI_any _ _ _).mono fun _ _ ⟨he, hw⟩ => ⟨he, hw ▸ Below.refl _ _⟩))))
  refine wpQuiet_nil ?_
  intro w1 hw1
  replace hw1 := later_below hw1
  have hor := fun (W : World) (h : Below w.heap.size w W) => or_any (cmpI ah bh) (cmpI al bl) W.heap.size 3 (W.alloc (.cells #[.int .i64 (cmpI ah bh), .int .i64 (cmpI al bl)] 3)) (heap_alloc_new W _)
  have HOR := Aside0.mk hor
  clear hor
  have HW := Aside0.mk (show Below w.heap.size w w1 from (((Below.refl _ _).alloc (Nat.le_refl _) _).alloc (by simp) _).trans (hw1.mono (by simp; omega)))
  clear hw1
  go_wp2_with (go_at_call 70; refine (HOR.out _ HW.out).mono ?_; rintro e w' ⟨rfl, rfl⟩)
  go_ret
  exact ⟨by rw [← cmpA_or]; rfl, HW.out.alloc HW.out.size _⟩

theorem cmpA_lt {a b : S24} (h : a.f0 < b.f0 ∨ a.f0 = b.f0 ∧ a.f1 < b.f1) : cmpA a b = -1 := by
  unfold cmpA
  repeat' split
  all_goals first | rfl | omega
theorem cmpA_eq {a b : S24} (h0 : a.f0 = b.f0) (h1 : a.f1 = b.f1) : cmpA a b = 0 := by
  unfold cmpA
  repeat' split
  all_goals first | rfl | omega
theorem cmpA_gt {a b : S24} (h : b.f0 < a.f0 ∨ a.f0 = b.f0 ∧ b.f1 < a.f1) : cmpA a b = 1 := by
  unfold cmpA
  repeat' split
  all_goals first | rfl | omega

set_option maxHeartbeats 1000000 in
/-- The document's Compare. -/
theorem refcmp_any (ah al bh bl : Int) (w : World) : Calls Try.prog 63 #[.agg #[.int .u64 ah, .int .u64 al], .agg #[.int .u64 bh, .int .u64 bl]] w fun e w' =>
    e = .returned (.int .i64 (cmpA ⟨ah, al⟩ ⟨bh, bl⟩)) ∧ Below w.heap.size w w' := by
  rcases Int.lt_trichotomy ah bh with h | h | h
  · have H := Aside0.mk (cmpA_lt (a := ⟨ah, al⟩) (b := ⟨bh, bl⟩) (.inl h))
    go_enter Try.func63, Try.ntmps63
    go_wp2
    go_ret
    exact ⟨by rw [H.out]; rfl, ((Below.refl _ _).alloc (Nat.le_refl _) _).alloc (by simp) _⟩
  · subst h
    rcases Int.lt_trichotomy al bl with h | h | h
    · have H := Aside0.mk (cmpA_lt (a := ⟨ah, al⟩) (b := ⟨ah, bl⟩) (.inr ⟨rfl, h⟩))
      go_enter Try.func63, Try.ntmps63
      go_wp2
      go_ret
      exact ⟨by rw [H.out]; rfl, ((Below.refl _ _).alloc (Nat.le_refl _) _).alloc (by simp) _⟩
    · subst h
      have H := Aside0.mk (cmpA_eq (a := ⟨ah, al⟩) (b := ⟨ah, al⟩) rfl rfl)
      go_enter Try.func63, Try.ntmps63
      go_wp2
      go_ret
      exact ⟨by rw [H.out]; rfl, ((Below.refl _ _).alloc (Nat.le_refl _) _).alloc (by simp) _⟩
    · have H := Aside0.mk (cmpA_gt (a := ⟨ah, al⟩) (b := ⟨ah, bl⟩) (.inr ⟨rfl, h⟩))
      have hne : (al == bl) = false := by simp; omega
      have hge : decide (al < bl) = false := by simp; omega
      go_enter Try.func63, Try.ntmps63
      go_wp2
      go_ret
      exact ⟨by rw [H.out]; rfl, ((Below.refl _ _).alloc (Nat.le_refl _) _).alloc (by simp) _⟩
  · have H := Aside0.mk (cmpA_gt (a := ⟨ah, al⟩) (b := ⟨bh, bl⟩) (.inl h))
    have hne : (ah == bh) = false := by simp; omega
    go_enter Try.func63, Try.ntmps63
    go_wp2
    go_ret
    exact ⟨by rw [H.out]; rfl, ((Below.refl _ _).alloc (Nat.le_refl _) _).alloc (by simp) _⟩

set_option maxHeartbeats 1000000 in
theorem atmost_any (ah al bh bl : Int) (w : World) : Calls Try.prog 42 #[.agg #[.int .u64 ah, .int .u64 al], .agg #[.int .u64 bh, .int .u64 bl]] w fun e w' =>
    e = .returned (.bool (decide (cmpA ⟨ah, al⟩ ⟨bh, bl⟩ ≤ 0))) ∧ Below w.heap.size w w' := by
  go_enter Try.func42, Try.ntmps42
  go_wp2_with (go_at_call 63; refine (refcmp_any _ _ _ _ _).mono ?_; rintro e w1 ⟨rfl, hb⟩)
  go_ret
  exact ⟨rfl, (((Below.refl _ _).alloc (Nat.le_refl _) _).alloc (by simp) _).trans (hb.mono (by simp; omega))⟩

/-- Has a range an address? -/
def hasR (r : S26) (a : S24) : Bool := decide (cmpA r.f0 a ≤ 0) && decide (cmpA a r.f1 ≤ 0)
theorem below2 {w w1 : World} {o1 o2 : Obj} (h1 : Below ((w.alloc o1).alloc o2).heap.size ((w.alloc o1).alloc o2) w1) : Below w.heap.size w w1 :=
  (((Below.refl _ _).alloc (Nat.le_refl _) _).alloc (by simp) _).trans (h1.mono (by simp; omega))

/-- A block more, then a call. -/
theorem later_alloc {W wr w1 : World} {o : Obj} (h : Below W.heap.size W wr) (h1 : Below (wr.alloc o).heap.size (wr.alloc o) w1) : Below W.heap.size W w1 :=
  (h.alloc h.size _).trans (h1.mono (by have := h.size; simp; omega))

set_option maxHeartbeats 1000000 in
theorem has_any (r0 r1 r2 r3 ah al : Int) (w : World) : Calls Try.prog 59 #[.agg #[.int .u64 r0, .int .u64 r1, .int .u64 r2, .int .u64 r3], .agg #[.int .u64 ah, .int .u64 al]] w fun e w' =>
    e = .returned (.bool (hasR ⟨⟨r0, r1⟩, ⟨r2, r3⟩⟩ ⟨ah, al⟩)) ∧ Below w.heap.size w w' := by
  by_cases h : cmpA ⟨r0, r1⟩ ⟨ah, al⟩ ≤ 0
  · have H := Aside0.mk (show hasR ⟨⟨r0, r1⟩, ⟨r2, r3⟩⟩ ⟨ah, al⟩ = decide (cmpA ⟨ah, al⟩ ⟨r2, r3⟩ ≤ 0) by unfold hasR; simp [h])
    have hd : decide (cmpA ⟨r0, r1⟩ ⟨ah, al⟩ ≤ 0) = true := by simpa using h
    clear h
    go_enter Try.func59, Try.ntmps59
    go_wp2_with fail
    refine (cmpA_any _ _ _ _ _).mono ?_
    rintro e w1 ⟨rfl, hb⟩
    obtain ⟨hc, hf⟩ := bcell hb
    go_wp2_with fail
    refine (cmpA_any _ _ _ _ _).mono ?_
    rintro e w2 ⟨rfl, hb2⟩
    go_wp2
    go_ret
    exact ⟨by rw [H.out]; rfl, below_then (below2 hb) (below2 hb).size hb2⟩
  · have H := Aside0.mk (show hasR ⟨⟨r0, r1⟩, ⟨r2, r3⟩⟩ ⟨ah, al⟩ = false by unfold hasR; simp [h])
    have hd : decide (cmpA ⟨r0, r1⟩ ⟨ah, al⟩ ≤ 0) = false := by simpa using h
    clear h
    go_enter Try.func59, Try.ntmps59
    go_wp2_with fail
    refine (cmpA_any _ _ _ _ _).mono ?_
    rintro e w1 ⟨rfl, hb⟩
    go_wp2
    go_ret
    exact ⟨by rw [H.out]; rfl, below2 hb⟩

set_option maxHeartbeats 1000000 in
theorem refhas_any (r0 r1 r2 r3 ah al : Int) (w : World) : Calls Try.prog 39 #[.agg #[.int .u64 r0, .int .u64 r1, .int .u64 r2, .int .u64 r3], .agg #[.int .u64 ah, .int .u64 al]] w fun e w' =>
    e = .returned (.bool (hasR ⟨⟨r0, r1⟩, ⟨r2, r3⟩⟩ ⟨ah, al⟩)) ∧ Below w.heap.size w w' := by
  by_cases h : cmpA ⟨r0, r1⟩ ⟨ah, al⟩ ≤ 0
  · have H := Aside0.mk (show hasR ⟨⟨r0, r1⟩, ⟨r2, r3⟩⟩ ⟨ah, al⟩ = decide (cmpA ⟨ah, al⟩ ⟨r2, r3⟩ ≤ 0) by unfold hasR; simp [h])
    have hd : decide (cmpA ⟨r0, r1⟩ ⟨ah, al⟩ ≤ 0) = true := by simpa using h
    clear h
    go_enter Try.func39, Try.ntmps39
    go_wp2_with fail
    refine (atmost_any _ _ _ _ _).mono ?_
    rintro e w1 ⟨rfl, hb⟩
    obtain ⟨hc, hf⟩ := bcell hb
    go_wp2_with fail
    refine (atmost_any _ _ _ _ _).mono ?_
    rintro e w2 ⟨rfl, hb2⟩
    go_wp2
    go_ret
    exact ⟨by rw [H.out]; rfl, below_then (below2 hb) (below2 hb).size hb2⟩
  · have H := Aside0.mk (show hasR ⟨⟨r0, r1⟩, ⟨r2, r3⟩⟩ ⟨ah, al⟩ = false by unfold hasR; simp [h])
    have hd : decide (cmpA ⟨r0, r1⟩ ⟨ah, al⟩ ≤ 0) = false := by simpa using h
    clear h
    go_enter Try.func39, Try.ntmps39
    go_wp2_with fail
    refine (atmost_any _ _ _ _ _).mono ?_
    rintro e w1 ⟨rfl, hb⟩
    go_wp2
    go_ret
    exact ⟨by rw [H.out]; rfl, below2 hb⟩
end Go.Proofs.Ytcgcognejjpcmaa
