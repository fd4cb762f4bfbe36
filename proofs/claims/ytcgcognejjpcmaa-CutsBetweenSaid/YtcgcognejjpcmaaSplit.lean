/- A box, split: the program's Split. -/
import Derived.Test.YtcgcognejjpcmaaPlain
import Derived.Test.YtcgcognejjpcmaaMid2
import Derived.Test.YtcgcognejjpcmaaNext
import Derived.Great.BuildSlice
namespace Go.Proofs.Ytcgcognejjpcmaa
open Go.RowKit Go.Proofs.YtcgcognejjpcmaaW.PrintWords
set_option linter.unusedVariables false
set_option linter.unusedSimpArgs false
attribute [local go_sem] Later.cell_eq

theorem bc_from (b : S29) {k : Nat} (hk : k < 6) : ((bc b).extract (k * 4) (k * 4 + 2)).toList = [.int .u64 (rg b k).f0.f0, .int .u64 (rg b k).f0.f1] := by
  match k, hk with
  | 0, _ => rfl
  | 1, _ => rfl
  | 2, _ => rfl
  | 3, _ => rfl
  | 4, _ => rfl
  | 5, _ => rfl
theorem bc_to (b : S29) {k : Nat} (hk : k < 6) : ((bc b).extract (k * 4 + 2) (k * 4 + 2 + 2)).toList = [.int .u64 (rg b k).f1.f0, .int .u64 (rg b k).f1.f1] := by
  match k, hk with
  | 0, _ => rfl
  | 1, _ => rfl
  | 2, _ => rfl
  | 3, _ => rfl
  | 4, _ => rfl
  | 5, _ => rfl
/-- The lower half of a box, and the upper one. -/
def loB (b : S29) (k : Nat) (a : S24) : S29 := bx fun j => if j = k then ⟨(rg b k).f0, a⟩ else rg b j
def hiB (b : S29) (k : Nat) (a : S24) : S29 := bx fun j => if j = k then ⟨nextA a, (rg b k).f1⟩ else rg b j
theorem put_to (b : S29) {k : Nat} (hk : k < 6) (a : S24) : putC (bc b) (k * 4 + 2) [.int .u64 a.f0, .int .u64 a.f1] = bc (bx fun j => if j = k then ⟨(rg b k).f0, a⟩ else rg b j) := by
  match k, hk with
  | 0, _ => rfl
  | 1, _ => rfl
  | 2, _ => rfl
  | 3, _ => rfl
  | 4, _ => rfl
  | 5, _ => rfl
theorem put_from (b : S29) {k : Nat} (hk : k < 6) (a : S24) : putC (bc b) (k * 4) [.int .u64 a.f0, .int .u64 a.f1] = bc (bx fun j => if j = k then ⟨a, (rg b k).f1⟩ else rg b j) := by
  match k, hk with
  | 0, _ => rfl
  | 1, _ => rfl
  | 2, _ => rfl
  | 3, _ => rfl
  | 4, _ => rfl
  | 5, _ => rfl
/-- May a box be split there? -/
def splitOk (b : S29) (f : Int) (a : S24) : Bool := decide (0 ≤ f) && decide (f < 6) && !decide (cmpA a (rg b f.toNat).f0 < 0) && decide (cmpA a (rg b f.toNat).f1 < 0)
def splitB (b : S29) (f : Int) (a : S24) : S29 × S29 × Bool := if splitOk b f a = true then (loB b f.toNat a, hiB b f.toNat a, true) else (z29, z29, false)
theorem split_no {b : S29} {f : Int} {a : S24} (h : splitOk b f a = false) : splitB b f a = (z29, z29, false) := by unfold splitB; rw [h]; rfl
theorem split_yes {b : S29} {k : Nat} {a : S24} (h : splitOk b k a = true) : splitB b k a = (loB b k a, hiB b k a, true) := by unfold splitB; rw [if_pos h]; rfl

/-- No box: its cells. -/
theorem z29_cells : bc z29 = #[.int .u64 0, .int .u64 0, .int .u64 0, .int .u64 0, .int .u64 0, .int .u64 0, .int .u64 0, .int .u64 0, .int .u64 0, .int .u64 0, .int .u64 0, .int .u64 0, .int .u64 0, .int .u64 0, .int .u64 0, .int .u64 0, .int .u64 0, .int .u64 0, .int .u64 0, .int .u64 0, .int .u64 0, .int .u64 0, .int .u64 0, .int .u64 0] := rfl
/-- Six blocks, four of them one behind the other: each is another. -/
theorem hne6 {n g h : Nat} (hg : n + 3 < g) (hh : n + 3 < h) (hgh : g ≠ h) {o0 o1 o2 o3 o4 o5 : Obj} (i x : Nat) (hx : ([n, n + 1, n + 1 + 1, n + 1 + 1 + 1, g, h] : List Nat)[i]? = some x) :
    ∀ (j : Nat), j ≠ i → ∀ (g' : Nat) (o' : Obj), [(n, o0), (n + 1, o1), (n + 1 + 1, o2), (n + 1 + 1 + 1, o3), (g, o4), (h, o5)][j]? = some (g', o') → g' ≠ x := by
  intro j hj g' o' hq
  rcases j with _ | _ | _ | _ | _ | _ | j <;> rcases i with _ | _ | _ | _ | _ | _ | i <;> simp at hx hq hj <;> omega
/-- Four blocks, one behind the other: each is another. -/
theorem hne4 {o0 o1 o2 o3 : Obj} (n i : Nat) (hi : i < 4) : ∀ (j : Nat), j ≠ i → ∀ (g' : Nat) (o' : Obj), [(n, o0), (n + 1, o1), (n + 1 + 1, o2), (n + 1 + 1 + 1, o3)][j]? = some (g', o') → g' ≠ n + i := by
  intro j hj g' o' h
  match j, h with
  | 0, h => injection h with h; injection h with h _; omega
  | 1, h => injection h with h; injection h with h _; omega
  | 2, h => injection h with h; injection h with h _; omega
  | 3, h => injection h with h; injection h with h _; omega
  | n + 4, h => cases h

set_option maxRecDepth 100000 in
set_option maxHeartbeats 4000000 in
theorem split_any (b : S29) (f : Int) (a : S24) (ha : FitA a) (w : World) : Calls Try.prog 28 #[.agg (bc b), .int .i64 f, .agg #[.int .u64 a.f0, .int .u64 a.f1]] w fun e w' =>
    e = .returned (.tuple #[.agg (bc (splitB b f a).1), .agg (bc (splitB b f a).2.1), .bool (splitB b f a).2.2]) ∧ Below w.heap.size w w' := by
  have HA := Aside0.mk ha
  clear ha
  go_enter Try.func28, Try.ntmps28
  go_upto_region 1 with fail
  have S := Aside0.mk (((((St.nil w).alloc (.cells (bc b) 29)).alloc (.cells #[.int .u64 a.f0, .int .u64 a.f1] 24)).alloc (.cells (bc z29) 29)).alloc (.cells (bc z29) 29))
  simp only [World.size_alloc, List.nil_append, List.cons_append, z29_cells] at S
  generalize World.alloc _ _ = W0 at *
  by_cases h0 : f < 0
  · refine wp_region_later (by kernel_rfl) (by kernel_rfl) ?_
    repeat (first
      | go_big_quiet_skip
      | go_big_quiet_step (fail)
      | fail)
    refine wpQuiet_nil ?_
    intro w1 hw1
    replace S := Aside0.mk (S.out.call (later_below hw1))
    clear hw1
    go_wp2_with (first
      | (refine gate_ (.store 29 (.tmp 6) (.tmp 37)) rfl ?_; refine wpList_store_all rfl 29 _ _ rfl _ (bc z29) _ _ rfl rfl (S.out.get 2 rfl) rfl (bc_info z29) (bc_one z29) ?_; intro w6 hb6 hg6 hz6; replace S := Aside0.mk (S.out.set_ 2 hg6 hb6 (by omega) (hne4 _ 2 (by decide))); clear hb6 hg6 hz6)
      | (refine gate_ (.store 29 (.tmp 7) (.tmp 38)) rfl ?_; refine wpList_store_all rfl 29 _ _ rfl _ (bc z29) _ _ rfl rfl (S.out.get 3 rfl) rfl (bc_info z29) (bc_one z29) ?_; intro w6 hb6 hg6 hz6; replace S := Aside0.mk (S.out.set_ 3 hg6 hb6 (by omega) (hne4 _ 3 (by decide))); clear hb6 hg6 hz6)
      | fail)
    refine ends_cct (v := .bool false) rfl rfl rfl rfl (S.out.get 2 rfl) (S.out.get 3 rfl) Try.underlying29 rfl (bc_info z29) Try.underlying29 rfl (bc_info z29) rfl ?_
    exact ⟨by rw [split_no (show splitOk b f a = false by unfold splitOk; simp; omega)], S.out.below⟩
  · by_cases h6 : 6 ≤ f
    · refine wp_region_later (by kernel_rfl) (by kernel_rfl) ?_
      repeat (first
        | go_big_quiet_skip
        | go_big_quiet_step (fail)
        | fail)
      refine wpQuiet_nil ?_
      intro w1 hw1
      replace S := Aside0.mk (S.out.call (later_below hw1))
      clear hw1
      go_wp2_with (first
        | (refine gate_ (.store 29 (.tmp 6) (.tmp 37)) rfl ?_; refine wpList_store_all rfl 29 _ _ rfl _ (bc z29) _ _ rfl rfl (S.out.get 2 rfl) rfl (bc_info z29) (bc_one z29) ?_; intro w6 hb6 hg6 hz6; replace S := Aside0.mk (S.out.set_ 2 hg6 hb6 (by omega) (hne4 _ 2 (by decide))); clear hb6 hg6 hz6)
        | (refine gate_ (.store 29 (.tmp 7) (.tmp 38)) rfl ?_; refine wpList_store_all rfl 29 _ _ rfl _ (bc z29) _ _ rfl rfl (S.out.get 3 rfl) rfl (bc_info z29) (bc_one z29) ?_; intro w6 hb6 hg6 hz6; replace S := Aside0.mk (S.out.set_ 3 hg6 hb6 (by omega) (hne4 _ 3 (by decide))); clear hb6 hg6 hz6)
        | fail)
      refine ends_cct (v := .bool false) rfl rfl rfl rfl (S.out.get 2 rfl) (S.out.get 3 rfl) Try.underlying29 rfl (bc_info z29) Try.underlying29 rfl (bc_info z29) rfl ?_
      exact ⟨by rw [split_no (show splitOk b f a = false by unfold splitOk; simp; omega)], S.out.below⟩
    · obtain ⟨k, rfl⟩ : ∃ k : Nat, f = k := ⟨f.toNat, by omega⟩
      have hk : k < 6 := by omega
      have hd0 : decide ((k : Int) < 0) = false := decide_eq_false h0
      have hd6 : decide ((6 : Int) ≤ k) = false := decide_eq_false h6
      have C1 := Aside0.mk (fun W => cmpA_any a.f0 a.f1 (rg b k).f0.f0 (rg b k).f0.f1 W)
      have C2 := Aside0.mk (fun W => cmpA_any a.f0 a.f1 (rg b k).f1.f0 (rg b k).f1.f1 W)
      cases h1 : decide (cmpA ⟨a.f0, a.f1⟩ ⟨(rg b k).f0.f0, (rg b k).f0.f1⟩ < 0) with
      | true =>
        refine wp_region_later (by kernel_rfl) (by kernel_rfl) ?_
        repeat (first
          | go_big_quiet_skip
          | (refine quiet_load_row 24 (.tmp 5) rfl rfl _ #[.int .u64 a.f0, .int .u64 a.f1] 24 (0, 0) _ rfl (later_blk (S.out.get 1 rfl)) Try.underlying24 rfl (by kernel_rfl) ?_; go_frame)
          | (refine quiet_load_blk 24 (.tmp 22) rfl rfl _ (k * 4) 2 [.int .u64 (rg b k).f0.f0, .int .u64 (rg b k).f0.f1] (bc b) 29 (0, 0) _ rfl (later_blk (S.out.get 0 rfl)) (bc_from b hk) Try.underlying24 rfl (by kernel_rfl) ?_; go_frame)
          | (refine quiet_load_blk 24 (.tmp 32) rfl rfl _ (k * 4 + 2) 2 [.int .u64 (rg b k).f1.f0, .int .u64 (rg b k).f1.f1] (bc b) 29 (0, 0) _ rfl (later_blk (S.out.get 0 rfl)) (bc_to b hk) Try.underlying24 rfl (by kernel_rfl) ?_; go_frame)
          | go_big_quiet_step ((go_at_call 46; with_reducible exact later_of (C1.out _)))
          | fail)
        refine wpQuiet_nil ?_
        intro w1 hw1
        replace S := Aside0.mk (S.out.call (later_below hw1))
        clear hw1
        go_wp2_with (first
          | (refine gate_ (.store 29 (.tmp 6) (.tmp 37)) rfl ?_; refine wpList_store_all rfl 29 _ _ rfl _ (bc z29) _ _ rfl rfl (S.out.get 2 rfl) rfl (bc_info z29) (bc_one z29) ?_; intro w6 hb6 hg6 hz6; replace S := Aside0.mk (S.out.set_ 2 hg6 hb6 (by omega) (hne4 _ 2 (by decide))); clear hb6 hg6 hz6)
          | (refine gate_ (.store 29 (.tmp 7) (.tmp 38)) rfl ?_; refine wpList_store_all rfl 29 _ _ rfl _ (bc z29) _ _ rfl rfl (S.out.get 3 rfl) rfl (bc_info z29) (bc_one z29) ?_; intro w6 hb6 hg6 hz6; replace S := Aside0.mk (S.out.set_ 3 hg6 hb6 (by omega) (hne4 _ 3 (by decide))); clear hb6 hg6 hz6)
          | fail)
        refine ends_cct (v := .bool false) rfl rfl rfl rfl (S.out.get 2 rfl) (S.out.get 3 rfl) Try.underlying29 rfl (bc_info z29) Try.underlying29 rfl (bc_info z29) rfl ?_
        exact ⟨by rw [split_no (show splitOk b k a = false by unfold splitOk; rw [show decide (cmpA a (rg b (k : Int).toNat).f0 < 0) = true from h1]; simp)], S.out.below⟩
      | false =>
        cases h2 : decide (0 ≤ cmpA ⟨a.f0, a.f1⟩ ⟨(rg b k).f1.f0, (rg b k).f1.f1⟩) with
        | true =>
          refine wp_region_later (by kernel_rfl) (by kernel_rfl) ?_
          repeat (first
            | go_big_quiet_skip
            | (refine quiet_load_row 24 (.tmp 5) rfl rfl _ #[.int .u64 a.f0, .int .u64 a.f1] 24 (0, 0) _ rfl (later_blk (S.out.get 1 rfl)) Try.underlying24 rfl (by kernel_rfl) ?_; go_frame)
            | (refine quiet_load_blk 24 (.tmp 22) rfl rfl _ (k * 4) 2 [.int .u64 (rg b k).f0.f0, .int .u64 (rg b k).f0.f1] (bc b) 29 (0, 0) _ rfl (later_blk (S.out.get 0 rfl)) (bc_from b hk) Try.underlying24 rfl (by kernel_rfl) ?_; go_frame)
            | (refine quiet_load_blk 24 (.tmp 32) rfl rfl _ (k * 4 + 2) 2 [.int .u64 (rg b k).f1.f0, .int .u64 (rg b k).f1.f1] (bc b) 29 (0, 0) _ rfl (later_blk (S.out.get 0 rfl)) (bc_to b hk) Try.underlying24 rfl (by kernel_rfl) ?_; go_frame)
            | go_big_quiet_step ((first | (go_at_call 46; with_reducible exact later_of (C1.out _)) | (go_at_call 46; with_reducible exact later_of (C2.out _))))
            | fail)
          refine wpQuiet_nil ?_
          intro w1 hw1
          replace S := Aside0.mk (S.out.call (later_below hw1))
          clear hw1
          go_wp2_with (first
            | (refine gate_ (.store 29 (.tmp 6) (.tmp 37)) rfl ?_; refine wpList_store_all rfl 29 _ _ rfl _ (bc z29) _ _ rfl rfl (S.out.get 2 rfl) rfl (bc_info z29) (bc_one z29) ?_; intro w6 hb6 hg6 hz6; replace S := Aside0.mk (S.out.set_ 2 hg6 hb6 (by omega) (hne4 _ 2 (by decide))); clear hb6 hg6 hz6)
            | (refine gate_ (.store 29 (.tmp 7) (.tmp 38)) rfl ?_; refine wpList_store_all rfl 29 _ _ rfl _ (bc z29) _ _ rfl rfl (S.out.get 3 rfl) rfl (bc_info z29) (bc_one z29) ?_; intro w6 hb6 hg6 hz6; replace S := Aside0.mk (S.out.set_ 3 hg6 hb6 (by omega) (hne4 _ 3 (by decide))); clear hb6 hg6 hz6)
            | fail)
          refine ends_cct (v := .bool false) rfl rfl rfl rfl (S.out.get 2 rfl) (S.out.get 3 rfl) Try.underlying29 rfl (bc_info z29) Try.underlying29 rfl (bc_info z29) rfl ?_
          exact ⟨by rw [split_no (show splitOk b k a = false by unfold splitOk; rw [show decide (cmpA a (rg b (k : Int).toNat).f1 < 0) = false from by have := of_decide_eq_true h2; exact decide_eq_false (by show ¬ cmpA ⟨a.f0, a.f1⟩ ⟨(rg b k).f1.f0, (rg b k).f1.f1⟩ < 0; omega)]; simp)], S.out.below⟩
        | false =>
          have HO := Aside0.mk (show splitOk b k a = true by
            unfold splitOk
            rw [show decide (cmpA a (rg b (k : Int).toNat).f0 < 0) = false from h1, show decide (cmpA a (rg b (k : Int).toNat).f1 < 0) = true from by have := of_decide_eq_false h2; exact decide_eq_true (by show cmpA ⟨a.f0, a.f1⟩ ⟨(rg b k).f1.f0, (rg b k).f1.f1⟩ < 0; omega)]
            simp
            omega)
          refine wp_region_later (by kernel_rfl) (by kernel_rfl) ?_
          repeat (first
            | go_big_quiet_skip
            | (refine quiet_load_row 24 (.tmp 5) rfl rfl _ #[.int .u64 a.f0, .int .u64 a.f1] 24 (0, 0) _ rfl (later_blk (S.out.get 1 rfl)) Try.underlying24 rfl (by kernel_rfl) ?_; go_frame)
            | (refine quiet_load_blk 24 (.tmp 22) rfl rfl _ (k * 4) 2 [.int .u64 (rg b k).f0.f0, .int .u64 (rg b k).f0.f1] (bc b) 29 (0, 0) _ rfl (later_blk (S.out.get 0 rfl)) (bc_from b hk) Try.underlying24 rfl (by kernel_rfl) ?_; go_frame)
            | (refine quiet_load_blk 24 (.tmp 32) rfl rfl _ (k * 4 + 2) 2 [.int .u64 (rg b k).f1.f0, .int .u64 (rg b k).f1.f1] (bc b) 29 (0, 0) _ rfl (later_blk (S.out.get 0 rfl)) (bc_to b hk) Try.underlying24 rfl (by kernel_rfl) ?_; go_frame)
            | go_big_quiet_step ((first | (go_at_call 46; with_reducible exact later_of (C1.out _)) | (go_at_call 46; with_reducible exact later_of (C2.out _))))
            | fail)
          refine wpQuiet_nil ?_
          intro w1 hw1
          replace S := Aside0.mk (S.out.call (later_below hw1))
          clear hw1
          go_upto_region 3 with fail
          clear C1 C2 h1 h2 hd0 hd6
          have hnw : w.heap.size + 3 < w1.heap.size := by have := blk_lt (S.out.get 3 rfl); omega
          refine Rg.made2 ⟨5, 3, 10, 29, bc z29, bc b, .tmp 40⟩ ⟨4, 2, 9, 29, bc z29, bc b, .tmp 39⟩ (by kernel_rfl) (by kernel_rfl) (by kernel_rfl)
            (Rg.mk_ok rfl ⟨rfl, rfl, rfl⟩ rfl ⟨rfl, rfl, rfl⟩ (by kernel_rfl) (by simp) (fun W => by kernel_rfl) rfl (bc_info b) (bc_one b))
            (Rg.mk_ok rfl ⟨rfl, rfl, rfl⟩ rfl ⟨rfl, rfl, rfl⟩ (by kernel_rfl) (by simp) (fun W => by kernel_rfl) rfl (bc_info b) (bc_one b)) (by simp) (by simp) ?_
          apply Exists.intro
          refine ⟨?_, ?_, ?_, ?_⟩
          · intro w' hw'
            have S2 := Aside0.mk (S.out.call hw')
            clear hw'
            simp only [Rg.cutOut, List.eraseIdx_cons_succ, List.eraseIdx_cons_zero]
            repeat (first
              | go_big_quiet_skip
              | (refine quiet_load_row 29 (.tmp 3) rfl rfl _ (bc b) 29 (0, 0) _ rfl (later_blk (S2.out.get 0 rfl)) Try.underlying29 rfl (bc_info b) ?_; go_frame)
              | go_big_quiet_step (fail)
              | fail)
            exact wpQuiet_nil rfl
          · rfl
          · rfl
          · intro p10 p9 w2 hb2 hg hh hgh hbg hbh
            replace S := Aside0.mk (((S.out.call hb2).add hbh).add hbg)
            simp only [List.cons_append, List.nil_append] at S
            have HG := Aside0.mk (show w.heap.size + 3 < p9 ∧ w.heap.size + 3 < p10 ∧ p9 ≠ p10 from ⟨by omega, by omega, hgh.symm⟩)
            clear hb2 hg hh hgh hbg hbh hnw
            simp only [Act.put]
            go_upto_region 6 with (first
              | (refine gate_ (.load 24 (.tmp 5)) rfl ?_; refine wpList_load_row rfl 24 _ rfl _ rfl 24 #[.int .u64 a.f0, .int .u64 a.f1] (0, 0) _ (S.out.get 1 rfl) Try.underlying24 rfl (by kernel_rfl) ?_)
              | (refine gate_ (.store 24 (.tmp 45) (.tmp 42)) rfl ?_; refine wpList_store_blk rfl 24 _ _ rfl p9 (k * 4 + 2) #[.int .u64 a.f0, .int .u64 a.f1] _ 29 rfl rfl (S.out.get 4 rfl) (by rw [bc_size]; simp; omega) (by kernel_rfl) (by simp [Value.oneCell']) ?_; intro w3 hb3 hg3 hz3; replace S := Aside0.mk (S.out.set_ 4 hg3 (hb3.trans (congrArg (fun c => some (Obj.cells c 29 (0, 0))) (put_to b hk a))) (by have := HG.out; omega) (hne6 HG.out.1 HG.out.2.1 HG.out.2.2 4 p9 rfl)); clear hb3 hg3 hz3)
              | (go_at_call 57; (with_reducible refine (next_any a HA.out _).mono ?_); rintro e w9 ⟨rfl, hb9⟩; replace S := Aside0.mk (S.out.call hb9); clear hb9)
              | (refine gate_ (.store 24 (.tmp 54) (.tmp 50)) rfl ?_; refine wpList_store_blk rfl 24 _ _ rfl p10 (k * 4) #[.int .u64 (nextA a).f0, .int .u64 (nextA a).f1] _ 29 rfl rfl (S.out.get 5 rfl) (by rw [bc_size]; simp; omega) (by kernel_rfl) (by simp [Value.oneCell']) ?_; intro w3 hb3 hg3 hz3; replace S := Aside0.mk (S.out.set_ 5 hg3 (hb3.trans (congrArg (fun c => some (Obj.cells c 29 (0, 0))) (put_from b hk (nextA a)))) (by have := HG.out; omega) (hne6 HG.out.1 HG.out.2.1 HG.out.2.2 5 p10 rfl)); clear hb3 hg3 hz3)
              | fail)
            simp only [List.set_cons_succ, List.set_cons_zero] at S
            refine Rg.put2 S.out ⟨2, 29, .tmp 6, .tmp 55, 2, w.heap.size + 1 + 1, 0, bc z29, bc (loB b k a), 29⟩ ⟨3, 29, .tmp 7, .tmp 56, 3, w.heap.size + 1 + 1 + 1, 0, bc z29, bc (hiB b k a), 29⟩ (by kernel_rfl) (by kernel_rfl) (by kernel_rfl) ⟨_, rfl, rfl, rfl, rfl⟩ ⟨_, rfl, rfl, rfl, rfl⟩ (by simp) rfl rfl (by simp) (Nat.le_trans (Nat.le_succ _) (Nat.le_succ _)) (Nat.le_trans (Nat.le_trans (Nat.le_succ _) (Nat.le_succ _)) (Nat.le_succ _)) (hne6 HG.out.1 HG.out.2.1 HG.out.2.2 2 _ rfl) (hne6 HG.out.1 HG.out.2.1 HG.out.2.2 3 _ rfl) (Nat.le_of_eq rfl) (bc_info _) (bc_one _) (Nat.le_of_eq rfl) (bc_info _) (bc_one _)
              [(w.heap.size, .cells (bc b) 29 (0, 0)), (w.heap.size + 1, .cells #[.int .u64 a.f0, .int .u64 a.f1] 24 (0, 0)), (p9, .cells (bc (loB b k a)) 29 (0, 0)), (p10, .cells (bc (hiB b k a)) 29 (0, 0))] (fun j g o h => match j, h with
                | 0, h => ⟨0, by simp, by simp, h⟩
                | 1, h => ⟨1, by simp, by simp, h⟩
                | 2, h => ⟨4, by simp, by simp, h⟩
                | 3, h => ⟨5, by simp, by simp, h⟩
                | j + 4, h => by cases h) ?_
            apply Exists.intro
            refine ⟨?_, ?_, ?_, ?_⟩
            · intro w' hS2
              have S2 := Aside0.mk hS2
              clear hS2
              simp only [Rg.cutOut, List.eraseIdx_cons_succ, List.eraseIdx_cons_zero]
              repeat (first
                | go_big_quiet_skip
                | (refine quiet_load_row 29 (.tmp 9) rfl rfl _ (bc (loB b k a)) 29 (0, 0) _ rfl (later_blk (S2.out.get 2 rfl)) Try.underlying29 rfl (bc_info _) ?_; go_frame)
                | (refine quiet_load_row 29 (.tmp 10) rfl rfl _ (bc (hiB b k a)) 29 (0, 0) _ rfl (later_blk (S2.out.get 3 rfl)) Try.underlying29 rfl (bc_info _) ?_; go_frame)
                | go_big_quiet_step (fail)
                | fail)
              exact wpQuiet_nil rfl
            · exact ⟨rfl, rfl⟩
            · exact ⟨rfl, rfl⟩
            · intro w5 hS5
              simp only [Rg.Pt.obj, putC_all (show (bc z29).size = (bc (loB b k a)).size from rfl), putC_all (show (bc z29).size = (bc (hiB b k a)).size from rfl), List.set_cons_succ, List.set_cons_zero] at hS5
              replace S := Aside0.mk hS5
              clear hS5
              go_wp2
              refine ends_cct (v := .bool true) rfl rfl rfl rfl (S.out.get 2 rfl) (S.out.get 3 rfl) Try.underlying29 rfl (bc_info _) Try.underlying29 rfl (bc_info _) rfl ?_
              exact ⟨by rw [split_yes HO.out], S.out.below⟩
end Go.Proofs.Ytcgcognejjpcmaa
