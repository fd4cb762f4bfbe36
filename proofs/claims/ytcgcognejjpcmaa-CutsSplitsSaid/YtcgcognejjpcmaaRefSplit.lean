/- A box, split: the document's Split. -/
import Derived.Test.YtcgcognejjpcmaaSplit
namespace Go.Proofs.Ytcgcognejjpcmaa
open Go.RowKit Go.Proofs.YtcgcognejjpcmaaW.PrintWords
set_option linter.unusedVariables false
set_option linter.unusedSimpArgs false
attribute [local go_sem] Later.cell_eq

set_option maxRecDepth 100000 in
set_option maxHeartbeats 4000000 in
theorem refsplit_any (b : S29) (f : Int) (a : S24) (ha : FitA a) (w : World) : Calls Try.prog 29 #[.agg (bc b), .int .i64 f, .agg #[.int .u64 a.f0, .int .u64 a.f1]] w fun e w' =>
    e = .returned (.tuple #[.agg (bc (splitB b f a).1), .agg (bc (splitB b f a).2.1), .bool (splitB b f a).2.2]) ∧ Below w.heap.size w w' := by
  have HA := Aside0.mk ha
  clear ha
  go_enter Try.func29, Try.ntmps29
  go_upto_region 1 with fail
  have S := Aside0.mk (((((St.nil w).alloc (.cells (bc b) 29)).alloc (.cells #[.int .u64 a.f0, .int .u64 a.f1] 24)).alloc (.cells (bc z29) 29)).alloc (.cells (bc z29) 29))
  simp only [World.size_alloc, List.nil_append, List.cons_append, z29_cells] at S
  generalize World.alloc _ _ = W0 at *
  by_cases h0 : f < 0
  · refine wp_region_later (by kernel_rfl) (by kernel_rfl) ?_
    repeat (first
      | go_big_quiet_skip
      | go_big_quiet_step (fail)
      | fail)
    refine wpQuiet_nil ?_
    intro w1 hw1
    replace S := Aside0.mk (S.out.call (later_below hw1))
    clear hw1
    go_wp2_with (first
      | (refine gate_ (.store 29 (.tmp 6) (.tmp 36)) rfl ?_; refine wpList_store_all rfl 29 _ _ rfl _ (bc z29) _ _ rfl rfl (S.out.get 2 rfl) rfl (bc_info z29) (bc_one z29) ?_; intro w6 hb6 hg6 hz6; replace S := Aside0.mk (S.out.set_ 2 hg6 hb6 (by omega) (hne4 _ 2 (by decide))); clear hb6 hg6 hz6)
      | (refine gate_ (.store 29 (.tmp 7) (.tmp 37)) rfl ?_; refine wpList_store_all rfl 29 _ _ rfl _ (bc z29) _ _ rfl rfl (S.out.get 3 rfl) rfl (bc_info z29) (bc_one z29) ?_; intro w6 hb6 hg6 hz6; replace S := Aside0.mk (S.out.set_ 3 hg6 hb6 (by omega) (hne4 _ 3 (by decide))); clear hb6 hg6 hz6)
      | fail)
    refine ends_cct (v := .bool false) rfl rfl rfl rfl (S.out.get 2 rfl) (S.out.get 3 rfl) Try.underlying29 rfl (bc_info z29) Try.underlying29 rfl (bc_info z29) rfl ?_
    exact ⟨by rw [split_no (show splitOk b f a = false by unfold splitOk; simp; omega)], S.out.below⟩
  · by_cases h6 : 6 ≤ f
    · refine wp_region_later (by kernel_rfl) (by kernel_rfl) ?_
      repeat (first
        | go_big_quiet_skip
        | go_big_quiet_step (fail)
        | fail)
      refine wpQuiet_nil ?_
      intro w1 hw1
      replace S := Aside0.mk (S.out.call (later_below hw1))
      clear hw1
      go_wp2_with (first
        | (refine gate_ (.store 29 (.tmp 6) (.tmp 36)) rfl ?_; refine wpList_store_all rfl 29 _ _ rfl _ (bc z29) _ _ rfl rfl (S.out.get 2 rfl) rfl (bc_info z29) (bc_one z29) ?_; intro w6 hb6 hg6 hz6; replace S := Aside0.mk (S.out.set_ 2 hg6 hb6 (by omega) (hne4 _ 2 (by decide))); clear hb6 hg6 hz6)
        | (refine gate_ (.store 29 (.tmp 7) (.tmp 37)) rfl ?_; refine wpList_store_all rfl 29 _ _ rfl _ (bc z29) _ _ rfl rfl (S.out.get 3 rfl) rfl (bc_info z29) (bc_one z29) ?_; intro w6 hb6 hg6 hz6; replace S := Aside0.mk (S.out.set_ 3 hg6 hb6 (by omega) (hne4 _ 3 (by decide))); clear hb6 hg6 hz6)
        | fail)
      refine ends_cct (v := .bool false) rfl rfl rfl rfl (S.out.get 2 rfl) (S.out.get 3 rfl) Try.underlying29 rfl (bc_info z29) Try.underlying29 rfl (bc_info z29) rfl ?_
      exact ⟨by rw [split_no (show splitOk b f a = false by unfold splitOk; simp; omega)], S.out.below⟩
    · obtain ⟨k, rfl⟩ : ∃ k : Nat, f = k := ⟨f.toNat, by omega⟩
      have hk : k < 6 := by omega
      have hd0 : decide ((k : Int) < 0) = false := decide_eq_false h0
      have hd6 : decide ((6 : Int) ≤ k) = false := decide_eq_false h6
      have C1 := Aside0.mk (fun W => less_any a.f0 a.f1 (rg b k).f0.f0 (rg b k).f0.f1 W)
      have C2 := Aside0.mk (fun W => less_any a.f0 a.f1 (rg b k).f1.f0 (rg b k).f1.f1 W)
      cases h1 : decide (cmpA ⟨a.f0, a.f1⟩ ⟨(rg b k).f0.f0, (rg b k).f0.f1⟩ < 0) with
      | true =>
        refine wp_region_later (by kernel_rfl) (by kernel_rfl) ?_
        repeat (first
          | go_big_quiet_skip
          | (refine quiet_load_row 24 (.tmp 5) rfl rfl _ #[.int .u64 a.f0, .int .u64 a.f1] 24 (0, 0) _ rfl (later_blk (S.out.get 1 rfl)) Try.underlying24 rfl (by kernel_rfl) ?_; go_frame)
          | (refine quiet_load_blk 24 (.tmp 22) rfl rfl _ (k * 4) 2 [.int .u64 (rg b k).f0.f0, .int .u64 (rg b k).f0.f1] (bc b) 29 (0, 0) _ rfl (later_blk (S.out.get 0 rfl)) (bc_from b hk) Try.underlying24 rfl (by kernel_rfl) ?_; go_frame)
          | (refine quiet_load_blk 24 (.tmp 31) rfl rfl _ (k * 4 + 2) 2 [.int .u64 (rg b k).f1.f0, .int .u64 (rg b k).f1.f1] (bc b) 29 (0, 0) _ rfl (later_blk (S.out.get 0 rfl)) (bc_to b hk) Try.underlying24 rfl (by kernel_rfl) ?_; go_frame)
          | go_big_quiet_step ((go_at_call 38; with_reducible exact later_of (C1.out _)))
          | fail)
        refine wpQuiet_nil ?_
        intro w1 hw1
        replace S := Aside0.mk (S.out.call (later_below hw1))
        clear hw1
        go_wp2_with (first
          | (refine gate_ (.store 29 (.tmp 6) (.tmp 36)) rfl ?_; refine wpList_store_all rfl 29 _ _ rfl _ (bc z29) _ _ rfl rfl (S.out.get 2 rfl) rfl (bc_info z29) (bc_one z29) ?_; intro w6 hb6 hg6 hz6; replace S := Aside0.mk (S.out.set_ 2 hg6 hb6 (by omega) (hne4 _ 2 (by decide))); clear hb6 hg6 hz6)
          | (refine gate_ (.store 29 (.tmp 7) (.tmp 37)) rfl ?_; refine wpList_store_all rfl 29 _ _ rfl _ (bc z29) _ _ rfl rfl (S.out.get 3 rfl) rfl (bc_info z29) (bc_one z29) ?_; intro w6 hb6 hg6 hz6; replace S := Aside0.mk (S.out.set_ 3 hg6 hb6 (by omega) (hne4 _ 3 (by decide))); clear hb6 hg6 hz6)
          | fail)
        refine ends_cct (v := .bool false) rfl rfl rfl rfl (S.out.get 2 rfl) (S.out.get 3 rfl) Try.underlying29 rfl (bc_info z29) Try.underlying29 rfl (bc_info z29) rfl ?_
        exact ⟨by rw [split_no (show splitOk b k a = false by unfold splitOk; rw [show decide (cmpA a (rg b (k : Int).toNat).f0 < 0) = true from h1]; simp)], S.out.below⟩
      | false =>
        cases h2 : decide (cmpA ⟨a.f0, a.f1⟩ ⟨(rg b k).f1.f0, (rg b k).f1.f1⟩ < 0) with
        | false =>
          refine wp_region_later (by kernel_rfl) (by kernel_rfl) ?_
          repeat (first
            | go_big_quiet_skip
            | (refine quiet_load_row 24 (.tmp 5) rfl rfl _ #[.int .u64 a.f0, .int .u64 a.f1] 24 (0, 0) _ rfl (later_blk (S.out.get 1 rfl)) Try.underlying24 rfl (by kernel_rfl) ?_; go_frame)
            | (refine quiet_load_blk 24 (.tmp 22) rfl rfl _ (k * 4) 2 [.int .u64 (rg b k).f0.f0, .int .u64 (rg b k).f0.f1] (bc b) 29 (0, 0) _ rfl (later_blk (S.out.get 0 rfl)) (bc_from b hk) Try.underlying24 rfl (by kernel_rfl) ?_; go_frame)
            | (refine quiet_load_blk 24 (.tmp 31) rfl rfl _ (k * 4 + 2) 2 [.int .u64 (rg b k).f1.f0, .int .u64 (rg b k).f1.f1] (bc b) 29 (0, 0) _ rfl (later_blk (S.out.get 0 rfl)) (bc_to b hk) Try.underlying24 rfl (by kernel_rfl) ?_; go_frame)
            | go_big_quiet_step ((first | (go_at_call 38; with_reducible exact later_of (C1.out _)) | (go_at_call 38; with_reducible exact later_of (C2.out _))))
            | fail)
          refine wpQuiet_nil ?_
          intro w1 hw1
          replace S := Aside0.mk (S.out.call (later_below hw1))
          clear hw1
          go_wp2_with (first
            | (refine gate_ (.store 29 (.tmp 6) (.tmp 36)) rfl ?_; refine wpList_store_all rfl 29 _ _ rfl _ (bc z29) _ _ rfl rfl (S.out.get 2 rfl) rfl (bc_info z29) (bc_one z29) ?_; intro w6 hb6 hg6 hz6; replace S := Aside0.mk (S.out.set_ 2 hg6 hb6 (by omega) (hne4 _ 2 (by decide))); clear hb6 hg6 hz6)
            | (refine gate_ (.store 29 (.tmp 7) (.tmp 37)) rfl ?_; refine wpList_store_all rfl 29 _ _ rfl _ (bc z29) _ _ rfl rfl (S.out.get 3 rfl) rfl (bc_info z29) (bc_one z29) ?_; intro w6 hb6 hg6 hz6; replace S := Aside0.mk (S.out.set_ 3 hg6 hb6 (by omega) (hne4 _ 3 (by decide))); clear hb6 hg6 hz6)
            | fail)
          refine ends_cct (v := .bool false) rfl rfl rfl rfl (S.out.get 2 rfl) (S.out.get 3 rfl) Try.underlying29 rfl (bc_info z29) Try.underlying29 rfl (bc_info z29) rfl ?_
          exact ⟨by rw [split_no (show splitOk b k a = false by unfold splitOk; rw [show decide (cmpA a (rg b (k : Int).toNat).f1 < 0) = false from h2]; simp)], S.out.below⟩
        | true =>
          have HO := Aside0.mk (show splitOk b k a = true by
            unfold splitOk
            rw [show decide (cmpA a (rg b (k : Int).toNat).f0 < 0) = false from h1, show decide (cmpA a (rg b (k : Int).toNat).f1 < 0) = true from h2]
            simp
            omega)
          refine wp_region_later (by kernel_rfl) (by kernel_rfl) ?_
          repeat (first
            | go_big_quiet_skip
            | (refine quiet_load_row 24 (.tmp 5) rfl rfl _ #[.int .u64 a.f0, .int .u64 a.f1] 24 (0, 0) _ rfl (later_blk (S.out.get 1 rfl)) Try.underlying24 rfl (by kernel_rfl) ?_; go_frame)
            | (refine quiet_load_blk 24 (.tmp 22) rfl rfl _ (k * 4) 2 [.int .u64 (rg b k).f0.f0, .int .u64 (rg b k).f0.f1] (bc b) 29 (0, 0) _ rfl (later_blk (S.out.get 0 rfl)) (bc_from b hk) Try.underlying24 rfl (by kernel_rfl) ?_; go_frame)
            | (refine quiet_load_blk 24 (.tmp 31) rfl rfl _ (k * 4 + 2) 2 [.int .u64 (rg b k).f1.f0, .int .u64 (rg b k).f1.f1] (bc b) 29 (0, 0) _ rfl (later_blk (S.out.get 0 rfl)) (bc_to b hk) Try.underlying24 rfl (by kernel_rfl) ?_; go_frame)
            | go_big_quiet_step ((first | (go_at_call 38; with_reducible exact later_of (C1.out _)) | (go_at_call 38; with_reducible exact later_of (C2.out _))))
            | fail)
          refine wpQuiet_nil ?_
          intro w1 hw1
          replace S := Aside0.mk (S.out.call (later_below hw1))
          clear hw1
          clear C1 C2 h1 h2 hd0 hd6
          have h9 : w.heap.size + 3 < w1.heap.size := blk_lt (S.out.get 3 rfl)
          go_upto_region 4 with (first
            | (refine gate_ (.load 29 (.tmp 3)) rfl ?_; refine wpList_load_row rfl 29 _ rfl _ rfl 29 (bc b) (0, 0) _ (S.out.get 0 rfl) Try.underlying29 rfl (bc_info b) ?_)
            | (refine gate_ (.store 29 (.tmp 9) (.tmp 38)) rfl ?_; refine wpList_store_all rfl 29 _ _ rfl _ (bc b) _ _ rfl rfl (heap_alloc_new _ _) rfl (bc_info b) (bc_one b) ?_; intro w3 hb3 hg3 hz3; replace S := Aside0.mk (S.out.made hg3 hb3); clear hb3 hg3 hz3)
            | fail)
          simp only [List.cons_append, List.nil_append] at S
          generalize w1.heap.size = p9 at *
          have h10 : p9 < w3.heap.size := blk_lt (S.out.get 4 rfl)
          go_upto_region 5 with (first
            | (refine gate_ (.load 29 (.tmp 3)) rfl ?_; refine wpList_load_row rfl 29 _ rfl _ rfl 29 (bc b) (0, 0) _ (S.out.get 0 rfl) Try.underlying29 rfl (bc_info b) ?_)
            | (refine gate_ (.store 29 (.tmp 10) (.tmp 39)) rfl ?_; refine wpList_store_all rfl 29 _ _ rfl _ (bc b) _ _ rfl rfl (heap_alloc_new _ _) rfl (bc_info b) (bc_one b) ?_; intro w4 hb3 hg3 hz3; replace S := Aside0.mk (S.out.made hg3 hb3); clear hb3 hg3 hz3)
            | fail)
          simp only [List.cons_append, List.nil_append] at S
          generalize w3.heap.size = p10 at *
          have HG := Aside0.mk (show w.heap.size + 3 < p9 ∧ w.heap.size + 3 < p10 ∧ p9 ≠ p10 from ⟨by omega, by omega, by omega⟩)
          clear h9 h10
          go_upto_region 7 with (first
            | (refine gate_ (.load 24 (.tmp 5)) rfl ?_; refine wpList_load_row rfl 24 _ rfl _ rfl 24 #[.int .u64 a.f0, .int .u64 a.f1] (0, 0) _ (S.out.get 1 rfl) Try.underlying24 rfl (by kernel_rfl) ?_)
            | (refine gate_ (.store 24 (.tmp 44) (.tmp 41)) rfl ?_; refine wpList_store_blk rfl 24 _ _ rfl p9 (k * 4 + 2) #[.int .u64 a.f0, .int .u64 a.f1] _ 29 rfl rfl (S.out.get 4 rfl) (by rw [bc_size]; simp; omega) (by kernel_rfl) (by simp [Value.oneCell']) ?_; intro w3 hb3 hg3 hz3; replace S := Aside0.mk (S.out.set_ 4 hg3 (hb3.trans (congrArg (fun c => some (Obj.cells c 29 (0, 0))) (put_to b hk a))) (by have := HG.out; omega) (hne6 HG.out.1 HG.out.2.1 HG.out.2.2 4 p9 rfl)); clear hb3 hg3 hz3)
            | (go_at_call 58; (with_reducible refine (refnext_any a HA.out _).mono ?_); rintro e w9 ⟨rfl, hb9⟩; replace S := Aside0.mk (S.out.call hb9); clear hb9)
            | (refine gate_ (.store 24 (.tmp 53) (.tmp 49)) rfl ?_; refine wpList_store_blk rfl 24 _ _ rfl p10 (k * 4) #[.int .u64 (nextA a).f0, .int .u64 (nextA a).f1] _ 29 rfl rfl (S.out.get 5 rfl) (by rw [bc_size]; simp; omega) (by kernel_rfl) (by simp [Value.oneCell']) ?_; intro w3 hb3 hg3 hz3; replace S := Aside0.mk (S.out.set_ 5 hg3 (hb3.trans (congrArg (fun c => some (Obj.cells c 29 (0, 0))) (put_from b hk (nextA a)))) (by have := HG.out; omega) (hne6 HG.out.1 HG.out.2.1 HG.out.2.2 5 p10 rfl)); clear hb3 hg3 hz3)
            | fail)
          simp only [List.set_cons_succ, List.set_cons_zero] at S
          refine Rg.put2 S.out ⟨2, 29, .tmp 6, .tmp 54, 2, w.heap.size + 1 + 1, 0, bc z29, bc (loB b k a), 29⟩ ⟨3, 29, .tmp 7, .tmp 55, 3, w.heap.size + 1 + 1 + 1, 0, bc z29, bc (hiB b k a), 29⟩ (by kernel_rfl) (by kernel_rfl) (by kernel_rfl) ⟨_, rfl, rfl, rfl, rfl⟩ ⟨_, rfl, rfl, rfl, rfl⟩ (by simp) rfl rfl (by simp) (Nat.le_trans (Nat.le_succ _) (Nat.le_succ _)) (Nat.le_trans (Nat.le_trans (Nat.le_succ _) (Nat.le_succ _)) (Nat.le_succ _)) (hne6 HG.out.1 HG.out.2.1 HG.out.2.2 2 _ rfl) (hne6 HG.out.1 HG.out.2.1 HG.out.2.2 3 _ rfl) (Nat.le_of_eq rfl) (bc_info _) (bc_one _) (Nat.le_of_eq rfl) (bc_info _) (bc_one _)
            [(w.heap.size, .cells (bc b) 29 (0, 0)), (w.heap.size + 1, .cells #[.int .u64 a.f0, .int .u64 a.f1] 24 (0, 0)), (p9, .cells (bc (loB b k a)) 29 (0, 0)), (p10, .cells (bc (hiB b k a)) 29 (0, 0))] (fun j g o h => match j, h with
              | 0, h => ⟨0, by simp, by simp, h⟩
              | 1, h => ⟨1, by simp, by simp, h⟩
              | 2, h => ⟨4, by simp, by simp, h⟩
              | 3, h => ⟨5, by simp, by simp, h⟩
              | j + 4, h => by cases h) ?_
          apply Exists.intro
          refine ⟨?_, ?_, ?_, ?_⟩
          · intro w' hS2
            have S2 := Aside0.mk hS2
            clear hS2
            simp only [Rg.cutOut, List.eraseIdx_cons_succ, List.eraseIdx_cons_zero]
            repeat (first
              | go_big_quiet_skip
              | (refine quiet_load_row 29 (.tmp 9) rfl rfl _ (bc (loB b k a)) 29 (0, 0) _ rfl (later_blk (S2.out.get 2 rfl)) Try.underlying29 rfl (bc_info _) ?_; go_frame)
              | (refine quiet_load_row 29 (.tmp 10) rfl rfl _ (bc (hiB b k a)) 29 (0, 0) _ rfl (later_blk (S2.out.get 3 rfl)) Try.underlying29 rfl (bc_info _) ?_; go_frame)
              | go_big_quiet_step (fail)
              | fail)
            exact wpQuiet_nil rfl
          · exact ⟨rfl, rfl⟩
          · exact ⟨rfl, rfl⟩
          · intro w5 hS5
            simp only [Rg.Pt.obj, putC_all (show (bc z29).size = (bc (loB b k a)).size from rfl), putC_all (show (bc z29).size = (bc (hiB b k a)).size from rfl), List.set_cons_succ, List.set_cons_zero] at hS5
            replace S := Aside0.mk hS5
            clear hS5
            go_wp2
            refine ends_cct (v := .bool true) rfl rfl rfl rfl (S.out.get 2 rfl) (S.out.get 3 rfl) Try.underlying29 rfl (bc_info _) Try.underlying29 rfl (bc_info _) rfl ?_
            exact ⟨by rw [split_yes HO.out], S.out.below⟩
end Go.Proofs.Ytcgcognejjpcmaa
