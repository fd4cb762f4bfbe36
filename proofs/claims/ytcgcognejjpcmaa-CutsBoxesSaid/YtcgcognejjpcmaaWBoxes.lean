/- The law CutsBoxes, walked: it answers true. -/
import Derived.Test.YtcgcognejjpcmaaPlain
import Derived.Maps.RangeWalk
namespace Go.Proofs.Ytcgcognejjpcmaa
open Go.RowKit Go.Proofs.YtcgcognejjpcmaaW.PrintWords
set_option linter.unusedVariables false
set_option linter.unusedSimpArgs false
attribute [local go_sem] Later.cell_eq

theorem wpList_eql26 {ops : Array Oper} {rest : List Oper} {o : Oper} {a : Act} {w : World} {Q : Exit → Act → World → Prop} (hw : Region.wanted o (yielded ops a.tmps) = true) (x y : Operand) (z : TypeId) (b c : S26) (hx : a.eval x = .agg #[.int .u64 b.f0.f0, .int .u64 b.f0.f1, .int .u64 b.f1.f0, .int .u64 b.f1.f1]) (hy : a.eval y = .agg #[.int .u64 c.f0.f0, .int .u64 c.f0.f1, .int .u64 c.f1.f0, .int .u64 c.f1.f1]) (ho : o.op = .binOp .eql 26 x y z)
    (h : wpList Try.prog ops Q rest (a.put o.dst (.bool (eqR b c))) w) : wpList Try.prog ops Q (o :: rest) a w := by
  unfold wpList
  rw [if_pos hw]
  refine .inl ?_
  unfold Oper.wp execOp
  have hg := run_eqGuard_agg (P := Try.prog) w .eql 26 x y #[.int .u64 b.f0.f0, .int .u64 b.f0.f1, .int .u64 b.f1.f0, .int .u64 b.f1.f1] #[.int .u64 c.f0.f0, .int .u64 c.f0.f1, .int .u64 c.f1.f0, .int .u64 c.f1.f1] (by kernel_rfl)
  have hr : (binOp .eql 26 (.agg #[.int .u64 b.f0.f0, .int .u64 b.f0.f1, .int .u64 b.f1.f0, .int .u64 b.f1.f1]) (.agg #[.int .u64 c.f0.f0, .int .u64 c.f0.f1, .int .u64 c.f1.f0, .int .u64 c.f1.f1])).run Try.prog w = .ok (.bool (eqR b c)) w := by
    rw [run_eql_struct, run_eq26 9997 b c w]; rfl
  simp only [ho, hx, hy, Sem.run_bind, hg, hr, Result.andThen_ok]
  exact h
theorem quiet_neq29 {ops : Array Oper} {C : World → Prop} {Q : Act → Prop} {a : Act} {o : Oper} {rest : List Oper} (hw : Region.wanted o (yielded ops a.tmps) = true) (x y : Operand) (z : TypeId) (ho : o.op = .binOp .neq 29 x y z) (b c : S29) (hx : a.eval x = .agg (bc b)) (hy : a.eval y = .agg (bc c))
    (h : wpQuiet Try.prog ops C Q rest (a.put o.dst (.bool (!eqB b c)))) : wpQuiet Try.prog ops C Q (o :: rest) a := by
  refine quiet_run _ hw (fun w => ?_) h
  have hg := run_eqGuard_agg (P := Try.prog) w .neq 29 x y (bc b) (bc c) (by kernel_rfl)
  unfold execOp
  simp only [ho, hx, hy, Sem.run_bind, hg, run_neq29, Result.andThen_ok, Sem.run_pure]
theorem eqR_self (x : S26) : eqR x x = true := (eqR_iff x x).2 rfl

set_option maxRecDepth 100000 in
set_option maxHeartbeats 8000000 in
theorem cutsBoxes_any (a b : S29) (p : S54) (w : World) : Calls Try.prog 8 #[.agg (bc a), .agg (bc b), .agg (pc p)] w fun e w' => e = .returned (.bool true) ∧ Below w.heap.size w w' := by
  obtain ⟨⟨x, ok⟩, hmo⟩ : ∃ mo, mo = meetB a b := ⟨_, rfl⟩
  obtain ⟨⟨r, may⟩, hro⟩ : ∃ mo, mo = meetO a.f0 b.f0 := ⟨_, rfl⟩
  obtain ⟨cv, hcv⟩ : ∃ v, v = coversB a b := ⟨_, rfl⟩
  obtain ⟨em, hem⟩ : ∃ v, v = emptyB a := ⟨_, rfl⟩
  obtain ⟨pa, hpa⟩ : ∃ v, v = hasP a p := ⟨_, rfl⟩
  have C1 := Aside0.mk (fun W => show Calls Try.prog 19 #[.agg (bc a), .agg (bc b)] W (fun e w' => e = .returned (.tuple #[.agg (bc x), .bool ok]) ∧ Below W.heap.size W w') by have := meetBox_any a b W; rw [← hmo] at this; exact this)
  have C2 := Aside0.mk (fun W => show Calls Try.prog 20 #[.agg (bc a), .agg (bc b)] W (fun e w' => e = .returned (.tuple #[.agg (bc x), .bool ok]) ∧ Below W.heap.size W w') by have := refmeetBox_any a b W; rw [← hmo] at this; exact this)
  have C3 := Aside0.mk (fun W => show Calls Try.prog 16 #[.agg (bc a), .agg (bc b)] W (fun e w' => e = .returned (.bool cv) ∧ Below W.heap.size W w') by rw [hcv]; exact covers_any a b W)
  have C4 := Aside0.mk (fun W => show Calls Try.prog 17 #[.agg (bc a), .agg (bc b)] W (fun e w' => e = .returned (.bool cv) ∧ Below W.heap.size W w') by rw [hcv, covers_same]; exact refcovers_any a b W)
  have C5 := Aside0.mk (fun W => show Calls Try.prog 21 #[.agg (bc a)] W (fun e w' => e = .returned (.bool em) ∧ Below W.heap.size W w') by rw [hem]; exact empty_any a W)
  have C6 := Aside0.mk (fun W => show Calls Try.prog 34 #[.agg (bc a)] W (fun e w' => e = .returned (.bool em) ∧ Below W.heap.size W w') by rw [hem]; exact refempty_any a W)
  have C7 := Aside0.mk (fun W => show Calls Try.prog 30 #[.agg (bc a), .agg (pc p)] W (fun e w' => e = .returned (.bool pa) ∧ Below W.heap.size W w') by rw [hpa]; exact hasPoint_any a p W)
  have C8 := Aside0.mk (fun W => show Calls Try.prog 31 #[.agg (bc a), .agg (pc p)] W (fun e w' => e = .returned (.bool pa) ∧ Below W.heap.size W w') by rw [hpa]; exact refhasPoint_any a p W)
  have C9 := Aside0.mk (fun W => show Calls Try.prog 36 #[.agg #[.int .u64 a.f0.f0.f0, .int .u64 a.f0.f0.f1, .int .u64 a.f0.f1.f0, .int .u64 a.f0.f1.f1], .agg #[.int .u64 b.f0.f0.f0, .int .u64 b.f0.f0.f1, .int .u64 b.f0.f1.f0, .int .u64 b.f0.f1.f1]] W (fun e w' => e = .returned (.tuple #[.agg #[.int .u64 r.f0.f0, .int .u64 r.f0.f1, .int .u64 r.f1.f0, .int .u64 r.f1.f1], .bool may]) ∧ Below W.heap.size W w') by have := meet_any a.f0 b.f0 W; rw [← hro] at this; exact this)
  have CA := Aside0.mk (fun W => show Calls Try.prog 37 #[.agg #[.int .u64 a.f0.f0.f0, .int .u64 a.f0.f0.f1, .int .u64 a.f0.f1.f0, .int .u64 a.f0.f1.f1], .agg #[.int .u64 b.f0.f0.f0, .int .u64 b.f0.f0.f1, .int .u64 b.f0.f1.f0, .int .u64 b.f0.f1.f1]] W (fun e w' => e = .returned (.tuple #[.agg #[.int .u64 r.f0.f0, .int .u64 r.f0.f1, .int .u64 r.f1.f0, .int .u64 r.f1.f1], .bool may]) ∧ Below W.heap.size W w') by have := refmeet_any a.f0 b.f0 W; rw [← hro] at this; exact this)
  have HE := Aside0.mk (eqB_self x)
  have HF := Aside0.mk (eqB_self fullB)
  have HR := Aside0.mk (eqR_self r)
  clear hmo hro hcv hem hpa
  go_enter Try.func8, Try.ntmps8
  go_upto_region 1 with fail
  have S := Aside0.mk ((((St.nil w).alloc (.cells (bc a) 29)).alloc (.cells (bc b) 29)).alloc (.cells (pc p) 54))
  simp only [World.size_alloc, List.nil_append, List.cons_append] at S
  generalize World.alloc _ _ = W0 at *
  go_upto_region 3 with (first
    | (refine gate_ (.load 29 (.tmp 3)) rfl ?_; refine gate_guard rfl ?_; refine wpList_load_row rfl 29 _ rfl _ rfl 29 (bc a) (0, 0) _ (S.out.get 0 rfl) Try.underlying29 rfl (bc_info a) ?_)
    | (refine gate_ (.load 29 (.tmp 4)) rfl ?_; refine gate_guard rfl ?_; refine wpList_load_row rfl 29 _ rfl _ rfl 29 (bc b) (0, 0) _ (S.out.get 1 rfl) Try.underlying29 rfl (bc_info b) ?_)
    | (go_at_call 19; (with_reducible refine (C1.out _).mono ?_); rintro e w9 ⟨rfl, hb9⟩; replace S := Aside0.mk (S.out.call hb9); clear hb9)
    | (go_at_call 20; (with_reducible refine (C2.out _).mono ?_); rintro e w9 ⟨rfl, hb9⟩; replace S := Aside0.mk (S.out.call hb9); clear hb9)
    | (refine gate_ (.store 29 (.tmp 7) (.tmp 19)) rfl ?_; refine wpList_store_all rfl 29 _ _ rfl _ (bc x) _ _ rfl rfl (heap_alloc_new _ _) rfl (bc_info x) (bc_one x) ?_; intro w3 hb3 hg3 hz3; replace S := Aside0.mk (S.out.made hg3 hb3); clear hb3 hg3 hz3)
    | (refine gate_ (.store 29 (.tmp 9) (.tmp 25)) rfl ?_; refine wpList_store_all rfl 29 _ _ rfl _ (bc x) _ _ rfl rfl (heap_alloc_new _ _) rfl (bc_info x) (bc_one x) ?_; intro w3 hb3 hg3 hz3; replace S := Aside0.mk (S.out.made hg3 hb3); clear hb3 hg3 hz3)
    | fail)
  cases ok <;> cases cv <;> cases em <;> cases pa
  all_goals
    refine wp_region_later (by kernel_rfl) (by kernel_rfl) ?_
    repeat (first
      | (refine quiet_load_row 29 (.tmp 3) rfl rfl _ (bc a) 29 (0, 0) _ rfl (fun w' hw' => by obtain ⟨q, rfl⟩ := hw'; exact q.blk (S.out.get 0 rfl)) Try.underlying29 rfl (bc_info a) ?_; go_frame)
      | (refine quiet_load_row 29 (.tmp 4) rfl rfl _ (bc b) 29 (0, 0) _ rfl (fun w' hw' => by obtain ⟨q, rfl⟩ := hw'; exact q.blk (S.out.get 1 rfl)) Try.underlying29 rfl (bc_info b) ?_; go_frame)
      | (refine quiet_load_row 29 (.tmp 7) rfl rfl _ (bc x) 29 (0, 0) _ rfl (fun w' hw' => by obtain ⟨q, rfl⟩ := hw'; exact q.blk (S.out.get 3 rfl)) Try.underlying29 rfl (bc_info x) ?_; go_frame)
      | (refine quiet_load_row 29 (.tmp 9) rfl rfl _ (bc x) 29 (0, 0) _ rfl (fun w' hw' => by obtain ⟨q, rfl⟩ := hw'; exact q.blk (S.out.get 4 rfl)) Try.underlying29 rfl (bc_info x) ?_; go_frame)
      | (refine quiet_load_row 54 (.tmp 5) rfl rfl _ (pc p) 54 (0, 0) _ rfl (fun w' hw' => by obtain ⟨q, rfl⟩ := hw'; exact q.blk (S.out.get 2 rfl)) Try.underlying54 rfl (pc_info p) ?_; go_frame)
      | (refine quiet_neq29 rfl _ _ _ rfl x x rfl rfl ?_; rw [HE.out, Bool.not_true]; go_frame)
      | (refine quiet_neq29 rfl _ _ _ rfl fullB fullB rfl rfl ?_; rw [HF.out, Bool.not_true]; go_frame)
      | go_big_quiet_step ((first | (go_at_call 16; with_reducible exact later_of (C3.out _)) | (go_at_call 17; with_reducible exact later_of (C4.out _)) | (go_at_call 21; with_reducible exact later_of (C5.out _)) | (go_at_call 34; with_reducible exact later_of (C6.out _)) | (go_at_call 30; with_reducible exact later_of (C7.out _)) | (go_at_call 31; with_reducible exact later_of (C8.out _)) | (go_at_call 18; with_reducible exact later_of (full_any _)) | (go_at_call 35; with_reducible exact later_of (reffull_any _)))))
    refine wpQuiet_nil ?_
    intro w1 hw1
    replace S := Aside0.mk (S.out.call (later_below hw1))
    clear hw1
    go_wp2_with (first
      | (refine gate_ (.load 26 (.tmp 68)) rfl ?_; refine wpList_load_blk rfl 26 _ rfl _ 0 4 [.int .u64 a.f0.f0.f0, .int .u64 a.f0.f0.f1, .int .u64 a.f0.f1.f0, .int .u64 a.f0.f1.f1] (bc a) 29 (0, 0) _ rfl (S.out.get 0 rfl) rfl Try.underlying26 rfl (by kernel_rfl) ?_)
      | (refine gate_ (.load 26 (.tmp 71)) rfl ?_; refine wpList_load_blk rfl 26 _ rfl _ 0 4 [.int .u64 b.f0.f0.f0, .int .u64 b.f0.f0.f1, .int .u64 b.f0.f1.f0, .int .u64 b.f0.f1.f1] (bc b) 29 (0, 0) _ rfl (S.out.get 1 rfl) rfl Try.underlying26 rfl (by kernel_rfl) ?_)
      | (refine gate_ (.load 26 (.tmp 67)) rfl ?_; refine wpList_load_blk rfl 26 _ rfl _ 0 4 [.int .u64 a.f0.f0.f0, .int .u64 a.f0.f0.f1, .int .u64 a.f0.f1.f0, .int .u64 a.f0.f1.f1] (bc a) 29 (0, 0) _ rfl (S.out.get 0 rfl) rfl Try.underlying26 rfl (by kernel_rfl) ?_)
      | (refine gate_ (.load 26 (.tmp 70)) rfl ?_; refine wpList_load_blk rfl 26 _ rfl _ 0 4 [.int .u64 b.f0.f0.f0, .int .u64 b.f0.f0.f1, .int .u64 b.f0.f1.f0, .int .u64 b.f0.f1.f1] (bc b) 29 (0, 0) _ rfl (S.out.get 1 rfl) rfl Try.underlying26 rfl (by kernel_rfl) ?_)
      | (refine gate_ (.load 26 (.tmp 77)) rfl ?_; refine wpList_load_blk rfl 26 _ rfl _ 0 4 [.int .u64 a.f0.f0.f0, .int .u64 a.f0.f0.f1, .int .u64 a.f0.f1.f0, .int .u64 a.f0.f1.f1] (bc a) 29 (0, 0) _ rfl (S.out.get 0 rfl) rfl Try.underlying26 rfl (by kernel_rfl) ?_)
      | (refine gate_ (.load 26 (.tmp 80)) rfl ?_; refine wpList_load_blk rfl 26 _ rfl _ 0 4 [.int .u64 b.f0.f0.f0, .int .u64 b.f0.f0.f1, .int .u64 b.f0.f1.f0, .int .u64 b.f0.f1.f1] (bc b) 29 (0, 0) _ rfl (S.out.get 1 rfl) rfl Try.underlying26 rfl (by kernel_rfl) ?_)
      | (go_at_call 36; (with_reducible refine (C9.out _).mono ?_); rintro e w9 ⟨rfl, hb9⟩; replace S := Aside0.mk (S.out.call hb9); clear hb9)
      | (go_at_call 37; (with_reducible refine (CA.out _).mono ?_); rintro e w9 ⟨rfl, hb9⟩; replace S := Aside0.mk (S.out.call hb9); clear hb9)
      | (refine gate_ (.store 26 (.tmp 11) (.tmp 73)) rfl ?_; refine wpList_store_all rfl 26 _ _ rfl _ #[.int .u64 r.f0.f0, .int .u64 r.f0.f1, .int .u64 r.f1.f0, .int .u64 r.f1.f1] _ _ rfl rfl (heap_alloc_new _ _) rfl (by kernel_rfl) (by simp [Value.oneCell']) ?_; intro w3 hb3 hg3 hz3; replace S := Aside0.mk (S.out.made hg3 hb3); clear hb3 hg3 hz3)
      | (refine gate_ (.store 26 (.tmp 13) (.tmp 83)) rfl ?_; refine wpList_store_all rfl 26 _ _ rfl _ #[.int .u64 r.f0.f0, .int .u64 r.f0.f1, .int .u64 r.f1.f0, .int .u64 r.f1.f1] _ _ rfl rfl (heap_alloc_new _ _) rfl (by kernel_rfl) (by simp [Value.oneCell']) ?_; intro w3 hb3 hg3 hz3; replace S := Aside0.mk (S.out.made hg3 hb3); clear hb3 hg3 hz3)
      | (refine gate_ (.load 26 (.tmp 11)) rfl ?_; refine wpList_load_row rfl 26 _ rfl _ rfl 26 #[.int .u64 r.f0.f0, .int .u64 r.f0.f1, .int .u64 r.f1.f0, .int .u64 r.f1.f1] (0, 0) _ (S.out.get 5 rfl) Try.underlying26 rfl (by kernel_rfl) ?_)
      | (refine gate_ (.load 26 (.tmp 13)) rfl ?_; refine wpList_load_row rfl 26 _ rfl _ rfl 26 #[.int .u64 r.f0.f0, .int .u64 r.f0.f1, .int .u64 r.f1.f0, .int .u64 r.f1.f1] (0, 0) _ (S.out.get 6 rfl) Try.underlying26 rfl (by kernel_rfl) ?_)
      | (refine gate_dst (N := 87) rfl ?_; refine wpList_eql26 rfl _ _ _ r r rfl rfl rfl ?_; rw [HR.out])
      | fail)
    go_ret
    exact ⟨by cases may <;> rfl, S.out.below⟩
end Go.Proofs.Ytcgcognejjpcmaa
