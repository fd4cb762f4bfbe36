/- The full box, the program's and the document's; the document's HasPoint and Empty. -/
import Derived.Test.YtcgcognejjpcmaaCovers
import Derived.Deep.Cut
import Derived.Maps.RangeWalk
import Derived.Laws.NewBlocks
import Derived.Great.BuildSlice
import Derived.Deep.WholeRow
namespace Go.Proofs.Ytcgcognejjpcmaa
open Go.RowKit Go.Proofs.YtcgcognejjpcmaaW.PrintWords
set_option linter.unusedVariables false
set_option linter.unusedSimpArgs false
attribute [local go_sem] Later.cell_eq

def topA : S24 := ⟨18446744073709551615, 18446744073709551615⟩
def fullR : S26 := ⟨⟨0, 0⟩, topA⟩
def fullB : S29 := ⟨fullR, fullR, fullR, fullR, fullR, fullR⟩
theorem cmpA_flip (a b : S24) : decide (cmpA a b < 0) = decide (0 < cmpA b a) := by
  unfold cmpA
  rw [Bool.eq_iff_iff]
  simp only [decide_eq_true_eq]
  repeat' split
  all_goals omega
set_option maxHeartbeats 2000000 in
theorem refhasPoint_any (b : S29) (p : S54) (w : World) : Calls Try.prog 31 #[.agg (bc b), .agg (pc p)] w fun e w' => e = .returned (.bool (hasP b p)) ∧ Below w.heap.size w w' := by
  go_enter Try.func31, Try.ntmps31
  go_wp2
  obtain ⟨W0, hW0⟩ : ∃ W0, W0 = (w.alloc (.cells (bc b) 29)).alloc (.cells (pc p) 54) := ⟨_, rfl⟩
  rw [← hW0]
  have HB0 := Aside0.mk (show Below w.heap.size w W0 by rw [hW0]; go_grown)
  have hbp : W0.heap[w.heap.size + 1]? = some (.cells (pc p) 54 (0, 0)) := by rw [hW0]; exact heap_alloc_at _ _ _ (by simp)
  have hbb : W0.heap[w.heap.size]? = some (.cells (bc b) 29 (0, 0)) := by rw [hW0]; exact (Below.heap_alloc _ _ _ (by simp)).trans (heap_alloc_new _ _)
  have HP := Aside0.mk hbp
  have HQ := Aside0.mk hbb
  clear hW0 hbp hbb
  go_loopw [5] (fun v wr => ∃ k : Nat, k ≤ 6 ∧ v = .int .i64 k ∧ Aside0 (∀ j, j < k → hasR (rg b j) (nr p j) = true) ∧ Aside0 (Below W0.heap.size W0 wr)) (fun v _ => 6 - (intOf v).toNat)
  case atStart => exact ⟨0, by omega, rfl, ⟨fun j hj => by omega⟩, ⟨Below.refl _ _⟩⟩
  case round =>
    obtain ⟨k, hk, rfl, HN, HB⟩ := hrel
    have HBW := Aside0.mk (show Below w.heap.size w wr from below_then HB0.out HB0.out.size HB.out)
    have hs1 : w.heap.size + 1 < wr.heap.size := by have := (Array.getElem?_eq_some_iff.1 HP.out).1; have := HB.out.size; omega
    have hs0 : w.heap.size < wr.heap.size := by omega
    by_cases hlt : k < 6
    · have hbk := (HB.out.block _ (Array.getElem?_eq_some_iff.1 HP.out).1).trans HP.out
      have hbl := (HB.out.block _ (Array.getElem?_eq_some_iff.1 HQ.out).1).trans HQ.out
      have p0 : wr.cell? ⟨w.heap.size + 1, k * 2, none⟩ = some (.int .u64 (nr p k).f0) := by simp [World.cell?, hbk, (pc_at p k hlt).1]
      have p1 : wr.cell? ⟨w.heap.size + 1, k * 2 + 1, none⟩ = some (.int .u64 (nr p k).f1) := by simp [World.cell?, hbk, (pc_at p k hlt).2]
      have r0 : wr.cell? ⟨w.heap.size, k * 4, none⟩ = some (.int .u64 (rg b k).f0.f0) := by simp [World.cell?, hbl, (bc_at b k hlt).1]
      have r1 : wr.cell? ⟨w.heap.size, k * 4 + 1, none⟩ = some (.int .u64 (rg b k).f0.f1) := by simp [World.cell?, hbl, (bc_at b k hlt).2.1]
      have r2 : wr.cell? ⟨w.heap.size, k * 4 + 2, none⟩ = some (.int .u64 (rg b k).f1.f0) := by simp [World.cell?, hbl, (bc_at b k hlt).2.2.1]
      have r3 : wr.cell? ⟨w.heap.size, k * 4 + 3, none⟩ = some (.int .u64 (rg b k).f1.f1) := by simp [World.cell?, hbl, (bc_at b k hlt).2.2.2]
      clear hbk hbl
      have HH := Aside0.mk (fun (v : Bool) (hv : hasR (rg b k) (nr p k) = v) W => show Calls Try.prog 39 #[.agg #[.int .u64 (rg b k).f0.f0, .int .u64 (rg b k).f0.f1, .int .u64 (rg b k).f1.f0, .int .u64 (rg b k).f1.f1], .agg #[.int .u64 (nr p k).f0, .int .u64 (nr p k).f1]] W (fun e w' => e = .returned (.bool v) ∧ Below W.heap.size W w') by rw [← hv]; exact refhas_any _ _ _ _ _ _ W)
      go_wp2
      cases hv : hasR (rg b k) (nr p k) with
      | true =>
        have HV := Aside0.mk hv
        have H2 := Aside0.mk (HH.out true hv)
        clear hv
        refine wp_region_later (by kernel_rfl) (by kernel_rfl) ?_
        repeat (first | go_big_quiet_step ((go_at_call 39; exact later_of (H2.out _))) | quiet_step ((go_at_call 39; exact later_of (H2.out _))))
        refine wpQuiet_nil ?_
        intro w5 hw5
        have HB5 := Aside0.mk (later_below hw5)
        clear hw5
        go_wp2
        go_roundw
        case rel => exact ⟨k + 1, by omega, by go_num, ⟨all_succ (f := fun j => hasR (rg b j) (nr p j)) HN.out HV.out⟩, ⟨below_then HB.out HB.out.size HB5.out⟩⟩
        case measure => simp [intOf]; omega
      | false =>
        have HV := Aside0.mk hv
        have H2 := Aside0.mk (HH.out false hv)
        clear hv
        refine wp_region_later (by kernel_rfl) (by kernel_rfl) ?_
        repeat (first | go_big_quiet_step ((go_at_call 39; exact later_of (H2.out _))) | quiet_step ((go_at_call 39; exact later_of (H2.out _))))
        refine wpQuiet_nil ?_
        intro w5 hw5
        have HB5 := Aside0.mk (later_below hw5)
        clear hw5
        go_wp2
        go_ret
        exact ⟨by rw [hasP_no hlt HV.out]; rfl, below_then HBW.out HBW.out.size HB5.out⟩
    · go_wp2
      go_ret
      exact ⟨by rw [hasP_yes (fun j hj => HN.out j (by omega))]; rfl, HBW.out⟩
set_option maxHeartbeats 2000000 in
theorem refempty_any (b : S29) (w : World) : Calls Try.prog 34 #[.agg (bc b)] w fun e w' => e = .returned (.bool (emptyB b)) ∧ Below w.heap.size w w' := by
  go_enter Try.func34, Try.ntmps34
  go_wp2
  obtain ⟨W0, hW0⟩ : ∃ W0, W0 = w.alloc (.cells (bc b) 29) := ⟨_, rfl⟩
  rw [← hW0]
  have HB0 := Aside0.mk (show Below w.heap.size w W0 by rw [hW0]; go_grown)
  have hbb : W0.heap[w.heap.size]? = some (.cells (bc b) 29 (0, 0)) := by rw [hW0]; exact heap_alloc_new _ _
  have HQ := Aside0.mk hbb
  clear hW0 hbb
  go_loopw [3] (fun v wr => ∃ k : Nat, k ≤ 6 ∧ v = .int .i64 k ∧ Aside0 (∀ j, j < k → noneR (rg b j) = false) ∧ Aside0 (Below W0.heap.size W0 wr)) (fun v _ => 6 - (intOf v).toNat)
  case atStart => exact ⟨0, by omega, rfl, ⟨fun j hj => by omega⟩, ⟨Below.refl _ _⟩⟩
  case round =>
    obtain ⟨k, hk, rfl, HN, HB⟩ := hrel
    have HBW := Aside0.mk (show Below w.heap.size w wr from below_then HB0.out HB0.out.size HB.out)
    have hs0 : w.heap.size < wr.heap.size := by have := (Array.getElem?_eq_some_iff.1 HQ.out).1; have := HB.out.size; omega
    by_cases hlt : k < 6
    · have hbl := (HB.out.block _ (Array.getElem?_eq_some_iff.1 HQ.out).1).trans HQ.out
      have r0 : wr.cell? ⟨w.heap.size, k * 4, none⟩ = some (.int .u64 (rg b k).f0.f0) := by simp [World.cell?, hbl, (bc_at b k hlt).1]
      have r1 : wr.cell? ⟨w.heap.size, k * 4 + 1, none⟩ = some (.int .u64 (rg b k).f0.f1) := by simp [World.cell?, hbl, (bc_at b k hlt).2.1]
      have r2 : wr.cell? ⟨w.heap.size, k * 4 + 2, none⟩ = some (.int .u64 (rg b k).f1.f0) := by simp [World.cell?, hbl, (bc_at b k hlt).2.2.1]
      have r3 : wr.cell? ⟨w.heap.size, k * 4 + 2 + 1, none⟩ = some (.int .u64 (rg b k).f1.f1) := by simp [World.cell?, hbl, (bc_at b k hlt).2.2.2]
      clear hbl
      have HH := Aside0.mk (fun (v : Bool) (hv : noneR (rg b k) = v) W => show Calls Try.prog 38 #[.agg #[.int .u64 (rg b k).f1.f0, .int .u64 (rg b k).f1.f1], .agg #[.int .u64 (rg b k).f0.f0, .int .u64 (rg b k).f0.f1]] W (fun e w' => e = .returned (.bool v) ∧ Below W.heap.size W w') by rw [← hv]; unfold noneR; rw [← cmpA_flip]; exact less_any _ _ _ _ W)
      go_wp2
      cases hv : noneR (rg b k) with
      | false =>
        have HV := Aside0.mk hv
        have H2 := Aside0.mk (HH.out false hv)
        clear hv
        refine wp_region_later (by kernel_rfl) (by kernel_rfl) ?_
        repeat (first | go_big_quiet_step ((go_at_call 38; exact later_of (H2.out _))) | quiet_step ((go_at_call 38; exact later_of (H2.out _))))
        refine wpQuiet_nil ?_
        intro w5 hw5
        have HB5 := Aside0.mk (later_below hw5)
        clear hw5
        go_wp2
        go_roundw
        case rel => exact ⟨k + 1, by omega, by go_num, ⟨none_succ6 (f := fun j => noneR (rg b j)) HN.out HV.out⟩, ⟨below_then HB.out HB.out.size HB5.out⟩⟩
        case measure => simp [intOf]; omega
      | true =>
        have HV := Aside0.mk hv
        have H2 := Aside0.mk (HH.out true hv)
        clear hv
        refine wp_region_later (by kernel_rfl) (by kernel_rfl) ?_
        repeat (first | go_big_quiet_step ((go_at_call 38; exact later_of (H2.out _))) | quiet_step ((go_at_call 38; exact later_of (H2.out _))))
        refine wpQuiet_nil ?_
        intro w5 hw5
        have HB5 := Aside0.mk (later_below hw5)
        clear hw5
        go_wp2
        go_ret
        exact ⟨by unfold emptyB; rw [any6_yes hlt HV.out]; rfl, below_then HBW.out HBW.out.size HB5.out⟩
    · go_wp2
      go_ret
      exact ⟨by unfold emptyB; rw [any6_no (fun j hj => HN.out j (by omega))]; rfl, HBW.out⟩
theorem setRow_at {W : World} {g : Nat} {old new : Array Value} {t : TypeId} {z : Nat × Nat} (h : W.heap[g]? = some (.cells old t z)) : (W.setRow g new).heap[g]? = some (.cells new t z) := setRow_heap W g old new t z h
theorem below_setRow {n : Nat} {w W : World} (h : Below n w W) {g : Nat} (hg : n ≤ g) (cs : Array Value) : Below n w (W.setRow g cs) := by
  refine h.trans ⟨rfl, rfl, rfl, by simp [World.setRow], fun k hk => ?_⟩
  simp only [World.setRow, Array.getElem?_modify]
  rw [if_neg (by omega)]
set_option maxHeartbeats 4000000 in
theorem full_any (w : World) : Calls Try.prog 18 #[] w fun e w' => e = .returned (.agg (bc fullB)) ∧ Below w.heap.size w w' := by
  go_enter Try.func18, Try.ntmps18
  go_wp2
  refine wp_loop_rounds 7 ?_
  rw [rounds_succ]
  go_wp2
  rw [rounds_succ]
  go_wp2
  rw [rounds_succ]
  go_wp2
  rw [rounds_succ]
  go_wp2
  rw [rounds_succ]
  go_wp2
  rw [rounds_succ]
  go_wp2
  rw [rounds_succ]
  go_upto_region 7 with fail
  generalize hW : World.alloc _ _ = W
  have HB := Aside0.mk (show Below w.heap.size w W by rw [← hW]; go_grown)
  have h1 : W.heap[w.heap.size + 1]? = some (.cells (bc fullB) 29 (0, 0)) := by rw [← hW]; repeat (first | exact heap_alloc_at _ _ _ (by simp only [World.size_alloc]) | refine (Below.heap_alloc _ _ _ (by simp only [World.size_alloc]; omega)).trans ?_)
  have h0 : W.heap[w.heap.size]? = some (.cells (bc z29) 29 (0, 0)) := by rw [← hW]; repeat (first | exact heap_alloc_at _ _ _ (by simp only [World.size_alloc]) | refine (Below.heap_alloc _ _ _ (by simp only [World.size_alloc]; omega)).trans ?_)
  clear hW
  go_wp2_with (first
    | (refine gate_ (.load 29 (.tmp 1)) rfl ?_; refine wpList_load_row rfl 29 _ rfl (w.heap.size + 1) rfl 29 (bc fullB) (0, 0) _ h1 Try.underlying29 rfl (bc_info fullB) ?_)
    | (refine gate_ (.store 29 (.tmp 0) (.tmp 12)) rfl ?_; refine wpList_store_row rfl 29 _ _ rfl w.heap.size (bc fullB) rfl rfl 29 _ h0 (bc_info fullB) rfl (bc_one fullB) ?_))
  go_frame
  go_wp2
  refine bodyPost_ret_by (results_cell_row rfl _ _ w.heap.size 29 (bc fullB) (0, 0) _ rfl (setRow_at h0) Try.underlying29 rfl (bc_info fullB)) rfl ?_
  exact ⟨rfl, below_setRow HB.out (Nat.le_refl _) _⟩
theorem setRow_last {X : World} {o : Array Value} {t g : Nat} (hg : g = X.heap.size) (Q : Array Value) : (X.alloc (.cells o t)).setRow g Q = X.alloc (.cells Q t) := by subst hg; exact World.setRow_alloc_new _ _ _ _
set_option maxRecDepth 100000 in
set_option maxHeartbeats 4000000 in
theorem reffull_any (w : World) : Calls Try.prog 35 #[] w fun e w' => e = .returned (.agg (bc fullB)) ∧ Below w.heap.size w w' := by
  go_enter Try.func35, Try.ntmps35
  go_upto_region 2 with (first | (refine gate_dst (N := 3) rfl ?_; refine wpList_buildTo rfl 29 _ rfl (some 3) rfl #[.int .u64 0, .int .u64 0, .int .u64 0, .int .u64 0, .int .u64 0, .int .u64 0, .int .u64 0, .int .u64 0, .int .u64 0, .int .u64 0, .int .u64 0, .int .u64 0, .int .u64 0, .int .u64 0, .int .u64 0, .int .u64 0, .int .u64 0, .int .u64 0, .int .u64 0, .int .u64 0, .int .u64 0, .int .u64 0, .int .u64 0, .int .u64 0] (by kernel_rfl) ?_) | (refine gate_ (.store 29 (.tmp 1) (.tmp 3)) rfl ?_; refine wpList_store_row rfl 29 _ _ rfl (w.heap.size + 1) #[.int .u64 0, .int .u64 0, .int .u64 0, .int .u64 0, .int .u64 0, .int .u64 0, .int .u64 0, .int .u64 0, .int .u64 0, .int .u64 0, .int .u64 0, .int .u64 0, .int .u64 0, .int .u64 0, .int .u64 0, .int .u64 0, .int .u64 0, .int .u64 0, .int .u64 0, .int .u64 0, .int .u64 0, .int .u64 0, .int .u64 0, .int .u64 0] rfl rfl 29 _ (heap_alloc_at _ _ _ (by simp)) (by kernel_rfl) (by kernel_rfl) (by simp [Value.oneCell']) ?_))
  go_frame
  rw [setRow_last (by simp)]
  go_wp2
  refine wp_loop_rounds 7 ?_
  rw [rounds_succ]
  go_wp2
  rw [rounds_succ]
  go_wp2
  rw [rounds_succ]
  go_wp2
  rw [rounds_succ]
  go_wp2
  rw [rounds_succ]
  go_wp2
  rw [rounds_succ]
  go_wp2
  rw [rounds_succ]
  go_upto_region 6 with fail
  generalize hW : World.alloc _ _ = W
  have HB := Aside0.mk (show Below w.heap.size w W by rw [← hW]; go_grown)
  have h1 : W.heap[w.heap.size + 1]? = some (.cells (bc fullB) 29 (0, 0)) := by rw [← hW]; repeat (first | exact heap_alloc_at _ _ _ (by simp only [World.size_alloc]) | refine (Below.heap_alloc _ _ _ (by simp only [World.size_alloc]; omega)).trans ?_)
  have h0 : W.heap[w.heap.size]? = some (.cells (bc z29) 29 (0, 0)) := by rw [← hW]; repeat (first | exact heap_alloc_at _ _ _ (by simp only [World.size_alloc]) | refine (Below.heap_alloc _ _ _ (by simp only [World.size_alloc]; omega)).trans ?_)
  clear hW
  go_wp2_with (first
    | (refine gate_ (.load 29 (.tmp 1)) rfl ?_; refine wpList_load_row rfl 29 _ rfl (w.heap.size + 1) rfl 29 (bc fullB) (0, 0) _ h1 Try.underlying29 rfl (bc_info fullB) ?_)
    | (refine gate_ (.store 29 (.tmp 0) (.tmp 13)) rfl ?_; refine wpList_store_row rfl 29 _ _ rfl w.heap.size (bc fullB) rfl rfl 29 _ h0 (bc_info fullB) rfl (bc_one fullB) ?_))
  go_frame
  go_wp2
  refine bodyPost_ret_by (results_cell_row rfl _ _ w.heap.size 29 (bc fullB) (0, 0) _ rfl (setRow_at h0) Try.underlying29 rfl (bc_info fullB)) rfl ?_
  exact ⟨rfl, below_setRow HB.out (Nat.le_refl _) _⟩
end Go.Proofs.Ytcgcognejjpcmaa
