/- The law CutsCovers, walked: it answers true. -/
import Derived.Test.YtcgcognejjpcmaaPlain
import Derived.Maps.RangeWalk
namespace Go.Proofs.Ytcgcognejjpcmaa
open Go.RowKit Go.Proofs.YtcgcognejjpcmaaW.PrintWords
set_option linter.unusedVariables false
set_option linter.unusedSimpArgs false
attribute [local go_sem] Later.cell_eq

set_option maxRecDepth 100000 in
set_option maxHeartbeats 4000000 in
theorem cutsCovers_any (a b c : S29) (ha : ∀ k, k < 6 → okA (rg a k).f0 ∧ okA (rg a k).f1) (w : World) : Calls Try.prog 3 #[.agg (bc a), .agg (bc b), .agg (bc c)] w fun e w' => e = .returned (.bool true) ∧ Below w.heap.size w w' := by
  obtain ⟨x, hx⟩ : ∃ x, coversB a b = x := ⟨_, rfl⟩
  obtain ⟨y, hy⟩ : ∃ y, coversB b c = y := ⟨_, rfl⟩
  obtain ⟨z, hz⟩ : ∃ z, coversB a c = z := ⟨_, rfl⟩
  have HZ := Aside0.mk (show x = true → y = true → z = true from fun h1 h2 => by rw [← hz]; exact covers_trans (hx.trans h1) (hy.trans h2))
  have C1 := Aside0.mk (fun W => show Calls Try.prog 16 #[.agg (bc a), .agg (bc b)] W (fun e w' => e = .returned (.bool x) ∧ Below W.heap.size W w') by rw [← hx]; exact covers_any a b W)
  have C2 := Aside0.mk (fun W => show Calls Try.prog 16 #[.agg (bc b), .agg (bc c)] W (fun e w' => e = .returned (.bool y) ∧ Below W.heap.size W w') by rw [← hy]; exact covers_any b c W)
  have C3 := Aside0.mk (fun W => show Calls Try.prog 16 #[.agg (bc a), .agg (bc c)] W (fun e w' => e = .returned (.bool z) ∧ Below W.heap.size W w') by rw [← hz]; exact covers_any a c W)
  have C4 := Aside0.mk (fun W => show Calls Try.prog 17 #[.agg (bc a), .agg (bc b)] W (fun e w' => e = .returned (.bool x) ∧ Below W.heap.size W w') by rw [← hx, covers_same]; exact refcovers_any a b W)
  have C5 := Aside0.mk (fun W => show Calls Try.prog 16 #[.agg (bc a), .agg (bc a)] W (fun e w' => e = .returned (.bool true) ∧ Below W.heap.size W w') by rw [← covers_self a]; exact covers_any a a W)
  have C6 := Aside0.mk (fun W => show Calls Try.prog 16 #[.agg (bc fullB), .agg (bc a)] W (fun e w' => e = .returned (.bool true) ∧ Below W.heap.size W w') by rw [← full_covers ha]; exact covers_any fullB a W)
  clear hx hy hz ha
  go_enter Try.func3, Try.ntmps3
  go_upto_region 1 with fail
  generalize hW : World.alloc _ _ = W0
  have HB0 := Aside0.mk (show Below w.heap.size w W0 by rw [← hW]; go_grown)
  have HS := Aside0.mk (show W0.heap.size = w.heap.size + 1 + 1 + 1 by rw [← hW]; simp)
  have b0 : W0.heap[w.heap.size]? = some (.cells (bc a) 29 (0, 0)) := by rw [← hW]; repeat (first | exact heap_alloc_at _ _ _ (by simp only [World.size_alloc]; done) | refine (Below.heap_alloc _ _ _ (by simp only [World.size_alloc]; omega)).trans ?_)
  have b1 : W0.heap[w.heap.size + 1]? = some (.cells (bc b) 29 (0, 0)) := by rw [← hW]; repeat (first | exact heap_alloc_at _ _ _ (by simp only [World.size_alloc]; done) | refine (Below.heap_alloc _ _ _ (by simp only [World.size_alloc]; omega)).trans ?_)
  have b2 : W0.heap[w.heap.size + 1 + 1]? = some (.cells (bc c) 29 (0, 0)) := by rw [← hW]; exact heap_alloc_at _ _ _ (by simp)
  have BB := Aside0.mk (And.intro b0 (And.intro b1 b2))
  clear hW b0 b1 b2
  go_wp2_with (first
    | (refine gate_ (.load 29 (.tmp 3)) rfl ?_; refine wpList_load_row rfl 29 _ rfl (w.heap.size) rfl 29 (bc a) (0, 0) _ (BB.out.1) Try.underlying29 rfl (bc_info a) ?_)
    | (refine gate_ (.load 29 (.tmp 4)) rfl ?_; refine wpList_load_row rfl 29 _ rfl (w.heap.size + 1) rfl 29 (bc b) (0, 0) _ (BB.out.2.1) Try.underlying29 rfl (bc_info b) ?_)
    | (go_at_call 16; refine Aside0.out ?_))
  refine Aside0.mk ?_
  refine (C1.out _).mono ?_
  rintro e w1 ⟨rfl, hb1⟩
  have HB1 := Aside0.mk (below_then HB0.out HB0.out.size hb1)
  have BB1 := Aside0.mk (And.intro ((hb1.block _ (by have := HS.out; omega)).trans BB.out.1) (And.intro ((hb1.block _ (by have := HS.out; omega)).trans BB.out.2.1) ((hb1.block _ (by have := HS.out; omega)).trans BB.out.2.2)))
  clear hb1
  go_wp2_with (first
    | (refine gate_ (.load 29 (.tmp 4)) rfl ?_; refine wpList_load_row rfl 29 _ rfl (w.heap.size + 1) rfl 29 (bc b) (0, 0) _ (BB1.out.2.1) Try.underlying29 rfl (bc_info b) ?_)
    | (refine gate_ (.load 29 (.tmp 5)) rfl ?_; refine wpList_load_row rfl 29 _ rfl (w.heap.size + 1 + 1) rfl 29 (bc c) (0, 0) _ (BB1.out.2.2) Try.underlying29 rfl (bc_info c) ?_)
    | (go_at_call 16; refine Aside0.out ?_))
  refine Aside0.mk ?_
  refine (C2.out _).mono ?_
  rintro e w2 ⟨rfl, hb2⟩
  have HB2 := Aside0.mk (below_then HB1.out HB1.out.size hb2)
  have hs2 : w.heap.size + 1 + 1 < w1.heap.size := (Array.getElem?_eq_some_iff.1 BB1.out.2.2).1
  have BB2 := Aside0.mk (And.intro ((hb2.block _ (by omega)).trans BB1.out.1) (And.intro ((hb2.block _ (by omega)).trans BB1.out.2.1) ((hb2.block _ (by omega)).trans BB1.out.2.2)))
  clear hb2
  cases x <;> cases y
  all_goals
    go_wp2
    refine wp_region_later (by kernel_rfl) (by kernel_rfl) ?_
    repeat (first
      | (refine quiet_load_row 29 (.tmp 3) rfl rfl (w.heap.size) (bc a) 29 (0, 0) _ rfl (fun w' hw' => by obtain ⟨p, rfl⟩ := hw'; exact p.blk (BB2.out.1)) Try.underlying29 rfl (bc_info a) ?_; go_frame)
      | (refine quiet_load_row 29 (.tmp 4) rfl rfl (w.heap.size + 1) (bc b) 29 (0, 0) _ rfl (fun w' hw' => by obtain ⟨p, rfl⟩ := hw'; exact p.blk (BB2.out.2.1)) Try.underlying29 rfl (bc_info b) ?_; go_frame)
      | go_big_quiet_step ((first | (go_at_call 17; with_reducible exact later_of (C4.out _)) | (go_at_call 18; with_reducible exact later_of (full_any _)) | (go_at_call 16; with_reducible exact later_of (C5.out _)) | (go_at_call 16; with_reducible exact later_of (C6.out _)))))
    refine wpQuiet_nil ?_
    intro w3 hw3
    have HB3 := Aside0.mk (below_then HB2.out HB2.out.size (later_below hw3))
    replace hw3 := later_below hw3
    have hs3 : w.heap.size + 1 + 1 < w2.heap.size := (Array.getElem?_eq_some_iff.1 BB2.out.2.2).1
    have BB3 := Aside0.mk (And.intro ((hw3.block _ (by omega)).trans BB2.out.1) ((hw3.block _ (by omega)).trans BB2.out.2.2))
    clear hw3
    go_wp2_with (first
      | (refine gate_ (.load 29 (.tmp 3)) rfl ?_; refine gate_guard rfl ?_; refine wpList_load_row rfl 29 _ rfl w.heap.size rfl 29 (bc a) (0, 0) _ BB3.out.1 Try.underlying29 rfl (bc_info a) ?_)
      | (refine gate_ (.load 29 (.tmp 5)) rfl ?_; refine gate_guard rfl ?_; refine wpList_load_row rfl 29 _ rfl (w.heap.size + 1 + 1) rfl 29 (bc c) (0, 0) _ BB3.out.2 Try.underlying29 rfl (bc_info c) ?_)
      | (go_at_call 16; refine (C3.out _).mono ?_; rintro e w4 ⟨rfl, hb4⟩))
    go_ret
    first
      | exact ⟨rfl, HB3.out⟩
      | exact ⟨by rw [show z = true by have := HZ.out; simpa using this]; rfl, below_then HB3.out HB3.out.size hb4⟩
end Go.Proofs.Ytcgcognejjpcmaa
