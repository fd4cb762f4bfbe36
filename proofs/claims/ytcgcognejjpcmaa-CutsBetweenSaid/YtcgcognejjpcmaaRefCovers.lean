/- Covers a box another one: the document's Covers. -/
import Derived.Test.YtcgcognejjpcmaaRefMeetBox
import Derived.Test.YtcgcognejjpcmaaEql
import Derived.Test.YtcgcognejjpcmaaFull
import Derived.Test.YtcgcognejjpcmaaWGuard
namespace Go.Proofs.Ytcgcognejjpcmaa
open Go.RowKit Go.Proofs.YtcgcognejjpcmaaW.PrintWords
set_option linter.unusedVariables false
set_option linter.unusedSimpArgs false
attribute [local go_sem] Later.cell_eq

/-- The document's Covers. -/
def refcoversB (a b : S29) : Bool := emptyB b || ((meetB a b).2 && eqB (meetB a b).1 b)
set_option maxRecDepth 100000 in
set_option maxHeartbeats 4000000 in
theorem refcovers_any (a b : S29) (w : World) : Calls Try.prog 17 #[.agg (bc a), .agg (bc b)] w fun e w' => e = .returned (.bool (refcoversB a b)) ∧ Below w.heap.size w w' := by
  obtain ⟨⟨x, ok⟩, hmo⟩ : ∃ mo, mo = meetB a b := ⟨_, rfl⟩
  have HM := Aside0.mk (fun W => show Calls Try.prog 20 #[.agg (bc a), .agg (bc b)] W (fun e w' => e = .returned (.tuple #[.agg (bc x), .bool ok]) ∧ Below W.heap.size W w') by have := refmeetBox_any a b W; rw [← hmo] at this; exact this)
  have HE := Aside0.mk (fun (v : Bool) (hv : emptyB b = v) W => show Calls Try.prog 34 #[.agg (bc b)] W (fun e w' => e = .returned (.bool v) ∧ Below W.heap.size W w') by rw [← hv]; exact refempty_any b W)
  have H0 := Aside0.mk (show refcoversB a b = (emptyB b || (ok && eqB x b)) by unfold refcoversB; rw [← hmo])
  clear hmo
  go_enter Try.func17, Try.ntmps17
  go_upto_region 1 with fail
  generalize hW : World.alloc _ _ = W0
  have HB0 := Aside0.mk (show Below w.heap.size w W0 by rw [← hW]; go_grown)
  have HS := Aside0.mk (show W0.heap.size = w.heap.size + 1 + 1 by rw [← hW]; simp)
  have b0 : W0.heap[w.heap.size]? = some (.cells (bc a) 29 (0, 0)) := by rw [← hW]; exact (Below.heap_alloc _ _ _ (by simp)).trans (heap_alloc_new _ _)
  have b1 : W0.heap[w.heap.size + 1]? = some (.cells (bc b) 29 (0, 0)) := by rw [← hW]; exact heap_alloc_at _ _ _ (by simp)
  have BB := Aside0.mk (And.intro b0 b1)
  clear hW b0 b1
  go_wp2_with (first
    | (refine gate_ (.load 29 (.tmp 2)) rfl ?_; refine wpList_load_row rfl 29 _ rfl w.heap.size rfl 29 _ (0, 0) _ BB.out.1 Try.underlying29 rfl (bc_info _) ?_)
    | (refine gate_ (.load 29 (.tmp 3)) rfl ?_; refine wpList_load_row rfl 29 _ rfl (w.heap.size + 1) rfl 29 _ (0, 0) _ BB.out.2 Try.underlying29 rfl (bc_info _) ?_)
    | (go_at_call 20; refine Aside0.out ?_))
  refine Aside0.mk ?_
  refine (HM.out _).mono ?_
  rintro e w1 ⟨rfl, hb1⟩
  have HB1 := Aside0.mk (below_then HB0.out HB0.out.size hb1)
  have b11 := Aside0.mk ((hb1.block _ (by have := HS.out; omega)).trans BB.out.2)
  have hs1 : w.heap.size + 1 < w1.heap.size := (Array.getElem?_eq_some_iff.1 b11.out).1
  clear hb1
  go_wp2_with (first
    | (refine gate_ (.store 29 (.tmp 5) (.tmp 11)) rfl ?_; refine wpList_store_all rfl 29 _ _ rfl w1.heap.size (bc x) _ _ rfl rfl (heap_alloc_new _ _) rfl (bc_info x) (bc_one x) ?_; intro w2 hb2 hg2 hz2)
    | (refine gate_ (.load 29 (.tmp 3)) rfl ?_; refine Aside0.out ?_))
  refine Aside0.mk ?_
  have HB2 := Aside0.mk (show Below w.heap.size w w2 from (HB1.out.alloc HB1.out.size _).trans (below_grown hg2 (by simp; have := HB1.out.size; omega) HB1.out.size))
  have b12 := Aside0.mk ((hg2.block (w.heap.size + 1) (by simp; omega) (by intro e; injection e with e; omega)).trans ((Below.heap_alloc _ _ _ hs1).trans b11.out))
  have hs2 : w.heap.size + 1 < w2.heap.size := (Array.getElem?_eq_some_iff.1 b12.out).1
  have HX := Aside0.mk hb2
  have HSZ := Aside0.mk (show w1.heap.size < w2.heap.size by rw [hz2]; simp)
  clear hb2 hg2 hz2
  refine wpList_load_row rfl 29 _ rfl (w.heap.size + 1) rfl 29 _ (0, 0) _ b12.out Try.underlying29 rfl (bc_info _) ?_
  cases he : emptyB b with
  | true =>
    have H := Aside0.mk (show refcoversB a b = true by rw [H0.out, he]; rfl)
    have HC := Aside0.mk (HE.out _ he)
    clear he
    go_wp2_with (go_at_call 34; refine (HC.out _).mono ?_; rintro e w3 ⟨rfl, hb3⟩)
    go_ret
    exact ⟨by rw [H.out]; rfl, below_then HB2.out HB2.out.size hb3⟩
  | false =>
    have HC := Aside0.mk (HE.out _ he)
    cases ok with
    | false =>
      have H := Aside0.mk (show refcoversB a b = false by rw [H0.out, he]; rfl)
      clear he
      go_wp2_with (go_at_call 34; refine (HC.out _).mono ?_; rintro e w3 ⟨rfl, hb3⟩)
      go_ret
      exact ⟨by rw [H.out]; rfl, below_then HB2.out HB2.out.size hb3⟩
    | true =>
      have H := Aside0.mk (show refcoversB a b = eqB x b by rw [H0.out, he]; rfl)
      clear he
      go_wp2_with (go_at_call 34; refine (HC.out _).mono ?_; rintro e w3 ⟨rfl, hb3⟩; refine Aside0.out ?_)
      refine Aside0.mk ?_
      have hx3 := (hb3.block _ HSZ.out).trans HX.out
      have hb13 := (hb3.block _ hs2).trans b12.out
      have HX3 := Aside0.mk (And.intro hx3 hb13)
      have HB3 := Aside0.mk (below_then HB2.out HB2.out.size hb3)
      clear hx3 hb13 hb3
      go_wp2_with (first
        | (refine gate_ (.load 29 (.tmp 5)) rfl ?_; refine gate_guard rfl ?_; refine wpList_load_row rfl 29 _ rfl w1.heap.size rfl 29 _ (0, 0) _ HX3.out.1 Try.underlying29 rfl (bc_info _) ?_)
        | (refine gate_ (.load 29 (.tmp 3)) rfl ?_; refine gate_guard rfl ?_; refine wpList_load_row rfl 29 _ rfl (w.heap.size + 1) rfl 29 _ (0, 0) _ HX3.out.2 Try.underlying29 rfl (bc_info _) ?_)
        | (refine gate_dst (N := 20) rfl ?_; refine wpList_eql29 rfl _ _ _ x b rfl rfl rfl ?_))
      go_ret
      exact ⟨by rw [H.out]; rfl, HB3.out⟩
end Go.Proofs.Ytcgcognejjpcmaa
