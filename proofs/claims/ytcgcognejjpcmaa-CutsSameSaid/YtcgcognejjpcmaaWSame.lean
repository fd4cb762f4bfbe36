/- The law CutsSame, walked: it answers true. -/
import Derived.Test.YtcgcognejjpcmaaPlain
import Derived.Maps.RangeWalk
namespace Go.Proofs.Ytcgcognejjpcmaa
open Go.RowKit Go.Proofs.YtcgcognejjpcmaaW.PrintWords
set_option linter.unusedVariables false
set_option linter.unusedSimpArgs false
attribute [local go_sem] Later.cell_eq


set_option maxRecDepth 100000 in
set_option maxHeartbeats 4000000 in
theorem cutsSame_any (a b : S29) (w : World) : Calls Try.prog 4 #[.agg (bc a), .agg (bc b)] w fun e w' => e = .returned (.bool true) ∧ Below w.heap.size w w' := by
  obtain ⟨⟨x, ok⟩, hmo⟩ : ∃ mo, mo = meetB a b := ⟨_, rfl⟩
  have C1 := Aside0.mk (fun W => show Calls Try.prog 19 #[.agg (bc a), .agg (bc b)] W (fun e w' => e = .returned (.tuple #[.agg (bc x), .bool ok]) ∧ Below W.heap.size W w') by have := meetBox_any a b W; rw [← hmo] at this; exact this)
  have C2 := Aside0.mk (fun W => show Calls Try.prog 19 #[.agg (bc b), .agg (bc a)] W (fun e w' => e = .returned (.tuple #[.agg (bc x), .bool ok]) ∧ Below W.heap.size W w') by have := meetBox_any b a W; rw [meetB_comm b a, ← hmo] at this; exact this)
  have C3 := Aside0.mk (fun W => show Calls Try.prog 20 #[.agg (bc a), .agg (bc b)] W (fun e w' => e = .returned (.tuple #[.agg (bc x), .bool ok]) ∧ Below W.heap.size W w') by have := refmeetBox_any a b W; rw [← hmo] at this; exact this)
  have C4 := Aside0.mk (fun (h : ok = true) W => show Calls Try.prog 16 #[.agg (bc a), .agg (bc x)] W (fun e w' => e = .returned (.bool true) ∧ Below W.heap.size W w') by have h1 := meet_covers (a := a) (b := b) (by rw [← hmo]; exact h); rw [← hmo] at h1; rw [← h1]; exact covers_any a x W)
  have C5 := Aside0.mk (fun (h : ok = true) W => show Calls Try.prog 16 #[.agg (bc b), .agg (bc x)] W (fun e w' => e = .returned (.bool true) ∧ Below W.heap.size W w') by have h1 := meet_covers (a := b) (b := a) (by rw [meetB_comm, ← hmo]; exact h); rw [meetB_comm, ← hmo] at h1; rw [← h1]; exact covers_any b x W)
  have C6 := Aside0.mk (fun (h : ok = true) W => show Calls Try.prog 21 #[.agg (bc x)] W (fun e w' => e = .returned (.bool false) ∧ Below W.heap.size W w') by have h1 := meet_full (a := a) (b := b) (by rw [← hmo]; exact h); rw [← hmo] at h1; rw [← h1]; exact empty_any x W)
  have HZ := Aside0.mk (show ok = false → x = z29 from fun h => by have h1 := meetB_none (a := a) (b := b) (by rw [← hmo]; exact h); rw [← hmo] at h1; exact h1)
  clear hmo
  have HE := Aside0.mk (eqB_self x)
  go_enter Try.func4, Try.ntmps4
  go_upto_region 1 with fail
  have S := Aside0.mk (((St.nil w).alloc (.cells (bc a) 29)).alloc (.cells (bc b) 29))
  simp only [World.size_alloc, List.nil_append, List.cons_append] at S
  generalize World.alloc _ _ = W0 at *
  cases ok with
  | false =>
    obtain rfl := HZ.out rfl
    go_wp2_with (first
      | (refine gate_ (.load 29 (.tmp 2)) rfl ?_; refine gate_guard rfl ?_; refine wpList_load_row rfl 29 _ rfl _ rfl 29 (bc a) (0, 0) _ (S.out.get 0 rfl) Try.underlying29 rfl (bc_info a) ?_)
      | (refine gate_ (.load 29 (.tmp 3)) rfl ?_; refine gate_guard rfl ?_; refine wpList_load_row rfl 29 _ rfl _ rfl 29 (bc b) (0, 0) _ (S.out.get 1 rfl) Try.underlying29 rfl (bc_info b) ?_)
      | (refine gate_ (.load 29 (.tmp 5)) rfl ?_; refine gate_guard rfl ?_; refine wpList_load_row rfl 29 _ rfl _ rfl 29 (bc z29) (0, 0) _ (S.out.get 2 rfl) Try.underlying29 rfl (bc_info z29) ?_)
      | (refine gate_ (.load 29 (.tmp 7)) rfl ?_; refine gate_guard rfl ?_; refine wpList_load_row rfl 29 _ rfl _ rfl 29 (bc z29) (0, 0) _ (S.out.get 3 rfl) Try.underlying29 rfl (bc_info z29) ?_)
      | (go_at_call 19; (with_reducible refine (C1.out _).mono ?_); rintro e w9 ⟨rfl, hb9⟩; replace S := Aside0.mk (S.out.call hb9); clear hb9)
      | (go_at_call 19; (with_reducible refine (C2.out _).mono ?_); rintro e w9 ⟨rfl, hb9⟩; replace S := Aside0.mk (S.out.call hb9); clear hb9)
      | (go_at_call 20; (with_reducible refine (C3.out _).mono ?_); rintro e w9 ⟨rfl, hb9⟩; replace S := Aside0.mk (S.out.call hb9); clear hb9)
      | (refine gate_ (.store 29 (.tmp 5) (.tmp 15)) rfl ?_; refine wpList_store_all rfl 29 _ _ rfl _ (bc z29) _ _ rfl rfl (heap_alloc_new _ _) rfl (bc_info z29) (bc_one z29) ?_; intro w3 hb3 hg3 hz3; replace S := Aside0.mk (S.out.made hg3 hb3); clear hb3 hg3 hz3)
      | (refine gate_ (.store 29 (.tmp 7) (.tmp 21)) rfl ?_; refine wpList_store_all rfl 29 _ _ rfl _ (bc z29) _ _ rfl rfl (heap_alloc_new _ _) rfl (bc_info z29) (bc_one z29) ?_; intro w3 hb3 hg3 hz3; replace S := Aside0.mk (S.out.made hg3 hb3); clear hb3 hg3 hz3)
      | (refine gate_ (.store 29 (.tmp 9) (.tmp 27)) rfl ?_; refine wpList_store_all rfl 29 _ _ rfl _ (bc z29) _ _ rfl rfl (heap_alloc_new _ _) rfl (bc_info z29) (bc_one z29) ?_; intro w3 hb3 hg3 hz3; replace S := Aside0.mk (S.out.made hg3 hb3); clear hb3 hg3 hz3)
      | (refine gate_dst (N := 31) rfl ?_; refine wpList_neq29 rfl _ _ _ z29 z29 rfl rfl rfl ?_; rw [HE.out])
      | (refine gate_dst (N := 45) rfl ?_; refine wpList_buildTo rfl 29 _ rfl (some 45) rfl (bc z29) rfl ?_)
      | (refine gate_dst (N := 46) rfl ?_; refine wpList_eql29 rfl _ _ _ z29 z29 rfl rfl rfl ?_; rw [HE.out]))
    go_ret
    exact ⟨rfl, S.out.below⟩
  | true =>
    have D4 := Aside0.mk (C4.out rfl)
    have D5 := Aside0.mk (C5.out rfl)
    have D6 := Aside0.mk (C6.out rfl)
    clear C4 C5 C6
    go_wp2_with (first
      | (refine gate_ (.load 29 (.tmp 2)) rfl ?_; refine gate_guard rfl ?_; refine wpList_load_row rfl 29 _ rfl _ rfl 29 (bc a) (0, 0) _ (S.out.get 0 rfl) Try.underlying29 rfl (bc_info a) ?_)
      | (refine gate_ (.load 29 (.tmp 3)) rfl ?_; refine gate_guard rfl ?_; refine wpList_load_row rfl 29 _ rfl _ rfl 29 (bc b) (0, 0) _ (S.out.get 1 rfl) Try.underlying29 rfl (bc_info b) ?_)
      | (refine gate_ (.load 29 (.tmp 5)) rfl ?_; refine gate_guard rfl ?_; refine wpList_load_row rfl 29 _ rfl _ rfl 29 (bc x) (0, 0) _ (S.out.get 2 rfl) Try.underlying29 rfl (bc_info x) ?_)
      | (refine gate_ (.load 29 (.tmp 7)) rfl ?_; refine gate_guard rfl ?_; refine wpList_load_row rfl 29 _ rfl _ rfl 29 (bc x) (0, 0) _ (S.out.get 3 rfl) Try.underlying29 rfl (bc_info x) ?_)
      | (go_at_call 19; (with_reducible refine (C1.out _).mono ?_); rintro e w9 ⟨rfl, hb9⟩; replace S := Aside0.mk (S.out.call hb9); clear hb9)
      | (go_at_call 19; (with_reducible refine (C2.out _).mono ?_); rintro e w9 ⟨rfl, hb9⟩; replace S := Aside0.mk (S.out.call hb9); clear hb9)
      | (go_at_call 20; (with_reducible refine (C3.out _).mono ?_); rintro e w9 ⟨rfl, hb9⟩; replace S := Aside0.mk (S.out.call hb9); clear hb9)
      | (go_at_call 16; (with_reducible refine (D4.out _).mono ?_); rintro e w9 ⟨rfl, hb9⟩; replace S := Aside0.mk (S.out.call hb9); clear hb9)
      | (go_at_call 16; (with_reducible refine (D5.out _).mono ?_); rintro e w9 ⟨rfl, hb9⟩; replace S := Aside0.mk (S.out.call hb9); clear hb9)
      | (go_at_call 21; (with_reducible refine (D6.out _).mono ?_); rintro e w9 ⟨rfl, hb9⟩; replace S := Aside0.mk (S.out.call hb9); clear hb9)
      | (refine gate_ (.store 29 (.tmp 5) (.tmp 15)) rfl ?_; refine wpList_store_all rfl 29 _ _ rfl _ (bc x) _ _ rfl rfl (heap_alloc_new _ _) rfl (bc_info x) (bc_one x) ?_; intro w3 hb3 hg3 hz3; replace S := Aside0.mk (S.out.made hg3 hb3); clear hb3 hg3 hz3)
      | (refine gate_ (.store 29 (.tmp 7) (.tmp 21)) rfl ?_; refine wpList_store_all rfl 29 _ _ rfl _ (bc x) _ _ rfl rfl (heap_alloc_new _ _) rfl (bc_info x) (bc_one x) ?_; intro w3 hb3 hg3 hz3; replace S := Aside0.mk (S.out.made hg3 hb3); clear hb3 hg3 hz3)
      | (refine gate_ (.store 29 (.tmp 9) (.tmp 27)) rfl ?_; refine wpList_store_all rfl 29 _ _ rfl _ (bc x) _ _ rfl rfl (heap_alloc_new _ _) rfl (bc_info x) (bc_one x) ?_; intro w3 hb3 hg3 hz3; replace S := Aside0.mk (S.out.made hg3 hb3); clear hb3 hg3 hz3)
      | (refine gate_dst (N := 31) rfl ?_; refine wpList_neq29 rfl _ _ _ x x rfl rfl rfl ?_; rw [HE.out]))
    go_ret
    exact ⟨rfl, S.out.below⟩
end Go.Proofs.Ytcgcognejjpcmaa
