/- The law CutsMeets, walked: it answers true. -/
import Derived.Test.YtcgcognejjpcmaaPlain
import Derived.Maps.RangeWalk
namespace Go.Proofs.Ytcgcognejjpcmaa
open Go.RowKit Go.Proofs.YtcgcognejjpcmaaW.PrintWords
set_option linter.unusedVariables false
set_option linter.unusedSimpArgs false
attribute [local go_sem] Later.cell_eq


set_option maxRecDepth 100000 in
set_option maxHeartbeats 8000000 in
theorem cutsMeets_any (a b : S29) (p : S54) (hp : ∀ k, k < 6 → okA (nr p k)) (w : World) : Calls Try.prog 9 #[.agg (bc a), .agg (bc b), .agg (pc p)] w fun e w' => e = .returned (.bool true) ∧ Below w.heap.size w w' := by
  obtain ⟨⟨x, ok⟩, hmo⟩ : ∃ mo, mo = meetB a b := ⟨_, rfl⟩
  obtain ⟨pa, hpa⟩ : ∃ v, v = hasP a p := ⟨_, rfl⟩
  obtain ⟨pb, hpb⟩ : ∃ v, v = hasP b p := ⟨_, rfl⟩
  obtain ⟨px, hpx⟩ : ∃ v, v = hasP x p := ⟨_, rfl⟩
  obtain ⟨cv, hcv⟩ : ∃ v, v = coversB a b := ⟨_, rfl⟩
  have C0 := Aside0.mk (fun W => show Calls Try.prog 30 #[.agg (bc fullB), .agg (pc p)] W (fun e w' => e = .returned (.bool true) ∧ Below W.heap.size W w') by rw [← full_has hp]; exact hasPoint_any fullB p W)
  have C1 := Aside0.mk (fun W => show Calls Try.prog 19 #[.agg (bc a), .agg (bc b)] W (fun e w' => e = .returned (.tuple #[.agg (bc x), .bool ok]) ∧ Below W.heap.size W w') by have := meetBox_any a b W; rw [← hmo] at this; exact this)
  have C2 := Aside0.mk (fun W => show Calls Try.prog 30 #[.agg (bc a), .agg (pc p)] W (fun e w' => e = .returned (.bool pa) ∧ Below W.heap.size W w') by rw [hpa]; exact hasPoint_any a p W)
  have C3 := Aside0.mk (fun W => show Calls Try.prog 30 #[.agg (bc b), .agg (pc p)] W (fun e w' => e = .returned (.bool pb) ∧ Below W.heap.size W w') by rw [hpb]; exact hasPoint_any b p W)
  have C4 := Aside0.mk (fun W => show Calls Try.prog 31 #[.agg (bc a), .agg (pc p)] W (fun e w' => e = .returned (.bool pa) ∧ Below W.heap.size W w') by rw [hpa]; exact refhasPoint_any a p W)
  have C5 := Aside0.mk (fun W => show Calls Try.prog 31 #[.agg (bc b), .agg (pc p)] W (fun e w' => e = .returned (.bool pb) ∧ Below W.heap.size W w') by rw [hpb]; exact refhasPoint_any b p W)
  have C6 := Aside0.mk (fun W => show Calls Try.prog 30 #[.agg (bc x), .agg (pc p)] W (fun e w' => e = .returned (.bool px) ∧ Below W.heap.size W w') by rw [hpx]; exact hasPoint_any x p W)
  have C7 := Aside0.mk (fun W => show Calls Try.prog 16 #[.agg (bc a), .agg (bc b)] W (fun e w' => e = .returned (.bool cv) ∧ Below W.heap.size W w') by rw [hcv]; exact covers_any a b W)
  have HZ := Aside0.mk (show (ok && px) = (pa && pb) by have := meet_points a b p; rw [← hmo, ← hpa, ← hpb, ← hpx] at this; exact this)
  have HC := Aside0.mk (show cv = true → pb = true → pa = true from fun h1 h2 => by rw [hpa]; exact covers_points (hcv ▸ h1) (hpb ▸ h2))
  clear hmo hpa hpb hpx hcv hp
  go_enter Try.func9, Try.ntmps9
  go_upto_region 1 with fail
  have S := Aside0.mk ((((St.nil w).alloc (.cells (bc a) 29)).alloc (.cells (bc b) 29)).alloc (.cells (pc p) 54))
  simp only [World.size_alloc, List.nil_append, List.cons_append] at S
  generalize World.alloc _ _ = W0 at *
  refine wp_region_later (by kernel_rfl) (by kernel_rfl) ?_
  repeat (first
    | (refine quiet_load_row 54 (.tmp 5) rfl rfl _ (pc p) 54 (0, 0) _ rfl (fun w' hw' => by obtain ⟨q, rfl⟩ := hw'; exact q.blk (S.out.get 2 rfl)) Try.underlying54 rfl (pc_info p) ?_; go_frame)
    | go_big_quiet_step ((first | (go_at_call 18; with_reducible exact later_of (full_any _)) | (go_at_call 30; with_reducible exact later_of (C0.out _)))))
  refine wpQuiet_nil ?_
  intro w1 hw1
  replace S := Aside0.mk (S.out.call (later_below hw1))
  clear hw1
  cases pa <;> cases pb <;> cases ok <;> cases px <;> cases cv
  all_goals try (exact absurd HZ.out (by decide))
  all_goals try (exact absurd HC.out (by decide))
  all_goals
    go_wp2_with (first
      | (refine gate_ (.load 29 (.tmp 3)) rfl ?_; refine gate_guard rfl ?_; refine wpList_load_row rfl 29 _ rfl _ rfl 29 (bc a) (0, 0) _ (S.out.get 0 rfl) Try.underlying29 rfl (bc_info a) ?_)
      | (refine gate_ (.load 29 (.tmp 4)) rfl ?_; refine gate_guard rfl ?_; refine wpList_load_row rfl 29 _ rfl _ rfl 29 (bc b) (0, 0) _ (S.out.get 1 rfl) Try.underlying29 rfl (bc_info b) ?_)
      | (refine gate_ (.load 29 (.tmp 7)) rfl ?_; refine gate_guard rfl ?_; refine wpList_load_row rfl 29 _ rfl _ rfl 29 (bc x) (0, 0) _ (S.out.get 3 rfl) Try.underlying29 rfl (bc_info x) ?_)
      | (refine gate_ (.load 54 (.tmp 5)) rfl ?_; refine gate_guard rfl ?_; refine wpList_load_row rfl 54 _ rfl _ rfl 54 (pc p) (0, 0) _ (S.out.get 2 rfl) Try.underlying54 rfl (pc_info p) ?_)
      | (go_at_call 19; (with_reducible refine (C1.out _).mono ?_); rintro e w9 ⟨rfl, hb9⟩; replace S := Aside0.mk (S.out.call hb9); clear hb9)
      | (go_at_call 16; (with_reducible refine (C7.out _).mono ?_); rintro e w9 ⟨rfl, hb9⟩; replace S := Aside0.mk (S.out.call hb9); clear hb9)
      | (go_at_call 30; (with_reducible refine (C2.out _).mono ?_); rintro e w9 ⟨rfl, hb9⟩; replace S := Aside0.mk (S.out.call hb9); clear hb9)
      | (go_at_call 30; (with_reducible refine (C3.out _).mono ?_); rintro e w9 ⟨rfl, hb9⟩; replace S := Aside0.mk (S.out.call hb9); clear hb9)
      | (go_at_call 30; (with_reducible refine (C6.out _).mono ?_); rintro e w9 ⟨rfl, hb9⟩; replace S := Aside0.mk (S.out.call hb9); clear hb9)
      | (go_at_call 31; (with_reducible refine (C4.out _).mono ?_); rintro e w9 ⟨rfl, hb9⟩; replace S := Aside0.mk (S.out.call hb9); clear hb9)
      | (go_at_call 31; (with_reducible refine (C5.out _).mono ?_); rintro e w9 ⟨rfl, hb9⟩; replace S := Aside0.mk (S.out.call hb9); clear hb9)
      | (refine gate_ (.store 29 (.tmp 7) (.tmp 18)) rfl ?_; refine wpList_store_all rfl 29 _ _ rfl _ (bc x) _ _ rfl rfl (heap_alloc_new _ _) rfl (bc_info x) (bc_one x) ?_; intro w3 hb3 hg3 hz3; replace S := Aside0.mk (S.out.made hg3 hb3); clear hb3 hg3 hz3)
      | fail)
    go_ret
    exact ⟨rfl, S.out.below⟩
end Go.Proofs.Ytcgcognejjpcmaa
