/- The law CutsHalves, walked: it answers true. -/
import Derived.Test.YtcgcognejjpcmaaRefSplit
import Derived.Test.YtcgcognejjpcmaaHalves
import Derived.Test.YtcgcognejjpcmaaWGuard
namespace Go.Proofs.Ytcgcognejjpcmaa
open Go.RowKit Go.Proofs.YtcgcognejjpcmaaW.PrintWords
set_option linter.unusedVariables false
set_option linter.unusedSimpArgs false
attribute [local go_sem] Later.cell_eq


set_option maxRecDepth 100000 in
set_option maxHeartbeats 4000000 in
theorem cutsHalves_any (b : S29) (f : Int) (a : S24) (p : S54) (ha : FitA a) (hb : FitB b) (hp : FitP p) (w : World) : Calls Try.prog 6 #[.agg (bc b), .int .i64 f, .agg #[.int .u64 a.f0, .int .u64 a.f1], .agg (pc p)] w fun e w' =>
    e = .returned (.bool true) ∧ Below w.heap.size w w' := by
  have HL := Aside0.mk (fun h => halves_law (f := f) ha hb hp h)
  have HN := Aside0.mk (fun h => split_no (b := b) (f := f) (a := a) h)
  obtain ⟨ok, hok⟩ : ∃ ok, splitOk b f a = ok := ⟨_, rfl⟩
  have H2 : (splitB b f a).2.2 = ok := by unfold splitB; rw [hok]; cases ok <;> rfl
  obtain ⟨⟨lo, hi, ok'⟩, hs⟩ : ∃ r, splitB b f a = r := ⟨_, rfl⟩
  obtain rfl : ok' = ok := by rw [← H2, hs]
  clear H2
  have C28 := Aside0.mk (fun W => show Calls Try.prog 28 #[.agg (bc b), .int .i64 f, .agg #[.int .u64 a.f0, .int .u64 a.f1]] W (fun e w' => e = .returned (.tuple #[.agg (bc lo), .agg (bc hi), .bool ok']) ∧ Below W.heap.size W w') by have := split_any b f a ha W; rw [hs] at this; exact this)
  have C29 := Aside0.mk (fun W => show Calls Try.prog 29 #[.agg (bc b), .int .i64 f, .agg #[.int .u64 a.f0, .int .u64 a.f1]] W (fun e w' => e = .returned (.tuple #[.agg (bc lo), .agg (bc hi), .bool ok']) ∧ Below W.heap.size W w') by have := refsplit_any b f a ha W; rw [hs] at this; exact this)
  rw [hs] at HL HN
  have HOK := Aside0.mk hok
  clear hok hs ha hb hp
  go_enter Try.func6, Try.ntmps6
  go_upto_region 1 with fail
  have S := Aside0.mk ((((St.nil w).alloc (.cells (bc b) 29)).alloc (.cells #[.int .u64 a.f0, .int .u64 a.f1] 24)).alloc (.cells (pc p) 54))
  simp only [World.size_alloc, List.nil_append, List.cons_append] at S
  generalize World.alloc _ _ = W0 at *
  go_upto_region 2 with (first
    | (refine gate_ (.load 29 (.tmp 4)) rfl ?_; (first | refine gate_none rfl ?_ | refine gate_if rfl rfl rfl ?_); refine wpList_load_row rfl 29 _ rfl _ rfl 29 (bc b) (0, 0) _ (S.out.get 0 rfl) Try.underlying29 rfl (bc_info _) ?_)
    | (refine gate_ (.load 24 (.tmp 6)) rfl ?_; (first | refine gate_none rfl ?_ | refine gate_if rfl rfl rfl ?_); refine wpList_load_row rfl 24 _ rfl _ rfl 24 (#[.int .u64 a.f0, .int .u64 a.f1]) (0, 0) _ (S.out.get 1 rfl) Try.underlying24 rfl (by kernel_rfl) ?_)
    | (go_at_call 28; (with_reducible refine (C28.out _).mono ?_); rintro e w9 ⟨rfl, hb9⟩; replace S := Aside0.mk (S.out.call hb9); clear hb9)
    | (refine gate_ (.store 29 (.tmp 9) (.tmp 22)) rfl ?_; refine wpList_store_all rfl 29 _ _ rfl _ (bc lo) _ _ rfl rfl two_old rfl (bc_info _) (bc_one _) ?_; intro w6 hb6 hg6 hz6; have H6 := Aside0.mk (And.intro hg6 hb6); clear hb6 hg6 hz6)
    | (refine gate_ (.store 29 (.tmp 10) (.tmp 23)) rfl ?_; refine wpList_store_all rfl 29 _ _ rfl _ (bc hi) _ _ rfl rfl (two_new H6.out.1) rfl (bc_info _) (bc_one _) ?_; intro w7 hb7 hg7 hz7; replace S := Aside0.mk (S.out.made_two H6.out.1 H6.out.2 hg7 hb7); clear hb7 hg7 hz7 H6)
    | fail)
  simp only [List.cons_append, List.nil_append] at S
  go_upto_region 3 with (first
    | (refine gate_ (.load 29 (.tmp 4)) rfl ?_; (first | refine gate_none rfl ?_ | refine gate_if rfl rfl rfl ?_); refine wpList_load_row rfl 29 _ rfl _ rfl 29 (bc b) (0, 0) _ (S.out.get 0 rfl) Try.underlying29 rfl (bc_info _) ?_)
    | (refine gate_ (.load 24 (.tmp 6)) rfl ?_; (first | refine gate_none rfl ?_ | refine gate_if rfl rfl rfl ?_); refine wpList_load_row rfl 24 _ rfl _ rfl 24 (#[.int .u64 a.f0, .int .u64 a.f1]) (0, 0) _ (S.out.get 1 rfl) Try.underlying24 rfl (by kernel_rfl) ?_)
    | (go_at_call 29; (with_reducible refine (C29.out _).mono ?_); rintro e w9 ⟨rfl, hb9⟩; replace S := Aside0.mk (S.out.call hb9); clear hb9)
    | (refine gate_ (.store 29 (.tmp 12) (.tmp 30)) rfl ?_; refine wpList_store_all rfl 29 _ _ rfl _ (bc lo) _ _ rfl rfl two_old rfl (bc_info _) (bc_one _) ?_; intro w6 hb6 hg6 hz6; have H6 := Aside0.mk (And.intro hg6 hb6); clear hb6 hg6 hz6)
    | (refine gate_ (.store 29 (.tmp 13) (.tmp 31)) rfl ?_; refine wpList_store_all rfl 29 _ _ rfl _ (bc hi) _ _ rfl rfl (two_new H6.out.1) rfl (bc_info _) (bc_one _) ?_; intro w7 hb7 hg7 hz7; replace S := Aside0.mk (S.out.made_two H6.out.1 H6.out.2 hg7 hb7); clear hb7 hg7 hz7 H6)
    | fail)
  simp only [List.cons_append, List.nil_append] at S
  cases ok' with
  | false =>
    have hz := HN.out HOK.out
    obtain rfl : lo = z29 := congrArg (·.1) hz
    obtain rfl : hi = z29 := congrArg (·.2.1) hz
    clear hz
    have HE := Aside0.mk (eqB_self z29)
    go_wp2_with (first
      | (refine gate_ (.load 29 (.tmp 9)) rfl ?_; (first | refine gate_none rfl ?_ | refine gate_if rfl rfl rfl ?_); refine wpList_load_row rfl 29 _ rfl _ rfl 29 (bc z29) (0, 0) _ (S.out.get 3 rfl) Try.underlying29 rfl (bc_info _) ?_)
      | (refine gate_ (.load 29 (.tmp 10)) rfl ?_; (first | refine gate_none rfl ?_ | refine gate_if rfl rfl rfl ?_); refine wpList_load_row rfl 29 _ rfl _ rfl 29 (bc z29) (0, 0) _ (S.out.get 4 rfl) Try.underlying29 rfl (bc_info _) ?_)
      | (refine gate_dst (N := 40) rfl ?_; refine wpList_eql29 rfl _ _ _ z29 z29 rfl rfl rfl ?_; rw [HE.out])
      | (refine gate_dst (N := 44) rfl ?_; refine wpList_eql29 rfl _ _ _ z29 z29 rfl rfl rfl ?_; rw [HE.out])
      | fail)
    go_ret
    exact ⟨rfl, S.out.below⟩
  | true =>
    obtain ⟨h1, h2, h3, h4⟩ := HL.out HOK.out
    replace h1 : (hasP lo p && hasP hi p) = false := h1
    replace h2 : (hasP lo p || hasP hi p) = hasP b p := h2
    replace h3 : coversB b lo = true := h3
    replace h4 : coversB b hi = true := h4
    obtain ⟨x, hx⟩ : ∃ x, hasP lo p = x := ⟨_, rfl⟩
    obtain ⟨y, hy⟩ : ∃ y, hasP hi p = y := ⟨_, rfl⟩
    obtain ⟨z, hz⟩ : ∃ z, hasP b p = z := ⟨_, rfl⟩
    rw [hx, hy] at h1
    rw [hx, hy, hz] at h2
    have K1 := Aside0.mk (fun W => show Calls Try.prog 30 #[.agg (bc lo), .agg (pc p)] W (fun e w' => e = .returned (.bool x) ∧ Below W.heap.size W w') by rw [← hx]; exact hasPoint_any lo p W)
    have K2 := Aside0.mk (fun W => show Calls Try.prog 30 #[.agg (bc hi), .agg (pc p)] W (fun e w' => e = .returned (.bool y) ∧ Below W.heap.size W w') by rw [← hy]; exact hasPoint_any hi p W)
    have K3 := Aside0.mk (fun W => show Calls Try.prog 31 #[.agg (bc b), .agg (pc p)] W (fun e w' => e = .returned (.bool z) ∧ Below W.heap.size W w') by rw [← hz]; exact refhasPoint_any b p W)
    have K4 := Aside0.mk (fun W => show Calls Try.prog 16 #[.agg (bc b), .agg (bc lo)] W (fun e w' => e = .returned (.bool true) ∧ Below W.heap.size W w') by rw [← h3]; exact covers_any b lo W)
    have K5 := Aside0.mk (fun W => show Calls Try.prog 16 #[.agg (bc b), .agg (bc hi)] W (fun e w' => e = .returned (.bool true) ∧ Below W.heap.size W w') by rw [← h4]; exact covers_any b hi W)
    subst h2
    clear h3 h4 hx hy hz HL HN HOK C28 C29
    go_upto_region 8 with (first
      | (refine gate_ (.load 29 (.tmp 9)) rfl ?_; (first | refine gate_none rfl ?_ | refine gate_if rfl rfl rfl ?_); refine wpList_load_row rfl 29 _ rfl _ rfl 29 (bc lo) (0, 0) _ (S.out.get 3 rfl) Try.underlying29 rfl (bc_info _) ?_)
      | (refine gate_ (.load 54 (.tmp 7)) rfl ?_; (first | refine gate_none rfl ?_ | refine gate_if rfl rfl rfl ?_); refine wpList_load_row rfl 54 _ rfl _ rfl 54 (pc p) (0, 0) _ (S.out.get 2 rfl) Try.underlying54 rfl (pc_info _) ?_)
      | (go_at_call 30; (with_reducible refine (K1.out _).mono ?_); rintro e w9 ⟨rfl, hb9⟩; replace S := Aside0.mk (S.out.call hb9); clear hb9)
      | fail)
    go_upto_region 9 with (first
      | (refine gate_ (.load 29 (.tmp 10)) rfl ?_; (first | refine gate_none rfl ?_ | refine gate_if rfl rfl rfl ?_); refine wpList_load_row rfl 29 _ rfl _ rfl 29 (bc hi) (0, 0) _ (S.out.get 4 rfl) Try.underlying29 rfl (bc_info _) ?_)
      | (refine gate_ (.load 54 (.tmp 7)) rfl ?_; (first | refine gate_none rfl ?_ | refine gate_if rfl rfl rfl ?_); refine wpList_load_row rfl 54 _ rfl _ rfl 54 (pc p) (0, 0) _ (S.out.get 2 rfl) Try.underlying54 rfl (pc_info _) ?_)
      | (go_at_call 30; (with_reducible refine (K2.out _).mono ?_); rintro e w9 ⟨rfl, hb9⟩; replace S := Aside0.mk (S.out.call hb9); clear hb9)
      | fail)
    cases x <;> cases y <;> first | (exact absurd h1 (by decide)) | skip
    all_goals
      go_wp2_with (first
        | (refine gate_ (.load 29 (.tmp 4)) rfl ?_; (first | refine gate_none rfl ?_ | refine gate_if rfl rfl rfl ?_); refine wpList_load_row rfl 29 _ rfl _ rfl 29 (bc b) (0, 0) _ (S.out.get 0 rfl) Try.underlying29 rfl (bc_info _) ?_)
        | (refine gate_ (.load 29 (.tmp 9)) rfl ?_; (first | refine gate_none rfl ?_ | refine gate_if rfl rfl rfl ?_); refine wpList_load_row rfl 29 _ rfl _ rfl 29 (bc lo) (0, 0) _ (S.out.get 3 rfl) Try.underlying29 rfl (bc_info _) ?_)
        | (refine gate_ (.load 29 (.tmp 10)) rfl ?_; (first | refine gate_none rfl ?_ | refine gate_if rfl rfl rfl ?_); refine wpList_load_row rfl 29 _ rfl _ rfl 29 (bc hi) (0, 0) _ (S.out.get 4 rfl) Try.underlying29 rfl (bc_info _) ?_)
        | (refine gate_ (.load 54 (.tmp 7)) rfl ?_; (first | refine gate_none rfl ?_ | refine gate_if rfl rfl rfl ?_); refine wpList_load_row rfl 54 _ rfl _ rfl 54 (pc p) (0, 0) _ (S.out.get 2 rfl) Try.underlying54 rfl (pc_info _) ?_)
        | (go_at_call 31; (with_reducible refine (K3.out _).mono ?_); rintro e w9 ⟨rfl, hb9⟩; replace S := Aside0.mk (S.out.call hb9); clear hb9)
        | (go_at_call 16; (with_reducible refine (K4.out _).mono ?_); rintro e w9 ⟨rfl, hb9⟩; replace S := Aside0.mk (S.out.call hb9); clear hb9)
        | (go_at_call 16; (with_reducible refine (K5.out _).mono ?_); rintro e w9 ⟨rfl, hb9⟩; replace S := Aside0.mk (S.out.call hb9); clear hb9)
        | fail)
      go_ret
      exact ⟨rfl, S.out.below⟩
end Go.Proofs.Ytcgcognejjpcmaa
