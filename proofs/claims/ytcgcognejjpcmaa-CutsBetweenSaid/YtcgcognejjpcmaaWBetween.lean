/- The law CutsBetween, walked: it answers true. -/
import Derived.Test.YtcgcognejjpcmaaRefPoints
import Derived.Test.YtcgcognejjpcmaaBetween
import Derived.Test.YtcgcognejjpcmaaWGuard
namespace Go.Proofs.Ytcgcognejjpcmaa
open Go.RowKit Go.Proofs.YtcgcognejjpcmaaW.PrintWords
set_option linter.unusedVariables false
set_option linter.unusedSimpArgs false
attribute [local go_sem] Later.cell_eq

theorem both_pts (l : List S38) (b : S29) (f : Int) : refF l b f = ptsF l b f := by
  unfold refF ptsF
  split
  · exact (points_same _).symm
  · rfl
theorem le_dec {x y : S24} : decide (cmpA x y ≤ 0) = true ↔ leA x y := by
  rw [decide_eq_true_iff]
  constructor
  · intro h
    exact Classical.byContradiction fun h' => by have := cmp_pos.2 h'; omega
  · intro h
    have := mt cmp_pos.1 (not_not_intro h)
    omega
theorem no_succ {T : List S24} {u v : S24} {i : Nat} (h : ∀ j, j < i → ¬ (leA u (T.getD j z24) ∧ ltA (T.getD j z24) v)) (h1 : ¬ (leA u (T.getD i z24) ∧ ltA (T.getD i z24) v)) : ∀ j, j < i + 1 → ¬ (leA u (T.getD j z24) ∧ ltA (T.getD j z24) v) := fun j hj => by
  rcases Nat.lt_or_ge j i with h' | h'
  · exact h j h'
  · obtain rfl : j = i := by omega
    exact h1
theorem no_mem {T : List S24} {u v : S24} (h : ∀ j, j < T.length → ¬ (leA u (T.getD j z24) ∧ ltA (T.getD j z24) v)) : ∀ c ∈ T, ¬ (leA u c ∧ ltA c v) := fun c hc => by
  obtain ⟨j, hj, rfl⟩ := List.getElem_of_mem hc
  have := h j hj
  rwa [List.getD_eq_getElem?_getD, List.getElem?_eq_getElem hj] at this

set_option maxRecDepth 100000 in
set_option maxHeartbeats 16000000 in
theorem cutsBetween_any (l : List S38) (A : Option Addr) (cap : Nat) (b : S29) (f : Int) (p q : S24) (hp : FitA p) (hq : FitA q) (hfit : ∀ e ∈ l, FitB e.f0) (w : World) (hC : k38.C w A l.length l) : Calls Try.prog 10 #[.slice A l.length cap, .agg (bc b), .int .i64 f, .agg #[.int .u64 p.f0, .int .u64 p.f1], .agg #[.int .u64 q.f0, .int .u64 q.f1]] w fun e w' =>
    e = .returned (.bool true) ∧ Below w.heap.size w w' := by
  have HC := Aside0.mk hC
  have HFT := Aside0.mk hfit
  have HFP := Aside0.mk hp
  have HFQ := Aside0.mk hq
  have hmax : l.length ≤ 9223372036854775807 := Kd.C_max hC
  clear hC hfit hp hq
  go_enter Try.func10, Try.ntmps10
  go_upto_region 1 with fail
  have S := Aside0.mk ((((St.nil w).alloc (.cells (bc b) 29)).alloc (.cells #[.int .u64 p.f0, .int .u64 p.f1] 24)).alloc (.cells #[.int .u64 q.f0, .int .u64 q.f1] 24))
  simp only [World.size_alloc, List.nil_append, List.cons_append] at S
  generalize World.alloc _ _ = W0 at *
  by_cases hmore : (512 : Int) < l.length
  · have hd : decide ((512 : Int) < l.length) = true := by simpa using hmore
    go_wp2_with fail
    go_ret
    exact ⟨rfl, S.out.below⟩
  have hd : decide ((512 : Int) < l.length) = false := by simpa using hmore
  have HL := Aside0.mk (show l.length ≤ 512 by omega)
  clear hmore
  by_cases h0 : f < 0
  · have hd0 : decide (f < 0) = true := by simpa using h0
    go_wp2_with fail
    go_ret
    exact ⟨rfl, S.out.below⟩
  by_cases h6 : 6 ≤ f
  · have hd0 : decide (f < 0) = false := by simpa using h0
    have hd6 : decide (6 ≤ f) = true := by simpa using h6
    go_wp2_with fail
    go_ret
    exact ⟨rfl, S.out.below⟩
  obtain ⟨k, rfl⟩ : ∃ k : Nat, f = k := ⟨f.toNat, by omega⟩
  have hk : k < 6 := by omega
  have hd0 : decide ((k : Int) < 0) = false := decide_eq_false h0
  have hd6 : decide ((6 : Int) ≤ k) = false := decide_eq_false h6
  obtain ⟨T, hT⟩ : ∃ T, ptsF l b (k : Int) = T := ⟨_, rfl⟩
  have CP := Aside0.mk (fun W (hC : k38.C W A l.length l) => show Calls Try.prog 40 #[.slice A l.length cap, .agg (bc b), .int .i64 k] W (RowPost T W) by rw [← hT]; exact points_any l A cap b k W hC HFT.out (by have := HL.out; omega))
  have CR := Aside0.mk (fun W (hC : k38.C W A l.length l) => show Calls Try.prog 41 #[.slice A l.length cap, .agg (bc b), .int .i64 k] W (RowPost T W) by rw [← hT, ← both_pts]; exact refpoints_any l A cap b k W hC HFT.out (by have := HL.out; omega))
  have HTT := Aside0.mk hT
  clear hT
  obtain ⟨dl, hdl⟩ : ∃ c, decide (cmpA q p < 0) = c := ⟨_, rfl⟩
  have CL := Aside0.mk (fun W => show Calls Try.prog 38 #[.agg #[.int .u64 q.f0, .int .u64 q.f1], .agg #[.int .u64 p.f0, .int .u64 p.f1]] W (fun e w' => e = .returned (.bool dl) ∧ Below W.heap.size W w') by have := less_any q.f0 q.f1 p.f0 p.f1 W; rw [hdl] at this; exact this)
  have HDL := Aside0.mk hdl
  clear hdl
  go_upto_region 3 with fail
  cases dl with
  | false =>
    have HUV : leA p q := Classical.byContradiction fun h => by have := decide_eq_true (cmp_neg.2 h); rw [HDL.out] at this; cases this
    have FU := HFP.out
    clear HDL HFP HFQ
    go_upto_region 7 with (first
      | (refine gate_ (.load 24 (.tmp 9)) rfl ?_; refine wpList_load_row rfl 24 _ rfl _ rfl 24 #[.int .u64 q.f0, .int .u64 q.f1] (0, 0) _ (S.out.get 2 rfl) Try.underlying24 rfl (by kernel_rfl) ?_)
      | (refine gate_ (.load 24 (.tmp 8)) rfl ?_; refine wpList_load_row rfl 24 _ rfl _ rfl 24 #[.int .u64 p.f0, .int .u64 p.f1] (0, 0) _ (S.out.get 1 rfl) Try.underlying24 rfl (by kernel_rfl) ?_)
      | (go_at_call 38; (with_reducible refine (CL.out _).mono ?_); rintro e9 w9 ⟨rfl, hb9⟩; replace S := Aside0.mk (S.out.call hb9); clear hb9)
      | fail)
    clear CL
    have HW := Aside0.mk (fun e (he : e ∈ l) (hm : (meetB e.f0 b).2 = true) h1 h2 h3 => between_law (b := b) hk FU (HFT.out e he) he hm HUV h1 h2 h3)
    obtain ⟨bu, hbu⟩ : ∃ c, hasR (rg b k) p = c := ⟨_, rfl⟩
    obtain ⟨bv, hbv⟩ : ∃ c, hasR (rg b k) q = c := ⟨_, rfl⟩
    have CU := Aside0.mk (fun W => show Calls Try.prog 39 #[.agg (RC (rg b k)), .agg #[.int .u64 p.f0, .int .u64 p.f1]] W (fun e w' => e = .returned (.bool bu) ∧ Below W.heap.size W w') by rw [← hbu]; exact refhas_any _ _ _ _ _ _ W)
    have CV := Aside0.mk (fun W => show Calls Try.prog 39 #[.agg (RC (rg b k)), .agg #[.int .u64 q.f0, .int .u64 q.f1]] W (fun e w' => e = .returned (.bool bv) ∧ Below W.heap.size W w') by rw [← hbv]; exact refhas_any _ _ _ _ _ _ W)
    have HBU := Aside0.mk hbu
    have HBV := Aside0.mk hbv
    clear hbu hbv FU HUV
    go_upto_region 7 with fail
    cases bu with
    | false =>
      refine wp_region_later (by kernel_rfl) (by kernel_rfl) ?_
      repeat (first
        | go_big_quiet_skip
        | (refine quiet_load_blk 26 (.tmp 37) rfl rfl _ (k * 4) 4 (RC (rg b k)).toList (bc b) 29 (0, 0) _ rfl (later_blk (S.out.get 0 rfl)) (by rw [bc_rc b hk]) Try.underlying26 rfl (by kernel_rfl) ?_; go_frame)
        | (refine quiet_load_blk 26 (.tmp 45) rfl rfl _ (k * 4) 4 (RC (rg b k)).toList (bc b) 29 (0, 0) _ rfl (later_blk (S.out.get 0 rfl)) (by rw [bc_rc b hk]) Try.underlying26 rfl (by kernel_rfl) ?_; go_frame)
        | (refine quiet_load_row 24 (.tmp 8) rfl rfl _ #[.int .u64 p.f0, .int .u64 p.f1] 24 (0, 0) _ rfl (later_blk (S.out.get 1 rfl)) Try.underlying24 rfl (by kernel_rfl) ?_; go_frame)
        | (refine quiet_load_row 24 (.tmp 9) rfl rfl _ #[.int .u64 q.f0, .int .u64 q.f1] 24 (0, 0) _ rfl (later_blk (S.out.get 2 rfl)) Try.underlying24 rfl (by kernel_rfl) ?_; go_frame)
        | go_big_quiet_step ((first | (go_at_call 39; with_reducible exact later_of (CU.out _)) | (go_at_call 39; with_reducible exact later_of (CV.out _))))
        | fail)
      refine wpQuiet_nil ?_
      intro w5 hw5
      replace S := Aside0.mk (S.out.call (later_below hw5))
      clear hw5
      go_wp2_with fail
      go_ret
      exact ⟨rfl, S.out.below⟩
    | true =>
      cases bv with
      | false =>
        refine wp_region_later (by kernel_rfl) (by kernel_rfl) ?_
        repeat (first
          | go_big_quiet_skip
          | (refine quiet_load_blk 26 (.tmp 37) rfl rfl _ (k * 4) 4 (RC (rg b k)).toList (bc b) 29 (0, 0) _ rfl (later_blk (S.out.get 0 rfl)) (by rw [bc_rc b hk]) Try.underlying26 rfl (by kernel_rfl) ?_; go_frame)
          | (refine quiet_load_blk 26 (.tmp 45) rfl rfl _ (k * 4) 4 (RC (rg b k)).toList (bc b) 29 (0, 0) _ rfl (later_blk (S.out.get 0 rfl)) (by rw [bc_rc b hk]) Try.underlying26 rfl (by kernel_rfl) ?_; go_frame)
          | (refine quiet_load_row 24 (.tmp 8) rfl rfl _ #[.int .u64 p.f0, .int .u64 p.f1] 24 (0, 0) _ rfl (later_blk (S.out.get 1 rfl)) Try.underlying24 rfl (by kernel_rfl) ?_; go_frame)
          | (refine quiet_load_row 24 (.tmp 9) rfl rfl _ #[.int .u64 q.f0, .int .u64 q.f1] 24 (0, 0) _ rfl (later_blk (S.out.get 2 rfl)) Try.underlying24 rfl (by kernel_rfl) ?_; go_frame)
          | go_big_quiet_step ((first | (go_at_call 39; with_reducible exact later_of (CU.out _)) | (go_at_call 39; with_reducible exact later_of (CV.out _))))
          | fail)
        refine wpQuiet_nil ?_
        intro w5 hw5
        replace S := Aside0.mk (S.out.call (later_below hw5))
        clear hw5
        go_wp2_with fail
        go_ret
        exact ⟨rfl, S.out.below⟩
      | true =>
        refine wp_region_later (by kernel_rfl) (by kernel_rfl) ?_
        repeat (first
          | go_big_quiet_skip
          | (refine quiet_load_blk 26 (.tmp 37) rfl rfl _ (k * 4) 4 (RC (rg b k)).toList (bc b) 29 (0, 0) _ rfl (later_blk (S.out.get 0 rfl)) (by rw [bc_rc b hk]) Try.underlying26 rfl (by kernel_rfl) ?_; go_frame)
          | (refine quiet_load_blk 26 (.tmp 45) rfl rfl _ (k * 4) 4 (RC (rg b k)).toList (bc b) 29 (0, 0) _ rfl (later_blk (S.out.get 0 rfl)) (by rw [bc_rc b hk]) Try.underlying26 rfl (by kernel_rfl) ?_; go_frame)
          | (refine quiet_load_row 24 (.tmp 8) rfl rfl _ #[.int .u64 p.f0, .int .u64 p.f1] 24 (0, 0) _ rfl (later_blk (S.out.get 1 rfl)) Try.underlying24 rfl (by kernel_rfl) ?_; go_frame)
          | (refine quiet_load_row 24 (.tmp 9) rfl rfl _ #[.int .u64 q.f0, .int .u64 q.f1] 24 (0, 0) _ rfl (later_blk (S.out.get 2 rfl)) Try.underlying24 rfl (by kernel_rfl) ?_; go_frame)
          | go_big_quiet_step ((first | (go_at_call 39; with_reducible exact later_of (CU.out _)) | (go_at_call 39; with_reducible exact later_of (CV.out _))))
          | fail)
        refine wpQuiet_nil ?_
        intro w5 hw5
        replace S := Aside0.mk (S.out.call (later_below hw5))
        clear hw5
        go_upto_region 10 with (first
          | (refine gate_ (.load 29 (.tmp 6)) rfl ?_; refine wpList_load_row rfl 29 _ rfl _ rfl 29 (bc b) (0, 0) _ (S.out.get 0 rfl) Try.underlying29 rfl (bc_info _) ?_)
          | (go_at_call 40; refine (CP.out _ (Kd.C_below HC.out S.out.below)).mono ?_; rintro e5 w5 ⟨A1, c1, rfl, hc1, hC1, hb5⟩)
          | fail)
        replace S := Aside0.mk (S.out.call hb5)
        have HT1 := Aside0.mk hC1
        have htmax : T.length ≤ 9223372036854775807 := Kd.C_max hC1
        clear hc1 hC1 hb5
        have htt : ((T.length : Int) == T.length) = true := by simp
        have htn : ((T.length : Int) != T.length) = false := by simp
        go_upto_region 12 with (first
          | (refine gate_ (.load 29 (.tmp 6)) rfl ?_; refine wpList_load_row rfl 29 _ rfl _ rfl 29 (bc b) (0, 0) _ (S.out.get 0 rfl) Try.underlying29 rfl (bc_info _) ?_)
          | (go_at_call 41; refine (CR.out _ (Kd.C_below HC.out S.out.below)).mono ?_; rintro e6 w6 ⟨A2, c2, rfl, hc2, hC2, hb6⟩; replace S := Aside0.mk (S.out.call hb6); replace HT1 := Aside0.mk (Kd.C_below HT1.out hb6); clear hc2 hC2 hb6)
          | fail)
        go_wp2_with fail
        go_loopw [13] (fun v wr => ∃ i : Nat, i ≤ T.length ∧ v = .int .i64 i ∧ Aside0 (Below w6.heap.size w6 wr) ∧ Aside0 (∀ j, j < i → ¬ (leA p (T.getD j z24) ∧ ltA (T.getD j z24) q))) (fun v _ => T.length - (intOf v).toNat)
        case atStart => exact ⟨0, Nat.zero_le _, rfl, ⟨Below.refl _ _⟩, ⟨fun _ h => absurd h (Nat.not_lt_zero _)⟩⟩
        case round =>
          obtain ⟨i, hi, rfl, HBR, HNO⟩ := hrel
          replace S := Aside0.mk (S.out.call HBR.out)
          by_cases hlt : i < T.length
          · obtain ⟨x, hx⟩ : ∃ x, x = T.getD i z24 := ⟨_, rfl⟩
            obtain ⟨ad, cx1, rfl, hK1, hc1'⟩ := elem_at (Kd.C_below HT1.out HBR.out) z24 i hlt
            rw [← hx] at hK1
            have e1 := k24_open hK1
            subst e1
            rw [show k24.sz = 2 from rfl] at hc1'
            have HX := Aside0.mk hc1'
            have HXX := Aside0.mk hx
            obtain ⟨dA, hdA⟩ : ∃ c, decide (cmpA p x ≤ 0) = c := ⟨_, rfl⟩
            obtain ⟨dB, hdB⟩ : ∃ c, decide (cmpA x q < 0) = c := ⟨_, rfl⟩
            have DA := Aside0.mk (fun W => show Calls Try.prog 42 #[.agg #[.int .u64 p.f0, .int .u64 p.f1], .agg #[.int .u64 x.f0, .int .u64 x.f1]] W (fun e w' => e = .returned (.bool dA) ∧ Below W.heap.size W w') by have := atmost_any p.f0 p.f1 x.f0 x.f1 W; rw [hdA] at this; exact this)
            have DB := Aside0.mk (fun W => show Calls Try.prog 38 #[.agg #[.int .u64 x.f0, .int .u64 x.f1], .agg #[.int .u64 q.f0, .int .u64 q.f1]] W (fun e w' => e = .returned (.bool dB) ∧ Below W.heap.size W w') by have := less_any x.f0 x.f1 q.f0 q.f1 W; rw [hdB] at this; exact this)
            have HDA := Aside0.mk hdA
            have HDB := Aside0.mk hdB
            clear hx hK1 hc1' hdA hdB
            go_upto_region 15 with fail
            cases dA with
            | false =>
              refine wp_region_later (by kernel_rfl) (by kernel_rfl) ?_
              repeat (first
                | go_big_quiet_skip
                | (refine quiet_load_row 24 (.tmp 8) rfl rfl _ #[.int .u64 p.f0, .int .u64 p.f1] 24 (0, 0) _ rfl (later_blk (S.out.get 1 rfl)) Try.underlying24 rfl (by kernel_rfl) ?_; go_frame)
                | (refine quiet_load_row 24 (.tmp 9) rfl rfl _ #[.int .u64 q.f0, .int .u64 q.f1] 24 (0, 0) _ rfl (later_blk (S.out.get 2 rfl)) Try.underlying24 rfl (by kernel_rfl) ?_; go_frame)
                | (refine quiet_load_at 24 (.tmp 72) rfl rfl (ad.add (i * 2)) [.int .u64 x.f0, .int .u64 x.f1] _ rfl (later_cells HX.out) Try.underlying24 rfl (by kernel_rfl) ?_; go_frame)
                | (refine quiet_load_at 24 (.tmp 78) rfl rfl (ad.add (i * 2)) [.int .u64 x.f0, .int .u64 x.f1] _ rfl (later_cells HX.out) Try.underlying24 rfl (by kernel_rfl) ?_; go_frame)
                | go_big_quiet_step ((first | (go_at_call 42; with_reducible exact later_of (DA.out _)) | (go_at_call 38; with_reducible exact later_of (DB.out _))))
                | fail)
              refine wpQuiet_nil ?_
              intro w8 hw8
              have HB8 := Aside0.mk (below_then HBR.out HBR.out.size (later_below hw8))
              replace S := Aside0.mk (S.out.call (later_below hw8))
              clear hw8
              go_wp2_with fail
              go_roundw
              case rel => exact ⟨i + 1, by omega, by go_num, HB8, ⟨no_succ HNO.out (by rw [← HXX.out]; rintro ⟨h1, _⟩; rw [le_dec.2 h1] at HDA; cases HDA.out)⟩⟩
              case measure => simp [intOf]; omega
            | true =>
              cases dB with
              | false =>
                refine wp_region_later (by kernel_rfl) (by kernel_rfl) ?_
                repeat (first
                  | go_big_quiet_skip
                  | (refine quiet_load_row 24 (.tmp 8) rfl rfl _ #[.int .u64 p.f0, .int .u64 p.f1] 24 (0, 0) _ rfl (later_blk (S.out.get 1 rfl)) Try.underlying24 rfl (by kernel_rfl) ?_; go_frame)
                  | (refine quiet_load_row 24 (.tmp 9) rfl rfl _ #[.int .u64 q.f0, .int .u64 q.f1] 24 (0, 0) _ rfl (later_blk (S.out.get 2 rfl)) Try.underlying24 rfl (by kernel_rfl) ?_; go_frame)
                  | (refine quiet_load_at 24 (.tmp 72) rfl rfl (ad.add (i * 2)) [.int .u64 x.f0, .int .u64 x.f1] _ rfl (later_cells HX.out) Try.underlying24 rfl (by kernel_rfl) ?_; go_frame)
                  | (refine quiet_load_at 24 (.tmp 78) rfl rfl (ad.add (i * 2)) [.int .u64 x.f0, .int .u64 x.f1] _ rfl (later_cells HX.out) Try.underlying24 rfl (by kernel_rfl) ?_; go_frame)
                  | go_big_quiet_step ((first | (go_at_call 42; with_reducible exact later_of (DA.out _)) | (go_at_call 38; with_reducible exact later_of (DB.out _))))
                  | fail)
                refine wpQuiet_nil ?_
                intro w8 hw8
                have HB8 := Aside0.mk (below_then HBR.out HBR.out.size (later_below hw8))
                replace S := Aside0.mk (S.out.call (later_below hw8))
                clear hw8
                go_wp2_with fail
                go_roundw
                case rel => exact ⟨i + 1, by omega, by go_num, HB8, ⟨no_succ HNO.out (by rw [← HXX.out]; rintro ⟨_, h1⟩; rw [decide_eq_true (cmp_neg.2 h1)] at HDB; cases HDB.out)⟩⟩
                case measure => simp [intOf]; omega
              | true =>
                refine wp_region_later (by kernel_rfl) (by kernel_rfl) ?_
                repeat (first
                  | go_big_quiet_skip
                  | (refine quiet_load_row 24 (.tmp 8) rfl rfl _ #[.int .u64 p.f0, .int .u64 p.f1] 24 (0, 0) _ rfl (later_blk (S.out.get 1 rfl)) Try.underlying24 rfl (by kernel_rfl) ?_; go_frame)
                  | (refine quiet_load_row 24 (.tmp 9) rfl rfl _ #[.int .u64 q.f0, .int .u64 q.f1] 24 (0, 0) _ rfl (later_blk (S.out.get 2 rfl)) Try.underlying24 rfl (by kernel_rfl) ?_; go_frame)
                  | (refine quiet_load_at 24 (.tmp 72) rfl rfl (ad.add (i * 2)) [.int .u64 x.f0, .int .u64 x.f1] _ rfl (later_cells HX.out) Try.underlying24 rfl (by kernel_rfl) ?_; go_frame)
                  | (refine quiet_load_at 24 (.tmp 78) rfl rfl (ad.add (i * 2)) [.int .u64 x.f0, .int .u64 x.f1] _ rfl (later_cells HX.out) Try.underlying24 rfl (by kernel_rfl) ?_; go_frame)
                  | go_big_quiet_step ((first | (go_at_call 42; with_reducible exact later_of (DA.out _)) | (go_at_call 38; with_reducible exact later_of (DB.out _))))
                  | fail)
                refine wpQuiet_nil ?_
                intro w8 hw8
                have HB8 := Aside0.mk (below_then HBR.out HBR.out.size (later_below hw8))
                replace S := Aside0.mk (S.out.call (later_below hw8))
                clear hw8
                go_wp2_with fail
                go_ret
                exact ⟨rfl, S.out.below⟩
          · obtain rfl : i = T.length := by omega
            clear HT1
            have HNC := Aside0.mk (show ∀ c ∈ ptsF l b (k : Int), ¬ (leA p c ∧ ltA c q) by rw [HTT.out]; exact no_mem HNO.out)
            go_wp2_with fail
            go_loopw [14] (fun v wj => ∃ i : Nat, i ≤ l.length ∧ v = .int .i64 i ∧ Aside0 (Below wr.heap.size wr wj)) (fun v _ => l.length - (intOf v).toNat)
            case atStart => exact ⟨0, Nat.zero_le _, rfl, ⟨Below.refl _ _⟩⟩
            case round =>
              clear HBR
              obtain ⟨i, hi2, rfl, HBR⟩ := hrel
              replace S := Aside0.mk (S.out.call HBR.out)
              by_cases hlt2 : i < l.length
              · obtain ⟨e, he⟩ : ∃ e, e = l.getD i z38 := ⟨_, rfl⟩
                have hel : e ∈ l := List.mem_of_getElem? (show l[i]? = some e by rw [he, List.getD_eq_getElem?_getD, List.getElem?_eq_getElem hlt2]; rfl)
                obtain ⟨ad, ce, rfl, hK, hce⟩ := elem_at (Kd.C_below HC.out S.out.below) z38 i hlt2
                rw [← he] at hK
                have e2 := ec_K hK
                subst e2
                rw [show k38.sz = 25 from rfl] at hce
                have HCE := Aside0.mk hce
                clear he hK hce
                obtain ⟨⟨m, ok⟩, hm⟩ : ∃ r, r = meetB e.f0 b := ⟨_, rfl⟩
                have CM := Aside0.mk (fun W => show Calls Try.prog 20 #[.agg (bc e.f0), .agg (bc b)] W (fun e w' => e = .returned (.tuple #[.agg (bc m), .bool ok]) ∧ Below W.heap.size W w') by have := refmeetBox_any e.f0 b W; rw [← hm] at this; exact this)
                obtain ⟨y, hy⟩ : ∃ y, hasR (rg e.f0 k) p = y := ⟨_, rfl⟩
                obtain ⟨z, hz⟩ : ∃ z, hasR (rg e.f0 k) q = z := ⟨_, rfl⟩
                have CY := Aside0.mk (fun W => show Calls Try.prog 39 #[.agg (RC (rg e.f0 k)), .agg #[.int .u64 p.f0, .int .u64 p.f1]] W (fun e w' => e = .returned (.bool y) ∧ Below W.heap.size W w') by rw [← hy]; exact refhas_any _ _ _ _ _ _ W)
                have CZ := Aside0.mk (fun W => show Calls Try.prog 39 #[.agg (RC (rg e.f0 k)), .agg #[.int .u64 q.f0, .int .u64 q.f1]] W (fun e w' => e = .returned (.bool z) ∧ Below W.heap.size W w') by rw [← hz]; exact refhas_any _ _ _ _ _ _ W)
                have HYZ := Aside0.mk (show ok = true → y = z from fun h => by rw [← hy, ← hz]; exact HW.out e hel (by rw [← hm]; exact h) HBU.out HBV.out HNC.out)
                clear hm hy hz hel
                go_upto_region 20 with fail
                refine Rg.made 11 10 15 29 (bc z29) (bc m) _ _ _ (by kernel_rfl) (by kernel_rfl) (by kernel_rfl) rfl rfl (by decide) ⟨rfl, rfl, rfl⟩ ⟨rfl, rfl, rfl⟩ (by kernel_rfl) (by simp) (fun W => by kernel_rfl) rfl (bc_info _) (bc_one _) (by simp) ?_
                apply Exists.intro
                refine ⟨?_, ?_, ?_⟩
                · intro w' hw'
                  have S2 := Aside0.mk (S.out.call hw')
                  have HC2 := Aside0.mk (cells_part (HCE.out.below hw') 0 24 (ec_boxA e))
                  clear hw'
                  simp only [Rg.cutOut, List.eraseIdx_cons_succ, List.eraseIdx_cons_zero]
                  repeat (first
                    | go_big_quiet_skip
                    | (refine quiet_load_at 29 (.tmp 93) rfl rfl (ad.add (i * 25)) (bc e.f0).toList _ rfl (later_cells HC2.out) Try.underlying29 rfl (bc_info _) ?_; go_frame)
                    | (refine quiet_load_row 29 (.tmp 6) rfl rfl _ (bc b) 29 (0, 0) _ rfl (later_blk (S2.out.get 0 rfl)) Try.underlying29 rfl (bc_info _) ?_; go_frame)
                    | go_big_quiet_step ((go_at_call 20; with_reducible exact later_of (CM.out _)))
                    | fail)
                  exact wpQuiet_nil rfl
                · rfl
                · intro p10 w5 hB5 hg10 hb10
                  replace S := Aside0.mk (S.out.call hB5)
                  have HCR := Aside0.mk (cells_part (HCE.out.below hB5) (k * 4) 4 (part := RC (rg e.f0 k)) (ec_rc e hk))
                  replace HBR := Aside0.mk (below_then HBR.out HBR.out.size hB5)
                  clear hB5 hg10 hb10 HCE
                  simp only [Act.put]
                  go_upto_region 22 with (first
                    | (refine gate_ (.load 26 (.tmp 105)) rfl ?_; refine wpList_load_atA rfl 26 _ rfl ((ad.add (i * 25)).add (k * 4)) (RC (rg e.f0 k)) _ rfl HCR.out Try.underlying26 rfl (RC_info _) ?_)
                    | (refine gate_ (.store 26 (.tmp 17) (.tmp 106)) rfl ?_; refine wpList_store_all rfl 26 _ _ rfl _ (RC (rg e.f0 k)) _ _ rfl rfl (heap_alloc_new _ _) rfl (RC_info _) (RC_one _) ?_; intro w6 hb6 hg6 hz6; replace HBR := Aside0.mk (below_then HBR.out HBR.out.size (made_below hg6)); replace S := Aside0.mk (S.out.made hg6 hb6); simp only [List.nil_append, List.cons_append] at S; clear hb6 hg6 hz6)
                    | fail)
                  go_frame
                  have hyy : ∀ c : Bool, (c != c) = false := fun c => by simp
                  cases ok with
                  | false =>
                    refine wp_region_later (by kernel_rfl) (by kernel_rfl) ?_
                    repeat (first
                      | go_big_quiet_skip
                      | (refine quiet_load_row 26 (.tmp 17) rfl rfl _ (RC (rg e.f0 k)) 26 (0, 0) _ rfl (later_blk (S.out.get 3 rfl)) Try.underlying26 rfl (RC_info _) ?_; go_frame)
                      | (refine quiet_load_row 24 (.tmp 8) rfl rfl _ #[.int .u64 p.f0, .int .u64 p.f1] 24 (0, 0) _ rfl (later_blk (S.out.get 1 rfl)) Try.underlying24 rfl (by kernel_rfl) ?_; go_frame)
                      | (refine quiet_load_row 24 (.tmp 9) rfl rfl _ #[.int .u64 q.f0, .int .u64 q.f1] 24 (0, 0) _ rfl (later_blk (S.out.get 2 rfl)) Try.underlying24 rfl (by kernel_rfl) ?_; go_frame)
                      | go_big_quiet_step ((first | (go_at_call 39; with_reducible exact later_of (CY.out _)) | (go_at_call 39; with_reducible exact later_of (CZ.out _))))
                      | fail)
                    refine wpQuiet_nil ?_
                    intro w8 hw8
                    replace HBR := Aside0.mk (below_then HBR.out HBR.out.size (later_below hw8))
                    clear hw8
                    go_wp2_with fail
                    go_roundw
                    case rel => exact ⟨i + 1, by omega, by go_num, HBR⟩
                    case measure => simp [intOf]; omega
                  | true =>
                    obtain rfl := HYZ.out rfl
                    cases y
                    · refine wp_region_later (by kernel_rfl) (by kernel_rfl) ?_
                      repeat (first
                        | go_big_quiet_skip
                        | (refine quiet_load_row 26 (.tmp 17) rfl rfl _ (RC (rg e.f0 k)) 26 (0, 0) _ rfl (later_blk (S.out.get 3 rfl)) Try.underlying26 rfl (RC_info _) ?_; go_frame)
                        | (refine quiet_load_row 24 (.tmp 8) rfl rfl _ #[.int .u64 p.f0, .int .u64 p.f1] 24 (0, 0) _ rfl (later_blk (S.out.get 1 rfl)) Try.underlying24 rfl (by kernel_rfl) ?_; go_frame)
                        | (refine quiet_load_row 24 (.tmp 9) rfl rfl _ #[.int .u64 q.f0, .int .u64 q.f1] 24 (0, 0) _ rfl (later_blk (S.out.get 2 rfl)) Try.underlying24 rfl (by kernel_rfl) ?_; go_frame)
                        | go_big_quiet_step ((first | (go_at_call 39; with_reducible exact later_of (CY.out _)) | (go_at_call 39; with_reducible exact later_of (CZ.out _))))
                        | fail)
                      refine wpQuiet_nil ?_
                      intro w8 hw8
                      replace HBR := Aside0.mk (below_then HBR.out HBR.out.size (later_below hw8))
                      clear hw8
                      go_wp2_with fail
                      go_roundw
                      case rel => exact ⟨i + 1, by omega, by go_num, HBR⟩
                      case measure => simp [intOf]; omega
                    · refine wp_region_later (by kernel_rfl) (by kernel_rfl) ?_
                      repeat (first
                        | go_big_quiet_skip
                        | (refine quiet_load_row 26 (.tmp 17) rfl rfl _ (RC (rg e.f0 k)) 26 (0, 0) _ rfl (later_blk (S.out.get 3 rfl)) Try.underlying26 rfl (RC_info _) ?_; go_frame)
                        | (refine quiet_load_row 24 (.tmp 8) rfl rfl _ #[.int .u64 p.f0, .int .u64 p.f1] 24 (0, 0) _ rfl (later_blk (S.out.get 1 rfl)) Try.underlying24 rfl (by kernel_rfl) ?_; go_frame)
                        | (refine quiet_load_row 24 (.tmp 9) rfl rfl _ #[.int .u64 q.f0, .int .u64 q.f1] 24 (0, 0) _ rfl (later_blk (S.out.get 2 rfl)) Try.underlying24 rfl (by kernel_rfl) ?_; go_frame)
                        | go_big_quiet_step ((first | (go_at_call 39; with_reducible exact later_of (CY.out _)) | (go_at_call 39; with_reducible exact later_of (CZ.out _))))
                        | fail)
                      refine wpQuiet_nil ?_
                      intro w8 hw8
                      replace HBR := Aside0.mk (below_then HBR.out HBR.out.size (later_below hw8))
                      clear hw8
                      go_wp2_with fail
                      go_roundw
                      case rel => exact ⟨i + 1, by omega, by go_num, HBR⟩
                      case measure => simp [intOf]; omega
              · obtain rfl : i = l.length := by omega
                go_wp2_with fail
                go_ret
                exact ⟨rfl, S.out.below⟩
  | true =>
    have HUV : leA q p := ltA_le (by have := HDL.out; rw [decide_eq_true_iff] at this; exact cmp_neg.1 this)
    have FU := HFQ.out
    clear HDL HFP HFQ
    go_upto_region 5 with (first
      | (refine gate_ (.load 24 (.tmp 9)) rfl ?_; refine wpList_load_row rfl 24 _ rfl _ rfl 24 #[.int .u64 q.f0, .int .u64 q.f1] (0, 0) _ (S.out.get 2 rfl) Try.underlying24 rfl (by kernel_rfl) ?_)
      | (refine gate_ (.load 24 (.tmp 8)) rfl ?_; refine wpList_load_row rfl 24 _ rfl _ rfl 24 #[.int .u64 p.f0, .int .u64 p.f1] (0, 0) _ (S.out.get 1 rfl) Try.underlying24 rfl (by kernel_rfl) ?_)
      | (go_at_call 38; (with_reducible refine (CL.out _).mono ?_); rintro e9 w9 ⟨rfl, hb9⟩; replace S := Aside0.mk (S.out.call hb9); have HN3 := Aside0.mk (show w.heap.size + 1 + 1 < w9.heap.size from blk_lt (S.out.get 2 rfl)); clear hb9)
      | (refine gate_ (.store 24 (.tmp 11) (.tmp 32)) rfl ?_; refine wpList_store_all rfl 24 _ _ rfl _ #[.int .u64 p.f0, .int .u64 p.f1] _ _ rfl rfl (heap_alloc_new _ _) rfl (by kernel_rfl) (by kernel_rfl) ?_; intro w6 hb6 hg6 hz6; replace S := Aside0.mk (S.out.made hg6 hb6); simp only [List.nil_append, List.cons_append] at S; clear hb6 hg6 hz6)
      | fail)
    clear CL
    go_upto_region 6 with (first
      | (refine gate_ (.load 24 (.tmp 9)) rfl ?_; refine wpList_load_row rfl 24 _ rfl _ rfl 24 #[.int .u64 q.f0, .int .u64 q.f1] (0, 0) _ (S.out.get 2 rfl) Try.underlying24 rfl (by kernel_rfl) ?_)
      | (refine gate_ (.store 24 (.tmp 8) (.tmp 33)) rfl ?_; refine wpList_store_all rfl 24 _ _ rfl _ #[.int .u64 q.f0, .int .u64 q.f1] _ _ rfl rfl (S.out.get 1 rfl) rfl (by kernel_rfl) (by kernel_rfl) ?_; intro w6 hb6 hg6 hz6; replace S := Aside0.mk (S.out.set_ 1 hg6 hb6 (by omega) (by intro j hj g1 o1 h1; have := HN3.out; match j, hj, h1 with | 0, _, h1 => (simp at h1; omega) | 1, _, h1 => (simp at h1; omega) | 2, _, h1 => (simp at h1; omega) | 3, _, h1 => (simp at h1; omega) | j + 4, _, h1 => (simp at h1))); simp only [List.set_cons_succ, List.set_cons_zero] at S; clear hb6 hg6 hz6)
      | fail)
    go_frame
    go_upto_region 7 with (first
      | (refine gate_ (.load 24 (.tmp 11)) rfl ?_; refine wpList_load_row rfl 24 _ rfl _ rfl 24 #[.int .u64 p.f0, .int .u64 p.f1] (0, 0) _ (S.out.get 3 rfl) Try.underlying24 rfl (by kernel_rfl) ?_)
      | (refine gate_ (.store 24 (.tmp 9) (.tmp 34)) rfl ?_; refine wpList_store_all rfl 24 _ _ rfl _ #[.int .u64 p.f0, .int .u64 p.f1] _ _ rfl rfl (S.out.get 2 rfl) rfl (by kernel_rfl) (by kernel_rfl) ?_; intro w6 hb6 hg6 hz6; replace S := Aside0.mk (S.out.set_ 2 hg6 hb6 (by omega) (by intro j hj g1 o1 h1; have := HN3.out; match j, hj, h1 with | 0, _, h1 => (simp at h1; omega) | 1, _, h1 => (simp at h1; omega) | 2, _, h1 => (simp at h1; omega) | 3, _, h1 => (simp at h1; omega) | j + 4, _, h1 => (simp at h1))); simp only [List.set_cons_succ, List.set_cons_zero] at S; clear hb6 hg6 hz6)
      | fail)
    go_frame
    replace S := Aside0.mk (show St w [(w.heap.size, .cells (bc b) 29 (0, 0)), (w.heap.size + 1, .cells #[.int .u64 q.f0, .int .u64 q.f1] 24 (0, 0)), (w.heap.size + 1 + 1, .cells #[.int .u64 p.f0, .int .u64 p.f1] 24 (0, 0))] _ from S.out.below_of 3)
    have HW := Aside0.mk (fun e (he : e ∈ l) (hm : (meetB e.f0 b).2 = true) h1 h2 h3 => between_law (b := b) hk FU (HFT.out e he) he hm HUV h1 h2 h3)
    obtain ⟨bu, hbu⟩ : ∃ c, hasR (rg b k) q = c := ⟨_, rfl⟩
    obtain ⟨bv, hbv⟩ : ∃ c, hasR (rg b k) p = c := ⟨_, rfl⟩
    have CU := Aside0.mk (fun W => show Calls Try.prog 39 #[.agg (RC (rg b k)), .agg #[.int .u64 q.f0, .int .u64 q.f1]] W (fun e w' => e = .returned (.bool bu) ∧ Below W.heap.size W w') by rw [← hbu]; exact refhas_any _ _ _ _ _ _ W)
    have CV := Aside0.mk (fun W => show Calls Try.prog 39 #[.agg (RC (rg b k)), .agg #[.int .u64 p.f0, .int .u64 p.f1]] W (fun e w' => e = .returned (.bool bv) ∧ Below W.heap.size W w') by rw [← hbv]; exact refhas_any _ _ _ _ _ _ W)
    have HBU := Aside0.mk hbu
    have HBV := Aside0.mk hbv
    clear hbu hbv FU HUV
    go_upto_region 7 with fail
    cases bu with
    | false =>
      refine wp_region_later (by kernel_rfl) (by kernel_rfl) ?_
      repeat (first
        | go_big_quiet_skip
        | (refine quiet_load_blk 26 (.tmp 37) rfl rfl _ (k * 4) 4 (RC (rg b k)).toList (bc b) 29 (0, 0) _ rfl (later_blk (S.out.get 0 rfl)) (by rw [bc_rc b hk]) Try.underlying26 rfl (by kernel_rfl) ?_; go_frame)
        | (refine quiet_load_blk 26 (.tmp 45) rfl rfl _ (k * 4) 4 (RC (rg b k)).toList (bc b) 29 (0, 0) _ rfl (later_blk (S.out.get 0 rfl)) (by rw [bc_rc b hk]) Try.underlying26 rfl (by kernel_rfl) ?_; go_frame)
        | (refine quiet_load_row 24 (.tmp 8) rfl rfl _ #[.int .u64 q.f0, .int .u64 q.f1] 24 (0, 0) _ rfl (later_blk (S.out.get 1 rfl)) Try.underlying24 rfl (by kernel_rfl) ?_; go_frame)
        | (refine quiet_load_row 24 (.tmp 9) rfl rfl _ #[.int .u64 p.f0, .int .u64 p.f1] 24 (0, 0) _ rfl (later_blk (S.out.get 2 rfl)) Try.underlying24 rfl (by kernel_rfl) ?_; go_frame)
        | go_big_quiet_step ((first | (go_at_call 39; with_reducible exact later_of (CU.out _)) | (go_at_call 39; with_reducible exact later_of (CV.out _))))
        | fail)
      refine wpQuiet_nil ?_
      intro w5 hw5
      replace S := Aside0.mk (S.out.call (later_below hw5))
      clear hw5
      go_wp2_with fail
      go_ret
      exact ⟨rfl, S.out.below⟩
    | true =>
      cases bv with
      | false =>
        refine wp_region_later (by kernel_rfl) (by kernel_rfl) ?_
        repeat (first
          | go_big_quiet_skip
          | (refine quiet_load_blk 26 (.tmp 37) rfl rfl _ (k * 4) 4 (RC (rg b k)).toList (bc b) 29 (0, 0) _ rfl (later_blk (S.out.get 0 rfl)) (by rw [bc_rc b hk]) Try.underlying26 rfl (by kernel_rfl) ?_; go_frame)
          | (refine quiet_load_blk 26 (.tmp 45) rfl rfl _ (k * 4) 4 (RC (rg b k)).toList (bc b) 29 (0, 0) _ rfl (later_blk (S.out.get 0 rfl)) (by rw [bc_rc b hk]) Try.underlying26 rfl (by kernel_rfl) ?_; go_frame)
          | (refine quiet_load_row 24 (.tmp 8) rfl rfl _ #[.int .u64 q.f0, .int .u64 q.f1] 24 (0, 0) _ rfl (later_blk (S.out.get 1 rfl)) Try.underlying24 rfl (by kernel_rfl) ?_; go_frame)
          | (refine quiet_load_row 24 (.tmp 9) rfl rfl _ #[.int .u64 p.f0, .int .u64 p.f1] 24 (0, 0) _ rfl (later_blk (S.out.get 2 rfl)) Try.underlying24 rfl (by kernel_rfl) ?_; go_frame)
          | go_big_quiet_step ((first | (go_at_call 39; with_reducible exact later_of (CU.out _)) | (go_at_call 39; with_reducible exact later_of (CV.out _))))
          | fail)
        refine wpQuiet_nil ?_
        intro w5 hw5
        replace S := Aside0.mk (S.out.call (later_below hw5))
        clear hw5
        go_wp2_with fail
        go_ret
        exact ⟨rfl, S.out.below⟩
      | true =>
        refine wp_region_later (by kernel_rfl) (by kernel_rfl) ?_
        repeat (first
          | go_big_quiet_skip
          | (refine quiet_load_blk 26 (.tmp 37) rfl rfl _ (k * 4) 4 (RC (rg b k)).toList (bc b) 29 (0, 0) _ rfl (later_blk (S.out.get 0 rfl)) (by rw [bc_rc b hk]) Try.underlying26 rfl (by kernel_rfl) ?_; go_frame)
          | (refine quiet_load_blk 26 (.tmp 45) rfl rfl _ (k * 4) 4 (RC (rg b k)).toList (bc b) 29 (0, 0) _ rfl (later_blk (S.out.get 0 rfl)) (by rw [bc_rc b hk]) Try.underlying26 rfl (by kernel_rfl) ?_; go_frame)
          | (refine quiet_load_row 24 (.tmp 8) rfl rfl _ #[.int .u64 q.f0, .int .u64 q.f1] 24 (0, 0) _ rfl (later_blk (S.out.get 1 rfl)) Try.underlying24 rfl (by kernel_rfl) ?_; go_frame)
          | (refine quiet_load_row 24 (.tmp 9) rfl rfl _ #[.int .u64 p.f0, .int .u64 p.f1] 24 (0, 0) _ rfl (later_blk (S.out.get 2 rfl)) Try.underlying24 rfl (by kernel_rfl) ?_; go_frame)
          | go_big_quiet_step ((first | (go_at_call 39; with_reducible exact later_of (CU.out _)) | (go_at_call 39; with_reducible exact later_of (CV.out _))))
          | fail)
        refine wpQuiet_nil ?_
        intro w5 hw5
        replace S := Aside0.mk (S.out.call (later_below hw5))
        clear hw5
        go_upto_region 10 with (first
          | (refine gate_ (.load 29 (.tmp 6)) rfl ?_; refine wpList_load_row rfl 29 _ rfl _ rfl 29 (bc b) (0, 0) _ (S.out.get 0 rfl) Try.underlying29 rfl (bc_info _) ?_)
          | (go_at_call 40; refine (CP.out _ (Kd.C_below HC.out S.out.below)).mono ?_; rintro e5 w5 ⟨A1, c1, rfl, hc1, hC1, hb5⟩)
          | fail)
        replace S := Aside0.mk (S.out.call hb5)
        have HT1 := Aside0.mk hC1
        have htmax : T.length ≤ 9223372036854775807 := Kd.C_max hC1
        clear hc1 hC1 hb5
        have htt : ((T.length : Int) == T.length) = true := by simp
        have htn : ((T.length : Int) != T.length) = false := by simp
        go_upto_region 12 with (first
          | (refine gate_ (.load 29 (.tmp 6)) rfl ?_; refine wpList_load_row rfl 29 _ rfl _ rfl 29 (bc b) (0, 0) _ (S.out.get 0 rfl) Try.underlying29 rfl (bc_info _) ?_)
          | (go_at_call 41; refine (CR.out _ (Kd.C_below HC.out S.out.below)).mono ?_; rintro e6 w6 ⟨A2, c2, rfl, hc2, hC2, hb6⟩; replace S := Aside0.mk (S.out.call hb6); replace HT1 := Aside0.mk (Kd.C_below HT1.out hb6); clear hc2 hC2 hb6)
          | fail)
        go_wp2_with fail
        go_loopw [13] (fun v wr => ∃ i : Nat, i ≤ T.length ∧ v = .int .i64 i ∧ Aside0 (Below w6.heap.size w6 wr) ∧ Aside0 (∀ j, j < i → ¬ (leA q (T.getD j z24) ∧ ltA (T.getD j z24) p))) (fun v _ => T.length - (intOf v).toNat)
        case atStart => exact ⟨0, Nat.zero_le _, rfl, ⟨Below.refl _ _⟩, ⟨fun _ h => absurd h (Nat.not_lt_zero _)⟩⟩
        case round =>
          obtain ⟨i, hi, rfl, HBR, HNO⟩ := hrel
          replace S := Aside0.mk (S.out.call HBR.out)
          by_cases hlt : i < T.length
          · obtain ⟨x, hx⟩ : ∃ x, x = T.getD i z24 := ⟨_, rfl⟩
            obtain ⟨ad, cx1, rfl, hK1, hc1'⟩ := elem_at (Kd.C_below HT1.out HBR.out) z24 i hlt
            rw [← hx] at hK1
            have e1 := k24_open hK1
            subst e1
            rw [show k24.sz = 2 from rfl] at hc1'
            have HX := Aside0.mk hc1'
            have HXX := Aside0.mk hx
            obtain ⟨dA, hdA⟩ : ∃ c, decide (cmpA q x ≤ 0) = c := ⟨_, rfl⟩
            obtain ⟨dB, hdB⟩ : ∃ c, decide (cmpA x p < 0) = c := ⟨_, rfl⟩
            have DA := Aside0.mk (fun W => show Calls Try.prog 42 #[.agg #[.int .u64 q.f0, .int .u64 q.f1], .agg #[.int .u64 x.f0, .int .u64 x.f1]] W (fun e w' => e = .returned (.bool dA) ∧ Below W.heap.size W w') by have := atmost_any q.f0 q.f1 x.f0 x.f1 W; rw [hdA] at this; exact this)
            have DB := Aside0.mk (fun W => show Calls Try.prog 38 #[.agg #[.int .u64 x.f0, .int .u64 x.f1], .agg #[.int .u64 p.f0, .int .u64 p.f1]] W (fun e w' => e = .returned (.bool dB) ∧ Below W.heap.size W w') by have := less_any x.f0 x.f1 p.f0 p.f1 W; rw [hdB] at this; exact this)
            have HDA := Aside0.mk hdA
            have HDB := Aside0.mk hdB
            clear hx hK1 hc1' hdA hdB
            go_upto_region 15 with fail
            cases dA with
            | false =>
              refine wp_region_later (by kernel_rfl) (by kernel_rfl) ?_
              repeat (first
                | go_big_quiet_skip
                | (refine quiet_load_row 24 (.tmp 8) rfl rfl _ #[.int .u64 q.f0, .int .u64 q.f1] 24 (0, 0) _ rfl (later_blk (S.out.get 1 rfl)) Try.underlying24 rfl (by kernel_rfl) ?_; go_frame)
                | (refine quiet_load_row 24 (.tmp 9) rfl rfl _ #[.int .u64 p.f0, .int .u64 p.f1] 24 (0, 0) _ rfl (later_blk (S.out.get 2 rfl)) Try.underlying24 rfl (by kernel_rfl) ?_; go_frame)
                | (refine quiet_load_at 24 (.tmp 72) rfl rfl (ad.add (i * 2)) [.int .u64 x.f0, .int .u64 x.f1] _ rfl (later_cells HX.out) Try.underlying24 rfl (by kernel_rfl) ?_; go_frame)
                | (refine quiet_load_at 24 (.tmp 78) rfl rfl (ad.add (i * 2)) [.int .u64 x.f0, .int .u64 x.f1] _ rfl (later_cells HX.out) Try.underlying24 rfl (by kernel_rfl) ?_; go_frame)
                | go_big_quiet_step ((first | (go_at_call 42; with_reducible exact later_of (DA.out _)) | (go_at_call 38; with_reducible exact later_of (DB.out _))))
                | fail)
              refine wpQuiet_nil ?_
              intro w8 hw8
              have HB8 := Aside0.mk (below_then HBR.out HBR.out.size (later_below hw8))
              replace S := Aside0.mk (S.out.call (later_below hw8))
              clear hw8
              go_wp2_with fail
              go_roundw
              case rel => exact ⟨i + 1, by omega, by go_num, HB8, ⟨no_succ HNO.out (by rw [← HXX.out]; rintro ⟨h1, _⟩; rw [le_dec.2 h1] at HDA; cases HDA.out)⟩⟩
              case measure => simp [intOf]; omega
            | true =>
              cases dB with
              | false =>
                refine wp_region_later (by kernel_rfl) (by kernel_rfl) ?_
                repeat (first
                  | go_big_quiet_skip
                  | (refine quiet_load_row 24 (.tmp 8) rfl rfl _ #[.int .u64 q.f0, .int .u64 q.f1] 24 (0, 0) _ rfl (later_blk (S.out.get 1 rfl)) Try.underlying24 rfl (by kernel_rfl) ?_; go_frame)
                  | (refine quiet_load_row 24 (.tmp 9) rfl rfl _ #[.int .u64 p.f0, .int .u64 p.f1] 24 (0, 0) _ rfl (later_blk (S.out.get 2 rfl)) Try.underlying24 rfl (by kernel_rfl) ?_; go_frame)
                  | (refine quiet_load_at 24 (.tmp 72) rfl rfl (ad.add (i * 2)) [.int .u64 x.f0, .int .u64 x.f1] _ rfl (later_cells HX.out) Try.underlying24 rfl (by kernel_rfl) ?_; go_frame)
                  | (refine quiet_load_at 24 (.tmp 78) rfl rfl (ad.add (i * 2)) [.int .u64 x.f0, .int .u64 x.f1] _ rfl (later_cells HX.out) Try.underlying24 rfl (by kernel_rfl) ?_; go_frame)
                  | go_big_quiet_step ((first | (go_at_call 42; with_reducible exact later_of (DA.out _)) | (go_at_call 38; with_reducible exact later_of (DB.out _))))
                  | fail)
                refine wpQuiet_nil ?_
                intro w8 hw8
                have HB8 := Aside0.mk (below_then HBR.out HBR.out.size (later_below hw8))
                replace S := Aside0.mk (S.out.call (later_below hw8))
                clear hw8
                go_wp2_with fail
                go_roundw
                case rel => exact ⟨i + 1, by omega, by go_num, HB8, ⟨no_succ HNO.out (by rw [← HXX.out]; rintro ⟨_, h1⟩; rw [decide_eq_true (cmp_neg.2 h1)] at HDB; cases HDB.out)⟩⟩
                case measure => simp [intOf]; omega
              | true =>
                refine wp_region_later (by kernel_rfl) (by kernel_rfl) ?_
                repeat (first
                  | go_big_quiet_skip
                  | (refine quiet_load_row 24 (.tmp 8) rfl rfl _ #[.int .u64 q.f0, .int .u64 q.f1] 24 (0, 0) _ rfl (later_blk (S.out.get 1 rfl)) Try.underlying24 rfl (by kernel_rfl) ?_; go_frame)
                  | (refine quiet_load_row 24 (.tmp 9) rfl rfl _ #[.int .u64 p.f0, .int .u64 p.f1] 24 (0, 0) _ rfl (later_blk (S.out.get 2 rfl)) Try.underlying24 rfl (by kernel_rfl) ?_; go_frame)
                  | (refine quiet_load_at 24 (.tmp 72) rfl rfl (ad.add (i * 2)) [.int .u64 x.f0, .int .u64 x.f1] _ rfl (later_cells HX.out) Try.underlying24 rfl (by kernel_rfl) ?_; go_frame)
                  | (refine quiet_load_at 24 (.tmp 78) rfl rfl (ad.add (i * 2)) [.int .u64 x.f0, .int .u64 x.f1] _ rfl (later_cells HX.out) Try.underlying24 rfl (by kernel_rfl) ?_; go_frame)
                  | go_big_quiet_step ((first | (go_at_call 42; with_reducible exact later_of (DA.out _)) | (go_at_call 38; with_reducible exact later_of (DB.out _))))
                  | fail)
                refine wpQuiet_nil ?_
                intro w8 hw8
                have HB8 := Aside0.mk (below_then HBR.out HBR.out.size (later_below hw8))
                replace S := Aside0.mk (S.out.call (later_below hw8))
                clear hw8
                go_wp2_with fail
                go_ret
                exact ⟨rfl, S.out.below⟩
          · obtain rfl : i = T.length := by omega
            clear HT1
            have HNC := Aside0.mk (show ∀ c ∈ ptsF l b (k : Int), ¬ (leA q c ∧ ltA c p) by rw [HTT.out]; exact no_mem HNO.out)
            go_wp2_with fail
            go_loopw [14] (fun v wj => ∃ i : Nat, i ≤ l.length ∧ v = .int .i64 i ∧ Aside0 (Below wr.heap.size wr wj)) (fun v _ => l.length - (intOf v).toNat)
            case atStart => exact ⟨0, Nat.zero_le _, rfl, ⟨Below.refl _ _⟩⟩
            case round =>
              clear HBR
              obtain ⟨i, hi2, rfl, HBR⟩ := hrel
              replace S := Aside0.mk (S.out.call HBR.out)
              by_cases hlt2 : i < l.length
              · obtain ⟨e, he⟩ : ∃ e, e = l.getD i z38 := ⟨_, rfl⟩
                have hel : e ∈ l := List.mem_of_getElem? (show l[i]? = some e by rw [he, List.getD_eq_getElem?_getD, List.getElem?_eq_getElem hlt2]; rfl)
                obtain ⟨ad, ce, rfl, hK, hce⟩ := elem_at (Kd.C_below HC.out S.out.below) z38 i hlt2
                rw [← he] at hK
                have e2 := ec_K hK
                subst e2
                rw [show k38.sz = 25 from rfl] at hce
                have HCE := Aside0.mk hce
                clear he hK hce
                obtain ⟨⟨m, ok⟩, hm⟩ : ∃ r, r = meetB e.f0 b := ⟨_, rfl⟩
                have CM := Aside0.mk (fun W => show Calls Try.prog 20 #[.agg (bc e.f0), .agg (bc b)] W (fun e w' => e = .returned (.tuple #[.agg (bc m), .bool ok]) ∧ Below W.heap.size W w') by have := refmeetBox_any e.f0 b W; rw [← hm] at this; exact this)
                obtain ⟨y, hy⟩ : ∃ y, hasR (rg e.f0 k) q = y := ⟨_, rfl⟩
                obtain ⟨z, hz⟩ : ∃ z, hasR (rg e.f0 k) p = z := ⟨_, rfl⟩
                have CY := Aside0.mk (fun W => show Calls Try.prog 39 #[.agg (RC (rg e.f0 k)), .agg #[.int .u64 q.f0, .int .u64 q.f1]] W (fun e w' => e = .returned (.bool y) ∧ Below W.heap.size W w') by rw [← hy]; exact refhas_any _ _ _ _ _ _ W)
                have CZ := Aside0.mk (fun W => show Calls Try.prog 39 #[.agg (RC (rg e.f0 k)), .agg #[.int .u64 p.f0, .int .u64 p.f1]] W (fun e w' => e = .returned (.bool z) ∧ Below W.heap.size W w') by rw [← hz]; exact refhas_any _ _ _ _ _ _ W)
                have HYZ := Aside0.mk (show ok = true → y = z from fun h => by rw [← hy, ← hz]; exact HW.out e hel (by rw [← hm]; exact h) HBU.out HBV.out HNC.out)
                clear hm hy hz hel
                go_upto_region 20 with fail
                refine Rg.made 11 10 15 29 (bc z29) (bc m) _ _ _ (by kernel_rfl) (by kernel_rfl) (by kernel_rfl) rfl rfl (by decide) ⟨rfl, rfl, rfl⟩ ⟨rfl, rfl, rfl⟩ (by kernel_rfl) (by simp) (fun W => by kernel_rfl) rfl (bc_info _) (bc_one _) (by simp) ?_
                apply Exists.intro
                refine ⟨?_, ?_, ?_⟩
                · intro w' hw'
                  have S2 := Aside0.mk (S.out.call hw')
                  have HC2 := Aside0.mk (cells_part (HCE.out.below hw') 0 24 (ec_boxA e))
                  clear hw'
                  simp only [Rg.cutOut, List.eraseIdx_cons_succ, List.eraseIdx_cons_zero]
                  repeat (first
                    | go_big_quiet_skip
                    | (refine quiet_load_at 29 (.tmp 93) rfl rfl (ad.add (i * 25)) (bc e.f0).toList _ rfl (later_cells HC2.out) Try.underlying29 rfl (bc_info _) ?_; go_frame)
                    | (refine quiet_load_row 29 (.tmp 6) rfl rfl _ (bc b) 29 (0, 0) _ rfl (later_blk (S2.out.get 0 rfl)) Try.underlying29 rfl (bc_info _) ?_; go_frame)
                    | go_big_quiet_step ((go_at_call 20; with_reducible exact later_of (CM.out _)))
                    | fail)
                  exact wpQuiet_nil rfl
                · rfl
                · intro p10 w5 hB5 hg10 hb10
                  replace S := Aside0.mk (S.out.call hB5)
                  have HCR := Aside0.mk (cells_part (HCE.out.below hB5) (k * 4) 4 (part := RC (rg e.f0 k)) (ec_rc e hk))
                  replace HBR := Aside0.mk (below_then HBR.out HBR.out.size hB5)
                  clear hB5 hg10 hb10 HCE
                  simp only [Act.put]
                  go_upto_region 22 with (first
                    | (refine gate_ (.load 26 (.tmp 105)) rfl ?_; refine wpList_load_atA rfl 26 _ rfl ((ad.add (i * 25)).add (k * 4)) (RC (rg e.f0 k)) _ rfl HCR.out Try.underlying26 rfl (RC_info _) ?_)
                    | (refine gate_ (.store 26 (.tmp 17) (.tmp 106)) rfl ?_; refine wpList_store_all rfl 26 _ _ rfl _ (RC (rg e.f0 k)) _ _ rfl rfl (heap_alloc_new _ _) rfl (RC_info _) (RC_one _) ?_; intro w6 hb6 hg6 hz6; replace HBR := Aside0.mk (below_then HBR.out HBR.out.size (made_below hg6)); replace S := Aside0.mk (S.out.made hg6 hb6); simp only [List.nil_append, List.cons_append] at S; clear hb6 hg6 hz6)
                    | fail)
                  go_frame
                  have hyy : ∀ c : Bool, (c != c) = false := fun c => by simp
                  cases ok with
                  | false =>
                    refine wp_region_later (by kernel_rfl) (by kernel_rfl) ?_
                    repeat (first
                      | go_big_quiet_skip
                      | (refine quiet_load_row 26 (.tmp 17) rfl rfl _ (RC (rg e.f0 k)) 26 (0, 0) _ rfl (later_blk (S.out.get 3 rfl)) Try.underlying26 rfl (RC_info _) ?_; go_frame)
                      | (refine quiet_load_row 24 (.tmp 8) rfl rfl _ #[.int .u64 q.f0, .int .u64 q.f1] 24 (0, 0) _ rfl (later_blk (S.out.get 1 rfl)) Try.underlying24 rfl (by kernel_rfl) ?_; go_frame)
                      | (refine quiet_load_row 24 (.tmp 9) rfl rfl _ #[.int .u64 p.f0, .int .u64 p.f1] 24 (0, 0) _ rfl (later_blk (S.out.get 2 rfl)) Try.underlying24 rfl (by kernel_rfl) ?_; go_frame)
                      | go_big_quiet_step ((first | (go_at_call 39; with_reducible exact later_of (CY.out _)) | (go_at_call 39; with_reducible exact later_of (CZ.out _))))
                      | fail)
                    refine wpQuiet_nil ?_
                    intro w8 hw8
                    replace HBR := Aside0.mk (below_then HBR.out HBR.out.size (later_below hw8))
                    clear hw8
                    go_wp2_with fail
                    go_roundw
                    case rel => exact ⟨i + 1, by omega, by go_num, HBR⟩
                    case measure => simp [intOf]; omega
                  | true =>
                    obtain rfl := HYZ.out rfl
                    cases y
                    · refine wp_region_later (by kernel_rfl) (by kernel_rfl) ?_
                      repeat (first
                        | go_big_quiet_skip
                        | (refine quiet_load_row 26 (.tmp 17) rfl rfl _ (RC (rg e.f0 k)) 26 (0, 0) _ rfl (later_blk (S.out.get 3 rfl)) Try.underlying26 rfl (RC_info _) ?_; go_frame)
                        | (refine quiet_load_row 24 (.tmp 8) rfl rfl _ #[.int .u64 q.f0, .int .u64 q.f1] 24 (0, 0) _ rfl (later_blk (S.out.get 1 rfl)) Try.underlying24 rfl (by kernel_rfl) ?_; go_frame)
                        | (refine quiet_load_row 24 (.tmp 9) rfl rfl _ #[.int .u64 p.f0, .int .u64 p.f1] 24 (0, 0) _ rfl (later_blk (S.out.get 2 rfl)) Try.underlying24 rfl (by kernel_rfl) ?_; go_frame)
                        | go_big_quiet_step ((first | (go_at_call 39; with_reducible exact later_of (CY.out _)) | (go_at_call 39; with_reducible exact later_of (CZ.out _))))
                        | fail)
                      refine wpQuiet_nil ?_
                      intro w8 hw8
                      replace HBR := Aside0.mk (below_then HBR.out HBR.out.size (later_below hw8))
                      clear hw8
                      go_wp2_with fail
                      go_roundw
                      case rel => exact ⟨i + 1, by omega, by go_num, HBR⟩
                      case measure => simp [intOf]; omega
                    · refine wp_region_later (by kernel_rfl) (by kernel_rfl) ?_
                      repeat (first
                        | go_big_quiet_skip
                        | (refine quiet_load_row 26 (.tmp 17) rfl rfl _ (RC (rg e.f0 k)) 26 (0, 0) _ rfl (later_blk (S.out.get 3 rfl)) Try.underlying26 rfl (RC_info _) ?_; go_frame)
                        | (refine quiet_load_row 24 (.tmp 8) rfl rfl _ #[.int .u64 q.f0, .int .u64 q.f1] 24 (0, 0) _ rfl (later_blk (S.out.get 1 rfl)) Try.underlying24 rfl (by kernel_rfl) ?_; go_frame)
                        | (refine quiet_load_row 24 (.tmp 9) rfl rfl _ #[.int .u64 p.f0, .int .u64 p.f1] 24 (0, 0) _ rfl (later_blk (S.out.get 2 rfl)) Try.underlying24 rfl (by kernel_rfl) ?_; go_frame)
                        | go_big_quiet_step ((first | (go_at_call 39; with_reducible exact later_of (CY.out _)) | (go_at_call 39; with_reducible exact later_of (CZ.out _))))
                        | fail)
                      refine wpQuiet_nil ?_
                      intro w8 hw8
                      replace HBR := Aside0.mk (below_then HBR.out HBR.out.size (later_below hw8))
                      clear hw8
                      go_wp2_with fail
                      go_roundw
                      case rel => exact ⟨i + 1, by omega, by go_num, HBR⟩
                      case measure => simp [intOf]; omega
              · obtain rfl : i = l.length := by omega
                go_wp2_with fail
                go_ret
                exact ⟨rfl, S.out.below⟩
end Go.Proofs.Ytcgcognejjpcmaa
