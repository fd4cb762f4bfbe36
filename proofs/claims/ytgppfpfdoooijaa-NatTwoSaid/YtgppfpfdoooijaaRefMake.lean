/- How a flow is translated: the document's Make. -/
import Derived.Test.YtgppfpfdoooijaaMake
import Derived.Test.YtgppfpfdoooijaaRefDest
import Derived.Test.YtgppfpfdoooijaaRefSource
import Derived.Test.YtgppfpfdoooijaaCellsOff
import Derived.Deep.Cut
namespace Go.Proofs.Ytgppfpfdoooijaa
open Go.RowKit Go.Proofs.YtgppfpfdoooijaaW.PrintWords
set_option linter.unusedVariables false
set_option linter.unusedSimpArgs false
attribute [local go_sem] Later.cell_eq

/-- No other of five blocks is the fourth. -/
theorem hneP {F : List (Nat × Obj)} {a b c g e : Nat} (hn : a ≠ g ∧ b ≠ g ∧ c ≠ g ∧ e ≠ g) (hF : F.map Prod.fst = [a, b, c, g, e]) : ∀ (j : Nat), j ≠ 3 → ∀ (g' : Nat) (o' : Obj), F[j]? = some (g', o') → g' ≠ g := by
  intro j hj g' o' h
  have e : (F.map Prod.fst)[j]? = some g' := by rw [List.getElem?_map, h]; rfl
  rw [hF] at e
  match j, hj, e with
  | 0, _, e => injection e with e; subst e; exact hn.1
  | 1, _, e => injection e with e; subst e; exact hn.2.1
  | 2, _, e => injection e with e; subst e; exact hn.2.2.1
  | 3, hj, _ => exact absurd rfl hj
  | 4, _, e => injection e with e; subst e; exact hn.2.2.2
  | n + 5, _, e => cases e

theorem halt_block {P : Program} {n : Nat} {b : Code} {Q : Exit → Act → World → Prop} {a : Act} {w : World} (h : Aside0 (Code.wp P (.block n b) Q a w)) : Code.wp P (.block n b) Q a w := h.out

theorem halt_end {P : Program} {fn : Func} {R : Ending → World → Prop} {e : Exit} {a : Act} {w : World} (h : Aside0 (bodyPost P fn R e a w)) : bodyPost P fn R e a w := h.out


set_option maxRecDepth 100000 in
set_option maxHeartbeats 8000000 in
theorem refmake_any (c : S36) (cs : List Value) (inn : Int) (k : S51) (l : List S51) (A : Option Addr) (cap : Nat) (w : World) (hc : k36.K w c cs) (hC : k51.C w A l.length l) :
    Calls Try.prog 29 #[.agg cs.toArray, .int .i64 inn, .agg #[.int .i64 k.f0, .int .u64 k.f1.f0, .int .u64 k.f1.f1, .int .u64 k.f2.f0, .int .u64 k.f2.f1, .int .i64 k.f3, .int .i64 k.f4], .slice A l.length cap] w fun e w' =>
      e = .returned (.tuple #[.agg (plA (makeF c inn k l).1), .int .i64 (makeF c inn k l).2]) ∧ Below w.heap.size w w' := by
  obtain ⟨A0, c0, A1, c1, A2, c2, A3, c3, A4, c4, A5, c5, A6, c6, rfl, l0, g0, l1, g1, l2, g2, l3, g3, l4, g4, l5, g5, l6, g6⟩ := k36_open hc
  have HK := Aside0.mk hc
  have HCC := Aside0.mk hC
  have hmax0 : c.f0.length ≤ 9223372036854775807 := Kd.C_max g0
  have hmax5 : c.f5.length ≤ 9223372036854775807 := Kd.C_max g5
  have HG0 := Aside0.mk g0
  have HG5 := Aside0.mk g5
  clear hc hC l0 g0 l1 g1 l2 g2 l3 g3 l4 g4 l5 g5 l6 g6
  obtain ⟨⟨d, p, wi⟩, hd⟩ : ∃ d, d = destF c k := ⟨_, rfl⟩
  obtain ⟨⟨i, z⟩, hi⟩ : ∃ r, r = routeF c d := ⟨_, rfl⟩
  obtain ⟨ic, hic⟩ : ∃ ic, icmpB k.f0 = ic := ⟨_, rfl⟩
  have HIC := Aside0.mk hic
  have C55 := Aside0.mk (fun W => show Calls Try.prog 55 #[.int .i64 k.f0] W (fun e w' => e = .returned (.bool ic) ∧ W = w') by rw [← hic]; exact reficmp_any k.f0 W)
  have C54 := Aside0.mk (fun W (hW : Below w.heap.size w W) => show Calls Try.prog 54 #[.agg #[.slice A0 c.f0.length c0, .slice A1 c.f1.length c1, .slice A2 c.f2.length c2, .slice A3 c.f3.length c3, .slice A4 c.f4.length c4, .slice A5 c.f5.length c5, .slice A6 c.f6.length c6, .int .i64 c.f7], .agg #[.int .i64 k.f0, .int .u64 k.f1.f0, .int .u64 k.f1.f1, .int .u64 k.f2.f0, .int .u64 k.f2.f1, .int .i64 k.f3, .int .i64 k.f4]] W (fun e w' => e = .returned (.tuple #[.agg #[.int .u64 d.f0, .int .u64 d.f1], .int .i64 p, .int .i64 wi]) ∧ Below W.heap.size W w') by
    have := refdest_any c _ k W (k36.K_below hW HK.out); rw [← hd] at this; exact this)
  have C19 := Aside0.mk (fun W (hW : Below w.heap.size w W) => show Calls Try.prog 19 #[.agg #[.slice A0 c.f0.length c0, .slice A1 c.f1.length c1, .slice A2 c.f2.length c2, .slice A3 c.f3.length c3, .slice A4 c.f4.length c4, .slice A5 c.f5.length c5, .slice A6 c.f6.length c6, .int .i64 c.f7], .agg #[.int .u64 d.f0, .int .u64 d.f1]] W (fun e w' => e = .returned (.tuple #[.int .i64 i, .int .i64 z]) ∧ Below W.heap.size W w') by
    have := refroute_any c _ d W (k36.K_below hW HK.out); rw [← hi] at this; exact this)
  obtain ⟨q, hq⟩ : ∃ q, q = if ic = true then k.f4 else p := ⟨_, rfl⟩
  obtain ⟨J, hJ⟩ : ∃ J : S51, J = ⟨k.f0, k.f1, d, k.f3, q⟩ := ⟨_, rfl⟩
  have HMK := Aside0.mk (show makeF c inn k l = if routeR (i, z) = 0 then
      match portR (srcU c z inn J k (decide (0 ≤ wi))).1 k (srcU c z inn J k (decide (0 ≤ wi))).2.1 (srcU c z inn J k (decide (0 ≤ wi))).2.2.1 (srcU c z inn J k (decide (0 ≤ wi))).2.2.2 l with
      | some u => (⟨J, k, u, turnK u, turnK k, i, z⟩, 0)
      | none => (zPL, 15)
    else (zPL, routeR (i, z)) by
    have e : judgeK c k = J := by unfold judgeK; rw [← hd, hic, hJ, hq]
    unfold makeF
    rw [e, ← hd]
    simp only [← hi]
    rfl)
  have HRG := Aside0.mk (show routeR (i, z) = 0 → 0 ≤ z ∧ z < c.f0.length from fun h => by have := routeR_range (c := c) (d := d) (by rw [← hi]; exact h); rw [← hi] at this; exact this)
  have HQ := Aside0.mk hq
  have HJ := Aside0.mk hJ
  clear hd hi hic hq hJ
  go_enter Try.func29, Try.ntmps29
  go_upto_region 1 with fail
  have S := Aside0.mk ((((St.nil w).alloc (.cells #[.slice A0 c.f0.length c0, .slice A1 c.f1.length c1, .slice A2 c.f2.length c2, .slice A3 c.f3.length c3, .slice A4 c.f4.length c4, .slice A5 c.f5.length c5, .slice A6 c.f6.length c6, .int .i64 c.f7] 36)).alloc (.cells #[.int .i64 k.f0, .int .u64 k.f1.f0, .int .u64 k.f1.f1, .int .u64 k.f2.f0, .int .u64 k.f2.f1, .int .i64 k.f3, .int .i64 k.f4] 51)).alloc (.cells #[.int .i64 0, .int .u64 0, .int .u64 0, .int .u64 0, .int .u64 0, .int .i64 0, .int .i64 0, .int .i64 0, .int .u64 0, .int .u64 0, .int .u64 0, .int .u64 0, .int .i64 0, .int .i64 0, .int .i64 0, .int .u64 0, .int .u64 0, .int .u64 0, .int .u64 0, .int .i64 0, .int .i64 0, .int .i64 0, .int .u64 0, .int .u64 0, .int .u64 0, .int .u64 0, .int .i64 0, .int .i64 0, .int .i64 0, .int .u64 0, .int .u64 0, .int .u64 0, .int .u64 0, .int .i64 0, .int .i64 0, .int .i64 0, .int .i64 0] 76))
  simp only [World.size_alloc, List.nil_append, List.cons_append] at S
  generalize World.alloc _ _ = W0 at *
  refine Rg.made 6 5 10 76 #[.int .i64 0, .int .u64 0, .int .u64 0, .int .u64 0, .int .u64 0, .int .i64 0, .int .i64 0, .int .i64 0, .int .u64 0, .int .u64 0, .int .u64 0, .int .u64 0, .int .i64 0, .int .i64 0, .int .i64 0, .int .u64 0, .int .u64 0, .int .u64 0, .int .u64 0, .int .i64 0, .int .i64 0, .int .i64 0, .int .u64 0, .int .u64 0, .int .u64 0, .int .u64 0, .int .i64 0, .int .i64 0, .int .i64 0, .int .u64 0, .int .u64 0, .int .u64 0, .int .u64 0, .int .i64 0, .int .i64 0, .int .i64 0, .int .i64 0] (plA ⟨k, k, z51, z51, turnK k, 0, 0⟩) _ _ _ (by kernel_rfl) (by kernel_rfl) (by kernel_rfl) rfl rfl (by decide) ⟨rfl, rfl, rfl⟩ ⟨rfl, rfl, rfl⟩ (by kernel_rfl) (by simp) (fun W => by kernel_rfl) rfl (by kernel_rfl) (plA_one _) (by simp) ?_
  apply Exists.intro
  refine ⟨?_, ?_, ?_⟩
  · intro w' hw'
    have S2 := Aside0.mk (S.out.call hw')
    clear hw'
    simp only [Rg.cutOut, List.eraseIdx_cons_succ, List.eraseIdx_cons_zero]
    repeat (first
      | go_big_quiet_skip
      | (refine quiet_load_row 51 (.tmp 6) rfl rfl _ #[.int .i64 k.f0, .int .u64 k.f1.f0, .int .u64 k.f1.f1, .int .u64 k.f2.f0, .int .u64 k.f2.f1, .int .i64 k.f3, .int .i64 k.f4] 51 (0, 0) _ rfl (later_blk (S2.out.get 1 rfl)) Try.underlying51 rfl (by kernel_rfl) ?_; go_frame)
      | (refine quiet_run (o := ⟨some 25, _, _, _, _, _⟩) (.agg (plA ⟨k, k, z51, z51, turnK k, 0, 0⟩)) rfl (fun w => by kernel_rfl) ?_; go_frame)
      | go_big_quiet_step ((go_at_call 28; with_reducible exact later_of (refturned_any k _)))
      | fail)
    exact wpQuiet_nil rfl
  · rfl
  · intro B w5 hB5 hgB hb
    have hW0 : w.heap.size + 2 < W0.heap.size := blk_lt (S.out.get 2 rfl)
    replace S := Aside0.mk ((S.out.call hB5).add hb)
    simp only [List.cons_append, List.nil_append] at S
    have hB := Aside0.mk (show w.heap.size ≤ B by omega)
    have hn3 : w.heap.size ≠ B ∧ w.heap.size + 1 ≠ B ∧ w.heap.size + 2 ≠ B := ⟨by omega, by omega, by omega⟩
    have hBl : B < w5.heap.size := blk_lt hb
    clear hB5 hgB hb hW0
    simp only [Act.put]
    go_upto_region 2 with fail
    go_wp2_with (first
      | (refine gate_ (.load 36 (.tmp 4)) rfl ?_; refine wpList_load_row rfl 36 _ rfl _ rfl 36 #[.slice A0 c.f0.length c0, .slice A1 c.f1.length c1, .slice A2 c.f2.length c2, .slice A3 c.f3.length c3, .slice A4 c.f4.length c4, .slice A5 c.f5.length c5, .slice A6 c.f6.length c6, .int .i64 c.f7] (0, 0) _ (S.out.get 0 rfl) Try.underlying36 rfl (by kernel_rfl) ?_)
      | (refine gate_ (.load 51 (.tmp 6)) rfl ?_; refine wpList_load_row rfl 51 _ rfl _ rfl 51 #[.int .i64 k.f0, .int .u64 k.f1.f0, .int .u64 k.f1.f1, .int .u64 k.f2.f0, .int .u64 k.f2.f1, .int .i64 k.f3, .int .i64 k.f4] (0, 0) _ (S.out.get 1 rfl) Try.underlying51 rfl (by kernel_rfl) ?_)
      | (go_at_call 54; refine Aside0.out ?_)
      | fail)
    refine Aside0.mk ?_
    refine (C54.out _ S.out.below).mono ?_
    rintro e w6 ⟨rfl, hb6⟩
    replace S := Aside0.mk (S.out.call hb6)
    have hBD : B < w6.heap.size := by have := hb6.size; omega
    clear hb6
    go_upto_region 3 with (first
      | (refine gate_ (.store 39 (.tmp 11) (.tmp 30)) rfl ?_; refine wpList_store_all rfl 39 _ _ rfl _ #[.int .u64 d.f0, .int .u64 d.f1] _ _ rfl rfl (heap_alloc_new _ _) rfl (by kernel_rfl) (by simp [Value.oneCell']) ?_; intro w3 hb3 hg3 hz3; replace S := Aside0.mk (S.out.made hg3 hb3); clear hb3 hg3 hz3)
      | fail)
    simp only [List.cons_append, List.nil_append] at S
    generalize w6.heap.size = D at *
    have HNE := Aside0.mk (show w.heap.size ≠ B ∧ w.heap.size + 1 ≠ B ∧ w.heap.size + 2 ≠ B ∧ D ≠ B from ⟨hn3.1, hn3.2.1, hn3.2.2, by omega⟩)
    clear hn3 hBl hBD
    go_upto_if 39 with (first
      | (refine gate_ (.load 39 (.tmp 11)) rfl ?_; refine wpList_load_row rfl 39 _ rfl _ rfl 39 #[.int .u64 d.f0, .int .u64 d.f1] (0, 0) _ (S.out.get 4 rfl) Try.underlying39 rfl (by kernel_rfl) ?_)
      | (refine gate_ (.load 3 (.tmp 36)) rfl ?_; refine wpList_load_one 3 _ rfl rfl _ _ (.int .i64 k.f0) #[.int .i64 k.f0, .int .u64 k.f1.f0, .int .u64 k.f1.f1, .int .u64 k.f2.f0, .int .u64 k.f2.f1, .int .i64 k.f3, .int .i64 k.f4] 51 (0, 0) _ rfl (S.out.get 1 rfl) rfl Try.underlying3 rfl ?_)
      | (refine gate_ (.store 39 (.tmp 35) (.tmp 33)) rfl ?_; refine wpList_store_blk rfl 39 _ _ rfl B 3 #[.int .u64 d.f0, .int .u64 d.f1] _ 76 rfl rfl (S.out.get 3 rfl) (Nat.le_of_ble_eq_true rfl) (by kernel_rfl) (by simp [Value.oneCell']) ?_; intro w3 hb3 hg3 hz3; replace S := Aside0.mk (S.out.set_ 3 hg3 (blk_eq (b := plA (⟨⟨k.f0, k.f1, d, k.f3, k.f4⟩, k, z51, z51, turnK k, 0, 0⟩)) hb3 (by kernel_rfl)) hB.out (hneP HNE.out rfl)); clear hb3 hg3 hz3)
      | (go_at_call 55; (with_reducible refine (C55.out _).mono ?_); rintro e w9 ⟨rfl, rfl⟩)
      | fail)
    go_cut [] from 21 (fun wc => Aside0 (St w [(w.heap.size, .cells #[.slice A0 c.f0.length c0, .slice A1 c.f1.length c1, .slice A2 c.f2.length c2, .slice A3 c.f3.length c3, .slice A4 c.f4.length c4, .slice A5 c.f5.length c5, .slice A6 c.f6.length c6, .int .i64 c.f7] 36 (0, 0)), (w.heap.size + 1, .cells #[.int .i64 k.f0, .int .u64 k.f1.f0, .int .u64 k.f1.f1, .int .u64 k.f2.f0, .int .u64 k.f2.f1, .int .i64 k.f3, .int .i64 k.f4] 51 (0, 0)), (w.heap.size + 2, .cells #[.int .i64 0, .int .u64 0, .int .u64 0, .int .u64 0, .int .u64 0, .int .i64 0, .int .i64 0, .int .i64 0, .int .u64 0, .int .u64 0, .int .u64 0, .int .u64 0, .int .i64 0, .int .i64 0, .int .i64 0, .int .u64 0, .int .u64 0, .int .u64 0, .int .u64 0, .int .i64 0, .int .i64 0, .int .i64 0, .int .u64 0, .int .u64 0, .int .u64 0, .int .u64 0, .int .i64 0, .int .i64 0, .int .i64 0, .int .u64 0, .int .u64 0, .int .u64 0, .int .u64 0, .int .i64 0, .int .i64 0, .int .i64 0, .int .i64 0] 76 (0, 0)), (B, .cells (plA (⟨J, k, z51, z51, turnK k, 0, 0⟩)) 76 (0, 0)), (D, .cells #[.int .u64 d.f0, .int .u64 d.f1] 39 (0, 0))] wc))
    case first =>
      cases ic with
      | true =>
        obtain rfl : q = k.f4 := HQ.out
        go_wp2_with fail
        go_meet
        case rel => rw [HJ.out]; exact ⟨S.out⟩
      | false =>
        obtain rfl : q = p := HQ.out
        go_wp2_with (first
          | (refine gate_ (.store 3 (.tmp 42) (.tmp 40)) rfl ?_; refine wpList_store_blk rfl 3 _ _ rfl B 6 #[.int .i64 q] _ 76 rfl rfl (S.out.get 3 rfl) (Nat.le_of_ble_eq_true rfl) (by kernel_rfl) (by simp [Value.oneCell']) ?_; intro w3 hb3 hg3 hz3; replace S := Aside0.mk (S.out.set_ 3 hg3 (blk_eq (b := plA (⟨⟨k.f0, k.f1, d, k.f3, q⟩, k, z51, z51, turnK k, 0, 0⟩)) hb3 (by kernel_rfl)) hB.out (hneP HNE.out rfl)); clear hb3 hg3 hz3)
          | fail)
        go_meet
        case rel => rw [HJ.out]; exact ⟨S.out⟩
    case rest =>
      clear S
      have S := hcut
      clear hcut HJ HQ
      go_upto_region 7 with (first
        | (refine gate_ (.load 36 (.tmp 4)) rfl ?_; refine wpList_load_row rfl 36 _ rfl _ rfl 36 #[.slice A0 c.f0.length c0, .slice A1 c.f1.length c1, .slice A2 c.f2.length c2, .slice A3 c.f3.length c3, .slice A4 c.f4.length c4, .slice A5 c.f5.length c5, .slice A6 c.f6.length c6, .int .i64 c.f7] (0, 0) _ (S.out.get 0 rfl) Try.underlying36 rfl (by kernel_rfl) ?_)
        | (refine gate_ (.load 39 (.tmp 11)) rfl ?_; refine wpList_load_row rfl 39 _ rfl _ rfl 39 #[.int .u64 d.f0, .int .u64 d.f1] (0, 0) _ (S.out.get 4 rfl) Try.underlying39 rfl (by kernel_rfl) ?_)
        | (go_at_call 19; (with_reducible refine (C19.out _ S.out.below).mono ?_); rintro e w9 ⟨rfl, hb9⟩; replace S := Aside0.mk (S.out.call hb9); clear hb9)
        | (refine gate_ (.store 3 (.tmp 49) (.tmp 47)) rfl ?_; refine wpList_store_blk rfl 3 _ _ rfl B 35 #[.int .i64 i] _ 76 rfl rfl (S.out.get 3 rfl) (Nat.le_of_ble_eq_true rfl) (by kernel_rfl) (by simp [Value.oneCell']) ?_; intro w3 hb3 hg3 hz3; replace S := Aside0.mk (S.out.set_ 3 hg3 (blk_eq (b := plA (⟨J, k, z51, z51, turnK k, i, 0⟩)) hb3 (by kernel_rfl)) hB.out (hneP HNE.out rfl)); clear hb3 hg3 hz3)
        | (refine gate_ (.store 3 (.tmp 50) (.tmp 48)) rfl ?_; refine wpList_store_blk rfl 3 _ _ rfl B 36 #[.int .i64 z] _ 76 rfl rfl (S.out.get 3 rfl) (Nat.le_of_ble_eq_true rfl) (by kernel_rfl) (by simp [Value.oneCell']) ?_; intro w3 hb3 hg3 hz3; replace S := Aside0.mk (S.out.set_ 3 hg3 (blk_eq (b := plA (⟨J, k, z51, z51, turnK k, i, z⟩)) hb3 (by kernel_rfl)) hB.out (hneP HNE.out rfl)); clear hb3 hg3 hz3)
        | fail)
      cases hi1 : i == -1 with
      | true =>
        have HF := Aside0.mk (show makeF c inn k l = (zPL, 8) by rw [HMK.out]; unfold routeR; simp only [hi1]; rfl)
        go_wp2_with (first
          | (refine gate_ (.load 3 (.tmp 51)) rfl ?_; (first | refine gate_none rfl ?_ | refine gate_if rfl rfl rfl ?_); refine wpList_load_one 3 _ rfl rfl _ _ (.int .i64 i) (plA (⟨J, k, z51, z51, turnK k, i, z⟩)) 76 (0, 0) _ rfl (S.out.get 3 rfl) rfl Try.underlying3 rfl ?_)
          | (refine gate_dst (N := 54) rfl ?_; refine wpList_buildTo rfl 76 _ rfl (some 54) rfl (plA zPL) (by kernel_rfl) ?_)
          | (refine gate_ (.store 76 (.tmp 8) (.tmp 54)) rfl ?_; refine wpList_store_all rfl 76 _ _ rfl _ (plA zPL) _ _ rfl rfl (S.out.get 2 rfl) rfl (plA_info76 _) (plA_one _) ?_; intro w7 hb7 hg7 hz7)
          | (with_reducible refine halt_end ?_)
          | fail)
        refine Aside0.mk ?_
        refine ends_ct (v := .int .i64 8) rfl (by kernel_rfl) (by kernel_rfl) hb7 Try.underlying76 rfl (plA_info76 _) rfl ?_
        exact ⟨by rw [HF.out], S.out.below.trans (below_grown hg7 S.out.below.size (by omega))⟩
      | false =>
        cases hz1 : z == -1 with
        | true =>
          have HF := Aside0.mk (show makeF c inn k l = (zPL, 3) by rw [HMK.out]; unfold routeR; simp only [hi1, hz1]; rfl)
          go_wp2_with (first
            | (refine gate_ (.load 3 (.tmp 51)) rfl ?_; (first | refine gate_none rfl ?_ | refine gate_if rfl rfl rfl ?_); refine wpList_load_one 3 _ rfl rfl _ _ (.int .i64 i) (plA (⟨J, k, z51, z51, turnK k, i, z⟩)) 76 (0, 0) _ rfl (S.out.get 3 rfl) rfl Try.underlying3 rfl ?_)
            | (refine gate_ (.load 3 (.tmp 55)) rfl ?_; (first | refine gate_none rfl ?_ | refine gate_if rfl rfl rfl ?_); refine wpList_load_one 3 _ rfl rfl _ _ (.int .i64 z) (plA (⟨J, k, z51, z51, turnK k, i, z⟩)) 76 (0, 0) _ rfl (S.out.get 3 rfl) rfl Try.underlying3 rfl ?_)
            | (refine gate_dst (N := 58) rfl ?_; refine wpList_buildTo rfl 76 _ rfl (some 58) rfl (plA zPL) (by kernel_rfl) ?_)
            | (refine gate_ (.store 76 (.tmp 8) (.tmp 58)) rfl ?_; refine wpList_store_all rfl 76 _ _ rfl _ (plA zPL) _ _ rfl rfl (S.out.get 2 rfl) rfl (plA_info76 _) (plA_one _) ?_; intro w7 hb7 hg7 hz7)
            | (with_reducible refine halt_end ?_)
            | fail)
          refine Aside0.mk ?_
          refine ends_ct (v := .int .i64 3) rfl (by kernel_rfl) (by kernel_rfl) hb7 Try.underlying76 rfl (plA_info76 _) rfl ?_
          exact ⟨by rw [HF.out], S.out.below.trans (below_grown hg7 S.out.below.size (by omega))⟩
        | false =>
          have hr0 : routeR (i, z) = 0 := by unfold routeR; simp only [hi1, hz1]; rfl
          have hzr := HRG.out hr0
          have HM2 := Aside0.mk (show makeF c inn k l = match portR (srcU c z inn J k (decide (0 ≤ wi))).1 k (srcU c z inn J k (decide (0 ≤ wi))).2.1 (srcU c z inn J k (decide (0 ≤ wi))).2.2.1 (srcU c z inn J k (decide (0 ≤ wi))).2.2.2 l with
              | some u => (⟨J, k, u, turnK u, turnK k, i, z⟩, 0)
              | none => (zPL, 15) by rw [HMK.out, if_pos hr0])
          obtain ⟨j, hj⟩ : ∃ j, j = sourceF c z J := ⟨_, rfl⟩
          have C56 := Aside0.mk (fun W (hW : Below w.heap.size w W) => show Calls Try.prog 56 #[.agg #[.slice A0 c.f0.length c0, .slice A1 c.f1.length c1, .slice A2 c.f2.length c2, .slice A3 c.f3.length c3, .slice A4 c.f4.length c4, .slice A5 c.f5.length c5, .slice A6 c.f6.length c6, .int .i64 c.f7], .int .i64 z, .agg #[.int .i64 J.f0, .int .u64 J.f1.f0, .int .u64 J.f1.f1, .int .u64 J.f2.f0, .int .u64 J.f2.f1, .int .i64 J.f3, .int .i64 J.f4]] W (fun e w' => e = .returned (.int .i64 j) ∧ Below W.heap.size W w') by
            rw [hj]; exact refsource_any c _ z J W (k36.K_below hW HK.out))
          have HJJ := Aside0.mk hj
          clear HMK HRG C54 C19 hj hr0
          go_upto_region 16 with (first
            | (refine gate_ (.load 3 (.tmp 51)) rfl ?_; (first | refine gate_none rfl ?_ | refine gate_if rfl rfl rfl ?_); refine wpList_load_one 3 _ rfl rfl _ _ (.int .i64 i) (plA (⟨J, k, z51, z51, turnK k, i, z⟩)) 76 (0, 0) _ rfl (S.out.get 3 rfl) rfl Try.underlying3 rfl ?_)
            | (refine gate_ (.load 3 (.tmp 55)) rfl ?_; (first | refine gate_none rfl ?_ | refine gate_if rfl rfl rfl ?_); refine wpList_load_one 3 _ rfl rfl _ _ (.int .i64 z) (plA (⟨J, k, z51, z51, turnK k, i, z⟩)) 76 (0, 0) _ rfl (S.out.get 3 rfl) rfl Try.underlying3 rfl ?_)
            | (refine gate_ (.load 51 (.tmp 59)) rfl ?_; (first | refine gate_none rfl ?_ | refine gate_if rfl rfl rfl ?_); refine wpList_load_blk rfl 51 _ rfl _ _ 7 [.int .i64 J.f0, .int .u64 J.f1.f0, .int .u64 J.f1.f1, .int .u64 J.f2.f0, .int .u64 J.f2.f1, .int .i64 J.f3, .int .i64 J.f4] (plA (⟨J, k, z51, z51, turnK k, i, z⟩)) 76 (0, 0) _ rfl (S.out.get 3 rfl) (by kernel_rfl) Try.underlying51 rfl (by kernel_rfl) ?_)
            | (refine gate_ (.store 51 (.tmp 61) (.tmp 60)) rfl ?_; refine wpList_store_blk rfl 51 _ _ rfl B 14 #[.int .i64 J.f0, .int .u64 J.f1.f0, .int .u64 J.f1.f1, .int .u64 J.f2.f0, .int .u64 J.f2.f1, .int .i64 J.f3, .int .i64 J.f4] _ 76 rfl rfl (S.out.get 3 rfl) (Nat.le_of_ble_eq_true rfl) (by kernel_rfl) (by simp [Value.oneCell']) ?_; intro w3 hb3 hg3 hz3; replace S := Aside0.mk (S.out.set_ 3 hg3 (blk_eq (b := plA (⟨J, k, J, z51, turnK k, i, z⟩)) hb3 (by kernel_rfl)) hB.out (hneP HNE.out rfl)); clear hb3 hg3 hz3)
            | (refine gate_ (.load 36 (.tmp 4)) rfl ?_; refine wpList_load_row rfl 36 _ rfl _ rfl 36 #[.slice A0 c.f0.length c0, .slice A1 c.f1.length c1, .slice A2 c.f2.length c2, .slice A3 c.f3.length c3, .slice A4 c.f4.length c4, .slice A5 c.f5.length c5, .slice A6 c.f6.length c6, .int .i64 c.f7] (0, 0) _ (S.out.get 0 rfl) Try.underlying36 rfl (by kernel_rfl) ?_)
            | (refine gate_ (.load 3 (.tmp 63)) rfl ?_; (first | refine gate_none rfl ?_ | refine gate_if rfl rfl rfl ?_); refine wpList_load_one 3 _ rfl rfl _ _ (.int .i64 z) (plA (⟨J, k, J, z51, turnK k, i, z⟩)) 76 (0, 0) _ rfl (S.out.get 3 rfl) rfl Try.underlying3 rfl ?_)
            | (refine gate_ (.load 51 (.tmp 65)) rfl ?_; (first | refine gate_none rfl ?_ | refine gate_if rfl rfl rfl ?_); refine wpList_load_blk rfl 51 _ rfl _ _ 7 [.int .i64 J.f0, .int .u64 J.f1.f0, .int .u64 J.f1.f1, .int .u64 J.f2.f0, .int .u64 J.f2.f1, .int .i64 J.f3, .int .i64 J.f4] (plA (⟨J, k, J, z51, turnK k, i, z⟩)) 76 (0, 0) _ rfl (S.out.get 3 rfl) (by kernel_rfl) Try.underlying51 rfl (by kernel_rfl) ?_)
            | (go_at_call 56; (with_reducible refine (C56.out _ S.out.below).mono ?_); rintro e w9 ⟨rfl, hb9⟩; replace S := Aside0.mk (S.out.call hb9); clear hb9)
            | (with_reducible refine halt_block ?_)
            | fail)
          refine Aside0.mk ?_
          go_cut [14, 15, 16] from 21 (fun s14 s15 s16 wc => ∃ (U : S51) (lk0 : Bool) (fr tt : Int), s14 = .int .i64 fr ∧ s15 = .int .i64 tt ∧ s16 = .bool lk0 ∧ Aside0 ((srcU c z inn J k (decide (0 ≤ wi))).1 = U ∧ (srcU c z inn J k (decide (0 ≤ wi))).2.1 = (lk0 && ported16 k.f0) ∧ (lk0 = true → (srcU c z inn J k (decide (0 ≤ wi))).2.2 = (fr, tt))) ∧ Aside0 (St w [(w.heap.size, .cells #[.slice A0 c.f0.length c0, .slice A1 c.f1.length c1, .slice A2 c.f2.length c2, .slice A3 c.f3.length c3, .slice A4 c.f4.length c4, .slice A5 c.f5.length c5, .slice A6 c.f6.length c6, .int .i64 c.f7] 36 (0, 0)), (w.heap.size + 1, .cells #[.int .i64 k.f0, .int .u64 k.f1.f0, .int .u64 k.f1.f1, .int .u64 k.f2.f0, .int .u64 k.f2.f1, .int .i64 k.f3, .int .i64 k.f4] 51 (0, 0)), (w.heap.size + 2, .cells #[.int .i64 0, .int .u64 0, .int .u64 0, .int .u64 0, .int .u64 0, .int .i64 0, .int .i64 0, .int .i64 0, .int .u64 0, .int .u64 0, .int .u64 0, .int .u64 0, .int .i64 0, .int .i64 0, .int .i64 0, .int .u64 0, .int .u64 0, .int .u64 0, .int .u64 0, .int .i64 0, .int .i64 0, .int .i64 0, .int .u64 0, .int .u64 0, .int .u64 0, .int .u64 0, .int .i64 0, .int .i64 0, .int .i64 0, .int .u64 0, .int .u64 0, .int .u64 0, .int .u64 0, .int .i64 0, .int .i64 0, .int .i64 0, .int .i64 0] 76 (0, 0)), (B, .cells (plA (⟨J, k, U, z51, turnK k, i, z⟩)) 76 (0, 0)), (D, .cells #[.int .u64 d.f0, .int .u64 d.f1] 39 (0, 0))] wc))
          case first =>
            by_cases h0 : 0 ≤ j
            · obtain ⟨m, rfl⟩ := Int.eq_ofNat_of_zero_le h0
              have hm : m < c.f5.length := sourceF_lt c _ _ HJJ.out
              obtain ⟨ad, ncs, rfl, hKn, hcc⟩ := elem_at HG5.out z56 m hm
              obtain ⟨n, hn⟩ : ∃ n, n = c.f5.getD m z56 := ⟨_, rfl⟩
              rw [← hn] at hKn
              obtain rfl := k56_open hKn
              have HCE := Aside0.mk (show CellsAt w (ad.add (m * 10)) [.int .i64 n.f0, .string n.f1, .string n.f2, .string n.f3, .int .u64 n.f4.f0, .int .u64 n.f4.f1, .int .u64 n.f5.f0, .int .u64 n.f5.f1, .int .i64 n.f6, .int .i64 n.f7] from hcc)
              have HS := Aside0.mk (show srcU c z inn J k (decide (0 ≤ wi)) = (⟨J.f0, n.f4, J.f2, J.f3, J.f4⟩, n.f0 == 1 && ported16 k.f0, n.f6, n.f7) by unfold srcU; rw [← HJJ.out, if_pos h0, Int.toNat_natCast, ← hn])
              clear hKn hcc hn
              cases h1 : n.f0 == 1 with
              | false =>
                have HS2 := Aside0.mk (show srcU c z inn J k (decide (0 ≤ wi)) = (⟨J.f0, n.f4, J.f2, J.f3, J.f4⟩, false, n.f6, n.f7) by rw [HS.out, h1]; rfl)
                go_wp2_with (first
                  | (refine gate_ (.load 33 (.tmp 71)) rfl ?_; refine wpList_load_one 33 _ rfl rfl _ _ (.slice (some ad) c.f5.length c5) #[.slice A0 c.f0.length c0, .slice A1 c.f1.length c1, .slice A2 c.f2.length c2, .slice A3 c.f3.length c3, .slice A4 c.f4.length c4, .slice (some ad) c.f5.length c5, .slice A6 c.f6.length c6, .int .i64 c.f7] 36 (0, 0) _ rfl (S.out.get 0 rfl) rfl Try.underlying33 rfl ?_)
                  | (refine gate_ (.load 33 (.tmp 79)) rfl ?_; refine wpList_load_one 33 _ rfl rfl _ _ (.slice (some ad) c.f5.length c5) #[.slice A0 c.f0.length c0, .slice A1 c.f1.length c1, .slice A2 c.f2.length c2, .slice A3 c.f3.length c3, .slice A4 c.f4.length c4, .slice (some ad) c.f5.length c5, .slice A6 c.f6.length c6, .int .i64 c.f7] 36 (0, 0) _ rfl (S.out.get 0 rfl) rfl Try.underlying33 rfl ?_)
                  | (refine gate_ (.load 33 (.tmp 86)) rfl ?_; refine wpList_load_one 33 _ rfl rfl _ _ (.slice (some ad) c.f5.length c5) #[.slice A0 c.f0.length c0, .slice A1 c.f1.length c1, .slice A2 c.f2.length c2, .slice A3 c.f3.length c3, .slice A4 c.f4.length c4, .slice (some ad) c.f5.length c5, .slice A6 c.f6.length c6, .int .i64 c.f7] 36 (0, 0) _ rfl (S.out.get 0 rfl) rfl Try.underlying33 rfl ?_)
                  | (refine gate_ (.load 33 (.tmp 92)) rfl ?_; refine wpList_load_one 33 _ rfl rfl _ _ (.slice (some ad) c.f5.length c5) #[.slice A0 c.f0.length c0, .slice A1 c.f1.length c1, .slice A2 c.f2.length c2, .slice A3 c.f3.length c3, .slice A4 c.f4.length c4, .slice (some ad) c.f5.length c5, .slice A6 c.f6.length c6, .int .i64 c.f7] 36 (0, 0) _ rfl (S.out.get 0 rfl) rfl Try.underlying33 rfl ?_)
                  | (refine gate_ (.load 39 (.tmp 75)) rfl ?_; refine wpList_load_at rfl 39 _ rfl ⟨(ad.add (m * 10)).block, (ad.add (m * 10)).off + 4, none⟩ [.int .u64 n.f4.f0, .int .u64 n.f4.f1] _ rfl (cells_off 4 (by decide) (HCE.out.below S.out.below) rfl) Try.underlying39 rfl (by kernel_rfl) ?_)
                  | (refine gate_ (.load 3 (.tmp 83)) rfl ?_; refine wpList_load_c 3 _ rfl rfl (ad.add (m * 10)) (.int .i64 n.f0) _ rfl (cell_0 (HCE.out.below S.out.below) rfl) Try.underlying3 rfl ?_)
                  | (refine gate_ (.load 3 (.tmp 90)) rfl ?_; refine wpList_load_c 3 _ rfl rfl ⟨(ad.add (m * 10)).block, (ad.add (m * 10)).off + 8, none⟩ (.int .i64 n.f6) _ rfl (cell_off 8 (by decide) (HCE.out.below S.out.below) rfl) Try.underlying3 rfl ?_)
                  | (refine gate_ (.load 3 (.tmp 96)) rfl ?_; refine wpList_load_c 3 _ rfl rfl ⟨(ad.add (m * 10)).block, (ad.add (m * 10)).off + 9, none⟩ (.int .i64 n.f7) _ rfl (cell_off 9 (by decide) (HCE.out.below S.out.below) rfl) Try.underlying3 rfl ?_)
                  | (refine gate_ (.store 39 (.tmp 78) (.tmp 76)) rfl ?_; refine wpList_store_blk rfl 39 _ _ rfl B 15 #[.int .u64 n.f4.f0, .int .u64 n.f4.f1] _ 76 rfl rfl (S.out.get 3 rfl) (Nat.le_of_ble_eq_true rfl) (by kernel_rfl) (by simp [Value.oneCell']) ?_; intro w3 hb3 hg3 hz3; replace S := Aside0.mk (S.out.set_ 3 hg3 (blk_eq (b := plA (⟨J, k, ⟨J.f0, n.f4, J.f2, J.f3, J.f4⟩, z51, turnK k, i, z⟩)) hb3 (by kernel_rfl)) hB.out (hneP HNE.out rfl)); clear hb3 hg3 hz3)
                  | fail)
                go_meet
                case rel => exact ⟨⟨J.f0, n.f4, J.f2, J.f3, J.f4⟩, false, 0, 0, rfl, rfl, rfl, ⟨by rw [HS2.out]; exact ⟨rfl, rfl, fun h => by cases h⟩⟩, ⟨S.out⟩⟩
              | true =>
                have HS2 := Aside0.mk (show srcU c z inn J k (decide (0 ≤ wi)) = (⟨J.f0, n.f4, J.f2, J.f3, J.f4⟩, ported16 k.f0, n.f6, n.f7) by rw [HS.out, h1]; rfl)
                go_wp2_with (first
                  | (refine gate_ (.load 33 (.tmp 71)) rfl ?_; refine wpList_load_one 33 _ rfl rfl _ _ (.slice (some ad) c.f5.length c5) #[.slice A0 c.f0.length c0, .slice A1 c.f1.length c1, .slice A2 c.f2.length c2, .slice A3 c.f3.length c3, .slice A4 c.f4.length c4, .slice (some ad) c.f5.length c5, .slice A6 c.f6.length c6, .int .i64 c.f7] 36 (0, 0) _ rfl (S.out.get 0 rfl) rfl Try.underlying33 rfl ?_)
                  | (refine gate_ (.load 33 (.tmp 79)) rfl ?_; refine wpList_load_one 33 _ rfl rfl _ _ (.slice (some ad) c.f5.length c5) #[.slice A0 c.f0.length c0, .slice A1 c.f1.length c1, .slice A2 c.f2.length c2, .slice A3 c.f3.length c3, .slice A4 c.f4.length c4, .slice (some ad) c.f5.length c5, .slice A6 c.f6.length c6, .int .i64 c.f7] 36 (0, 0) _ rfl (S.out.get 0 rfl) rfl Try.underlying33 rfl ?_)
                  | (refine gate_ (.load 33 (.tmp 86)) rfl ?_; refine wpList_load_one 33 _ rfl rfl _ _ (.slice (some ad) c.f5.length c5) #[.slice A0 c.f0.length c0, .slice A1 c.f1.length c1, .slice A2 c.f2.length c2, .slice A3 c.f3.length c3, .slice A4 c.f4.length c4, .slice (some ad) c.f5.length c5, .slice A6 c.f6.length c6, .int .i64 c.f7] 36 (0, 0) _ rfl (S.out.get 0 rfl) rfl Try.underlying33 rfl ?_)
                  | (refine gate_ (.load 33 (.tmp 92)) rfl ?_; refine wpList_load_one 33 _ rfl rfl _ _ (.slice (some ad) c.f5.length c5) #[.slice A0 c.f0.length c0, .slice A1 c.f1.length c1, .slice A2 c.f2.length c2, .slice A3 c.f3.length c3, .slice A4 c.f4.length c4, .slice (some ad) c.f5.length c5, .slice A6 c.f6.length c6, .int .i64 c.f7] 36 (0, 0) _ rfl (S.out.get 0 rfl) rfl Try.underlying33 rfl ?_)
                  | (refine gate_ (.load 39 (.tmp 75)) rfl ?_; refine wpList_load_at rfl 39 _ rfl ⟨(ad.add (m * 10)).block, (ad.add (m * 10)).off + 4, none⟩ [.int .u64 n.f4.f0, .int .u64 n.f4.f1] _ rfl (cells_off 4 (by decide) (HCE.out.below S.out.below) rfl) Try.underlying39 rfl (by kernel_rfl) ?_)
                  | (refine gate_ (.load 3 (.tmp 83)) rfl ?_; refine wpList_load_c 3 _ rfl rfl (ad.add (m * 10)) (.int .i64 n.f0) _ rfl (cell_0 (HCE.out.below S.out.below) rfl) Try.underlying3 rfl ?_)
                  | (refine gate_ (.load 3 (.tmp 90)) rfl ?_; refine wpList_load_c 3 _ rfl rfl ⟨(ad.add (m * 10)).block, (ad.add (m * 10)).off + 8, none⟩ (.int .i64 n.f6) _ rfl (cell_off 8 (by decide) (HCE.out.below S.out.below) rfl) Try.underlying3 rfl ?_)
                  | (refine gate_ (.load 3 (.tmp 96)) rfl ?_; refine wpList_load_c 3 _ rfl rfl ⟨(ad.add (m * 10)).block, (ad.add (m * 10)).off + 9, none⟩ (.int .i64 n.f7) _ rfl (cell_off 9 (by decide) (HCE.out.below S.out.below) rfl) Try.underlying3 rfl ?_)
                  | (refine gate_ (.store 39 (.tmp 78) (.tmp 76)) rfl ?_; refine wpList_store_blk rfl 39 _ _ rfl B 15 #[.int .u64 n.f4.f0, .int .u64 n.f4.f1] _ 76 rfl rfl (S.out.get 3 rfl) (Nat.le_of_ble_eq_true rfl) (by kernel_rfl) (by simp [Value.oneCell']) ?_; intro w3 hb3 hg3 hz3; replace S := Aside0.mk (S.out.set_ 3 hg3 (blk_eq (b := plA (⟨J, k, ⟨J.f0, n.f4, J.f2, J.f3, J.f4⟩, z51, turnK k, i, z⟩)) hb3 (by kernel_rfl)) hB.out (hneP HNE.out rfl)); clear hb3 hg3 hz3)
                  | fail)
                go_meet
                case rel => exact ⟨⟨J.f0, n.f4, J.f2, J.f3, J.f4⟩, true, n.f6, n.f7, rfl, rfl, rfl, ⟨by rw [HS2.out]; exact ⟨rfl, rfl, fun _ => rfl⟩⟩, ⟨S.out⟩⟩
            · have HSN := Aside0.mk (show srcU c z inn J k (decide (0 ≤ wi)) = if (decide (0 ≤ wi) && z == inn && is4F (c.f0.getD z.toNat z54).f1 == is4F k.f1) = true then (⟨J.f0, (c.f0.getD z.toNat z54).f1, J.f2, J.f3, J.f4⟩, ported16 k.f0, 1024, 65535) else (J, false, 0, 0) by unfold srcU; rw [← HJJ.out, if_neg h0])
              by_cases hw : 0 ≤ wi
              · cases hzi : z == inn with
                | false =>
                  have HS2 := Aside0.mk (show srcU c z inn J k (decide (0 ≤ wi)) = (J, false, 0, 0) by rw [HSN.out, hzi, Bool.and_false, Bool.false_and, if_neg (by decide)])
                  go_upto_region 22 with fail
                  refine wp_region_later (by kernel_rfl) (by kernel_rfl) ?_
                  repeat (first
                    | go_big_quiet_skip
                    | (refine quiet_load_one 3 (.tmp 102) rfl rfl _ _ (.int .i64 z) (plA ⟨J, k, J, z51, turnK k, i, z⟩) 76 (0, 0) _ rfl (later_blk (S.out.get 3 rfl)) rfl Try.underlying3 rfl ?_; go_frame)
                    | go_big_quiet_step (fail)
                    | fail)
                  refine wpQuiet_nil ?_
                  intro w8 hw8
                  replace S := Aside0.mk (S.out.call (later_below hw8))
                  clear hw8
                  go_wp2
                  go_meet
                  case rel => exact ⟨J, false, 0, 0, rfl, rfl, rfl, ⟨by rw [HS2.out]; exact ⟨rfl, rfl, fun h => by cases h⟩⟩, ⟨S.out⟩⟩
                | true =>
                  obtain ⟨m, hk⟩ := Int.eq_ofNat_of_zero_le hzr.1
                  have hzn : z = inn := by simpa using hzi
                  have hki : inn = (m : Int) := by rw [← hzn]; exact hk
                  have hm : m < c.f0.length := by omega
                  obtain ⟨ad, ncs, rfl, hKn, hcc⟩ := elem_at HG0.out z54 m hm
                  obtain ⟨n, hn⟩ : ∃ n, n = c.f0.getD m z54 := ⟨_, rfl⟩
                  rw [← hn] at hKn
                  obtain ⟨A9, c9, rfl, _, _⟩ := k54_open hKn
                  have HCE := Aside0.mk (cells_field hcc)
                  have HNZ := Aside0.mk (show c.f0.getD z.toNat z54 = n by rw [hk, Int.toNat_natCast, hn])
                  obtain ⟨b4, hb4⟩ : ∃ b4, b4 = is4F n.f1 := ⟨_, rfl⟩
                  obtain ⟨b5, hb5⟩ : ∃ b5, b5 = is4F k.f1 := ⟨_, rfl⟩
                  have H4 := Aside0.mk (fun W => show Calls Try.prog 57 #[.agg #[.int .u64 n.f1.f0, .int .u64 n.f1.f1]] W (fun e w' => e = .returned (.bool b4) ∧ Below W.heap.size W w') by rw [hb4]; exact refis4_any _ _ W)
                  have H5 := Aside0.mk (fun W => show Calls Try.prog 57 #[.agg #[.int .u64 k.f1.f0, .int .u64 k.f1.f1]] W (fun e w' => e = .returned (.bool b5) ∧ Below W.heap.size W w') by rw [hb5]; exact refis4_any _ _ W)
                  have HSM := Aside0.mk (show srcU c z inn J k (decide (0 ≤ wi)) = if (b4 == b5) = true then (⟨J.f0, n.f1, J.f2, J.f3, J.f4⟩, ported16 k.f0, 1024, 65535) else (J, false, 0, 0) by rw [HSN.out, hzi, HNZ.out, ← hb4, ← hb5, decide_eq_true hw]; rfl)
                  clear hKn hcc hn hb4 hb5 hzi hzr hk
                  subst hzn
                  subst hki
                  go_upto_region 22 with fail
                  refine wp_region_later (by kernel_rfl) (by kernel_rfl) ?_
                  repeat (first
                    | go_big_quiet_skip
                    | (refine quiet_load_one 3 (.tmp 102) rfl rfl _ _ (.int .i64 (m : Int)) (plA ⟨J, k, J, z51, turnK k, i, (m : Int)⟩) 76 (0, 0) _ rfl (later_blk (S.out.get 3 rfl)) rfl Try.underlying3 rfl ?_; go_frame)
                    | (refine quiet_load_one 28 (.tmp 108) rfl rfl _ _ (.slice (some ad) c.f0.length c0) #[.slice (some ad) c.f0.length c0, .slice A1 c.f1.length c1, .slice A2 c.f2.length c2, .slice A3 c.f3.length c3, .slice A4 c.f4.length c4, .slice A5 c.f5.length c5, .slice A6 c.f6.length c6, .int .i64 c.f7] 36 (0, 0) _ rfl (later_blk (S.out.get 0 rfl)) rfl Try.underlying28 rfl ?_; go_frame)
                    | (refine quiet_load_at 39 (.tmp 112) rfl rfl ⟨(ad.add (m * 4)).block, (ad.add (m * 4)).off + 1, none⟩ [.int .u64 n.f1.f0, .int .u64 n.f1.f1] _ rfl (later_cells (HCE.out.below S.out.below)) Try.underlying39 rfl (by kernel_rfl) ?_; go_frame)
                    | (refine quiet_load_blk 39 (.tmp 115) rfl rfl _ _ 2 [.int .u64 k.f1.f0, .int .u64 k.f1.f1] #[.int .i64 k.f0, .int .u64 k.f1.f0, .int .u64 k.f1.f1, .int .u64 k.f2.f0, .int .u64 k.f2.f1, .int .i64 k.f3, .int .i64 k.f4] 51 (0, 0) _ rfl (later_blk (S.out.get 1 rfl)) rfl Try.underlying39 rfl (by kernel_rfl) ?_; go_frame)
                    | go_big_quiet_step ((first | (go_at_call 57; with_reducible exact later_of (H4.out _)) | (go_at_call 57; with_reducible exact later_of (H5.out _))))
                    | fail)
                  refine wpQuiet_nil ?_
                  intro w8 hw8
                  replace S := Aside0.mk (S.out.call (later_below hw8))
                  clear hw8
                  generalize hbe : (b4 == b5) = be at *
                  cases be with
                  | true =>
                    go_wp2_with (first
                      | (refine gate_ (.load 28 (.tmp 120)) rfl ?_; refine wpList_load_one 28 _ rfl rfl _ _ (.slice (some ad) c.f0.length c0) #[.slice (some ad) c.f0.length c0, .slice A1 c.f1.length c1, .slice A2 c.f2.length c2, .slice A3 c.f3.length c3, .slice A4 c.f4.length c4, .slice A5 c.f5.length c5, .slice A6 c.f6.length c6, .int .i64 c.f7] 36 (0, 0) _ rfl (S.out.get 0 rfl) rfl Try.underlying28 rfl ?_)
                      | (refine gate_ (.load 39 (.tmp 124)) rfl ?_; refine wpList_load_at rfl 39 _ rfl ⟨(ad.add (m * 4)).block, (ad.add (m * 4)).off + 1, none⟩ [.int .u64 n.f1.f0, .int .u64 n.f1.f1] _ rfl (HCE.out.below S.out.below) Try.underlying39 rfl (by kernel_rfl) ?_)
                      | (refine gate_ (.store 39 (.tmp 127) (.tmp 125)) rfl ?_; refine wpList_store_blk rfl 39 _ _ rfl B 15 #[.int .u64 n.f1.f0, .int .u64 n.f1.f1] _ 76 rfl rfl (S.out.get 3 rfl) (Nat.le_of_ble_eq_true rfl) (by kernel_rfl) (by simp [Value.oneCell']) ?_; intro w3 hb3 hg3 hz3; replace S := Aside0.mk (S.out.set_ 3 hg3 (blk_eq (b := plA (⟨J, k, ⟨J.f0, n.f1, J.f2, J.f3, J.f4⟩, z51, turnK k, i, (m : Int)⟩)) hb3 (by kernel_rfl)) hB.out (hneP HNE.out rfl)); clear hb3 hg3 hz3)
                      | fail)
                    go_meet
                    case rel => exact ⟨⟨J.f0, n.f1, J.f2, J.f3, J.f4⟩, true, 1024, 65535, rfl, rfl, rfl, ⟨by rw [HSM.out, if_pos trivial]; exact ⟨rfl, rfl, fun _ => rfl⟩⟩, ⟨S.out⟩⟩
                  | false =>
                    go_wp2_with fail
                    go_meet
                    case rel => exact ⟨J, false, 0, 0, rfl, rfl, rfl, ⟨by rw [HSM.out, if_neg (by decide)]; exact ⟨rfl, rfl, fun h => by cases h⟩⟩, ⟨S.out⟩⟩
              · have HS2 := Aside0.mk (show srcU c z inn J k (decide (0 ≤ wi)) = (J, false, 0, 0) by rw [HSN.out, decide_eq_false hw, Bool.false_and, Bool.false_and, if_neg (by decide)])
                go_upto_region 22 with fail
                refine wp_region_later (by kernel_rfl) (by kernel_rfl) ?_
                repeat (first
                  | go_big_quiet_skip
                  | go_big_quiet_step (fail)
                  | fail)
                refine wpQuiet_nil ?_
                intro w8 hw8
                replace S := Aside0.mk (S.out.call (later_below hw8))
                clear hw8
                go_wp2
                go_meet
                case rel => exact ⟨J, false, 0, 0, rfl, rfl, rfl, ⟨by rw [HS2.out]; exact ⟨rfl, rfl, fun h => by cases h⟩⟩, ⟨S.out⟩⟩
          case rest =>
            clear S
            obtain ⟨U, lk0, fr, tt, rfl, rfl, rfl, HSU, S⟩ := hcut
            obtain ⟨pd, hpd⟩ : ∃ pd, ported16 k.f0 = pd := ⟨_, rfl⟩
            have C58 := Aside0.mk (fun W => show Calls Try.prog 58 #[.int .i64 k.f0] W (fun e w' => e = .returned (.bool pd) ∧ W = w') by rw [← hpd]; exact refported16_any k.f0 W)
            have HPD := Aside0.mk hpd
            clear hpd
            cases lk0 with
            | false =>
              obtain ⟨v, hv⟩ : ∃ v, v = freeK (turnK U) k l := ⟨_, rfl⟩
              have HP := Aside0.mk (show makeF c inn k l = if v = true then (⟨J, k, U, turnK U, turnK k, i, z⟩, 0) else (zPL, 15) by
                rw [HM2.out, HSU.out.1, HSU.out.2.1, Bool.false_and]
                unfold portR
                rw [if_neg (by decide), hv]
                cases freeK (turnK U) k l <;> rfl)
              have C59 := Aside0.mk (fun W (hW : Below w.heap.size w W) => show Calls Try.prog 59 #[.agg #[.int .i64 (turnK U).f0, .int .u64 (turnK U).f1.f0, .int .u64 (turnK U).f1.f1, .int .u64 (turnK U).f2.f0, .int .u64 (turnK U).f2.f1, .int .i64 (turnK U).f3, .int .i64 (turnK U).f4], .agg #[.int .i64 k.f0, .int .u64 k.f1.f0, .int .u64 k.f1.f1, .int .u64 k.f2.f0, .int .u64 k.f2.f1, .int .i64 k.f3, .int .i64 k.f4], .slice A l.length cap] W (fun e w' => e = .returned (.bool v) ∧ Below W.heap.size W w') by
                rw [hv]; exact reffree_any (turnK U) k l A cap W (Kd.C_below HCC.out hW))
              clear hv HM2 HSU
              cases v with
              | true =>
                have HF := Aside0.mk (show makeF c inn k l = (⟨J, k, U, turnK U, turnK k, i, z⟩, 0) from HP.out)
                go_wp2_with (first
                  | (refine gate_ (.load 3 (.tmp 131)) rfl ?_; refine wpList_load_one 3 _ rfl rfl _ _ (.int .i64 k.f0) #[.int .i64 k.f0, .int .u64 k.f1.f0, .int .u64 k.f1.f1, .int .u64 k.f2.f0, .int .u64 k.f2.f1, .int .i64 k.f3, .int .i64 k.f4] 51 (0, 0) _ rfl (S.out.get 1 rfl) rfl Try.underlying3 rfl ?_)
                  | (go_at_call 58; (with_reducible refine (C58.out _).mono ?_); rintro e w9 ⟨rfl, rfl⟩)
                  | (refine gate_ (.load 51 (.tmp 136)) rfl ?_; (first | refine gate_none rfl ?_ | refine gate_if rfl rfl rfl ?_); refine wpList_load_blk rfl 51 _ rfl _ _ 7 [.int .i64 (U).f0, .int .u64 (U).f1.f0, .int .u64 (U).f1.f1, .int .u64 (U).f2.f0, .int .u64 (U).f2.f1, .int .i64 (U).f3, .int .i64 (U).f4] (plA (⟨J, k, U, z51, turnK k, i, z⟩)) 76 (0, 0) _ rfl (S.out.get 3 rfl) (by kernel_rfl) Try.underlying51 rfl (by kernel_rfl) ?_)
                  | (go_at_call 28; (with_reducible refine (refturned_any U _).mono ?_); rintro e w9 ⟨rfl, hb9⟩; replace S := Aside0.mk (S.out.call hb9); clear hb9)
                  | (refine gate_ (.store 51 (.tmp 139) (.tmp 138)) rfl ?_; refine wpList_store_blk rfl 51 _ _ rfl B 21 #[.int .i64 (turnK U).f0, .int .u64 (turnK U).f1.f0, .int .u64 (turnK U).f1.f1, .int .u64 (turnK U).f2.f0, .int .u64 (turnK U).f2.f1, .int .i64 (turnK U).f3, .int .i64 (turnK U).f4] _ 76 rfl rfl (S.out.get 3 rfl) (Nat.le_of_ble_eq_true rfl) (by kernel_rfl) (by simp [Value.oneCell']) ?_; intro w3 hb3 hg3 hz3; replace S := Aside0.mk (S.out.set_ 3 hg3 (blk_eq (b := plA (⟨J, k, U, turnK U, turnK k, i, z⟩)) hb3 (by kernel_rfl)) hB.out (hneP HNE.out rfl)); clear hb3 hg3 hz3)
                  | (refine gate_ (.load 51 (.tmp 140)) rfl ?_; (first | refine gate_none rfl ?_ | refine gate_if rfl rfl rfl ?_); refine wpList_load_blk rfl 51 _ rfl _ _ 7 [.int .i64 (turnK U).f0, .int .u64 (turnK U).f1.f0, .int .u64 (turnK U).f1.f1, .int .u64 (turnK U).f2.f0, .int .u64 (turnK U).f2.f1, .int .i64 (turnK U).f3, .int .i64 (turnK U).f4] (plA (⟨J, k, U, turnK U, turnK k, i, z⟩)) 76 (0, 0) _ rfl (S.out.get 3 rfl) (by kernel_rfl) Try.underlying51 rfl (by kernel_rfl) ?_)
                  | (refine gate_ (.load 51 (.tmp 6)) rfl ?_; refine wpList_load_row rfl 51 _ rfl _ rfl 51 #[.int .i64 k.f0, .int .u64 k.f1.f0, .int .u64 k.f1.f1, .int .u64 k.f2.f0, .int .u64 k.f2.f1, .int .i64 k.f3, .int .i64 k.f4] (0, 0) _ (S.out.get 1 rfl) Try.underlying51 rfl (by kernel_rfl) ?_)
                  | (go_at_call 59; (with_reducible refine (C59.out _ S.out.below).mono ?_); rintro e w9 ⟨rfl, hb9⟩; replace S := Aside0.mk (S.out.call hb9); clear hb9)
                  | (refine gate_ (.load 76 (.tmp 10)) rfl ?_; refine wpList_load_row rfl 76 _ rfl _ rfl 76 (plA ⟨J, k, U, turnK U, turnK k, i, z⟩) (0, 0) _ (S.out.get 3 rfl) Try.underlying76 rfl (plA_info76 _) ?_)
                  | (refine gate_ (.store 76 (.tmp 8) (.tmp 147)) rfl ?_; refine wpList_store_all rfl 76 _ _ rfl _ (plA ⟨J, k, U, turnK U, turnK k, i, z⟩) _ _ rfl rfl (S.out.get 2 rfl) rfl (plA_info76 _) (plA_one _) ?_; intro w7 hb7 hg7 hz7)
                  | (with_reducible refine halt_end ?_)
                  | fail)
                refine Aside0.mk ?_
                refine ends_ct (v := .int .i64 0) rfl (by kernel_rfl) (by kernel_rfl) hb7 Try.underlying76 rfl (plA_info76 _) rfl ?_
                exact ⟨by rw [HF.out], S.out.below.trans (below_grown hg7 S.out.below.size (by omega))⟩
              | false =>
                have HF := Aside0.mk (show makeF c inn k l = (zPL, 15) from HP.out)
                go_wp2_with (first
                  | (refine gate_ (.load 3 (.tmp 131)) rfl ?_; refine wpList_load_one 3 _ rfl rfl _ _ (.int .i64 k.f0) #[.int .i64 k.f0, .int .u64 k.f1.f0, .int .u64 k.f1.f1, .int .u64 k.f2.f0, .int .u64 k.f2.f1, .int .i64 k.f3, .int .i64 k.f4] 51 (0, 0) _ rfl (S.out.get 1 rfl) rfl Try.underlying3 rfl ?_)
                  | (go_at_call 58; (with_reducible refine (C58.out _).mono ?_); rintro e w9 ⟨rfl, rfl⟩)
                  | (refine gate_ (.load 51 (.tmp 136)) rfl ?_; (first | refine gate_none rfl ?_ | refine gate_if rfl rfl rfl ?_); refine wpList_load_blk rfl 51 _ rfl _ _ 7 [.int .i64 (U).f0, .int .u64 (U).f1.f0, .int .u64 (U).f1.f1, .int .u64 (U).f2.f0, .int .u64 (U).f2.f1, .int .i64 (U).f3, .int .i64 (U).f4] (plA (⟨J, k, U, z51, turnK k, i, z⟩)) 76 (0, 0) _ rfl (S.out.get 3 rfl) (by kernel_rfl) Try.underlying51 rfl (by kernel_rfl) ?_)
                  | (go_at_call 28; (with_reducible refine (refturned_any U _).mono ?_); rintro e w9 ⟨rfl, hb9⟩; replace S := Aside0.mk (S.out.call hb9); clear hb9)
                  | (refine gate_ (.store 51 (.tmp 139) (.tmp 138)) rfl ?_; refine wpList_store_blk rfl 51 _ _ rfl B 21 #[.int .i64 (turnK U).f0, .int .u64 (turnK U).f1.f0, .int .u64 (turnK U).f1.f1, .int .u64 (turnK U).f2.f0, .int .u64 (turnK U).f2.f1, .int .i64 (turnK U).f3, .int .i64 (turnK U).f4] _ 76 rfl rfl (S.out.get 3 rfl) (Nat.le_of_ble_eq_true rfl) (by kernel_rfl) (by simp [Value.oneCell']) ?_; intro w3 hb3 hg3 hz3; replace S := Aside0.mk (S.out.set_ 3 hg3 (blk_eq (b := plA (⟨J, k, U, turnK U, turnK k, i, z⟩)) hb3 (by kernel_rfl)) hB.out (hneP HNE.out rfl)); clear hb3 hg3 hz3)
                  | (refine gate_ (.load 51 (.tmp 140)) rfl ?_; (first | refine gate_none rfl ?_ | refine gate_if rfl rfl rfl ?_); refine wpList_load_blk rfl 51 _ rfl _ _ 7 [.int .i64 (turnK U).f0, .int .u64 (turnK U).f1.f0, .int .u64 (turnK U).f1.f1, .int .u64 (turnK U).f2.f0, .int .u64 (turnK U).f2.f1, .int .i64 (turnK U).f3, .int .i64 (turnK U).f4] (plA (⟨J, k, U, turnK U, turnK k, i, z⟩)) 76 (0, 0) _ rfl (S.out.get 3 rfl) (by kernel_rfl) Try.underlying51 rfl (by kernel_rfl) ?_)
                  | (refine gate_ (.load 51 (.tmp 6)) rfl ?_; refine wpList_load_row rfl 51 _ rfl _ rfl 51 #[.int .i64 k.f0, .int .u64 k.f1.f0, .int .u64 k.f1.f1, .int .u64 k.f2.f0, .int .u64 k.f2.f1, .int .i64 k.f3, .int .i64 k.f4] (0, 0) _ (S.out.get 1 rfl) Try.underlying51 rfl (by kernel_rfl) ?_)
                  | (go_at_call 59; (with_reducible refine (C59.out _ S.out.below).mono ?_); rintro e w9 ⟨rfl, hb9⟩; replace S := Aside0.mk (S.out.call hb9); clear hb9)
                  | (refine gate_dst (N := 146) rfl ?_; refine wpList_buildTo rfl 76 _ rfl (some 146) rfl (plA zPL) (by kernel_rfl) ?_)
                  | (refine gate_ (.store 76 (.tmp 8) (.tmp 146)) rfl ?_; refine wpList_store_all rfl 76 _ _ rfl _ (plA zPL) _ _ rfl rfl (S.out.get 2 rfl) rfl (plA_info76 _) (plA_one _) ?_; intro w7 hb7 hg7 hz7)
                  | (with_reducible refine halt_end ?_)
                  | fail)
                refine Aside0.mk ?_
                refine ends_ct (v := .int .i64 15) rfl (by kernel_rfl) (by kernel_rfl) hb7 Try.underlying76 rfl (plA_info76 _) rfl ?_
                exact ⟨by rw [HF.out], S.out.below.trans (below_grown hg7 S.out.below.size (by omega))⟩
            | true =>
              cases pd with
              | false =>
                obtain ⟨v, hv⟩ : ∃ v, v = freeK (turnK U) k l := ⟨_, rfl⟩
                have HP := Aside0.mk (show makeF c inn k l = if v = true then (⟨J, k, U, turnK U, turnK k, i, z⟩, 0) else (zPL, 15) by
                  rw [HM2.out, HSU.out.1, HSU.out.2.1, HPD.out, Bool.and_false]
                  unfold portR
                  rw [if_neg (by decide), hv]
                  cases freeK (turnK U) k l <;> rfl)
                have C59 := Aside0.mk (fun W (hW : Below w.heap.size w W) => show Calls Try.prog 59 #[.agg #[.int .i64 (turnK U).f0, .int .u64 (turnK U).f1.f0, .int .u64 (turnK U).f1.f1, .int .u64 (turnK U).f2.f0, .int .u64 (turnK U).f2.f1, .int .i64 (turnK U).f3, .int .i64 (turnK U).f4], .agg #[.int .i64 k.f0, .int .u64 k.f1.f0, .int .u64 k.f1.f1, .int .u64 k.f2.f0, .int .u64 k.f2.f1, .int .i64 k.f3, .int .i64 k.f4], .slice A l.length cap] W (fun e w' => e = .returned (.bool v) ∧ Below W.heap.size W w') by
                  rw [hv]; exact reffree_any (turnK U) k l A cap W (Kd.C_below HCC.out hW))
                clear hv HM2 HSU
                cases v with
                | true =>
                  have HF := Aside0.mk (show makeF c inn k l = (⟨J, k, U, turnK U, turnK k, i, z⟩, 0) from HP.out)
                  go_wp2_with (first
                    | (refine gate_ (.load 3 (.tmp 131)) rfl ?_; refine wpList_load_one 3 _ rfl rfl _ _ (.int .i64 k.f0) #[.int .i64 k.f0, .int .u64 k.f1.f0, .int .u64 k.f1.f1, .int .u64 k.f2.f0, .int .u64 k.f2.f1, .int .i64 k.f3, .int .i64 k.f4] 51 (0, 0) _ rfl (S.out.get 1 rfl) rfl Try.underlying3 rfl ?_)
                    | (go_at_call 58; (with_reducible refine (C58.out _).mono ?_); rintro e w9 ⟨rfl, rfl⟩)
                    | (refine gate_ (.load 51 (.tmp 136)) rfl ?_; (first | refine gate_none rfl ?_ | refine gate_if rfl rfl rfl ?_); refine wpList_load_blk rfl 51 _ rfl _ _ 7 [.int .i64 (U).f0, .int .u64 (U).f1.f0, .int .u64 (U).f1.f1, .int .u64 (U).f2.f0, .int .u64 (U).f2.f1, .int .i64 (U).f3, .int .i64 (U).f4] (plA (⟨J, k, U, z51, turnK k, i, z⟩)) 76 (0, 0) _ rfl (S.out.get 3 rfl) (by kernel_rfl) Try.underlying51 rfl (by kernel_rfl) ?_)
                    | (go_at_call 28; (with_reducible refine (refturned_any U _).mono ?_); rintro e w9 ⟨rfl, hb9⟩; replace S := Aside0.mk (S.out.call hb9); clear hb9)
                    | (refine gate_ (.store 51 (.tmp 139) (.tmp 138)) rfl ?_; refine wpList_store_blk rfl 51 _ _ rfl B 21 #[.int .i64 (turnK U).f0, .int .u64 (turnK U).f1.f0, .int .u64 (turnK U).f1.f1, .int .u64 (turnK U).f2.f0, .int .u64 (turnK U).f2.f1, .int .i64 (turnK U).f3, .int .i64 (turnK U).f4] _ 76 rfl rfl (S.out.get 3 rfl) (Nat.le_of_ble_eq_true rfl) (by kernel_rfl) (by simp [Value.oneCell']) ?_; intro w3 hb3 hg3 hz3; replace S := Aside0.mk (S.out.set_ 3 hg3 (blk_eq (b := plA (⟨J, k, U, turnK U, turnK k, i, z⟩)) hb3 (by kernel_rfl)) hB.out (hneP HNE.out rfl)); clear hb3 hg3 hz3)
                    | (refine gate_ (.load 51 (.tmp 140)) rfl ?_; (first | refine gate_none rfl ?_ | refine gate_if rfl rfl rfl ?_); refine wpList_load_blk rfl 51 _ rfl _ _ 7 [.int .i64 (turnK U).f0, .int .u64 (turnK U).f1.f0, .int .u64 (turnK U).f1.f1, .int .u64 (turnK U).f2.f0, .int .u64 (turnK U).f2.f1, .int .i64 (turnK U).f3, .int .i64 (turnK U).f4] (plA (⟨J, k, U, turnK U, turnK k, i, z⟩)) 76 (0, 0) _ rfl (S.out.get 3 rfl) (by kernel_rfl) Try.underlying51 rfl (by kernel_rfl) ?_)
                    | (refine gate_ (.load 51 (.tmp 6)) rfl ?_; refine wpList_load_row rfl 51 _ rfl _ rfl 51 #[.int .i64 k.f0, .int .u64 k.f1.f0, .int .u64 k.f1.f1, .int .u64 k.f2.f0, .int .u64 k.f2.f1, .int .i64 k.f3, .int .i64 k.f4] (0, 0) _ (S.out.get 1 rfl) Try.underlying51 rfl (by kernel_rfl) ?_)
                    | (go_at_call 59; (with_reducible refine (C59.out _ S.out.below).mono ?_); rintro e w9 ⟨rfl, hb9⟩; replace S := Aside0.mk (S.out.call hb9); clear hb9)
                    | (refine gate_ (.load 76 (.tmp 10)) rfl ?_; refine wpList_load_row rfl 76 _ rfl _ rfl 76 (plA ⟨J, k, U, turnK U, turnK k, i, z⟩) (0, 0) _ (S.out.get 3 rfl) Try.underlying76 rfl (plA_info76 _) ?_)
                    | (refine gate_ (.store 76 (.tmp 8) (.tmp 147)) rfl ?_; refine wpList_store_all rfl 76 _ _ rfl _ (plA ⟨J, k, U, turnK U, turnK k, i, z⟩) _ _ rfl rfl (S.out.get 2 rfl) rfl (plA_info76 _) (plA_one _) ?_; intro w7 hb7 hg7 hz7)
                    | (with_reducible refine halt_end ?_)
                    | fail)
                  refine Aside0.mk ?_
                  refine ends_ct (v := .int .i64 0) rfl (by kernel_rfl) (by kernel_rfl) hb7 Try.underlying76 rfl (plA_info76 _) rfl ?_
                  exact ⟨by rw [HF.out], S.out.below.trans (below_grown hg7 S.out.below.size (by omega))⟩
                | false =>
                  have HF := Aside0.mk (show makeF c inn k l = (zPL, 15) from HP.out)
                  go_wp2_with (first
                    | (refine gate_ (.load 3 (.tmp 131)) rfl ?_; refine wpList_load_one 3 _ rfl rfl _ _ (.int .i64 k.f0) #[.int .i64 k.f0, .int .u64 k.f1.f0, .int .u64 k.f1.f1, .int .u64 k.f2.f0, .int .u64 k.f2.f1, .int .i64 k.f3, .int .i64 k.f4] 51 (0, 0) _ rfl (S.out.get 1 rfl) rfl Try.underlying3 rfl ?_)
                    | (go_at_call 58; (with_reducible refine (C58.out _).mono ?_); rintro e w9 ⟨rfl, rfl⟩)
                    | (refine gate_ (.load 51 (.tmp 136)) rfl ?_; (first | refine gate_none rfl ?_ | refine gate_if rfl rfl rfl ?_); refine wpList_load_blk rfl 51 _ rfl _ _ 7 [.int .i64 (U).f0, .int .u64 (U).f1.f0, .int .u64 (U).f1.f1, .int .u64 (U).f2.f0, .int .u64 (U).f2.f1, .int .i64 (U).f3, .int .i64 (U).f4] (plA (⟨J, k, U, z51, turnK k, i, z⟩)) 76 (0, 0) _ rfl (S.out.get 3 rfl) (by kernel_rfl) Try.underlying51 rfl (by kernel_rfl) ?_)
                    | (go_at_call 28; (with_reducible refine (refturned_any U _).mono ?_); rintro e w9 ⟨rfl, hb9⟩; replace S := Aside0.mk (S.out.call hb9); clear hb9)
                    | (refine gate_ (.store 51 (.tmp 139) (.tmp 138)) rfl ?_; refine wpList_store_blk rfl 51 _ _ rfl B 21 #[.int .i64 (turnK U).f0, .int .u64 (turnK U).f1.f0, .int .u64 (turnK U).f1.f1, .int .u64 (turnK U).f2.f0, .int .u64 (turnK U).f2.f1, .int .i64 (turnK U).f3, .int .i64 (turnK U).f4] _ 76 rfl rfl (S.out.get 3 rfl) (Nat.le_of_ble_eq_true rfl) (by kernel_rfl) (by simp [Value.oneCell']) ?_; intro w3 hb3 hg3 hz3; replace S := Aside0.mk (S.out.set_ 3 hg3 (blk_eq (b := plA (⟨J, k, U, turnK U, turnK k, i, z⟩)) hb3 (by kernel_rfl)) hB.out (hneP HNE.out rfl)); clear hb3 hg3 hz3)
                    | (refine gate_ (.load 51 (.tmp 140)) rfl ?_; (first | refine gate_none rfl ?_ | refine gate_if rfl rfl rfl ?_); refine wpList_load_blk rfl 51 _ rfl _ _ 7 [.int .i64 (turnK U).f0, .int .u64 (turnK U).f1.f0, .int .u64 (turnK U).f1.f1, .int .u64 (turnK U).f2.f0, .int .u64 (turnK U).f2.f1, .int .i64 (turnK U).f3, .int .i64 (turnK U).f4] (plA (⟨J, k, U, turnK U, turnK k, i, z⟩)) 76 (0, 0) _ rfl (S.out.get 3 rfl) (by kernel_rfl) Try.underlying51 rfl (by kernel_rfl) ?_)
                    | (refine gate_ (.load 51 (.tmp 6)) rfl ?_; refine wpList_load_row rfl 51 _ rfl _ rfl 51 #[.int .i64 k.f0, .int .u64 k.f1.f0, .int .u64 k.f1.f1, .int .u64 k.f2.f0, .int .u64 k.f2.f1, .int .i64 k.f3, .int .i64 k.f4] (0, 0) _ (S.out.get 1 rfl) Try.underlying51 rfl (by kernel_rfl) ?_)
                    | (go_at_call 59; (with_reducible refine (C59.out _ S.out.below).mono ?_); rintro e w9 ⟨rfl, hb9⟩; replace S := Aside0.mk (S.out.call hb9); clear hb9)
                    | (refine gate_dst (N := 146) rfl ?_; refine wpList_buildTo rfl 76 _ rfl (some 146) rfl (plA zPL) (by kernel_rfl) ?_)
                    | (refine gate_ (.store 76 (.tmp 8) (.tmp 146)) rfl ?_; refine wpList_store_all rfl 76 _ _ rfl _ (plA zPL) _ _ rfl rfl (S.out.get 2 rfl) rfl (plA_info76 _) (plA_one _) ?_; intro w7 hb7 hg7 hz7)
                    | (with_reducible refine halt_end ?_)
                    | fail)
                  refine Aside0.mk ?_
                  refine ends_ct (v := .int .i64 15) rfl (by kernel_rfl) (by kernel_rfl) hb7 Try.underlying76 rfl (plA_info76 _) rfl ?_
                  exact ⟨by rw [HF.out], S.out.below.trans (below_grown hg7 S.out.below.size (by omega))⟩
              | true =>
                have HM3 := Aside0.mk (show makeF c inn k l = match portR U k true fr tt l with
                    | some u => (⟨J, k, u, turnK u, turnK k, i, z⟩, 0)
                    | none => (zPL, 15) by rw [HM2.out, HSU.out.1, HSU.out.2.1, HSU.out.2.2 rfl, HPD.out, Bool.true_and])
                clear HM2 HSU
                have hmany := manyP_le fr tt
                go_wp2_with (first
                  | (refine gate_ (.load 3 (.tmp 131)) rfl ?_; refine wpList_load_one 3 _ rfl rfl _ _ (.int .i64 k.f0) #[.int .i64 k.f0, .int .u64 k.f1.f0, .int .u64 k.f1.f1, .int .u64 k.f2.f0, .int .u64 k.f2.f1, .int .i64 k.f3, .int .i64 k.f4] 51 (0, 0) _ rfl (S.out.get 1 rfl) rfl Try.underlying3 rfl ?_)
                  | (go_at_call 58; (with_reducible refine (C58.out _).mono ?_); rintro e w9 ⟨rfl, rfl⟩)
                  | fail)
                go_loopw [18] (fun v wr => ∃ (i' : Nat) (u b : S51), i' ≤ manyP fr tt ∧ v = .int .i64 i' ∧ Aside0 (∀ j, j < i' → hitP U k fr tt l j = false) ∧ Aside0 (∀ p, outP u k p = outP U k p) ∧ Aside0 (St w [(w.heap.size, .cells #[.slice A0 c.f0.length c0, .slice A1 c.f1.length c1, .slice A2 c.f2.length c2, .slice A3 c.f3.length c3, .slice A4 c.f4.length c4, .slice A5 c.f5.length c5, .slice A6 c.f6.length c6, .int .i64 c.f7] 36 (0, 0)), (w.heap.size + 1, .cells #[.int .i64 k.f0, .int .u64 k.f1.f0, .int .u64 k.f1.f1, .int .u64 k.f2.f0, .int .u64 k.f2.f1, .int .i64 k.f3, .int .i64 k.f4] 51 (0, 0)), (w.heap.size + 2, .cells #[.int .i64 0, .int .u64 0, .int .u64 0, .int .u64 0, .int .u64 0, .int .i64 0, .int .i64 0, .int .i64 0, .int .u64 0, .int .u64 0, .int .u64 0, .int .u64 0, .int .i64 0, .int .i64 0, .int .i64 0, .int .u64 0, .int .u64 0, .int .u64 0, .int .u64 0, .int .i64 0, .int .i64 0, .int .i64 0, .int .u64 0, .int .u64 0, .int .u64 0, .int .u64 0, .int .i64 0, .int .i64 0, .int .i64 0, .int .u64 0, .int .u64 0, .int .u64 0, .int .u64 0, .int .i64 0, .int .i64 0, .int .i64 0, .int .i64 0] 76 (0, 0)), (B, .cells (plA (⟨J, k, u, b, turnK k, i, z⟩)) 76 (0, 0)), (D, .cells #[.int .u64 d.f0, .int .u64 d.f1] 39 (0, 0))] wr)) (fun v _ => manyP fr tt + 1 - (intOf v).toNat)
                case atStart => exact ⟨0, U, z51, Nat.zero_le _, rfl, ⟨fun j hj => by omega⟩, ⟨fun p => rfl⟩, ⟨S.out⟩⟩
                case round =>
                  clear S
                  obtain ⟨i', u, b, hi', rfl, HN, HO, S⟩ := hrel
                  obtain ⟨bad, hbad⟩ : ∃ bad, portBad fr tt i' = bad := ⟨_, rfl⟩
                  have HBD := Aside0.mk hbad
                  obtain ⟨pv, hpv⟩ : ∃ pv, portAt fr tt k.f3 i' = pv := ⟨_, rfl⟩
                  have HPV := Aside0.mk hpv
                  have HPO := Aside0.mk (fun W => show Calls Try.prog 16 #[.int .i64 fr, .int .i64 tt, .int .i64 k.f3, .int .i64 i'] W (fun e w' => e = .returned (if bad = true then .tuple #[.int .i64 0, .bool false] else .tuple #[.int .i64 pv, .bool true]) ∧ W = w') by
                    refine (refport_any fr tt k.f3 i' W).mono ?_
                    rintro e w' ⟨rfl, rfl⟩
                    exact ⟨by unfold portV; rw [hbad, hpv], rfl⟩)
                  clear hbad hpv
                  cases bad with
                  | true =>
                    have HX := Aside0.mk ((portBad_iff fr tt i').1 HBD.out)
                    have HPO2 := Aside0.mk (fun W => show Calls Try.prog 16 #[.int .i64 fr, .int .i64 tt, .int .i64 k.f3, .int .i64 i'] W (fun e w' => e = .returned (.tuple #[.int .i64 0, .bool false]) ∧ W = w') from HPO.out W)
                    have HF := Aside0.mk (show makeF c inn k l = (zPL, 15) by rw [HM3.out]; unfold portR; rw [if_pos rfl, find_none (fun j hj => HN.out j (by have := HX.out; omega))]; rfl)
                    clear HPO HX
                    clear HO HN
                    go_wp2_with (first
                      | (refine gate_ (.load 3 (.tmp 158)) rfl ?_; refine wpList_load_one 3 _ rfl rfl _ _ (.int .i64 k.f3) #[.int .i64 k.f0, .int .u64 k.f1.f0, .int .u64 k.f1.f1, .int .u64 k.f2.f0, .int .u64 k.f2.f1, .int .i64 k.f3, .int .i64 k.f4] 51 (0, 0) _ rfl (S.out.get 1 rfl) rfl Try.underlying3 rfl ?_)
                      | (go_at_call 16; (with_reducible refine (HPO2.out _).mono ?_); rintro e w9 ⟨rfl, rfl⟩)
                      | (refine gate_dst (N := 166) rfl ?_; refine wpList_buildTo rfl 76 _ rfl (some 166) rfl (plA zPL) (by kernel_rfl) ?_)
                      | (refine gate_ (.store 76 (.tmp 8) (.tmp 166)) rfl ?_; refine wpList_store_all rfl 76 _ _ rfl _ (plA zPL) _ _ rfl rfl (S.out.get 2 rfl) rfl (plA_info76 _) (plA_one _) ?_; intro w7 hb7 hg7 hz7)
                      | (refine gate_dst (N := 186) rfl ?_; refine wpList_buildTo rfl 76 _ rfl (some 186) rfl (plA zPL) (by kernel_rfl) ?_)
                      | (refine gate_ (.store 76 (.tmp 8) (.tmp 186)) rfl ?_; refine wpList_store_all rfl 76 _ _ rfl _ (plA zPL) _ _ rfl rfl (S.out.get 2 rfl) rfl (plA_info76 _) (plA_one _) ?_; intro w7 hb7 hg7 hz7)
                      | (with_reducible refine halt_end ?_)
                      | fail)
                    all_goals
                      refine Aside0.mk ?_
                      refine ends_ct (v := .int .i64 15) rfl (by kernel_rfl) (by kernel_rfl) hb7 Try.underlying76 rfl (plA_info76 _) rfl ?_
                      exact ⟨by rw [HF.out], S.out.below.trans (below_grown hg7 S.out.below.size (by omega))⟩
                  | false =>
                    have hlt : i' < manyP fr tt := by
                      rcases Nat.lt_or_ge i' (manyP fr tt) with h | h
                      · exact h
                      · have := (portBad_iff fr tt i').2 h
                        rw [HBD.out] at this
                        cases this
                    have hrg : 0 ≤ fr ∧ fr ≤ 65535 ∧ fr ≤ tt ∧ tt ≤ 65535 ∧ (i' : Int) ≤ tt - fr := by
                      have := HBD.out
                      unfold portBad at this
                      simp at this
                      omega
                    obtain ⟨r0, r1, r2, r3, r4⟩ := hrg
                    have HPO2 := Aside0.mk (fun W => show Calls Try.prog 16 #[.int .i64 fr, .int .i64 tt, .int .i64 k.f3, .int .i64 i'] W (fun e w' => e = .returned (.tuple #[.int .i64 pv, .bool true]) ∧ W = w') from HPO.out W)
                    clear HPO
                    obtain ⟨v, hv⟩ : ∃ v, hitP U k fr tt l i' = v := ⟨_, rfl⟩
                    have HV := Aside0.mk hv
                    have HU0 := Aside0.mk (show outP u k pv = ⟨u.f0, u.f1, u.f2, pv, if ic = true then pv else u.f4⟩ by unfold outP; rw [HIC.out])
                    clear hv
                    cases ic with
                    | false =>
                      have HU := Aside0.mk (show outP u k pv = ⟨u.f0, u.f1, u.f2, pv, u.f4⟩ from HU0.out)
                      have C59 := Aside0.mk (fun W (hW : Below w.heap.size w W) => show Calls Try.prog 59 #[.agg #[.int .i64 (turnK ⟨u.f0, u.f1, u.f2, pv, u.f4⟩).f0, .int .u64 (turnK ⟨u.f0, u.f1, u.f2, pv, u.f4⟩).f1.f0, .int .u64 (turnK ⟨u.f0, u.f1, u.f2, pv, u.f4⟩).f1.f1, .int .u64 (turnK ⟨u.f0, u.f1, u.f2, pv, u.f4⟩).f2.f0, .int .u64 (turnK ⟨u.f0, u.f1, u.f2, pv, u.f4⟩).f2.f1, .int .i64 (turnK ⟨u.f0, u.f1, u.f2, pv, u.f4⟩).f3, .int .i64 (turnK ⟨u.f0, u.f1, u.f2, pv, u.f4⟩).f4], .agg #[.int .i64 k.f0, .int .u64 k.f1.f0, .int .u64 k.f1.f1, .int .u64 k.f2.f0, .int .u64 k.f2.f1, .int .i64 k.f3, .int .i64 k.f4], .slice A l.length cap] W (fun e w' => e = .returned (.bool v) ∧ Below W.heap.size W w') by
                        have h := reffree_any (turnK ⟨u.f0, u.f1, u.f2, pv, u.f4⟩) k l A cap W (Kd.C_below HCC.out hW)
                        have e : freeK (turnK ⟨u.f0, u.f1, u.f2, pv, u.f4⟩) k l = v := by rw [← HU.out, HO.out, ← HPV.out]; exact HV.out
                        rw [e] at h
                        exact h)
                      cases v with
                      | true =>
                        go_wp2_with (first
                          | (refine gate_ (.load 3 (.tmp 158)) rfl ?_; refine wpList_load_one 3 _ rfl rfl _ _ (.int .i64 k.f3) #[.int .i64 k.f0, .int .u64 k.f1.f0, .int .u64 k.f1.f1, .int .u64 k.f2.f0, .int .u64 k.f2.f1, .int .i64 k.f3, .int .i64 k.f4] 51 (0, 0) _ rfl (S.out.get 1 rfl) rfl Try.underlying3 rfl ?_)
                          | (go_at_call 16; (with_reducible refine (HPO2.out _).mono ?_); rintro e w9 ⟨rfl, rfl⟩)
                          | (refine gate_ (.store 3 (.tmp 169) (.tmp 167)) rfl ?_; refine wpList_store_blk rfl 3 _ _ rfl B 19 #[.int .i64 pv] _ 76 rfl rfl (S.out.get 3 rfl) (Nat.le_of_ble_eq_true rfl) (by kernel_rfl) (by simp [Value.oneCell']) ?_; intro w3 hb3 hg3 hz3; replace S := Aside0.mk (S.out.set_ 3 hg3 (blk_eq (b := plA (⟨J, k, ⟨u.f0, u.f1, u.f2, pv, u.f4⟩, b, turnK k, i, z⟩)) hb3 (by kernel_rfl)) hB.out (hneP HNE.out rfl)); clear hb3 hg3 hz3)
                          | (refine gate_ (.load 3 (.tmp 170)) rfl ?_; refine wpList_load_one 3 _ rfl rfl _ _ (.int .i64 k.f0) #[.int .i64 k.f0, .int .u64 k.f1.f0, .int .u64 k.f1.f1, .int .u64 k.f2.f0, .int .u64 k.f2.f1, .int .i64 k.f3, .int .i64 k.f4] 51 (0, 0) _ rfl (S.out.get 1 rfl) rfl Try.underlying3 rfl ?_)
                          | (go_at_call 55; (with_reducible refine (C55.out _).mono ?_); rintro e w9 ⟨rfl, rfl⟩)
                          | (refine gate_ (.load 51 (.tmp 176)) rfl ?_; (first | refine gate_none rfl ?_ | refine gate_if rfl rfl rfl ?_); refine wpList_load_blk rfl 51 _ rfl _ _ 7 [.int .i64 ((⟨u.f0, u.f1, u.f2, pv, u.f4⟩ : S51)).f0, .int .u64 ((⟨u.f0, u.f1, u.f2, pv, u.f4⟩ : S51)).f1.f0, .int .u64 ((⟨u.f0, u.f1, u.f2, pv, u.f4⟩ : S51)).f1.f1, .int .u64 ((⟨u.f0, u.f1, u.f2, pv, u.f4⟩ : S51)).f2.f0, .int .u64 ((⟨u.f0, u.f1, u.f2, pv, u.f4⟩ : S51)).f2.f1, .int .i64 ((⟨u.f0, u.f1, u.f2, pv, u.f4⟩ : S51)).f3, .int .i64 ((⟨u.f0, u.f1, u.f2, pv, u.f4⟩ : S51)).f4] (plA (⟨J, k, ⟨u.f0, u.f1, u.f2, pv, u.f4⟩, b, turnK k, i, z⟩)) 76 (0, 0) _ rfl (S.out.get 3 rfl) (by kernel_rfl) Try.underlying51 rfl (by kernel_rfl) ?_)
                          | (go_at_call 28; (with_reducible refine (refturned_any ⟨u.f0, u.f1, u.f2, pv, u.f4⟩ _).mono ?_); rintro e w9 ⟨rfl, hb9⟩; replace S := Aside0.mk (S.out.call hb9); clear hb9)
                          | (refine gate_ (.store 51 (.tmp 179) (.tmp 178)) rfl ?_; refine wpList_store_blk rfl 51 _ _ rfl B 21 #[.int .i64 (turnK ⟨u.f0, u.f1, u.f2, pv, u.f4⟩).f0, .int .u64 (turnK ⟨u.f0, u.f1, u.f2, pv, u.f4⟩).f1.f0, .int .u64 (turnK ⟨u.f0, u.f1, u.f2, pv, u.f4⟩).f1.f1, .int .u64 (turnK ⟨u.f0, u.f1, u.f2, pv, u.f4⟩).f2.f0, .int .u64 (turnK ⟨u.f0, u.f1, u.f2, pv, u.f4⟩).f2.f1, .int .i64 (turnK ⟨u.f0, u.f1, u.f2, pv, u.f4⟩).f3, .int .i64 (turnK ⟨u.f0, u.f1, u.f2, pv, u.f4⟩).f4] _ 76 rfl rfl (S.out.get 3 rfl) (Nat.le_of_ble_eq_true rfl) (by kernel_rfl) (by simp [Value.oneCell']) ?_; intro w3 hb3 hg3 hz3; replace S := Aside0.mk (S.out.set_ 3 hg3 (blk_eq (b := plA (⟨J, k, ⟨u.f0, u.f1, u.f2, pv, u.f4⟩, turnK ⟨u.f0, u.f1, u.f2, pv, u.f4⟩, turnK k, i, z⟩)) hb3 (by kernel_rfl)) hB.out (hneP HNE.out rfl)); clear hb3 hg3 hz3)
                          | (refine gate_ (.load 51 (.tmp 180)) rfl ?_; (first | refine gate_none rfl ?_ | refine gate_if rfl rfl rfl ?_); refine wpList_load_blk rfl 51 _ rfl _ _ 7 [.int .i64 (turnK ⟨u.f0, u.f1, u.f2, pv, u.f4⟩).f0, .int .u64 (turnK ⟨u.f0, u.f1, u.f2, pv, u.f4⟩).f1.f0, .int .u64 (turnK ⟨u.f0, u.f1, u.f2, pv, u.f4⟩).f1.f1, .int .u64 (turnK ⟨u.f0, u.f1, u.f2, pv, u.f4⟩).f2.f0, .int .u64 (turnK ⟨u.f0, u.f1, u.f2, pv, u.f4⟩).f2.f1, .int .i64 (turnK ⟨u.f0, u.f1, u.f2, pv, u.f4⟩).f3, .int .i64 (turnK ⟨u.f0, u.f1, u.f2, pv, u.f4⟩).f4] (plA (⟨J, k, ⟨u.f0, u.f1, u.f2, pv, u.f4⟩, turnK ⟨u.f0, u.f1, u.f2, pv, u.f4⟩, turnK k, i, z⟩)) 76 (0, 0) _ rfl (S.out.get 3 rfl) (by kernel_rfl) Try.underlying51 rfl (by kernel_rfl) ?_)
                          | (refine gate_ (.load 51 (.tmp 6)) rfl ?_; refine wpList_load_row rfl 51 _ rfl _ rfl 51 #[.int .i64 k.f0, .int .u64 k.f1.f0, .int .u64 k.f1.f1, .int .u64 k.f2.f0, .int .u64 k.f2.f1, .int .i64 k.f3, .int .i64 k.f4] (0, 0) _ (S.out.get 1 rfl) Try.underlying51 rfl (by kernel_rfl) ?_)
                          | (go_at_call 59; (with_reducible refine (C59.out _ S.out.below).mono ?_); rintro e w9 ⟨rfl, hb9⟩; replace S := Aside0.mk (S.out.call hb9); clear hb9)
                          | (refine gate_ (.load 76 (.tmp 10)) rfl ?_; refine wpList_load_row rfl 76 _ rfl _ rfl 76 (plA ⟨J, k, ⟨u.f0, u.f1, u.f2, pv, u.f4⟩, turnK ⟨u.f0, u.f1, u.f2, pv, u.f4⟩, turnK k, i, z⟩) (0, 0) _ (S.out.get 3 rfl) Try.underlying76 rfl (plA_info76 _) ?_)
                          | (refine gate_ (.store 76 (.tmp 8) (.tmp 185)) rfl ?_; refine wpList_store_all rfl 76 _ _ rfl _ (plA ⟨J, k, ⟨u.f0, u.f1, u.f2, pv, u.f4⟩, turnK ⟨u.f0, u.f1, u.f2, pv, u.f4⟩, turnK k, i, z⟩) _ _ rfl rfl (S.out.get 2 rfl) rfl (plA_info76 _) (plA_one _) ?_; intro w7 hb7 hg7 hz7)
                          | (with_reducible refine halt_end ?_)
                          | fail)
                        refine Aside0.mk ?_
                        refine ends_ct (v := .int .i64 0) rfl (by kernel_rfl) (by kernel_rfl) hb7 Try.underlying76 rfl (plA_info76 _) rfl ?_
                        exact ⟨by rw [HM3.out]; unfold portR; rw [if_pos rfl, find_some hlt HV.out HN.out, Option.map_some, HPV.out, ← HO.out, HU.out], S.out.below.trans (below_grown hg7 S.out.below.size (by omega))⟩
                      | false =>
                        go_wp2_with (first
                          | (refine gate_ (.load 3 (.tmp 158)) rfl ?_; refine wpList_load_one 3 _ rfl rfl _ _ (.int .i64 k.f3) #[.int .i64 k.f0, .int .u64 k.f1.f0, .int .u64 k.f1.f1, .int .u64 k.f2.f0, .int .u64 k.f2.f1, .int .i64 k.f3, .int .i64 k.f4] 51 (0, 0) _ rfl (S.out.get 1 rfl) rfl Try.underlying3 rfl ?_)
                          | (go_at_call 16; (with_reducible refine (HPO2.out _).mono ?_); rintro e w9 ⟨rfl, rfl⟩)
                          | (refine gate_ (.store 3 (.tmp 169) (.tmp 167)) rfl ?_; refine wpList_store_blk rfl 3 _ _ rfl B 19 #[.int .i64 pv] _ 76 rfl rfl (S.out.get 3 rfl) (Nat.le_of_ble_eq_true rfl) (by kernel_rfl) (by simp [Value.oneCell']) ?_; intro w3 hb3 hg3 hz3; replace S := Aside0.mk (S.out.set_ 3 hg3 (blk_eq (b := plA (⟨J, k, ⟨u.f0, u.f1, u.f2, pv, u.f4⟩, b, turnK k, i, z⟩)) hb3 (by kernel_rfl)) hB.out (hneP HNE.out rfl)); clear hb3 hg3 hz3)
                          | (refine gate_ (.load 3 (.tmp 170)) rfl ?_; refine wpList_load_one 3 _ rfl rfl _ _ (.int .i64 k.f0) #[.int .i64 k.f0, .int .u64 k.f1.f0, .int .u64 k.f1.f1, .int .u64 k.f2.f0, .int .u64 k.f2.f1, .int .i64 k.f3, .int .i64 k.f4] 51 (0, 0) _ rfl (S.out.get 1 rfl) rfl Try.underlying3 rfl ?_)
                          | (go_at_call 55; (with_reducible refine (C55.out _).mono ?_); rintro e w9 ⟨rfl, rfl⟩)
                          | (refine gate_ (.load 51 (.tmp 176)) rfl ?_; (first | refine gate_none rfl ?_ | refine gate_if rfl rfl rfl ?_); refine wpList_load_blk rfl 51 _ rfl _ _ 7 [.int .i64 ((⟨u.f0, u.f1, u.f2, pv, u.f4⟩ : S51)).f0, .int .u64 ((⟨u.f0, u.f1, u.f2, pv, u.f4⟩ : S51)).f1.f0, .int .u64 ((⟨u.f0, u.f1, u.f2, pv, u.f4⟩ : S51)).f1.f1, .int .u64 ((⟨u.f0, u.f1, u.f2, pv, u.f4⟩ : S51)).f2.f0, .int .u64 ((⟨u.f0, u.f1, u.f2, pv, u.f4⟩ : S51)).f2.f1, .int .i64 ((⟨u.f0, u.f1, u.f2, pv, u.f4⟩ : S51)).f3, .int .i64 ((⟨u.f0, u.f1, u.f2, pv, u.f4⟩ : S51)).f4] (plA (⟨J, k, ⟨u.f0, u.f1, u.f2, pv, u.f4⟩, b, turnK k, i, z⟩)) 76 (0, 0) _ rfl (S.out.get 3 rfl) (by kernel_rfl) Try.underlying51 rfl (by kernel_rfl) ?_)
                          | (go_at_call 28; (with_reducible refine (refturned_any ⟨u.f0, u.f1, u.f2, pv, u.f4⟩ _).mono ?_); rintro e w9 ⟨rfl, hb9⟩; replace S := Aside0.mk (S.out.call hb9); clear hb9)
                          | (refine gate_ (.store 51 (.tmp 179) (.tmp 178)) rfl ?_; refine wpList_store_blk rfl 51 _ _ rfl B 21 #[.int .i64 (turnK ⟨u.f0, u.f1, u.f2, pv, u.f4⟩).f0, .int .u64 (turnK ⟨u.f0, u.f1, u.f2, pv, u.f4⟩).f1.f0, .int .u64 (turnK ⟨u.f0, u.f1, u.f2, pv, u.f4⟩).f1.f1, .int .u64 (turnK ⟨u.f0, u.f1, u.f2, pv, u.f4⟩).f2.f0, .int .u64 (turnK ⟨u.f0, u.f1, u.f2, pv, u.f4⟩).f2.f1, .int .i64 (turnK ⟨u.f0, u.f1, u.f2, pv, u.f4⟩).f3, .int .i64 (turnK ⟨u.f0, u.f1, u.f2, pv, u.f4⟩).f4] _ 76 rfl rfl (S.out.get 3 rfl) (Nat.le_of_ble_eq_true rfl) (by kernel_rfl) (by simp [Value.oneCell']) ?_; intro w3 hb3 hg3 hz3; replace S := Aside0.mk (S.out.set_ 3 hg3 (blk_eq (b := plA (⟨J, k, ⟨u.f0, u.f1, u.f2, pv, u.f4⟩, turnK ⟨u.f0, u.f1, u.f2, pv, u.f4⟩, turnK k, i, z⟩)) hb3 (by kernel_rfl)) hB.out (hneP HNE.out rfl)); clear hb3 hg3 hz3)
                          | (refine gate_ (.load 51 (.tmp 180)) rfl ?_; (first | refine gate_none rfl ?_ | refine gate_if rfl rfl rfl ?_); refine wpList_load_blk rfl 51 _ rfl _ _ 7 [.int .i64 (turnK ⟨u.f0, u.f1, u.f2, pv, u.f4⟩).f0, .int .u64 (turnK ⟨u.f0, u.f1, u.f2, pv, u.f4⟩).f1.f0, .int .u64 (turnK ⟨u.f0, u.f1, u.f2, pv, u.f4⟩).f1.f1, .int .u64 (turnK ⟨u.f0, u.f1, u.f2, pv, u.f4⟩).f2.f0, .int .u64 (turnK ⟨u.f0, u.f1, u.f2, pv, u.f4⟩).f2.f1, .int .i64 (turnK ⟨u.f0, u.f1, u.f2, pv, u.f4⟩).f3, .int .i64 (turnK ⟨u.f0, u.f1, u.f2, pv, u.f4⟩).f4] (plA (⟨J, k, ⟨u.f0, u.f1, u.f2, pv, u.f4⟩, turnK ⟨u.f0, u.f1, u.f2, pv, u.f4⟩, turnK k, i, z⟩)) 76 (0, 0) _ rfl (S.out.get 3 rfl) (by kernel_rfl) Try.underlying51 rfl (by kernel_rfl) ?_)
                          | (refine gate_ (.load 51 (.tmp 6)) rfl ?_; refine wpList_load_row rfl 51 _ rfl _ rfl 51 #[.int .i64 k.f0, .int .u64 k.f1.f0, .int .u64 k.f1.f1, .int .u64 k.f2.f0, .int .u64 k.f2.f1, .int .i64 k.f3, .int .i64 k.f4] (0, 0) _ (S.out.get 1 rfl) Try.underlying51 rfl (by kernel_rfl) ?_)
                          | (go_at_call 59; (with_reducible refine (C59.out _ S.out.below).mono ?_); rintro e w9 ⟨rfl, hb9⟩; replace S := Aside0.mk (S.out.call hb9); clear hb9)
                          | fail)
                        go_roundw
                        case rel => exact ⟨i' + 1, ⟨u.f0, u.f1, u.f2, pv, u.f4⟩, turnK ⟨u.f0, u.f1, u.f2, pv, u.f4⟩, by omega, by go_num, ⟨none_upto HN.out HV.out⟩, ⟨fun p => by rw [← HU.out, outP_out, HO.out]⟩, ⟨S.out⟩⟩
                        case measure => simp [intOf]; omega
                    | true =>
                      have HU := Aside0.mk (show outP u k pv = ⟨u.f0, u.f1, u.f2, pv, pv⟩ from HU0.out)
                      have C59 := Aside0.mk (fun W (hW : Below w.heap.size w W) => show Calls Try.prog 59 #[.agg #[.int .i64 (turnK ⟨u.f0, u.f1, u.f2, pv, pv⟩).f0, .int .u64 (turnK ⟨u.f0, u.f1, u.f2, pv, pv⟩).f1.f0, .int .u64 (turnK ⟨u.f0, u.f1, u.f2, pv, pv⟩).f1.f1, .int .u64 (turnK ⟨u.f0, u.f1, u.f2, pv, pv⟩).f2.f0, .int .u64 (turnK ⟨u.f0, u.f1, u.f2, pv, pv⟩).f2.f1, .int .i64 (turnK ⟨u.f0, u.f1, u.f2, pv, pv⟩).f3, .int .i64 (turnK ⟨u.f0, u.f1, u.f2, pv, pv⟩).f4], .agg #[.int .i64 k.f0, .int .u64 k.f1.f0, .int .u64 k.f1.f1, .int .u64 k.f2.f0, .int .u64 k.f2.f1, .int .i64 k.f3, .int .i64 k.f4], .slice A l.length cap] W (fun e w' => e = .returned (.bool v) ∧ Below W.heap.size W w') by
                        have h := reffree_any (turnK ⟨u.f0, u.f1, u.f2, pv, pv⟩) k l A cap W (Kd.C_below HCC.out hW)
                        have e : freeK (turnK ⟨u.f0, u.f1, u.f2, pv, pv⟩) k l = v := by rw [← HU.out, HO.out, ← HPV.out]; exact HV.out
                        rw [e] at h
                        exact h)
                      cases v with
                      | true =>
                        go_wp2_with (first
                          | (refine gate_ (.load 3 (.tmp 158)) rfl ?_; refine wpList_load_one 3 _ rfl rfl _ _ (.int .i64 k.f3) #[.int .i64 k.f0, .int .u64 k.f1.f0, .int .u64 k.f1.f1, .int .u64 k.f2.f0, .int .u64 k.f2.f1, .int .i64 k.f3, .int .i64 k.f4] 51 (0, 0) _ rfl (S.out.get 1 rfl) rfl Try.underlying3 rfl ?_)
                          | (go_at_call 16; (with_reducible refine (HPO2.out _).mono ?_); rintro e w9 ⟨rfl, rfl⟩)
                          | (refine gate_ (.store 3 (.tmp 169) (.tmp 167)) rfl ?_; refine wpList_store_blk rfl 3 _ _ rfl B 19 #[.int .i64 pv] _ 76 rfl rfl (S.out.get 3 rfl) (Nat.le_of_ble_eq_true rfl) (by kernel_rfl) (by simp [Value.oneCell']) ?_; intro w3 hb3 hg3 hz3; replace S := Aside0.mk (S.out.set_ 3 hg3 (blk_eq (b := plA (⟨J, k, ⟨u.f0, u.f1, u.f2, pv, u.f4⟩, b, turnK k, i, z⟩)) hb3 (by kernel_rfl)) hB.out (hneP HNE.out rfl)); clear hb3 hg3 hz3)
                          | (refine gate_ (.load 3 (.tmp 170)) rfl ?_; refine wpList_load_one 3 _ rfl rfl _ _ (.int .i64 k.f0) #[.int .i64 k.f0, .int .u64 k.f1.f0, .int .u64 k.f1.f1, .int .u64 k.f2.f0, .int .u64 k.f2.f1, .int .i64 k.f3, .int .i64 k.f4] 51 (0, 0) _ rfl (S.out.get 1 rfl) rfl Try.underlying3 rfl ?_)
                          | (go_at_call 55; (with_reducible refine (C55.out _).mono ?_); rintro e w9 ⟨rfl, rfl⟩)
                          | (refine gate_ (.store 3 (.tmp 175) (.tmp 173)) rfl ?_; refine wpList_store_blk rfl 3 _ _ rfl B 20 #[.int .i64 pv] _ 76 rfl rfl (S.out.get 3 rfl) (Nat.le_of_ble_eq_true rfl) (by kernel_rfl) (by simp [Value.oneCell']) ?_; intro w3 hb3 hg3 hz3; replace S := Aside0.mk (S.out.set_ 3 hg3 (blk_eq (b := plA (⟨J, k, ⟨u.f0, u.f1, u.f2, pv, pv⟩, b, turnK k, i, z⟩)) hb3 (by kernel_rfl)) hB.out (hneP HNE.out rfl)); clear hb3 hg3 hz3)
                          | (refine gate_ (.load 51 (.tmp 176)) rfl ?_; (first | refine gate_none rfl ?_ | refine gate_if rfl rfl rfl ?_); refine wpList_load_blk rfl 51 _ rfl _ _ 7 [.int .i64 ((⟨u.f0, u.f1, u.f2, pv, pv⟩ : S51)).f0, .int .u64 ((⟨u.f0, u.f1, u.f2, pv, pv⟩ : S51)).f1.f0, .int .u64 ((⟨u.f0, u.f1, u.f2, pv, pv⟩ : S51)).f1.f1, .int .u64 ((⟨u.f0, u.f1, u.f2, pv, pv⟩ : S51)).f2.f0, .int .u64 ((⟨u.f0, u.f1, u.f2, pv, pv⟩ : S51)).f2.f1, .int .i64 ((⟨u.f0, u.f1, u.f2, pv, pv⟩ : S51)).f3, .int .i64 ((⟨u.f0, u.f1, u.f2, pv, pv⟩ : S51)).f4] (plA (⟨J, k, ⟨u.f0, u.f1, u.f2, pv, pv⟩, b, turnK k, i, z⟩)) 76 (0, 0) _ rfl (S.out.get 3 rfl) (by kernel_rfl) Try.underlying51 rfl (by kernel_rfl) ?_)
                          | (go_at_call 28; (with_reducible refine (refturned_any ⟨u.f0, u.f1, u.f2, pv, pv⟩ _).mono ?_); rintro e w9 ⟨rfl, hb9⟩; replace S := Aside0.mk (S.out.call hb9); clear hb9)
                          | (refine gate_ (.store 51 (.tmp 179) (.tmp 178)) rfl ?_; refine wpList_store_blk rfl 51 _ _ rfl B 21 #[.int .i64 (turnK ⟨u.f0, u.f1, u.f2, pv, pv⟩).f0, .int .u64 (turnK ⟨u.f0, u.f1, u.f2, pv, pv⟩).f1.f0, .int .u64 (turnK ⟨u.f0, u.f1, u.f2, pv, pv⟩).f1.f1, .int .u64 (turnK ⟨u.f0, u.f1, u.f2, pv, pv⟩).f2.f0, .int .u64 (turnK ⟨u.f0, u.f1, u.f2, pv, pv⟩).f2.f1, .int .i64 (turnK ⟨u.f0, u.f1, u.f2, pv, pv⟩).f3, .int .i64 (turnK ⟨u.f0, u.f1, u.f2, pv, pv⟩).f4] _ 76 rfl rfl (S.out.get 3 rfl) (Nat.le_of_ble_eq_true rfl) (by kernel_rfl) (by simp [Value.oneCell']) ?_; intro w3 hb3 hg3 hz3; replace S := Aside0.mk (S.out.set_ 3 hg3 (blk_eq (b := plA (⟨J, k, ⟨u.f0, u.f1, u.f2, pv, pv⟩, turnK ⟨u.f0, u.f1, u.f2, pv, pv⟩, turnK k, i, z⟩)) hb3 (by kernel_rfl)) hB.out (hneP HNE.out rfl)); clear hb3 hg3 hz3)
                          | (refine gate_ (.load 51 (.tmp 180)) rfl ?_; (first | refine gate_none rfl ?_ | refine gate_if rfl rfl rfl ?_); refine wpList_load_blk rfl 51 _ rfl _ _ 7 [.int .i64 (turnK ⟨u.f0, u.f1, u.f2, pv, pv⟩).f0, .int .u64 (turnK ⟨u.f0, u.f1, u.f2, pv, pv⟩).f1.f0, .int .u64 (turnK ⟨u.f0, u.f1, u.f2, pv, pv⟩).f1.f1, .int .u64 (turnK ⟨u.f0, u.f1, u.f2, pv, pv⟩).f2.f0, .int .u64 (turnK ⟨u.f0, u.f1, u.f2, pv, pv⟩).f2.f1, .int .i64 (turnK ⟨u.f0, u.f1, u.f2, pv, pv⟩).f3, .int .i64 (turnK ⟨u.f0, u.f1, u.f2, pv, pv⟩).f4] (plA (⟨J, k, ⟨u.f0, u.f1, u.f2, pv, pv⟩, turnK ⟨u.f0, u.f1, u.f2, pv, pv⟩, turnK k, i, z⟩)) 76 (0, 0) _ rfl (S.out.get 3 rfl) (by kernel_rfl) Try.underlying51 rfl (by kernel_rfl) ?_)
                          | (refine gate_ (.load 51 (.tmp 6)) rfl ?_; refine wpList_load_row rfl 51 _ rfl _ rfl 51 #[.int .i64 k.f0, .int .u64 k.f1.f0, .int .u64 k.f1.f1, .int .u64 k.f2.f0, .int .u64 k.f2.f1, .int .i64 k.f3, .int .i64 k.f4] (0, 0) _ (S.out.get 1 rfl) Try.underlying51 rfl (by kernel_rfl) ?_)
                          | (go_at_call 59; (with_reducible refine (C59.out _ S.out.below).mono ?_); rintro e w9 ⟨rfl, hb9⟩; replace S := Aside0.mk (S.out.call hb9); clear hb9)
                          | (refine gate_ (.load 76 (.tmp 10)) rfl ?_; refine wpList_load_row rfl 76 _ rfl _ rfl 76 (plA ⟨J, k, ⟨u.f0, u.f1, u.f2, pv, pv⟩, turnK ⟨u.f0, u.f1, u.f2, pv, pv⟩, turnK k, i, z⟩) (0, 0) _ (S.out.get 3 rfl) Try.underlying76 rfl (plA_info76 _) ?_)
                          | (refine gate_ (.store 76 (.tmp 8) (.tmp 185)) rfl ?_; refine wpList_store_all rfl 76 _ _ rfl _ (plA ⟨J, k, ⟨u.f0, u.f1, u.f2, pv, pv⟩, turnK ⟨u.f0, u.f1, u.f2, pv, pv⟩, turnK k, i, z⟩) _ _ rfl rfl (S.out.get 2 rfl) rfl (plA_info76 _) (plA_one _) ?_; intro w7 hb7 hg7 hz7)
                          | (with_reducible refine halt_end ?_)
                          | fail)
                        refine Aside0.mk ?_
                        refine ends_ct (v := .int .i64 0) rfl (by kernel_rfl) (by kernel_rfl) hb7 Try.underlying76 rfl (plA_info76 _) rfl ?_
                        exact ⟨by rw [HM3.out]; unfold portR; rw [if_pos rfl, find_some hlt HV.out HN.out, Option.map_some, HPV.out, ← HO.out, HU.out], S.out.below.trans (below_grown hg7 S.out.below.size (by omega))⟩
                      | false =>
                        go_wp2_with (first
                          | (refine gate_ (.load 3 (.tmp 158)) rfl ?_; refine wpList_load_one 3 _ rfl rfl _ _ (.int .i64 k.f3) #[.int .i64 k.f0, .int .u64 k.f1.f0, .int .u64 k.f1.f1, .int .u64 k.f2.f0, .int .u64 k.f2.f1, .int .i64 k.f3, .int .i64 k.f4] 51 (0, 0) _ rfl (S.out.get 1 rfl) rfl Try.underlying3 rfl ?_)
                          | (go_at_call 16; (with_reducible refine (HPO2.out _).mono ?_); rintro e w9 ⟨rfl, rfl⟩)
                          | (refine gate_ (.store 3 (.tmp 169) (.tmp 167)) rfl ?_; refine wpList_store_blk rfl 3 _ _ rfl B 19 #[.int .i64 pv] _ 76 rfl rfl (S.out.get 3 rfl) (Nat.le_of_ble_eq_true rfl) (by kernel_rfl) (by simp [Value.oneCell']) ?_; intro w3 hb3 hg3 hz3; replace S := Aside0.mk (S.out.set_ 3 hg3 (blk_eq (b := plA (⟨J, k, ⟨u.f0, u.f1, u.f2, pv, u.f4⟩, b, turnK k, i, z⟩)) hb3 (by kernel_rfl)) hB.out (hneP HNE.out rfl)); clear hb3 hg3 hz3)
                          | (refine gate_ (.load 3 (.tmp 170)) rfl ?_; refine wpList_load_one 3 _ rfl rfl _ _ (.int .i64 k.f0) #[.int .i64 k.f0, .int .u64 k.f1.f0, .int .u64 k.f1.f1, .int .u64 k.f2.f0, .int .u64 k.f2.f1, .int .i64 k.f3, .int .i64 k.f4] 51 (0, 0) _ rfl (S.out.get 1 rfl) rfl Try.underlying3 rfl ?_)
                          | (go_at_call 55; (with_reducible refine (C55.out _).mono ?_); rintro e w9 ⟨rfl, rfl⟩)
                          | (refine gate_ (.store 3 (.tmp 175) (.tmp 173)) rfl ?_; refine wpList_store_blk rfl 3 _ _ rfl B 20 #[.int .i64 pv] _ 76 rfl rfl (S.out.get 3 rfl) (Nat.le_of_ble_eq_true rfl) (by kernel_rfl) (by simp [Value.oneCell']) ?_; intro w3 hb3 hg3 hz3; replace S := Aside0.mk (S.out.set_ 3 hg3 (blk_eq (b := plA (⟨J, k, ⟨u.f0, u.f1, u.f2, pv, pv⟩, b, turnK k, i, z⟩)) hb3 (by kernel_rfl)) hB.out (hneP HNE.out rfl)); clear hb3 hg3 hz3)
                          | (refine gate_ (.load 51 (.tmp 176)) rfl ?_; (first | refine gate_none rfl ?_ | refine gate_if rfl rfl rfl ?_); refine wpList_load_blk rfl 51 _ rfl _ _ 7 [.int .i64 ((⟨u.f0, u.f1, u.f2, pv, pv⟩ : S51)).f0, .int .u64 ((⟨u.f0, u.f1, u.f2, pv, pv⟩ : S51)).f1.f0, .int .u64 ((⟨u.f0, u.f1, u.f2, pv, pv⟩ : S51)).f1.f1, .int .u64 ((⟨u.f0, u.f1, u.f2, pv, pv⟩ : S51)).f2.f0, .int .u64 ((⟨u.f0, u.f1, u.f2, pv, pv⟩ : S51)).f2.f1, .int .i64 ((⟨u.f0, u.f1, u.f2, pv, pv⟩ : S51)).f3, .int .i64 ((⟨u.f0, u.f1, u.f2, pv, pv⟩ : S51)).f4] (plA (⟨J, k, ⟨u.f0, u.f1, u.f2, pv, pv⟩, b, turnK k, i, z⟩)) 76 (0, 0) _ rfl (S.out.get 3 rfl) (by kernel_rfl) Try.underlying51 rfl (by kernel_rfl) ?_)
                          | (go_at_call 28; (with_reducible refine (refturned_any ⟨u.f0, u.f1, u.f2, pv, pv⟩ _).mono ?_); rintro e w9 ⟨rfl, hb9⟩; replace S := Aside0.mk (S.out.call hb9); clear hb9)
                          | (refine gate_ (.store 51 (.tmp 179) (.tmp 178)) rfl ?_; refine wpList_store_blk rfl 51 _ _ rfl B 21 #[.int .i64 (turnK ⟨u.f0, u.f1, u.f2, pv, pv⟩).f0, .int .u64 (turnK ⟨u.f0, u.f1, u.f2, pv, pv⟩).f1.f0, .int .u64 (turnK ⟨u.f0, u.f1, u.f2, pv, pv⟩).f1.f1, .int .u64 (turnK ⟨u.f0, u.f1, u.f2, pv, pv⟩).f2.f0, .int .u64 (turnK ⟨u.f0, u.f1, u.f2, pv, pv⟩).f2.f1, .int .i64 (turnK ⟨u.f0, u.f1, u.f2, pv, pv⟩).f3, .int .i64 (turnK ⟨u.f0, u.f1, u.f2, pv, pv⟩).f4] _ 76 rfl rfl (S.out.get 3 rfl) (Nat.le_of_ble_eq_true rfl) (by kernel_rfl) (by simp [Value.oneCell']) ?_; intro w3 hb3 hg3 hz3; replace S := Aside0.mk (S.out.set_ 3 hg3 (blk_eq (b := plA (⟨J, k, ⟨u.f0, u.f1, u.f2, pv, pv⟩, turnK ⟨u.f0, u.f1, u.f2, pv, pv⟩, turnK k, i, z⟩)) hb3 (by kernel_rfl)) hB.out (hneP HNE.out rfl)); clear hb3 hg3 hz3)
                          | (refine gate_ (.load 51 (.tmp 180)) rfl ?_; (first | refine gate_none rfl ?_ | refine gate_if rfl rfl rfl ?_); refine wpList_load_blk rfl 51 _ rfl _ _ 7 [.int .i64 (turnK ⟨u.f0, u.f1, u.f2, pv, pv⟩).f0, .int .u64 (turnK ⟨u.f0, u.f1, u.f2, pv, pv⟩).f1.f0, .int .u64 (turnK ⟨u.f0, u.f1, u.f2, pv, pv⟩).f1.f1, .int .u64 (turnK ⟨u.f0, u.f1, u.f2, pv, pv⟩).f2.f0, .int .u64 (turnK ⟨u.f0, u.f1, u.f2, pv, pv⟩).f2.f1, .int .i64 (turnK ⟨u.f0, u.f1, u.f2, pv, pv⟩).f3, .int .i64 (turnK ⟨u.f0, u.f1, u.f2, pv, pv⟩).f4] (plA (⟨J, k, ⟨u.f0, u.f1, u.f2, pv, pv⟩, turnK ⟨u.f0, u.f1, u.f2, pv, pv⟩, turnK k, i, z⟩)) 76 (0, 0) _ rfl (S.out.get 3 rfl) (by kernel_rfl) Try.underlying51 rfl (by kernel_rfl) ?_)
                          | (refine gate_ (.load 51 (.tmp 6)) rfl ?_; refine wpList_load_row rfl 51 _ rfl _ rfl 51 #[.int .i64 k.f0, .int .u64 k.f1.f0, .int .u64 k.f1.f1, .int .u64 k.f2.f0, .int .u64 k.f2.f1, .int .i64 k.f3, .int .i64 k.f4] (0, 0) _ (S.out.get 1 rfl) Try.underlying51 rfl (by kernel_rfl) ?_)
                          | (go_at_call 59; (with_reducible refine (C59.out _ S.out.below).mono ?_); rintro e w9 ⟨rfl, hb9⟩; replace S := Aside0.mk (S.out.call hb9); clear hb9)
                          | fail)
                        go_roundw
                        case rel => exact ⟨i' + 1, ⟨u.f0, u.f1, u.f2, pv, pv⟩, turnK ⟨u.f0, u.f1, u.f2, pv, pv⟩, by omega, by go_num, ⟨none_upto HN.out HV.out⟩, ⟨fun p => by rw [← HU.out, outP_out, HO.out]⟩, ⟨S.out⟩⟩
                        case measure => simp [intOf]; omega
end Go.Proofs.Ytgppfpfdoooijaa
