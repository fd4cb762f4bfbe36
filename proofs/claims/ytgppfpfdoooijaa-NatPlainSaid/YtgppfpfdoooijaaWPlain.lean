/- The law NatPlain, walked: it answers true. -/
import Derived.Test.YtgppfpfdoooijaaMake
import Derived.Test.YtgppfpfdoooijaaHeavy
namespace Go.Proofs.Ytgppfpfdoooijaa
open Go.RowKit Go.Proofs.YtgppfpfdoooijaaW.PrintWords
set_option linter.unusedVariables false
set_option linter.unusedSimpArgs false
attribute [local go_sem] Later.cell_eq

/-- The config without translations. -/
def bareC (c : S36) : S36 := ⟨c.f0, c.f1, c.f2, c.f3, c.f4, [], c.f6, c.f7⟩
theorem bare_dest (c : S36) (k : S51) : destF (bareC c) k = (k.f2, k.f4, -1) := dest_none fun j hj => by simp [bareC] at hj
theorem bare_source (c : S36) (z : Int) (k : S51) : sourceF (bareC c) z k = -1 := rfl
theorem bare_make (c : S36) (inn : Int) (k : S51) : makeF (bareC c) inn k [] =
    if routeR (routeF (bareC c) k.f2) = 0 then (if eqK (turnK k) k = true then (zPL, 15) else (⟨k, k, k, turnK k, turnK k, (routeF (bareC c) k.f2).1, (routeF (bareC c) k.f2).2⟩, 0)) else (zPL, routeR (routeF (bareC c) k.f2)) := by
  have hj : judgeK (bareC c) k = k := by unfold judgeK; rw [bare_dest]; simp
  have hs : srcU (bareC c) (routeF (bareC c) k.f2).2 inn k k false = (k, false, 0, 0) := by
    unfold srcU
    rw [bare_source]
    simp
  unfold makeF
  rw [hj, bare_dest]
  simp only [show decide ((0 : Int) ≤ -1) = false from rfl, hs]
  unfold portR freeK contK
  cases eqK (turnK k) k <;> simp


set_option maxRecDepth 100000 in
set_option maxHeartbeats 8000000 in
theorem natPlain_any (c : S36) (cs : List Value) (inn : Int) (k : S51) (w : World) (hc : k36.K w c cs) (hf : Fits c) :
    Calls Try.prog 10 #[.agg cs.toArray, .int .i64 inn, .agg #[.int .i64 k.f0, .int .u64 k.f1.f0, .int .u64 k.f1.f1, .int .u64 k.f2.f0, .int .u64 k.f2.f1, .int .i64 k.f3, .int .i64 k.f4]] w fun e w' => e = .returned (.bool true) ∧ Below w.heap.size w w' := by
  have HK := Aside0.mk hc
  have HF := Aside0.mk hf
  obtain ⟨A0, c0, A1, c1, A2, c2, A3, c3, A4, c4, A5, c5, A6, c6, rfl, l0, g0, l1, g1, l2, g2, l3, g3, l4, g4, l5, g5, l6, g6⟩ := k36_open hc
  have HD := Aside0.mk (show k36.K w (bareC c) [.slice A0 c.f0.length c0, .slice A1 c.f1.length c1, .slice A2 c.f2.length c2, .slice A3 c.f3.length c3, .slice A4 c.f4.length c4, .slice none 0 0, .slice A6 c.f6.length c6, .int .i64 c.f7] from k36_mk w (bareC c) l0 g0 l1 g1 l2 g2 l3 g3 l4 g4 (Nat.le_refl 0) (Kd.C_nil _ w) l6 g6)
  clear hc hf l0 g0 l1 g1 l2 g2 l3 g3 l4 g4 l5 g5 l6 g6
  obtain ⟨pl, hpl⟩ : ∃ pl, pl = makeF (bareC c) inn k [] := ⟨_, rfl⟩
  obtain ⟨i, hi⟩ : ∃ i, i = (routeF (bareC c) k.f2).1 := ⟨_, rfl⟩
  obtain ⟨z, hz⟩ : ∃ z, z = (routeF (bareC c) k.f2).2 := ⟨_, rfl⟩
  have hway : (i == -1) = true ∧ pl = (zPL, 8) ∨ (i == -1) = false ∧ (z == -1) = true ∧ pl = (zPL, 3) ∨ (i == -1) = false ∧ (z == -1) = false ∧ eqK (turnK k) k = true ∧ pl = (zPL, 15) ∨ (i == -1) = false ∧ (z == -1) = false ∧ eqK (turnK k) k = false ∧ pl = (⟨k, k, k, turnK k, turnK k, i, z⟩, 0) := by
    rw [hpl, bare_make, hi, hz]
    unfold routeR
    cases (routeF (bareC c) k.f2).1 == -1 <;> cases (routeF (bareC c) k.f2).2 == -1 <;> cases eqK (turnK k) k <;> simp
  have HM := Aside0.mk (fun W (hW : Below w.heap.size w W) => show Calls Try.prog 27 #[.agg #[.slice A0 c.f0.length c0, .slice A1 c.f1.length c1, .slice A2 c.f2.length c2, .slice A3 c.f3.length c3, .slice A4 c.f4.length c4, .slice none 0 0, .slice A6 c.f6.length c6, .int .i64 c.f7], .int .i64 inn, .agg #[.int .i64 k.f0, .int .u64 k.f1.f0, .int .u64 k.f1.f1, .int .u64 k.f2.f0, .int .u64 k.f2.f1, .int .i64 k.f3, .int .i64 k.f4], .slice none 0 0] W (fun e w' => e = .returned (.tuple #[.agg (plA pl.1), .int .i64 pl.2]) ∧ Below W.heap.size W w') by
    rw [hpl]; exact make_any (bareC c) _ inn k [] none 0 W (k36.K_below hW HD.out) (Kd.C_nil _ W))
  have HR := Aside0.mk (fun W (hW : Below w.heap.size w W) => show Calls Try.prog 19 #[.agg #[.slice A0 c.f0.length c0, .slice A1 c.f1.length c1, .slice A2 c.f2.length c2, .slice A3 c.f3.length c3, .slice A4 c.f4.length c4, .slice none 0 0, .slice A6 c.f6.length c6, .int .i64 c.f7], .agg #[.int .u64 k.f2.f0, .int .u64 k.f2.f1]] W (fun e w' => e = .returned (.tuple #[.int .i64 i, .int .i64 z]) ∧ Below W.heap.size W w') by
    rw [hi, hz]; exact refroute_any (bareC c) _ k.f2 W (k36.K_below hW HD.out))
  clear hpl hi hz
  have HE := Aside0.mk (eqK_self k)
  have HT := Aside0.mk (eqK_self (turnK k))
  have HII := Aside0.mk (show (i == i) = true by simp)
  have HZZ := Aside0.mk (show (z == z) = true by simp)
  go_enter Try.func10, Try.ntmps10
  go_upto_region 1 with fail
  have S := Aside0.mk (((St.nil w).alloc (.cells #[.slice A0 c.f0.length c0, .slice A1 c.f1.length c1, .slice A2 c.f2.length c2, .slice A3 c.f3.length c3, .slice A4 c.f4.length c4, .slice A5 c.f5.length c5, .slice A6 c.f6.length c6, .int .i64 c.f7] 36)).alloc (.cells #[.int .i64 k.f0, .int .u64 k.f1.f0, .int .u64 k.f1.f1, .int .u64 k.f2.f0, .int .u64 k.f2.f1, .int .i64 k.f3, .int .i64 k.f4] 51))
  simp only [World.size_alloc, List.nil_append, List.cons_append] at S
  generalize World.alloc _ _ = W0 at *
  go_wp2_with (first
    | (refine gate_ (.load 36 (.tmp 3)) rfl ?_; refine wpList_load_row rfl 36 _ rfl _ rfl 36 #[.slice A0 c.f0.length c0, .slice A1 c.f1.length c1, .slice A2 c.f2.length c2, .slice A3 c.f3.length c3, .slice A4 c.f4.length c4, .slice A5 c.f5.length c5, .slice A6 c.f6.length c6, .int .i64 c.f7] (0, 0) _ (S.out.get 0 rfl) Try.underlying36 rfl (by kernel_rfl) ?_)
    | (go_at_call 26; refine Aside0.out ?_)
    | fail)
  refine Aside0.mk ?_
  refine (heavy26_any c _ _ (k36.K_below S.out.below HK.out) HF.out).mono ?_
  rintro e w1 ⟨b, rfl, hle, hb1⟩
  replace S := Aside0.mk (S.out.call hb1)
  clear hle hb1
  cases b with
  | true =>
    go_wp2_with fail
    go_ret
    exact ⟨rfl, S.out.below⟩
  | false =>
    have hDs : w.heap.size + 1 < w1.heap.size := blk_lt (S.out.get 1 rfl)
    go_upto_region 4 with (first
      | (refine gate_ (.load 36 (.tmp 3)) rfl ?_; refine wpList_load_row rfl 36 _ rfl _ rfl 36 #[.slice A0 c.f0.length c0, .slice A1 c.f1.length c1, .slice A2 c.f2.length c2, .slice A3 c.f3.length c3, .slice A4 c.f4.length c4, .slice A5 c.f5.length c5, .slice A6 c.f6.length c6, .int .i64 c.f7] (0, 0) _ (S.out.get 0 rfl) Try.underlying36 rfl (by kernel_rfl) ?_)
      | (refine gate_ (.store 36 (.tmp 7) (.tmp 14)) rfl ?_; refine wpList_store_all rfl 36 _ _ rfl _ #[.slice A0 c.f0.length c0, .slice A1 c.f1.length c1, .slice A2 c.f2.length c2, .slice A3 c.f3.length c3, .slice A4 c.f4.length c4, .slice A5 c.f5.length c5, .slice A6 c.f6.length c6, .int .i64 c.f7] _ _ rfl rfl (heap_alloc_new _ _) rfl (by kernel_rfl) (by simp [Value.oneCell']) ?_; intro w3 hb3 hg3 hz3; replace S := Aside0.mk (S.out.made hg3 hb3); clear hb3 hg3 hz3)
      | fail)
    generalize w1.heap.size = D at *
    go_wp2_with ((refine gate_ (.store 33 (.tmp 15) (.const (.slice none 0 0))) rfl ?_); refine Aside0.out ?_)
    refine Aside0.mk ?_
    refine wpList_store_blk rfl 33 _ _ rfl D 5 #[.slice none 0 0] _ 36 rfl rfl (S.out.get 2 rfl) (Nat.le_of_ble_eq_true rfl) (by kernel_rfl) (by simp [Value.oneCell']) ?_
    intro w4 hb4 hg4 hz4
    replace S := Aside0.mk (S.out.set_ 2 hg4 (blk_eq (b := #[.slice A0 c.f0.length c0, .slice A1 c.f1.length c1, .slice A2 c.f2.length c2, .slice A3 c.f3.length c3, .slice A4 c.f4.length c4, .slice none 0 0, .slice A6 c.f6.length c6, .int .i64 c.f7]) hb4 (by kernel_rfl)) (by omega) (fun j hj g' o' h => match j, hj, h with
          | 0, _, h => by have := (Prod.ext_iff.1 (Option.some.inj h)).1; simp only at this; omega
          | 1, _, h => by have := (Prod.ext_iff.1 (Option.some.inj h)).1; simp only at this; omega
          | 2, hj, h => absurd rfl hj
          | n + 3, _, h => by cases h))
    clear hb4 hg4 hz4
    clear hDs
    rcases hway with ⟨h1, rfl⟩ | ⟨h1, h2, rfl⟩ | ⟨h1, h2, h3, rfl⟩ | ⟨h1, h2, h3, rfl⟩
    · go_wp2_with (first
        | (refine gate_ (.load 36 (.tmp 7)) rfl ?_; refine wpList_load_row rfl 36 _ rfl _ rfl 36 #[.slice A0 c.f0.length c0, .slice A1 c.f1.length c1, .slice A2 c.f2.length c2, .slice A3 c.f3.length c3, .slice A4 c.f4.length c4, .slice none 0 0, .slice A6 c.f6.length c6, .int .i64 c.f7] (0, 0) _ (S.out.get 2 rfl) Try.underlying36 rfl (by kernel_rfl) ?_)
        | (refine gate_ (.load 51 (.tmp 5)) rfl ?_; (first | refine gate_none rfl ?_ | refine gate_if rfl rfl rfl ?_); refine wpList_load_row rfl 51 _ rfl _ rfl 51 #[.int .i64 k.f0, .int .u64 k.f1.f0, .int .u64 k.f1.f1, .int .u64 k.f2.f0, .int .u64 k.f2.f1, .int .i64 k.f3, .int .i64 k.f4] (0, 0) _ (S.out.get 1 rfl) Try.underlying51 rfl (by kernel_rfl) ?_)
        | (refine gate_ (.load 39 (.tmp 25)) rfl ?_; refine wpList_load_blk rfl 39 _ rfl _ _ 2 [.int .u64 k.f2.f0, .int .u64 k.f2.f1] #[.int .i64 k.f0, .int .u64 k.f1.f0, .int .u64 k.f1.f1, .int .u64 k.f2.f0, .int .u64 k.f2.f1, .int .i64 k.f3, .int .i64 k.f4] 51 (0, 0) _ rfl (S.out.get 1 rfl) (by kernel_rfl) Try.underlying39 rfl (by kernel_rfl) ?_)
        | (go_at_call 27; (with_reducible refine (HM.out _ S.out.below).mono ?_); rintro e w9 ⟨rfl, hb9⟩; replace S := Aside0.mk (S.out.call hb9); clear hb9)
        | (go_at_call 19; (with_reducible refine (HR.out _ S.out.below).mono ?_); rintro e w9 ⟨rfl, hb9⟩; replace S := Aside0.mk (S.out.call hb9); clear hb9)
        | (go_at_call 28; (with_reducible refine (refturned_any k _).mono ?_); rintro e w9 ⟨rfl, hb9⟩; replace S := Aside0.mk (S.out.call hb9); clear hb9)
        | (refine gate_ (.store 71 (.tmp 8) (.tmp 21)) rfl ?_; refine wpList_store_all rfl 71 _ _ rfl _ (plA zPL) _ _ rfl rfl (heap_alloc_new _ _) rfl (plA_info _) (plA_one _) ?_; intro w3 hb3 hg3 hz3; replace S := Aside0.mk (S.out.made hg3 hb3); clear hb3 hg3 hz3)
        | (refine gate_ (.load 51 (.tmp 50)) rfl ?_; (first | refine gate_none rfl ?_ | refine gate_if rfl rfl rfl ?_); refine wpList_load_blk rfl 51 _ rfl _ _ 7 [.int .i64 (k).f0, .int .u64 (k).f1.f0, .int .u64 (k).f1.f1, .int .u64 (k).f2.f0, .int .u64 (k).f2.f1, .int .i64 (k).f3, .int .i64 (k).f4] (plA zPL) 71 (0, 0) _ rfl (S.out.get 3 rfl) (by kernel_rfl) Try.underlying51 rfl (by kernel_rfl) ?_)
        | (refine gate_ (.load 51 (.tmp 56)) rfl ?_; (first | refine gate_none rfl ?_ | refine gate_if rfl rfl rfl ?_); refine wpList_load_blk rfl 51 _ rfl _ _ 7 [.int .i64 (k).f0, .int .u64 (k).f1.f0, .int .u64 (k).f1.f1, .int .u64 (k).f2.f0, .int .u64 (k).f2.f1, .int .i64 (k).f3, .int .i64 (k).f4] (plA zPL) 71 (0, 0) _ rfl (S.out.get 3 rfl) (by kernel_rfl) Try.underlying51 rfl (by kernel_rfl) ?_)
        | (refine gate_ (.load 51 (.tmp 62)) rfl ?_; (first | refine gate_none rfl ?_ | refine gate_if rfl rfl rfl ?_); refine wpList_load_blk rfl 51 _ rfl _ _ 7 [.int .i64 (k).f0, .int .u64 (k).f1.f0, .int .u64 (k).f1.f1, .int .u64 (k).f2.f0, .int .u64 (k).f2.f1, .int .i64 (k).f3, .int .i64 (k).f4] (plA zPL) 71 (0, 0) _ rfl (S.out.get 3 rfl) (by kernel_rfl) Try.underlying51 rfl (by kernel_rfl) ?_)
        | (refine gate_ (.load 51 (.tmp 68)) rfl ?_; (first | refine gate_none rfl ?_ | refine gate_if rfl rfl rfl ?_); refine wpList_load_blk rfl 51 _ rfl _ _ 7 [.int .i64 (turnK k).f0, .int .u64 (turnK k).f1.f0, .int .u64 (turnK k).f1.f1, .int .u64 (turnK k).f2.f0, .int .u64 (turnK k).f2.f1, .int .i64 (turnK k).f3, .int .i64 (turnK k).f4] (plA zPL) 71 (0, 0) _ rfl (S.out.get 3 rfl) (by kernel_rfl) Try.underlying51 rfl (by kernel_rfl) ?_)
        | (refine gate_ (.load 51 (.tmp 70)) rfl ?_; (first | refine gate_none rfl ?_ | refine gate_if rfl rfl rfl ?_); refine wpList_load_blk rfl 51 _ rfl _ _ 7 [.int .i64 (turnK k).f0, .int .u64 (turnK k).f1.f0, .int .u64 (turnK k).f1.f1, .int .u64 (turnK k).f2.f0, .int .u64 (turnK k).f2.f1, .int .i64 (turnK k).f3, .int .i64 (turnK k).f4] (plA zPL) 71 (0, 0) _ rfl (S.out.get 3 rfl) (by kernel_rfl) Try.underlying51 rfl (by kernel_rfl) ?_)
        | (refine gate_ (.load 3 (.tmp 75)) rfl ?_; (first | refine gate_none rfl ?_ | refine gate_if rfl rfl rfl ?_); refine wpList_load_one 3 _ rfl rfl _ _ (.int .i64 i) (plA zPL) 71 (0, 0) _ rfl (S.out.get 3 rfl) rfl Try.underlying3 rfl ?_)
        | (refine gate_ (.load 3 (.tmp 81)) rfl ?_; (first | refine gate_none rfl ?_ | refine gate_if rfl rfl rfl ?_); refine wpList_load_one 3 _ rfl rfl _ _ (.int .i64 z) (plA zPL) 71 (0, 0) _ rfl (S.out.get 3 rfl) rfl Try.underlying3 rfl ?_)
        | (refine gate_dst (N := 44) rfl ?_; (first | refine gate_none rfl ?_ | refine gate_if rfl rfl rfl ?_); refine wpList_eql51 rfl _ _ _ (turnK k) k rfl rfl rfl ?_; rw [h3])
        | (refine gate_dst (N := 53) rfl ?_; (first | refine gate_none rfl ?_ | refine gate_if rfl rfl rfl ?_); refine wpList_eql51 rfl _ _ _ k k rfl rfl rfl ?_; rw [HE.out])
        | (refine gate_dst (N := 59) rfl ?_; (first | refine gate_none rfl ?_ | refine gate_if rfl rfl rfl ?_); refine wpList_eql51 rfl _ _ _ k k rfl rfl rfl ?_; rw [HE.out])
        | (refine gate_dst (N := 65) rfl ?_; (first | refine gate_none rfl ?_ | refine gate_if rfl rfl rfl ?_); refine wpList_eql51 rfl _ _ _ k k rfl rfl rfl ?_; rw [HE.out])
        | (refine gate_dst (N := 72) rfl ?_; (first | refine gate_none rfl ?_ | refine gate_if rfl rfl rfl ?_); refine wpList_eql51 rfl _ _ _ (turnK k) (turnK k) rfl rfl rfl ?_; rw [HT.out])
        | fail)
      go_ret
      exact ⟨rfl, S.out.below⟩
    · go_wp2_with (first
        | (refine gate_ (.load 36 (.tmp 7)) rfl ?_; refine wpList_load_row rfl 36 _ rfl _ rfl 36 #[.slice A0 c.f0.length c0, .slice A1 c.f1.length c1, .slice A2 c.f2.length c2, .slice A3 c.f3.length c3, .slice A4 c.f4.length c4, .slice none 0 0, .slice A6 c.f6.length c6, .int .i64 c.f7] (0, 0) _ (S.out.get 2 rfl) Try.underlying36 rfl (by kernel_rfl) ?_)
        | (refine gate_ (.load 51 (.tmp 5)) rfl ?_; (first | refine gate_none rfl ?_ | refine gate_if rfl rfl rfl ?_); refine wpList_load_row rfl 51 _ rfl _ rfl 51 #[.int .i64 k.f0, .int .u64 k.f1.f0, .int .u64 k.f1.f1, .int .u64 k.f2.f0, .int .u64 k.f2.f1, .int .i64 k.f3, .int .i64 k.f4] (0, 0) _ (S.out.get 1 rfl) Try.underlying51 rfl (by kernel_rfl) ?_)
        | (refine gate_ (.load 39 (.tmp 25)) rfl ?_; refine wpList_load_blk rfl 39 _ rfl _ _ 2 [.int .u64 k.f2.f0, .int .u64 k.f2.f1] #[.int .i64 k.f0, .int .u64 k.f1.f0, .int .u64 k.f1.f1, .int .u64 k.f2.f0, .int .u64 k.f2.f1, .int .i64 k.f3, .int .i64 k.f4] 51 (0, 0) _ rfl (S.out.get 1 rfl) (by kernel_rfl) Try.underlying39 rfl (by kernel_rfl) ?_)
        | (go_at_call 27; (with_reducible refine (HM.out _ S.out.below).mono ?_); rintro e w9 ⟨rfl, hb9⟩; replace S := Aside0.mk (S.out.call hb9); clear hb9)
        | (go_at_call 19; (with_reducible refine (HR.out _ S.out.below).mono ?_); rintro e w9 ⟨rfl, hb9⟩; replace S := Aside0.mk (S.out.call hb9); clear hb9)
        | (go_at_call 28; (with_reducible refine (refturned_any k _).mono ?_); rintro e w9 ⟨rfl, hb9⟩; replace S := Aside0.mk (S.out.call hb9); clear hb9)
        | (refine gate_ (.store 71 (.tmp 8) (.tmp 21)) rfl ?_; refine wpList_store_all rfl 71 _ _ rfl _ (plA zPL) _ _ rfl rfl (heap_alloc_new _ _) rfl (plA_info _) (plA_one _) ?_; intro w3 hb3 hg3 hz3; replace S := Aside0.mk (S.out.made hg3 hb3); clear hb3 hg3 hz3)
        | (refine gate_ (.load 51 (.tmp 50)) rfl ?_; (first | refine gate_none rfl ?_ | refine gate_if rfl rfl rfl ?_); refine wpList_load_blk rfl 51 _ rfl _ _ 7 [.int .i64 (k).f0, .int .u64 (k).f1.f0, .int .u64 (k).f1.f1, .int .u64 (k).f2.f0, .int .u64 (k).f2.f1, .int .i64 (k).f3, .int .i64 (k).f4] (plA zPL) 71 (0, 0) _ rfl (S.out.get 3 rfl) (by kernel_rfl) Try.underlying51 rfl (by kernel_rfl) ?_)
        | (refine gate_ (.load 51 (.tmp 56)) rfl ?_; (first | refine gate_none rfl ?_ | refine gate_if rfl rfl rfl ?_); refine wpList_load_blk rfl 51 _ rfl _ _ 7 [.int .i64 (k).f0, .int .u64 (k).f1.f0, .int .u64 (k).f1.f1, .int .u64 (k).f2.f0, .int .u64 (k).f2.f1, .int .i64 (k).f3, .int .i64 (k).f4] (plA zPL) 71 (0, 0) _ rfl (S.out.get 3 rfl) (by kernel_rfl) Try.underlying51 rfl (by kernel_rfl) ?_)
        | (refine gate_ (.load 51 (.tmp 62)) rfl ?_; (first | refine gate_none rfl ?_ | refine gate_if rfl rfl rfl ?_); refine wpList_load_blk rfl 51 _ rfl _ _ 7 [.int .i64 (k).f0, .int .u64 (k).f1.f0, .int .u64 (k).f1.f1, .int .u64 (k).f2.f0, .int .u64 (k).f2.f1, .int .i64 (k).f3, .int .i64 (k).f4] (plA zPL) 71 (0, 0) _ rfl (S.out.get 3 rfl) (by kernel_rfl) Try.underlying51 rfl (by kernel_rfl) ?_)
        | (refine gate_ (.load 51 (.tmp 68)) rfl ?_; (first | refine gate_none rfl ?_ | refine gate_if rfl rfl rfl ?_); refine wpList_load_blk rfl 51 _ rfl _ _ 7 [.int .i64 (turnK k).f0, .int .u64 (turnK k).f1.f0, .int .u64 (turnK k).f1.f1, .int .u64 (turnK k).f2.f0, .int .u64 (turnK k).f2.f1, .int .i64 (turnK k).f3, .int .i64 (turnK k).f4] (plA zPL) 71 (0, 0) _ rfl (S.out.get 3 rfl) (by kernel_rfl) Try.underlying51 rfl (by kernel_rfl) ?_)
        | (refine gate_ (.load 51 (.tmp 70)) rfl ?_; (first | refine gate_none rfl ?_ | refine gate_if rfl rfl rfl ?_); refine wpList_load_blk rfl 51 _ rfl _ _ 7 [.int .i64 (turnK k).f0, .int .u64 (turnK k).f1.f0, .int .u64 (turnK k).f1.f1, .int .u64 (turnK k).f2.f0, .int .u64 (turnK k).f2.f1, .int .i64 (turnK k).f3, .int .i64 (turnK k).f4] (plA zPL) 71 (0, 0) _ rfl (S.out.get 3 rfl) (by kernel_rfl) Try.underlying51 rfl (by kernel_rfl) ?_)
        | (refine gate_ (.load 3 (.tmp 75)) rfl ?_; (first | refine gate_none rfl ?_ | refine gate_if rfl rfl rfl ?_); refine wpList_load_one 3 _ rfl rfl _ _ (.int .i64 i) (plA zPL) 71 (0, 0) _ rfl (S.out.get 3 rfl) rfl Try.underlying3 rfl ?_)
        | (refine gate_ (.load 3 (.tmp 81)) rfl ?_; (first | refine gate_none rfl ?_ | refine gate_if rfl rfl rfl ?_); refine wpList_load_one 3 _ rfl rfl _ _ (.int .i64 z) (plA zPL) 71 (0, 0) _ rfl (S.out.get 3 rfl) rfl Try.underlying3 rfl ?_)
        | (refine gate_dst (N := 44) rfl ?_; (first | refine gate_none rfl ?_ | refine gate_if rfl rfl rfl ?_); refine wpList_eql51 rfl _ _ _ (turnK k) k rfl rfl rfl ?_; rw [h3])
        | (refine gate_dst (N := 53) rfl ?_; (first | refine gate_none rfl ?_ | refine gate_if rfl rfl rfl ?_); refine wpList_eql51 rfl _ _ _ k k rfl rfl rfl ?_; rw [HE.out])
        | (refine gate_dst (N := 59) rfl ?_; (first | refine gate_none rfl ?_ | refine gate_if rfl rfl rfl ?_); refine wpList_eql51 rfl _ _ _ k k rfl rfl rfl ?_; rw [HE.out])
        | (refine gate_dst (N := 65) rfl ?_; (first | refine gate_none rfl ?_ | refine gate_if rfl rfl rfl ?_); refine wpList_eql51 rfl _ _ _ k k rfl rfl rfl ?_; rw [HE.out])
        | (refine gate_dst (N := 72) rfl ?_; (first | refine gate_none rfl ?_ | refine gate_if rfl rfl rfl ?_); refine wpList_eql51 rfl _ _ _ (turnK k) (turnK k) rfl rfl rfl ?_; rw [HT.out])
        | fail)
      go_ret
      exact ⟨rfl, S.out.below⟩
    · go_upto_region 11 with (first
        | (refine gate_ (.load 36 (.tmp 7)) rfl ?_; refine wpList_load_row rfl 36 _ rfl _ rfl 36 #[.slice A0 c.f0.length c0, .slice A1 c.f1.length c1, .slice A2 c.f2.length c2, .slice A3 c.f3.length c3, .slice A4 c.f4.length c4, .slice none 0 0, .slice A6 c.f6.length c6, .int .i64 c.f7] (0, 0) _ (S.out.get 2 rfl) Try.underlying36 rfl (by kernel_rfl) ?_)
        | (refine gate_ (.load 51 (.tmp 5)) rfl ?_; (first | refine gate_none rfl ?_ | refine gate_if rfl rfl rfl ?_); refine wpList_load_row rfl 51 _ rfl _ rfl 51 #[.int .i64 k.f0, .int .u64 k.f1.f0, .int .u64 k.f1.f1, .int .u64 k.f2.f0, .int .u64 k.f2.f1, .int .i64 k.f3, .int .i64 k.f4] (0, 0) _ (S.out.get 1 rfl) Try.underlying51 rfl (by kernel_rfl) ?_)
        | (refine gate_ (.load 39 (.tmp 25)) rfl ?_; refine wpList_load_blk rfl 39 _ rfl _ _ 2 [.int .u64 k.f2.f0, .int .u64 k.f2.f1] #[.int .i64 k.f0, .int .u64 k.f1.f0, .int .u64 k.f1.f1, .int .u64 k.f2.f0, .int .u64 k.f2.f1, .int .i64 k.f3, .int .i64 k.f4] 51 (0, 0) _ rfl (S.out.get 1 rfl) (by kernel_rfl) Try.underlying39 rfl (by kernel_rfl) ?_)
        | (go_at_call 27; (with_reducible refine (HM.out _ S.out.below).mono ?_); rintro e w9 ⟨rfl, hb9⟩; replace S := Aside0.mk (S.out.call hb9); clear hb9)
        | (go_at_call 19; (with_reducible refine (HR.out _ S.out.below).mono ?_); rintro e w9 ⟨rfl, hb9⟩; replace S := Aside0.mk (S.out.call hb9); clear hb9)
        | (go_at_call 28; (with_reducible refine (refturned_any k _).mono ?_); rintro e w9 ⟨rfl, hb9⟩; replace S := Aside0.mk (S.out.call hb9); clear hb9)
        | (refine gate_ (.store 71 (.tmp 8) (.tmp 21)) rfl ?_; refine wpList_store_all rfl 71 _ _ rfl _ (plA zPL) _ _ rfl rfl (heap_alloc_new _ _) rfl (plA_info _) (plA_one _) ?_; intro w3 hb3 hg3 hz3; replace S := Aside0.mk (S.out.made hg3 hb3); clear hb3 hg3 hz3)
        | (refine gate_ (.load 51 (.tmp 50)) rfl ?_; (first | refine gate_none rfl ?_ | refine gate_if rfl rfl rfl ?_); refine wpList_load_blk rfl 51 _ rfl _ _ 7 [.int .i64 (k).f0, .int .u64 (k).f1.f0, .int .u64 (k).f1.f1, .int .u64 (k).f2.f0, .int .u64 (k).f2.f1, .int .i64 (k).f3, .int .i64 (k).f4] (plA zPL) 71 (0, 0) _ rfl (S.out.get 3 rfl) (by kernel_rfl) Try.underlying51 rfl (by kernel_rfl) ?_)
        | (refine gate_ (.load 51 (.tmp 56)) rfl ?_; (first | refine gate_none rfl ?_ | refine gate_if rfl rfl rfl ?_); refine wpList_load_blk rfl 51 _ rfl _ _ 7 [.int .i64 (k).f0, .int .u64 (k).f1.f0, .int .u64 (k).f1.f1, .int .u64 (k).f2.f0, .int .u64 (k).f2.f1, .int .i64 (k).f3, .int .i64 (k).f4] (plA zPL) 71 (0, 0) _ rfl (S.out.get 3 rfl) (by kernel_rfl) Try.underlying51 rfl (by kernel_rfl) ?_)
        | (refine gate_ (.load 51 (.tmp 62)) rfl ?_; (first | refine gate_none rfl ?_ | refine gate_if rfl rfl rfl ?_); refine wpList_load_blk rfl 51 _ rfl _ _ 7 [.int .i64 (k).f0, .int .u64 (k).f1.f0, .int .u64 (k).f1.f1, .int .u64 (k).f2.f0, .int .u64 (k).f2.f1, .int .i64 (k).f3, .int .i64 (k).f4] (plA zPL) 71 (0, 0) _ rfl (S.out.get 3 rfl) (by kernel_rfl) Try.underlying51 rfl (by kernel_rfl) ?_)
        | (refine gate_ (.load 51 (.tmp 68)) rfl ?_; (first | refine gate_none rfl ?_ | refine gate_if rfl rfl rfl ?_); refine wpList_load_blk rfl 51 _ rfl _ _ 7 [.int .i64 (turnK k).f0, .int .u64 (turnK k).f1.f0, .int .u64 (turnK k).f1.f1, .int .u64 (turnK k).f2.f0, .int .u64 (turnK k).f2.f1, .int .i64 (turnK k).f3, .int .i64 (turnK k).f4] (plA zPL) 71 (0, 0) _ rfl (S.out.get 3 rfl) (by kernel_rfl) Try.underlying51 rfl (by kernel_rfl) ?_)
        | (refine gate_ (.load 51 (.tmp 70)) rfl ?_; (first | refine gate_none rfl ?_ | refine gate_if rfl rfl rfl ?_); refine wpList_load_blk rfl 51 _ rfl _ _ 7 [.int .i64 (turnK k).f0, .int .u64 (turnK k).f1.f0, .int .u64 (turnK k).f1.f1, .int .u64 (turnK k).f2.f0, .int .u64 (turnK k).f2.f1, .int .i64 (turnK k).f3, .int .i64 (turnK k).f4] (plA zPL) 71 (0, 0) _ rfl (S.out.get 3 rfl) (by kernel_rfl) Try.underlying51 rfl (by kernel_rfl) ?_)
        | (refine gate_ (.load 3 (.tmp 75)) rfl ?_; (first | refine gate_none rfl ?_ | refine gate_if rfl rfl rfl ?_); refine wpList_load_one 3 _ rfl rfl _ _ (.int .i64 i) (plA zPL) 71 (0, 0) _ rfl (S.out.get 3 rfl) rfl Try.underlying3 rfl ?_)
        | (refine gate_ (.load 3 (.tmp 81)) rfl ?_; (first | refine gate_none rfl ?_ | refine gate_if rfl rfl rfl ?_); refine wpList_load_one 3 _ rfl rfl _ _ (.int .i64 z) (plA zPL) 71 (0, 0) _ rfl (S.out.get 3 rfl) rfl Try.underlying3 rfl ?_)
        | (refine gate_dst (N := 44) rfl ?_; (first | refine gate_none rfl ?_ | refine gate_if rfl rfl rfl ?_); refine wpList_eql51 rfl _ _ _ (turnK k) k rfl rfl rfl ?_; rw [h3])
        | (refine gate_dst (N := 53) rfl ?_; (first | refine gate_none rfl ?_ | refine gate_if rfl rfl rfl ?_); refine wpList_eql51 rfl _ _ _ k k rfl rfl rfl ?_; rw [HE.out])
        | (refine gate_dst (N := 59) rfl ?_; (first | refine gate_none rfl ?_ | refine gate_if rfl rfl rfl ?_); refine wpList_eql51 rfl _ _ _ k k rfl rfl rfl ?_; rw [HE.out])
        | (refine gate_dst (N := 65) rfl ?_; (first | refine gate_none rfl ?_ | refine gate_if rfl rfl rfl ?_); refine wpList_eql51 rfl _ _ _ k k rfl rfl rfl ?_; rw [HE.out])
        | (refine gate_dst (N := 72) rfl ?_; (first | refine gate_none rfl ?_ | refine gate_if rfl rfl rfl ?_); refine wpList_eql51 rfl _ _ _ (turnK k) (turnK k) rfl rfl rfl ?_; rw [HT.out])
        | fail)
      refine wp_region_later (by kernel_rfl) (by kernel_rfl) ?_
      repeat (first
        | go_big_quiet_skip
        | (refine quiet_load_row 51 (.tmp 5) rfl rfl _ #[.int .i64 k.f0, .int .u64 k.f1.f0, .int .u64 k.f1.f1, .int .u64 k.f2.f0, .int .u64 k.f2.f1, .int .i64 k.f3, .int .i64 k.f4] 51 (0, 0) _ rfl (later_blk (S.out.get 1 rfl)) Try.underlying51 rfl (by kernel_rfl) ?_; go_frame)
        | (refine quiet_eql51 rfl _ _ _ rfl (turnK k) k rfl rfl ?_; rw [h3]; go_frame)
        | go_big_quiet_step ((go_at_call 28; with_reducible exact later_of (refturned_any k _)))
        | fail)
      refine wpQuiet_nil ?_
      intro w1 hw1
      replace S := Aside0.mk (S.out.call (later_below hw1))
      clear hw1
      go_wp2_with (first
        | (refine gate_ (.load 36 (.tmp 7)) rfl ?_; refine wpList_load_row rfl 36 _ rfl _ rfl 36 #[.slice A0 c.f0.length c0, .slice A1 c.f1.length c1, .slice A2 c.f2.length c2, .slice A3 c.f3.length c3, .slice A4 c.f4.length c4, .slice none 0 0, .slice A6 c.f6.length c6, .int .i64 c.f7] (0, 0) _ (S.out.get 2 rfl) Try.underlying36 rfl (by kernel_rfl) ?_)
        | (refine gate_ (.load 51 (.tmp 5)) rfl ?_; (first | refine gate_none rfl ?_ | refine gate_if rfl rfl rfl ?_); refine wpList_load_row rfl 51 _ rfl _ rfl 51 #[.int .i64 k.f0, .int .u64 k.f1.f0, .int .u64 k.f1.f1, .int .u64 k.f2.f0, .int .u64 k.f2.f1, .int .i64 k.f3, .int .i64 k.f4] (0, 0) _ (S.out.get 1 rfl) Try.underlying51 rfl (by kernel_rfl) ?_)
        | (refine gate_ (.load 39 (.tmp 25)) rfl ?_; refine wpList_load_blk rfl 39 _ rfl _ _ 2 [.int .u64 k.f2.f0, .int .u64 k.f2.f1] #[.int .i64 k.f0, .int .u64 k.f1.f0, .int .u64 k.f1.f1, .int .u64 k.f2.f0, .int .u64 k.f2.f1, .int .i64 k.f3, .int .i64 k.f4] 51 (0, 0) _ rfl (S.out.get 1 rfl) (by kernel_rfl) Try.underlying39 rfl (by kernel_rfl) ?_)
        | (go_at_call 27; (with_reducible refine (HM.out _ S.out.below).mono ?_); rintro e w9 ⟨rfl, hb9⟩; replace S := Aside0.mk (S.out.call hb9); clear hb9)
        | (go_at_call 19; (with_reducible refine (HR.out _ S.out.below).mono ?_); rintro e w9 ⟨rfl, hb9⟩; replace S := Aside0.mk (S.out.call hb9); clear hb9)
        | (go_at_call 28; (with_reducible refine (refturned_any k _).mono ?_); rintro e w9 ⟨rfl, hb9⟩; replace S := Aside0.mk (S.out.call hb9); clear hb9)
        | (refine gate_ (.store 71 (.tmp 8) (.tmp 21)) rfl ?_; refine wpList_store_all rfl 71 _ _ rfl _ (plA zPL) _ _ rfl rfl (heap_alloc_new _ _) rfl (plA_info _) (plA_one _) ?_; intro w3 hb3 hg3 hz3; replace S := Aside0.mk (S.out.made hg3 hb3); clear hb3 hg3 hz3)
        | (refine gate_ (.load 51 (.tmp 50)) rfl ?_; (first | refine gate_none rfl ?_ | refine gate_if rfl rfl rfl ?_); refine wpList_load_blk rfl 51 _ rfl _ _ 7 [.int .i64 (k).f0, .int .u64 (k).f1.f0, .int .u64 (k).f1.f1, .int .u64 (k).f2.f0, .int .u64 (k).f2.f1, .int .i64 (k).f3, .int .i64 (k).f4] (plA zPL) 71 (0, 0) _ rfl (S.out.get 3 rfl) (by kernel_rfl) Try.underlying51 rfl (by kernel_rfl) ?_)
        | (refine gate_ (.load 51 (.tmp 56)) rfl ?_; (first | refine gate_none rfl ?_ | refine gate_if rfl rfl rfl ?_); refine wpList_load_blk rfl 51 _ rfl _ _ 7 [.int .i64 (k).f0, .int .u64 (k).f1.f0, .int .u64 (k).f1.f1, .int .u64 (k).f2.f0, .int .u64 (k).f2.f1, .int .i64 (k).f3, .int .i64 (k).f4] (plA zPL) 71 (0, 0) _ rfl (S.out.get 3 rfl) (by kernel_rfl) Try.underlying51 rfl (by kernel_rfl) ?_)
        | (refine gate_ (.load 51 (.tmp 62)) rfl ?_; (first | refine gate_none rfl ?_ | refine gate_if rfl rfl rfl ?_); refine wpList_load_blk rfl 51 _ rfl _ _ 7 [.int .i64 (k).f0, .int .u64 (k).f1.f0, .int .u64 (k).f1.f1, .int .u64 (k).f2.f0, .int .u64 (k).f2.f1, .int .i64 (k).f3, .int .i64 (k).f4] (plA zPL) 71 (0, 0) _ rfl (S.out.get 3 rfl) (by kernel_rfl) Try.underlying51 rfl (by kernel_rfl) ?_)
        | (refine gate_ (.load 51 (.tmp 68)) rfl ?_; (first | refine gate_none rfl ?_ | refine gate_if rfl rfl rfl ?_); refine wpList_load_blk rfl 51 _ rfl _ _ 7 [.int .i64 (turnK k).f0, .int .u64 (turnK k).f1.f0, .int .u64 (turnK k).f1.f1, .int .u64 (turnK k).f2.f0, .int .u64 (turnK k).f2.f1, .int .i64 (turnK k).f3, .int .i64 (turnK k).f4] (plA zPL) 71 (0, 0) _ rfl (S.out.get 3 rfl) (by kernel_rfl) Try.underlying51 rfl (by kernel_rfl) ?_)
        | (refine gate_ (.load 51 (.tmp 70)) rfl ?_; (first | refine gate_none rfl ?_ | refine gate_if rfl rfl rfl ?_); refine wpList_load_blk rfl 51 _ rfl _ _ 7 [.int .i64 (turnK k).f0, .int .u64 (turnK k).f1.f0, .int .u64 (turnK k).f1.f1, .int .u64 (turnK k).f2.f0, .int .u64 (turnK k).f2.f1, .int .i64 (turnK k).f3, .int .i64 (turnK k).f4] (plA zPL) 71 (0, 0) _ rfl (S.out.get 3 rfl) (by kernel_rfl) Try.underlying51 rfl (by kernel_rfl) ?_)
        | (refine gate_ (.load 3 (.tmp 75)) rfl ?_; (first | refine gate_none rfl ?_ | refine gate_if rfl rfl rfl ?_); refine wpList_load_one 3 _ rfl rfl _ _ (.int .i64 i) (plA zPL) 71 (0, 0) _ rfl (S.out.get 3 rfl) rfl Try.underlying3 rfl ?_)
        | (refine gate_ (.load 3 (.tmp 81)) rfl ?_; (first | refine gate_none rfl ?_ | refine gate_if rfl rfl rfl ?_); refine wpList_load_one 3 _ rfl rfl _ _ (.int .i64 z) (plA zPL) 71 (0, 0) _ rfl (S.out.get 3 rfl) rfl Try.underlying3 rfl ?_)
        | (refine gate_dst (N := 44) rfl ?_; (first | refine gate_none rfl ?_ | refine gate_if rfl rfl rfl ?_); refine wpList_eql51 rfl _ _ _ (turnK k) k rfl rfl rfl ?_; rw [h3])
        | (refine gate_dst (N := 53) rfl ?_; (first | refine gate_none rfl ?_ | refine gate_if rfl rfl rfl ?_); refine wpList_eql51 rfl _ _ _ k k rfl rfl rfl ?_; rw [HE.out])
        | (refine gate_dst (N := 59) rfl ?_; (first | refine gate_none rfl ?_ | refine gate_if rfl rfl rfl ?_); refine wpList_eql51 rfl _ _ _ k k rfl rfl rfl ?_; rw [HE.out])
        | (refine gate_dst (N := 65) rfl ?_; (first | refine gate_none rfl ?_ | refine gate_if rfl rfl rfl ?_); refine wpList_eql51 rfl _ _ _ k k rfl rfl rfl ?_; rw [HE.out])
        | (refine gate_dst (N := 72) rfl ?_; (first | refine gate_none rfl ?_ | refine gate_if rfl rfl rfl ?_); refine wpList_eql51 rfl _ _ _ (turnK k) (turnK k) rfl rfl rfl ?_; rw [HT.out])
        | fail)
      go_ret
      exact ⟨rfl, S.out.below⟩
    · go_upto_region 11 with (first
        | (refine gate_ (.load 36 (.tmp 7)) rfl ?_; refine wpList_load_row rfl 36 _ rfl _ rfl 36 #[.slice A0 c.f0.length c0, .slice A1 c.f1.length c1, .slice A2 c.f2.length c2, .slice A3 c.f3.length c3, .slice A4 c.f4.length c4, .slice none 0 0, .slice A6 c.f6.length c6, .int .i64 c.f7] (0, 0) _ (S.out.get 2 rfl) Try.underlying36 rfl (by kernel_rfl) ?_)
        | (refine gate_ (.load 51 (.tmp 5)) rfl ?_; (first | refine gate_none rfl ?_ | refine gate_if rfl rfl rfl ?_); refine wpList_load_row rfl 51 _ rfl _ rfl 51 #[.int .i64 k.f0, .int .u64 k.f1.f0, .int .u64 k.f1.f1, .int .u64 k.f2.f0, .int .u64 k.f2.f1, .int .i64 k.f3, .int .i64 k.f4] (0, 0) _ (S.out.get 1 rfl) Try.underlying51 rfl (by kernel_rfl) ?_)
        | (refine gate_ (.load 39 (.tmp 25)) rfl ?_; refine wpList_load_blk rfl 39 _ rfl _ _ 2 [.int .u64 k.f2.f0, .int .u64 k.f2.f1] #[.int .i64 k.f0, .int .u64 k.f1.f0, .int .u64 k.f1.f1, .int .u64 k.f2.f0, .int .u64 k.f2.f1, .int .i64 k.f3, .int .i64 k.f4] 51 (0, 0) _ rfl (S.out.get 1 rfl) (by kernel_rfl) Try.underlying39 rfl (by kernel_rfl) ?_)
        | (go_at_call 27; (with_reducible refine (HM.out _ S.out.below).mono ?_); rintro e w9 ⟨rfl, hb9⟩; replace S := Aside0.mk (S.out.call hb9); clear hb9)
        | (go_at_call 19; (with_reducible refine (HR.out _ S.out.below).mono ?_); rintro e w9 ⟨rfl, hb9⟩; replace S := Aside0.mk (S.out.call hb9); clear hb9)
        | (go_at_call 28; (with_reducible refine (refturned_any k _).mono ?_); rintro e w9 ⟨rfl, hb9⟩; replace S := Aside0.mk (S.out.call hb9); clear hb9)
        | (refine gate_ (.store 71 (.tmp 8) (.tmp 21)) rfl ?_; refine wpList_store_all rfl 71 _ _ rfl _ (plA (⟨k, k, k, turnK k, turnK k, i, z⟩ : PL)) _ _ rfl rfl (heap_alloc_new _ _) rfl (plA_info _) (plA_one _) ?_; intro w3 hb3 hg3 hz3; replace S := Aside0.mk (S.out.made hg3 hb3); clear hb3 hg3 hz3)
        | (refine gate_ (.load 51 (.tmp 50)) rfl ?_; (first | refine gate_none rfl ?_ | refine gate_if rfl rfl rfl ?_); refine wpList_load_blk rfl 51 _ rfl _ _ 7 [.int .i64 (k).f0, .int .u64 (k).f1.f0, .int .u64 (k).f1.f1, .int .u64 (k).f2.f0, .int .u64 (k).f2.f1, .int .i64 (k).f3, .int .i64 (k).f4] (plA (⟨k, k, k, turnK k, turnK k, i, z⟩ : PL)) 71 (0, 0) _ rfl (S.out.get 3 rfl) (by kernel_rfl) Try.underlying51 rfl (by kernel_rfl) ?_)
        | (refine gate_ (.load 51 (.tmp 56)) rfl ?_; (first | refine gate_none rfl ?_ | refine gate_if rfl rfl rfl ?_); refine wpList_load_blk rfl 51 _ rfl _ _ 7 [.int .i64 (k).f0, .int .u64 (k).f1.f0, .int .u64 (k).f1.f1, .int .u64 (k).f2.f0, .int .u64 (k).f2.f1, .int .i64 (k).f3, .int .i64 (k).f4] (plA (⟨k, k, k, turnK k, turnK k, i, z⟩ : PL)) 71 (0, 0) _ rfl (S.out.get 3 rfl) (by kernel_rfl) Try.underlying51 rfl (by kernel_rfl) ?_)
        | (refine gate_ (.load 51 (.tmp 62)) rfl ?_; (first | refine gate_none rfl ?_ | refine gate_if rfl rfl rfl ?_); refine wpList_load_blk rfl 51 _ rfl _ _ 7 [.int .i64 (k).f0, .int .u64 (k).f1.f0, .int .u64 (k).f1.f1, .int .u64 (k).f2.f0, .int .u64 (k).f2.f1, .int .i64 (k).f3, .int .i64 (k).f4] (plA (⟨k, k, k, turnK k, turnK k, i, z⟩ : PL)) 71 (0, 0) _ rfl (S.out.get 3 rfl) (by kernel_rfl) Try.underlying51 rfl (by kernel_rfl) ?_)
        | (refine gate_ (.load 51 (.tmp 68)) rfl ?_; (first | refine gate_none rfl ?_ | refine gate_if rfl rfl rfl ?_); refine wpList_load_blk rfl 51 _ rfl _ _ 7 [.int .i64 (turnK k).f0, .int .u64 (turnK k).f1.f0, .int .u64 (turnK k).f1.f1, .int .u64 (turnK k).f2.f0, .int .u64 (turnK k).f2.f1, .int .i64 (turnK k).f3, .int .i64 (turnK k).f4] (plA (⟨k, k, k, turnK k, turnK k, i, z⟩ : PL)) 71 (0, 0) _ rfl (S.out.get 3 rfl) (by kernel_rfl) Try.underlying51 rfl (by kernel_rfl) ?_)
        | (refine gate_ (.load 51 (.tmp 70)) rfl ?_; (first | refine gate_none rfl ?_ | refine gate_if rfl rfl rfl ?_); refine wpList_load_blk rfl 51 _ rfl _ _ 7 [.int .i64 (turnK k).f0, .int .u64 (turnK k).f1.f0, .int .u64 (turnK k).f1.f1, .int .u64 (turnK k).f2.f0, .int .u64 (turnK k).f2.f1, .int .i64 (turnK k).f3, .int .i64 (turnK k).f4] (plA (⟨k, k, k, turnK k, turnK k, i, z⟩ : PL)) 71 (0, 0) _ rfl (S.out.get 3 rfl) (by kernel_rfl) Try.underlying51 rfl (by kernel_rfl) ?_)
        | (refine gate_ (.load 3 (.tmp 75)) rfl ?_; (first | refine gate_none rfl ?_ | refine gate_if rfl rfl rfl ?_); refine wpList_load_one 3 _ rfl rfl _ _ (.int .i64 i) (plA (⟨k, k, k, turnK k, turnK k, i, z⟩ : PL)) 71 (0, 0) _ rfl (S.out.get 3 rfl) rfl Try.underlying3 rfl ?_)
        | (refine gate_ (.load 3 (.tmp 81)) rfl ?_; (first | refine gate_none rfl ?_ | refine gate_if rfl rfl rfl ?_); refine wpList_load_one 3 _ rfl rfl _ _ (.int .i64 z) (plA (⟨k, k, k, turnK k, turnK k, i, z⟩ : PL)) 71 (0, 0) _ rfl (S.out.get 3 rfl) rfl Try.underlying3 rfl ?_)
        | (refine gate_dst (N := 44) rfl ?_; (first | refine gate_none rfl ?_ | refine gate_if rfl rfl rfl ?_); refine wpList_eql51 rfl _ _ _ (turnK k) k rfl rfl rfl ?_; rw [h3])
        | (refine gate_dst (N := 53) rfl ?_; (first | refine gate_none rfl ?_ | refine gate_if rfl rfl rfl ?_); refine wpList_eql51 rfl _ _ _ k k rfl rfl rfl ?_; rw [HE.out])
        | (refine gate_dst (N := 59) rfl ?_; (first | refine gate_none rfl ?_ | refine gate_if rfl rfl rfl ?_); refine wpList_eql51 rfl _ _ _ k k rfl rfl rfl ?_; rw [HE.out])
        | (refine gate_dst (N := 65) rfl ?_; (first | refine gate_none rfl ?_ | refine gate_if rfl rfl rfl ?_); refine wpList_eql51 rfl _ _ _ k k rfl rfl rfl ?_; rw [HE.out])
        | (refine gate_dst (N := 72) rfl ?_; (first | refine gate_none rfl ?_ | refine gate_if rfl rfl rfl ?_); refine wpList_eql51 rfl _ _ _ (turnK k) (turnK k) rfl rfl rfl ?_; rw [HT.out])
        | fail)
      refine wp_region_later (by kernel_rfl) (by kernel_rfl) ?_
      repeat (first
        | go_big_quiet_skip
        | (refine quiet_load_row 51 (.tmp 5) rfl rfl _ #[.int .i64 k.f0, .int .u64 k.f1.f0, .int .u64 k.f1.f1, .int .u64 k.f2.f0, .int .u64 k.f2.f1, .int .i64 k.f3, .int .i64 k.f4] 51 (0, 0) _ rfl (later_blk (S.out.get 1 rfl)) Try.underlying51 rfl (by kernel_rfl) ?_; go_frame)
        | (refine quiet_eql51 rfl _ _ _ rfl (turnK k) k rfl rfl ?_; rw [h3]; go_frame)
        | go_big_quiet_step ((go_at_call 28; with_reducible exact later_of (refturned_any k _)))
        | fail)
      refine wpQuiet_nil ?_
      intro w1 hw1
      replace S := Aside0.mk (S.out.call (later_below hw1))
      clear hw1
      go_wp2_with (first
        | (refine gate_ (.load 36 (.tmp 7)) rfl ?_; refine wpList_load_row rfl 36 _ rfl _ rfl 36 #[.slice A0 c.f0.length c0, .slice A1 c.f1.length c1, .slice A2 c.f2.length c2, .slice A3 c.f3.length c3, .slice A4 c.f4.length c4, .slice none 0 0, .slice A6 c.f6.length c6, .int .i64 c.f7] (0, 0) _ (S.out.get 2 rfl) Try.underlying36 rfl (by kernel_rfl) ?_)
        | (refine gate_ (.load 51 (.tmp 5)) rfl ?_; (first | refine gate_none rfl ?_ | refine gate_if rfl rfl rfl ?_); refine wpList_load_row rfl 51 _ rfl _ rfl 51 #[.int .i64 k.f0, .int .u64 k.f1.f0, .int .u64 k.f1.f1, .int .u64 k.f2.f0, .int .u64 k.f2.f1, .int .i64 k.f3, .int .i64 k.f4] (0, 0) _ (S.out.get 1 rfl) Try.underlying51 rfl (by kernel_rfl) ?_)
        | (refine gate_ (.load 39 (.tmp 25)) rfl ?_; refine wpList_load_blk rfl 39 _ rfl _ _ 2 [.int .u64 k.f2.f0, .int .u64 k.f2.f1] #[.int .i64 k.f0, .int .u64 k.f1.f0, .int .u64 k.f1.f1, .int .u64 k.f2.f0, .int .u64 k.f2.f1, .int .i64 k.f3, .int .i64 k.f4] 51 (0, 0) _ rfl (S.out.get 1 rfl) (by kernel_rfl) Try.underlying39 rfl (by kernel_rfl) ?_)
        | (go_at_call 27; (with_reducible refine (HM.out _ S.out.below).mono ?_); rintro e w9 ⟨rfl, hb9⟩; replace S := Aside0.mk (S.out.call hb9); clear hb9)
        | (go_at_call 19; (with_reducible refine (HR.out _ S.out.below).mono ?_); rintro e w9 ⟨rfl, hb9⟩; replace S := Aside0.mk (S.out.call hb9); clear hb9)
        | (go_at_call 28; (with_reducible refine (refturned_any k _).mono ?_); rintro e w9 ⟨rfl, hb9⟩; replace S := Aside0.mk (S.out.call hb9); clear hb9)
        | (refine gate_ (.store 71 (.tmp 8) (.tmp 21)) rfl ?_; refine wpList_store_all rfl 71 _ _ rfl _ (plA (⟨k, k, k, turnK k, turnK k, i, z⟩ : PL)) _ _ rfl rfl (heap_alloc_new _ _) rfl (plA_info _) (plA_one _) ?_; intro w3 hb3 hg3 hz3; replace S := Aside0.mk (S.out.made hg3 hb3); clear hb3 hg3 hz3)
        | (refine gate_ (.load 51 (.tmp 50)) rfl ?_; (first | refine gate_none rfl ?_ | refine gate_if rfl rfl rfl ?_); refine wpList_load_blk rfl 51 _ rfl _ _ 7 [.int .i64 (k).f0, .int .u64 (k).f1.f0, .int .u64 (k).f1.f1, .int .u64 (k).f2.f0, .int .u64 (k).f2.f1, .int .i64 (k).f3, .int .i64 (k).f4] (plA (⟨k, k, k, turnK k, turnK k, i, z⟩ : PL)) 71 (0, 0) _ rfl (S.out.get 3 rfl) (by kernel_rfl) Try.underlying51 rfl (by kernel_rfl) ?_)
        | (refine gate_ (.load 51 (.tmp 56)) rfl ?_; (first | refine gate_none rfl ?_ | refine gate_if rfl rfl rfl ?_); refine wpList_load_blk rfl 51 _ rfl _ _ 7 [.int .i64 (k).f0, .int .u64 (k).f1.f0, .int .u64 (k).f1.f1, .int .u64 (k).f2.f0, .int .u64 (k).f2.f1, .int .i64 (k).f3, .int .i64 (k).f4] (plA (⟨k, k, k, turnK k, turnK k, i, z⟩ : PL)) 71 (0, 0) _ rfl (S.out.get 3 rfl) (by kernel_rfl) Try.underlying51 rfl (by kernel_rfl) ?_)
        | (refine gate_ (.load 51 (.tmp 62)) rfl ?_; (first | refine gate_none rfl ?_ | refine gate_if rfl rfl rfl ?_); refine wpList_load_blk rfl 51 _ rfl _ _ 7 [.int .i64 (k).f0, .int .u64 (k).f1.f0, .int .u64 (k).f1.f1, .int .u64 (k).f2.f0, .int .u64 (k).f2.f1, .int .i64 (k).f3, .int .i64 (k).f4] (plA (⟨k, k, k, turnK k, turnK k, i, z⟩ : PL)) 71 (0, 0) _ rfl (S.out.get 3 rfl) (by kernel_rfl) Try.underlying51 rfl (by kernel_rfl) ?_)
        | (refine gate_ (.load 51 (.tmp 68)) rfl ?_; (first | refine gate_none rfl ?_ | refine gate_if rfl rfl rfl ?_); refine wpList_load_blk rfl 51 _ rfl _ _ 7 [.int .i64 (turnK k).f0, .int .u64 (turnK k).f1.f0, .int .u64 (turnK k).f1.f1, .int .u64 (turnK k).f2.f0, .int .u64 (turnK k).f2.f1, .int .i64 (turnK k).f3, .int .i64 (turnK k).f4] (plA (⟨k, k, k, turnK k, turnK k, i, z⟩ : PL)) 71 (0, 0) _ rfl (S.out.get 3 rfl) (by kernel_rfl) Try.underlying51 rfl (by kernel_rfl) ?_)
        | (refine gate_ (.load 51 (.tmp 70)) rfl ?_; (first | refine gate_none rfl ?_ | refine gate_if rfl rfl rfl ?_); refine wpList_load_blk rfl 51 _ rfl _ _ 7 [.int .i64 (turnK k).f0, .int .u64 (turnK k).f1.f0, .int .u64 (turnK k).f1.f1, .int .u64 (turnK k).f2.f0, .int .u64 (turnK k).f2.f1, .int .i64 (turnK k).f3, .int .i64 (turnK k).f4] (plA (⟨k, k, k, turnK k, turnK k, i, z⟩ : PL)) 71 (0, 0) _ rfl (S.out.get 3 rfl) (by kernel_rfl) Try.underlying51 rfl (by kernel_rfl) ?_)
        | (refine gate_ (.load 3 (.tmp 75)) rfl ?_; (first | refine gate_none rfl ?_ | refine gate_if rfl rfl rfl ?_); refine wpList_load_one 3 _ rfl rfl _ _ (.int .i64 i) (plA (⟨k, k, k, turnK k, turnK k, i, z⟩ : PL)) 71 (0, 0) _ rfl (S.out.get 3 rfl) rfl Try.underlying3 rfl ?_)
        | (refine gate_ (.load 3 (.tmp 81)) rfl ?_; (first | refine gate_none rfl ?_ | refine gate_if rfl rfl rfl ?_); refine wpList_load_one 3 _ rfl rfl _ _ (.int .i64 z) (plA (⟨k, k, k, turnK k, turnK k, i, z⟩ : PL)) 71 (0, 0) _ rfl (S.out.get 3 rfl) rfl Try.underlying3 rfl ?_)
        | (refine gate_dst (N := 44) rfl ?_; (first | refine gate_none rfl ?_ | refine gate_if rfl rfl rfl ?_); refine wpList_eql51 rfl _ _ _ (turnK k) k rfl rfl rfl ?_; rw [h3])
        | (refine gate_dst (N := 53) rfl ?_; (first | refine gate_none rfl ?_ | refine gate_if rfl rfl rfl ?_); refine wpList_eql51 rfl _ _ _ k k rfl rfl rfl ?_; rw [HE.out])
        | (refine gate_dst (N := 59) rfl ?_; (first | refine gate_none rfl ?_ | refine gate_if rfl rfl rfl ?_); refine wpList_eql51 rfl _ _ _ k k rfl rfl rfl ?_; rw [HE.out])
        | (refine gate_dst (N := 65) rfl ?_; (first | refine gate_none rfl ?_ | refine gate_if rfl rfl rfl ?_); refine wpList_eql51 rfl _ _ _ k k rfl rfl rfl ?_; rw [HE.out])
        | (refine gate_dst (N := 72) rfl ?_; (first | refine gate_none rfl ?_ | refine gate_if rfl rfl rfl ?_); refine wpList_eql51 rfl _ _ _ (turnK k) (turnK k) rfl rfl rfl ?_; rw [HT.out])
        | fail)
      go_ret
      exact ⟨rfl, S.out.below⟩
end Go.Proofs.Ytgppfpfdoooijaa
