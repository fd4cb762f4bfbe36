/- What is chosen for a header: the document's Choose. -/
import Derived.Test.YtgppfpfdoooijaaOf
namespace Go.Proofs.Ytgppfpfdoooijaa
open Go.RowKit Go.Proofs.YtgppfpfdoooijaaW.PrintWords
set_option linter.unusedVariables false
set_option linter.unusedSimpArgs false
attribute [local go_sem] Later.cell_eq

set_option maxHeartbeats 8000000 in
theorem refchoose_any (c : S36) (cs : List Value) (h : S62) (w : World) (hc : k36.K w c cs) :
    Calls Try.prog 25 #[.agg cs.toArray, .agg #[.int .i64 h.f0, .int .i64 h.f1, .int .i64 h.f2.f0, .int .u64 h.f2.f1.f0, .int .u64 h.f2.f1.f1, .int .u64 h.f2.f2.f0, .int .u64 h.f2.f2.f1, .int .i64 h.f2.f3, .int .i64 h.f2.f4]] w fun e w' =>
      e = .returned (.agg #[.int .i64 (chooseF c h).f0, .int .i64 (chooseF c h).f1, .int .i64 (chooseF c h).f2, .bool (chooseF c h).f3]) ∧ Below w.heap.size w w' := by
  have HK := Aside0.mk hc
  obtain ⟨A0, c0, A1, c1, A2, c2, A3, c3, A4, c4, A5, c5, A6, c6, rfl, l0, g0, l1, g1, l2, g2, l3, g3, l4, g4, l5, g5, l6, g6⟩ := k36_open hc
  have hmax : c.f6.length ≤ 9223372036854775807 := Kd.C_max g6
  have HG6 := Aside0.mk g6
  clear hc g0 g1 g2 g3 g4 g5 g6
  have HM := Aside0.mk (fun (r : S68) (b : Bool) (hb : matchF c r h = b) (W : World) (hW : Below w.heap.size w W) => show Calls Try.prog 47 #[.agg #[.slice A0 c.f0.length c0, .slice A1 c.f1.length c1, .slice A2 c.f2.length c2, .slice A3 c.f3.length c3, .slice A4 c.f4.length c4, .slice A5 c.f5.length c5, .slice A6 c.f6.length c6, .int .i64 c.f7], .agg #[.string r.f0, .string r.f1, .string r.f2, .string r.f3, .string r.f4, .int .i64 r.f5, .string r.f6, .bool r.f7], .agg #[.int .i64 h.f0, .int .i64 h.f1, .int .i64 h.f2.f0, .int .u64 h.f2.f1.f0, .int .u64 h.f2.f1.f1, .int .u64 h.f2.f2.f0, .int .u64 h.f2.f2.f1, .int .i64 h.f2.f3, .int .i64 h.f2.f4]] W (fun e w' => e = .returned (.bool b) ∧ Below W.heap.size W w') by rw [← hb]; exact refmatch_any c _ r h W (k36.K_below hW HK.out))
  have HO := Aside0.mk (fun (i : Int) (hi : i < c.f6.length) (he : i = ruleF c h) (W : World) (hW : Below w.heap.size w W) => show Calls Try.prog 48 #[.agg #[.slice A0 c.f0.length c0, .slice A1 c.f1.length c1, .slice A2 c.f2.length c2, .slice A3 c.f3.length c3, .slice A4 c.f4.length c4, .slice A5 c.f5.length c5, .slice A6 c.f6.length c6, .int .i64 c.f7], .int .i64 i] W (fun e w' => e = .returned (.agg #[.int .i64 (chooseF c h).f0, .int .i64 (chooseF c h).f1, .int .i64 (chooseF c h).f2, .bool (chooseF c h).f3]) ∧ Below W.heap.size W w') by rw [show chooseF c h = ofF c i by rw [he]; rfl]; exact of_any c _ i W (k36.K_below hW HK.out) hi)
  go_enter Try.func25, Try.ntmps25
  go_wp2
  obtain ⟨W0, hW0⟩ : ∃ W0, W0 = ((w.alloc (.cells #[.slice A0 c.f0.length c0, .slice A1 c.f1.length c1, .slice A2 c.f2.length c2, .slice A3 c.f3.length c3, .slice A4 c.f4.length c4, .slice A5 c.f5.length c5, .slice A6 c.f6.length c6, .int .i64 c.f7] 36)).alloc (.cells #[.int .i64 h.f0, .int .i64 h.f1, .int .i64 h.f2.f0, .int .u64 h.f2.f1.f0, .int .u64 h.f2.f1.f1, .int .u64 h.f2.f2.f0, .int .u64 h.f2.f2.f1, .int .i64 h.f2.f3, .int .i64 h.f2.f4] 62)).alloc (.cells #[.int .i64 0, .int .i64 0, .int .i64 0, .bool false] 64) := ⟨_, rfl⟩
  rw [← hW0]
  have HB0 := Aside0.mk (show Below w.heap.size w W0 by rw [hW0]; go_grown)
  have HS := Aside0.mk (show W0.heap.size = w.heap.size + 1 + 1 + 1 by rw [hW0]; simp)
  have b0 : W0.heap[w.heap.size]? = some (.cells #[.slice A0 c.f0.length c0, .slice A1 c.f1.length c1, .slice A2 c.f2.length c2, .slice A3 c.f3.length c3, .slice A4 c.f4.length c4, .slice A5 c.f5.length c5, .slice A6 c.f6.length c6, .int .i64 c.f7] 36 (0, 0)) := by rw [hW0]; repeat (first | exact heap_alloc_at _ _ _ (by simp only [World.size_alloc]) | refine (Below.heap_alloc _ _ _ (by simp only [World.size_alloc]; omega)).trans ?_)
  have b1 : W0.heap[w.heap.size + 1]? = some (.cells #[.int .i64 h.f0, .int .i64 h.f1, .int .i64 h.f2.f0, .int .u64 h.f2.f1.f0, .int .u64 h.f2.f1.f1, .int .u64 h.f2.f2.f0, .int .u64 h.f2.f2.f1, .int .i64 h.f2.f3, .int .i64 h.f2.f4] 62 (0, 0)) := by rw [hW0]; repeat (first | exact heap_alloc_at _ _ _ (by simp only [World.size_alloc]) | refine (Below.heap_alloc _ _ _ (by simp only [World.size_alloc]; omega)).trans ?_)
  have b2 : W0.heap[w.heap.size + 1 + 1]? = some (.cells #[.int .i64 0, .int .i64 0, .int .i64 0, .bool false] 64 (0, 0)) := by rw [hW0]; repeat (first | exact heap_alloc_at _ _ _ (by simp only [World.size_alloc]) | refine (Below.heap_alloc _ _ _ (by simp only [World.size_alloc]; omega)).trans ?_)
  have BB := Aside0.mk (And.intro b0 (And.intro b1 b2))
  clear b0 b1 b2 hW0
  go_loopw [5] (fun v wr => ∃ k : Nat, k ≤ c.f6.length ∧ v = .int .i64 k ∧ Aside0 (∀ j, j < k → ∀ y, c.f6[j]? = some y → (fun r => matchF c r h) y = false) ∧ Aside0 (Below W0.heap.size W0 wr)) (fun v _ => c.f6.length - (intOf v).toNat)
  case atStart => exact ⟨0, Nat.zero_le _, rfl, ⟨fun j hj => by omega⟩, ⟨Below.refl _ _⟩⟩
  case round =>
    obtain ⟨k, hk, rfl, HN, HB⟩ := hrel
    have HBW := Aside0.mk (show Below w.heap.size w wr from below_then HB0.out HB0.out.size HB.out)
    have hb0 := (HB.out.block w.heap.size (by have := HS.out; omega)).trans BB.out.1
    have hb1 := (HB.out.block (w.heap.size + 1) (by have := HS.out; omega)).trans BB.out.2.1
    have hb2 := (HB.out.block (w.heap.size + 1 + 1) (by have := HS.out; omega)).trans BB.out.2.2
    have hc0 := (show wr.cell? ⟨w.heap.size, 0, none⟩ = some (.slice A0 c.f0.length c0) by simp [World.cell?, hb0])
    have hc1 := (show wr.cell? ⟨w.heap.size, 1, none⟩ = some (.slice A1 c.f1.length c1) by simp [World.cell?, hb0])
    have hc2 := (show wr.cell? ⟨w.heap.size, 2, none⟩ = some (.slice A2 c.f2.length c2) by simp [World.cell?, hb0])
    have hc3 := (show wr.cell? ⟨w.heap.size, 3, none⟩ = some (.slice A3 c.f3.length c3) by simp [World.cell?, hb0])
    have hc4 := (show wr.cell? ⟨w.heap.size, 4, none⟩ = some (.slice A4 c.f4.length c4) by simp [World.cell?, hb0])
    have hc5 := (show wr.cell? ⟨w.heap.size, 5, none⟩ = some (.slice A5 c.f5.length c5) by simp [World.cell?, hb0])
    have hc6 := (show wr.cell? ⟨w.heap.size, 6, none⟩ = some (.slice A6 c.f6.length c6) by simp [World.cell?, hb0])
    have hc7 := (show wr.cell? ⟨w.heap.size, 7, none⟩ = some (.int .i64 c.f7) by simp [World.cell?, hb0])
    have hh0 := (show wr.cell? ⟨w.heap.size + 1, 0, none⟩ = some (.int .i64 h.f0) by simp [World.cell?, hb1])
    have hh1 := (show wr.cell? ⟨w.heap.size + 1, 1, none⟩ = some (.int .i64 h.f1) by simp [World.cell?, hb1])
    have hh2 := (show wr.cell? ⟨w.heap.size + 1, 2, none⟩ = some (.int .i64 h.f2.f0) by simp [World.cell?, hb1])
    have hh3 := (show wr.cell? ⟨w.heap.size + 1, 3, none⟩ = some (.int .u64 h.f2.f1.f0) by simp [World.cell?, hb1])
    have hh4 := (show wr.cell? ⟨w.heap.size + 1, 4, none⟩ = some (.int .u64 h.f2.f1.f1) by simp [World.cell?, hb1])
    have hh5 := (show wr.cell? ⟨w.heap.size + 1, 5, none⟩ = some (.int .u64 h.f2.f2.f0) by simp [World.cell?, hb1])
    have hh6 := (show wr.cell? ⟨w.heap.size + 1, 6, none⟩ = some (.int .u64 h.f2.f2.f1) by simp [World.cell?, hb1])
    have hh7 := (show wr.cell? ⟨w.heap.size + 1, 7, none⟩ = some (.int .i64 h.f2.f3) by simp [World.cell?, hb1])
    have hh8 := (show wr.cell? ⟨w.heap.size + 1, 8, none⟩ = some (.int .i64 h.f2.f4) by simp [World.cell?, hb1])
    have y0 : wr.cell? ⟨w.heap.size + 1 + 1, 0, none⟩ = some (.int .i64 0) := by simp [World.cell?, hb2]
    have y1 : wr.cell? ⟨w.heap.size + 1 + 1, 1, none⟩ = some (.int .i64 0) := by simp [World.cell?, hb2]
    have y2 : wr.cell? ⟨w.heap.size + 1 + 1, 2, none⟩ = some (.int .i64 0) := by simp [World.cell?, hb2]
    have y3 : wr.cell? ⟨w.heap.size + 1 + 1, 3, none⟩ = some (.bool false) := by simp [World.cell?, hb2]
    have zy : ∀ o, wr.frozen? ⟨w.heap.size + 1 + 1, o, none⟩ = false := fun o => by simp [World.frozen?, hb2]
    have hsw2 : w.heap.size + 1 + 1 < wr.heap.size := World.block_lt_of_cell? wr _ y0
    have hsw1 : w.heap.size + 1 < wr.heap.size := by omega
    have hsw0 : w.heap.size < wr.heap.size := by omega
    clear hb0 hb1 hb2
    by_cases hlt : k < c.f6.length
    · obtain ⟨ad, rfl, x0, x1, x2, x3, x4, x5, x6, x7⟩ := at_T68 (Kd.C_below HG6.out HBW.out) (k : Int) (by omega) (by omega)
      have HX := Aside0.mk (getD_get z68 hlt)
      unfold rd_T68 at x0 x1 x2 x3 x4 x5 x6 x7
      simp only [Int.toNat_natCast] at x0 x1 x2 x3 x4 x5 x6 x7
      generalize c.f6.getD k z68 = x at *
      have hsa : (ad.add (k * 8)).block < wr.heap.size := World.block_lt_of_cell? wr _ x0
      cases hm : matchF c x h with
      | false =>
        have HM2 := Aside0.mk (HM.out x false hm)
        have HNO := Aside0.mk hm
        clear hm y0 y1 y2 y3 zy
        go_wp2
        refine wp_region_later (by kernel_rfl) (by kernel_rfl) ?_
        repeat (first | go_big_quiet_step ((go_at_call 47; exact later_of (HM2.out _ (below_then HBW.out HBW.out.size (Later.below _))))) | quiet_step ((go_at_call 47; exact later_of (HM2.out _ (below_then HBW.out HBW.out.size (Later.below _))))))
        refine wpQuiet_nil ?_
        intro w5 hw5
        have HB5 := Aside0.mk (later_below hw5)
        clear hw5
        go_wp2
        go_roundw
        case rel => exact ⟨k + 1, by omega, by go_num, ⟨none_succ HX.out HNO.out HN.out⟩, ⟨below_then HB.out HB.out.size HB5.out⟩⟩
        case measure => simp [intOf]; omega
      | true =>
        have HM2 := Aside0.mk (HM.out x true hm)
        have HR := Aside0.mk (show (k : Int) = ruleF c h from (idxF_at (p := fun r => matchF c r h) HX.out hm HN.out).symm)
        have HLT := Aside0.mk (show (k : Int) < c.f6.length by omega)
        clear hm
        go_wp2
        refine wp_region_later (by kernel_rfl) (by kernel_rfl) ?_
        repeat (first | go_big_quiet_step ((go_at_call 47; exact later_of (HM2.out _ (below_then HBW.out HBW.out.size (Later.below _))))) | quiet_step ((go_at_call 47; exact later_of (HM2.out _ (below_then HBW.out HBW.out.size (Later.below _))))))
        refine wpQuiet_nil ?_
        intro w5 hw5
        have HB5 := Aside0.mk (later_below hw5)
        clear hw5
        have HBW5 := Aside0.mk (below_then HBW.out HBW.out.size HB5.out)
        obtain ⟨hcc, hff⟩ := bcell HB5.out
        replace y0 := pw_cell_below HB5.out y0
        replace y1 := pw_cell_below HB5.out y1
        replace y2 := pw_cell_below HB5.out y2
        replace y3 := pw_cell_below HB5.out y3
        replace zy : ∀ o, w5.frozen? ⟨w.heap.size + 1 + 1, o, none⟩ = false := fun o => (HB5.out.frozen (p := ⟨w.heap.size + 1 + 1, o, none⟩) hsw2).trans (zy o)
        go_wp2_with fail
        refine (HO.out _ HLT.out HR.out _ HBW5.out).mono ?_
        rintro e w6 ⟨rfl, hb6⟩
        clear hcc hff
        -- behind the call of Of
        have HBW6 := Aside0.mk (below_then HBW5.out HBW5.out.size hb6)
        have e0 : w6.cell? ⟨w.heap.size + 1 + 1, 0, none⟩ = some (.int .i64 0) := pw_cell_below hb6 y0
        have e1 : w6.cell? ⟨w.heap.size + 1 + 1, 1, none⟩ = some (.int .i64 0) := pw_cell_below hb6 y1
        have e2 : w6.cell? ⟨w.heap.size + 1 + 1, 2, none⟩ = some (.int .i64 0) := pw_cell_below hb6 y2
        have e3 : w6.cell? ⟨w.heap.size + 1 + 1, 3, none⟩ = some (.bool false) := pw_cell_below hb6 y3
        have z0 : ∀ o, w6.frozen? ⟨w.heap.size + 1 + 1, o, none⟩ = false := fun o => (hb6.frozen (p := ⟨w.heap.size + 1 + 1, o, none⟩) (show w.heap.size + 1 + 1 < w5.heap.size from World.block_lt_of_cell? w5 ⟨w.heap.size + 1 + 1, 0, none⟩ y0)).trans (zy o)
        have hs2 : w.heap.size + 1 + 1 < w6.heap.size := World.block_lt_of_cell? w6 _ e0
        clear hb6
        go_wp2
        refine bodyPost_ret (v := .agg #[.int .i64 (chooseF c h).f0, .int .i64 (chooseF c h).f1, .int .i64 (chooseF c h).f2, .bool (chooseF c h).f3]) (by simp [results, Try.results25, go_sem, e0, e1, e2, e3, hs2]) rfl ?_
        exact ⟨rfl, by have HH := HBW6.out; go_grown⟩
    · have HR := Aside0.mk (show (-1 : Int) = ruleF c h from (idxF_none (fun j hj => HN.out j (by omega))).symm)
      have HLT := Aside0.mk (show (-1 : Int) < c.f6.length by omega)
      go_wp2_with fail
      refine (HO.out _ HLT.out HR.out _ HBW.out).mono ?_
      rintro e w6 ⟨rfl, hb6⟩
      -- behind the call of Of
      have HBW6 := Aside0.mk (below_then HBW.out HBW.out.size hb6)
      have e0 : w6.cell? ⟨w.heap.size + 1 + 1, 0, none⟩ = some (.int .i64 0) := pw_cell_below hb6 y0
      have e1 : w6.cell? ⟨w.heap.size + 1 + 1, 1, none⟩ = some (.int .i64 0) := pw_cell_below hb6 y1
      have e2 : w6.cell? ⟨w.heap.size + 1 + 1, 2, none⟩ = some (.int .i64 0) := pw_cell_below hb6 y2
      have e3 : w6.cell? ⟨w.heap.size + 1 + 1, 3, none⟩ = some (.bool false) := pw_cell_below hb6 y3
      have z0 : ∀ o, w6.frozen? ⟨w.heap.size + 1 + 1, o, none⟩ = false := fun o => (hb6.frozen (p := ⟨w.heap.size + 1 + 1, o, none⟩) (show w.heap.size + 1 + 1 < wr.heap.size from World.block_lt_of_cell? wr ⟨w.heap.size + 1 + 1, 0, none⟩ y0)).trans (zy o)
      have hs2 : w.heap.size + 1 + 1 < w6.heap.size := World.block_lt_of_cell? w6 _ e0
      clear hb6
      go_wp2
      refine bodyPost_ret (v := .agg #[.int .i64 (chooseF c h).f0, .int .i64 (chooseF c h).f1, .int .i64 (chooseF c h).f2, .bool (chooseF c h).f3]) (by simp [results, Try.results25, go_sem, e0, e1, e2, e3, hs2]) rfl ?_
      exact ⟨rfl, by have HH := HBW6.out; go_grown⟩
end Go.Proofs.Ytgppfpfdoooijaa
