/- RulesPlaces, walked: the program's Zone and Route say what the document's say. -/
import Derived.Test.YtgppfpfdoooijaaRoute
import Derived.Test.YtgppfpfdoooijaaHeavy
namespace Go.Proofs.Ytgppfpfdoooijaa
open Go.RowKit Go.Proofs.YtgppfpfdoooijaaW.PrintWords
set_option linter.unusedVariables false
set_option linter.unusedSimpArgs false
attribute [local go_sem] Later.cell_eq

set_option maxHeartbeats 4000000 in
theorem places_any (c : S36) (cs : List Value) (i : Int) (d : S39) (w : World) (hc : k36.K w c cs) (hf : Fits c) :
    Calls Try.prog 6 #[.agg cs.toArray, .int .i64 i, .agg #[.int .u64 d.f0, .int .u64 d.f1]] w fun e w' => e = .returned (.bool true) ∧ Below w.heap.size w w' := by
  have HK := Aside0.mk hc
  obtain ⟨A0, c0, A1, c1, A2, c2, A3, c3, A4, c4, A5, c5, A6, c6, rfl, l0, g0, l1, g1, l2, g2, l3, g3, l4, g4, l5, g5, l6, g6⟩ := k36_open hc
  clear hc g0 g1 g2 g3 g4 g5 g6
  have HF := Aside0.mk hf
  clear hf
  go_enter Try.func6, Try.ntmps6
  go_wp2_with fail
  refine (heavy17_any c _ _ (k36.K_below (((Below.refl _ _).alloc (Nat.le_refl _) _).alloc (by simp) _) HK.out) HF.out).mono ?_
  rintro e w1 ⟨b, rfl, hle, hb1⟩
  have HB1 := Aside0.mk (below2 hb1)
  obtain ⟨hc1, hf1⟩ := bcell hb1
  have hs1 : w.heap.size + 1 < w1.heap.size := by have := hb1.size; simp at this; omega
  have hs1' : w.heap.size < w1.heap.size := by omega
  clear hle hb1
  cases b with
  | true =>
    go_wp2
    go_ret
    exact ⟨rfl, HB1.out⟩
  | false =>
    go_wp2_with fail
    refine (route_any c _ d _ (k36.K_below HB1.out HK.out)).mono ?_
    rintro e w2 ⟨rfl, hb2⟩
    have HB2 := Aside0.mk (below_then HB1.out HB1.out.size hb2)
    obtain ⟨hc2, hf2⟩ := bcell hb2
    have hs2 : w.heap.size + 1 < w2.heap.size := by have := hb2.size; omega
    have hs2' : w.heap.size < w2.heap.size := by omega
    clear hb2
    go_wp2_with fail
    refine (refroute_any c _ d _ (k36.K_below HB2.out HK.out)).mono ?_
    rintro e w3 ⟨rfl, hb3⟩
    have HB3 := Aside0.mk (below_then HB2.out HB2.out.size hb3)
    obtain ⟨hc3, hf3⟩ := bcell hb3
    have hs3 : w.heap.size + 1 < w3.heap.size := by have := hb3.size; omega
    have hs3' : w.heap.size < w3.heap.size := by omega
    clear hb3
    go_wp2
    have HKW := Aside0.mk (k36.K_below HB3.out HK.out)
    refine wp_region_later (by kernel_rfl) (by kernel_rfl) ?_
    repeat (first
      | go_big_quiet_step ((first | (go_at_call 20; exact later_of (zone_any c _ _ _ (k36.K_below (Later.below _) HKW.out))) | (go_at_call 21; exact later_of (refzone_any c _ _ _ (k36.K_below (Later.below _) HKW.out)))))
      | quiet_step ((first | (go_at_call 20; exact later_of (zone_any c _ _ _ (k36.K_below (Later.below _) HKW.out))) | (go_at_call 21; exact later_of (refzone_any c _ _ _ (k36.K_below (Later.below _) HKW.out))))))
    refine wpQuiet_nil ?_
    intro w4 hw4
    have HB4 := Aside0.mk (later_below hw4)
    clear hw4
    go_wp2
    go_ret
    exact ⟨by simp, below_then HB3.out HB3.out.size HB4.out⟩
end Go.Proofs.Ytgppfpfdoooijaa
