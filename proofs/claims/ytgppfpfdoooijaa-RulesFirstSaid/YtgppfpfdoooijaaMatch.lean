/- Does a rule match a header: the program's Matches (five bound methods in a row) and the document's. -/
import Derived.Test.YtgppfpfdoooijaaServes
import Derived.Handy
import Derived.Deep.Cut
import Derived.LoopN
import Derived.Laws.Rows
import Derived.Laws.Tables
import Derived.Great.BuildSlice
import Derived.Deep.WholeRow
import Derived.Maps.RangeWalk
namespace Go.Proofs.Ytgppfpfdoooijaa
open Go.RowKit Go.Proofs.YtgppfpfdoooijaaW.PrintWords
set_option linter.unusedVariables false
set_option linter.unusedSimpArgs false
attribute [local go_sem] Later.cell_eq

theorem heap_alloc_at (w : World) (o : Obj) (n : Nat) (h : n = w.heap.size) : (w.alloc o).heap[n]? = some o := by subst h; exact heap_alloc_new w o
theorem setRow_last {X : World} {o : Array Value} {t g : Nat} (hg : g = X.heap.size) (Q : Array Value) : (X.alloc (.cells o t)).setRow g Q = X.alloc (.cells Q t) := by subst hg; exact World.setRow_alloc_new _ _ _ _

/-- A zone's number is of a name, or the name is everything's. -/
def zoneB (c : S36) (i : Int) (name : ByteArray) : Bool := name.toList == [97, 110, 121] || calledF c i name
/-- Does a rule match a header? -/
def matchF (c : S36) (r : S68) (h : S62) : Bool := zoneB c h.f0 r.f0 && (zoneB c h.f1 r.f1 && (withinF c r.f2 h.f2.f1 && (withinF c r.f3 h.f2.f2 && servesF c r.f4 h.f2)))
/-- The cells of a question. -/
def quest (cs : List Value) (r : S68) (h : S62) : List Value := cs ++ [.string r.f0, .string r.f1, .string r.f2, .string r.f3, .string r.f4, .int .i64 r.f5, .string r.f6, .bool r.f7, .int .i64 h.f0, .int .i64 h.f1, .int .i64 h.f2.f0, .int .u64 h.f2.f1.f0, .int .u64 h.f2.f1.f1, .int .u64 h.f2.f2.f0, .int .u64 h.f2.f2.f1, .int .i64 h.f2.f3, .int .i64 h.f2.f4]

set_option maxHeartbeats 2000000 in
theorem comes_any (c : S36) (cs : List Value) (r : S68) (h : S62) (w : World) (hc : k36.K w c cs) : Calls Try.prog 69 #[.agg (quest cs r h).toArray] w fun e w' => e = .returned (.bool (zoneB c h.f0 r.f0)) ∧ Below w.heap.size w w' := by
  have HK := Aside0.mk hc
  obtain ⟨A0, c0, A1, c1, A2, c2, A3, c3, A4, c4, A5, c5, A6, c6, rfl, l0, g0, l1, g1, l2, g2, l3, g3, l4, g4, l5, g5, l6, g6⟩ := k36_open hc
  clear hc g0 g1 g2 g3 g4 g5 g6
  unfold quest
  simp only [List.cons_append, List.nil_append]
  have HCA := Aside0.mk (fun (b : Bool) (hb : b = calledF c h.f0 r.f0) (cs : List Value) (W : World) (hW : k36.K W c cs) => show Calls Try.prog 39 #[.agg cs.toArray, .int .i64 h.f0, .string r.f0] W (fun e w' => e = .returned (.bool b) ∧ Below W.heap.size W w') by rw [hb]; exact called_any c cs _ _ W hW)
  cases hany : r.f0.toList == [97, 110, 121] with
  | true =>
    have H := Aside0.mk (show zoneB c h.f0 r.f0 = true by unfold zoneB; rw [hany]; rfl)
    go_enter Try.func69, Try.ntmps69
    go_wp2
    go_ret
    exact ⟨by rw [H.out]; rfl, (Below.refl _ _).alloc (Nat.le_refl _) _⟩
  | false =>
    have H := Aside0.mk (show zoneB c h.f0 r.f0 = calledF c h.f0 r.f0 by unfold zoneB; rw [hany]; rfl)
    go_enter Try.func69, Try.ntmps69
    go_wp2_with (go_at_call 39; refine (HCA.out _ rfl _ _ (k36.K_below ((Below.refl _ _).alloc (Nat.le_refl _) _) HK.out)).mono ?_; rintro e w1 ⟨rfl, hb1⟩)
    go_ret
    exact ⟨by rw [H.out]; rfl, later_alloc (Below.refl _ _) hb1⟩
set_option maxHeartbeats 2000000 in
theorem goes_any (c : S36) (cs : List Value) (r : S68) (h : S62) (w : World) (hc : k36.K w c cs) : Calls Try.prog 70 #[.agg (quest cs r h).toArray] w fun e w' => e = .returned (.bool (zoneB c h.f1 r.f1)) ∧ Below w.heap.size w w' := by
  have HK := Aside0.mk hc
  obtain ⟨A0, c0, A1, c1, A2, c2, A3, c3, A4, c4, A5, c5, A6, c6, rfl, l0, g0, l1, g1, l2, g2, l3, g3, l4, g4, l5, g5, l6, g6⟩ := k36_open hc
  clear hc g0 g1 g2 g3 g4 g5 g6
  unfold quest
  simp only [List.cons_append, List.nil_append]
  have HCA := Aside0.mk (fun (b : Bool) (hb : b = calledF c h.f1 r.f1) (cs : List Value) (W : World) (hW : k36.K W c cs) => show Calls Try.prog 39 #[.agg cs.toArray, .int .i64 h.f1, .string r.f1] W (fun e w' => e = .returned (.bool b) ∧ Below W.heap.size W w') by rw [hb]; exact called_any c cs _ _ W hW)
  cases hany : r.f1.toList == [97, 110, 121] with
  | true =>
    have H := Aside0.mk (show zoneB c h.f1 r.f1 = true by unfold zoneB; rw [hany]; rfl)
    go_enter Try.func70, Try.ntmps70
    go_wp2
    go_ret
    exact ⟨by rw [H.out]; rfl, (Below.refl _ _).alloc (Nat.le_refl _) _⟩
  | false =>
    have H := Aside0.mk (show zoneB c h.f1 r.f1 = calledF c h.f1 r.f1 by unfold zoneB; rw [hany]; rfl)
    go_enter Try.func70, Try.ntmps70
    go_wp2_with (go_at_call 39; refine (HCA.out _ rfl _ _ (k36.K_below ((Below.refl _ _).alloc (Nat.le_refl _) _) HK.out)).mono ?_; rintro e w1 ⟨rfl, hb1⟩)
    go_ret
    exact ⟨by rw [H.out]; rfl, later_alloc (Below.refl _ _) hb1⟩
set_option maxHeartbeats 2000000 in
theorem qserves_any (c : S36) (cs : List Value) (r : S68) (h : S62) (w : World) (hc : k36.K w c cs) : Calls Try.prog 71 #[.agg (quest cs r h).toArray] w fun e w' => e = .returned (.bool (servesF c r.f4 h.f2)) ∧ Below w.heap.size w w' := by
  have HK := Aside0.mk hc
  obtain ⟨A0, c0, A1, c1, A2, c2, A3, c3, A4, c4, A5, c5, A6, c6, rfl, l0, g0, l1, g1, l2, g2, l3, g3, l4, g4, l5, g5, l6, g6⟩ := k36_open hc
  clear hc g0 g1 g2 g3 g4 g5 g6
  unfold quest
  simp only [List.cons_append, List.nil_append]
  have HCA := Aside0.mk (fun (cs : List Value) (W : World) (hW : k36.K W c cs) => serves_any c cs r.f4 h.f2 W hW)
  go_enter Try.func71, Try.ntmps71
  go_wp2_with (go_at_call 35; refine (HCA.out _ _ (k36.K_below ((Below.refl _ _).alloc (Nat.le_refl _) _) HK.out)).mono ?_; rintro e w1 ⟨rfl, hb1⟩)
  go_ret
  exact ⟨rfl, later_alloc (Below.refl _ _) hb1⟩
set_option maxHeartbeats 2000000 in
theorem qfrom_any (c : S36) (cs : List Value) (r : S68) (h : S62) (w : World) (hc : k36.K w c cs) : Calls Try.prog 72 #[.agg (quest cs r h).toArray] w fun e w' => e = .returned (.bool (withinF c r.f2 h.f2.f1)) ∧ Below w.heap.size w w' := by
  have HK := Aside0.mk hc
  obtain ⟨A0, c0, A1, c1, A2, c2, A3, c3, A4, c4, A5, c5, A6, c6, rfl, l0, g0, l1, g1, l2, g2, l3, g3, l4, g4, l5, g5, l6, g6⟩ := k36_open hc
  clear hc g0 g1 g2 g3 g4 g5 g6
  unfold quest
  simp only [List.cons_append, List.nil_append]
  have HCA := Aside0.mk (fun (cs : List Value) (W : World) (hW : k36.K W c cs) => within_any c cs r.f2 h.f2.f1 W hW)
  go_enter Try.func72, Try.ntmps72
  go_wp2_with (go_at_call 40; refine (HCA.out _ _ (k36.K_below ((Below.refl _ _).alloc (Nat.le_refl _) _) HK.out)).mono ?_; rintro e w1 ⟨rfl, hb1⟩)
  go_ret
  exact ⟨rfl, later_alloc (Below.refl _ _) hb1⟩
set_option maxHeartbeats 2000000 in
theorem qto_any (c : S36) (cs : List Value) (r : S68) (h : S62) (w : World) (hc : k36.K w c cs) : Calls Try.prog 73 #[.agg (quest cs r h).toArray] w fun e w' => e = .returned (.bool (withinF c r.f3 h.f2.f2)) ∧ Below w.heap.size w w' := by
  have HK := Aside0.mk hc
  obtain ⟨A0, c0, A1, c1, A2, c2, A3, c3, A4, c4, A5, c5, A6, c6, rfl, l0, g0, l1, g1, l2, g2, l3, g3, l4, g4, l5, g5, l6, g6⟩ := k36_open hc
  clear hc g0 g1 g2 g3 g4 g5 g6
  unfold quest
  simp only [List.cons_append, List.nil_append]
  have HCA := Aside0.mk (fun (cs : List Value) (W : World) (hW : k36.K W c cs) => within_any c cs r.f3 h.f2.f2 W hW)
  go_enter Try.func73, Try.ntmps73
  go_wp2_with (go_at_call 40; refine (HCA.out _ _ (k36.K_below ((Below.refl _ _).alloc (Nat.le_refl _) _) HK.out)).mono ?_; rintro e w1 ⟨rfl, hb1⟩)
  go_ret
  exact ⟨rfl, later_alloc (Below.refl _ _) hb1⟩

set_option maxRecDepth 100000 in
set_option maxHeartbeats 2000000 in
theorem match_any (c : S36) (cs : List Value) (r : S68) (h : S62) (w : World) (hc : k36.K w c cs) :
    Calls Try.prog 44 #[.agg cs.toArray, .agg #[.string r.f0, .string r.f1, .string r.f2, .string r.f3, .string r.f4, .int .i64 r.f5, .string r.f6, .bool r.f7], .agg #[.int .i64 h.f0, .int .i64 h.f1, .int .i64 h.f2.f0, .int .u64 h.f2.f1.f0, .int .u64 h.f2.f1.f1, .int .u64 h.f2.f2.f0, .int .u64 h.f2.f2.f1, .int .i64 h.f2.f3, .int .i64 h.f2.f4]] w fun e w' =>
      e = .returned (.bool (matchF c r h)) ∧ Below w.heap.size w w' := by
  have HK := Aside0.mk hc
  obtain ⟨Q, hQ⟩ : ∃ Q : Array Value, Q = (quest cs r h).toArray := ⟨_, rfl⟩
  have CA := Aside0.mk (fun (b : Bool) (hb : zoneB c h.f0 r.f0 = b) (W : World) (hW : Below w.heap.size w W) => show Calls Try.prog 69 #[.agg Q] W (fun e w' => e = .returned (.bool b) ∧ Below W.heap.size W w') by rw [← hb, hQ]; exact comes_any c cs r h W (k36.K_below hW HK.out))
  have CB := Aside0.mk (fun (b : Bool) (hb : zoneB c h.f1 r.f1 = b) (W : World) (hW : Below w.heap.size w W) => show Calls Try.prog 70 #[.agg Q] W (fun e w' => e = .returned (.bool b) ∧ Below W.heap.size W w') by rw [← hb, hQ]; exact goes_any c cs r h W (k36.K_below hW HK.out))
  have CC := Aside0.mk (fun (b : Bool) (hb : servesF c r.f4 h.f2 = b) (W : World) (hW : Below w.heap.size w W) => show Calls Try.prog 71 #[.agg Q] W (fun e w' => e = .returned (.bool b) ∧ Below W.heap.size W w') by rw [← hb, hQ]; exact qserves_any c cs r h W (k36.K_below hW HK.out))
  have CD := Aside0.mk (fun (b : Bool) (hb : withinF c r.f2 h.f2.f1 = b) (W : World) (hW : Below w.heap.size w W) => show Calls Try.prog 72 #[.agg Q] W (fun e w' => e = .returned (.bool b) ∧ Below W.heap.size W w') by rw [← hb, hQ]; exact qfrom_any c cs r h W (k36.K_below hW HK.out))
  have CE := Aside0.mk (fun (b : Bool) (hb : withinF c r.f3 h.f2.f2 = b) (W : World) (hW : Below w.heap.size w W) => show Calls Try.prog 73 #[.agg Q] W (fun e w' => e = .returned (.bool b) ∧ Below W.heap.size W w') by rw [← hb, hQ]; exact qto_any c cs r h W (k36.K_below hW HK.out))
  obtain ⟨A0, c0, A1, c1, A2, c2, A3, c3, A4, c4, A5, c5, A6, c6, rfl, l0, g0, l1, g1, l2, g2, l3, g3, l4, g4, l5, g5, l6, g6⟩ := k36_open hc
  clear hc g0 g1 g2 g3 g4 g5 g6
  unfold quest at hQ
  simp only [List.cons_append, List.nil_append] at hQ
  have hq : (Try.prog.info? 124).map (·.size) = some Q.size := by rw [hQ]; kernel_rfl
  have HQ := Aside0.mk hq
  have HS := Aside0.mk (show Q.size = 25 by rw [hQ]; rfl)
  have H1 := Aside0.mk (show Q.all (·.oneCell') = true by rw [hQ]; simp [Value.oneCell'])
  have HQE := Aside0.mk hQ
  clear hq HK hQ
  go_enter Try.func44, Try.ntmps44
  go_upto_region 2 with (first
    | (refine gate_dst (N := 13) rfl ?_; refine wpList_buildTo rfl 124 _ rfl (some 13) rfl #[.slice A0 c.f0.length c0, .slice A1 c.f1.length c1, .slice A2 c.f2.length c2, .slice A3 c.f3.length c3, .slice A4 c.f4.length c4, .slice A5 c.f5.length c5, .slice A6 c.f6.length c6, .int .i64 c.f7, .string r.f0, .string r.f1, .string r.f2, .string r.f3, .string r.f4, .int .i64 r.f5, .string r.f6, .bool r.f7, .int .i64 h.f0, .int .i64 h.f1, .int .i64 h.f2.f0, .int .u64 h.f2.f1.f0, .int .u64 h.f2.f1.f1, .int .u64 h.f2.f2.f0, .int .u64 h.f2.f2.f1, .int .i64 h.f2.f3, .int .i64 h.f2.f4] (by kernel_rfl) ?_)
    | (refine gate_ (.store 124 (.tmp 7) (.tmp 13)) rfl ?_; refine wpList_store_row rfl 124 _ _ rfl (w.heap.size + 1 + 1 + 1) #[.slice A0 c.f0.length c0, .slice A1 c.f1.length c1, .slice A2 c.f2.length c2, .slice A3 c.f3.length c3, .slice A4 c.f4.length c4, .slice A5 c.f5.length c5, .slice A6 c.f6.length c6, .int .i64 c.f7, .string r.f0, .string r.f1, .string r.f2, .string r.f3, .string r.f4, .int .i64 r.f5, .string r.f6, .bool r.f7, .int .i64 h.f0, .int .i64 h.f1, .int .i64 h.f2.f0, .int .u64 h.f2.f1.f0, .int .u64 h.f2.f1.f1, .int .u64 h.f2.f2.f0, .int .u64 h.f2.f2.f1, .int .i64 h.f2.f3, .int .i64 h.f2.f4] rfl rfl 124 _ (heap_alloc_at _ _ _ (by simp only [World.size_alloc])) (by kernel_rfl) (by kernel_rfl) (by rw [← HQE.out]; exact H1.out) ?_))
  go_frame
  rw [← HQE.out]
  generalize hW0 : World.setRow _ _ _ = W0
  rw [setRow_last (by simp only [World.size_alloc])] at hW0
  have HB0 := Aside0.mk (show Below w.heap.size w W0 by rw [← hW0]; go_grown)
  have hblk : W0.heap[w.heap.size + 1 + 1 + 1]? = some (.cells Q 124 (0, 0)) := by rw [← hW0]; exact heap_alloc_at _ _ _ (by simp only [World.size_alloc])
  clear hW0
  go_wp2_with (refine gate_ (.load 124 (.tmp 7)) rfl ?_; refine wpList_load_row rfl 124 _ rfl (w.heap.size + 1 + 1 + 1) rfl 124 _ (0, 0) _ hblk Try.underlying124 rfl HQ.out ?_)
  obtain ⟨G, hG⟩ : ∃ G, G = W0.heap.size := ⟨_, rfl⟩
  rw [← hG]
  have HB1 := Aside0.mk (show Below w.heap.size w (W0.alloc (.cells #[.func (.func 69) #[.agg Q] #[], .func (.func 70) #[.agg Q] #[], .func (.func 71) #[.agg Q] #[], .func (.func 72) #[.agg Q] #[], .func (.func 73) #[.agg Q] #[]] 125)) from HB0.out.alloc HB0.out.size _)
  have f0 : (W0.alloc (.cells #[.func (.func 69) #[.agg Q] #[], .func (.func 70) #[.agg Q] #[], .func (.func 71) #[.agg Q] #[], .func (.func 72) #[.agg Q] #[], .func (.func 73) #[.agg Q] #[]] 125)).cell? ⟨G, 0, none⟩ = some (.func (.func 69) #[.agg Q] #[]) := by rw [hG]; simp [go_sem]
  have f1 : (W0.alloc (.cells #[.func (.func 69) #[.agg Q] #[], .func (.func 70) #[.agg Q] #[], .func (.func 71) #[.agg Q] #[], .func (.func 72) #[.agg Q] #[], .func (.func 73) #[.agg Q] #[]] 125)).cell? ⟨G, 1, none⟩ = some (.func (.func 70) #[.agg Q] #[]) := by rw [hG]; simp [go_sem]
  have f2 : (W0.alloc (.cells #[.func (.func 69) #[.agg Q] #[], .func (.func 70) #[.agg Q] #[], .func (.func 71) #[.agg Q] #[], .func (.func 72) #[.agg Q] #[], .func (.func 73) #[.agg Q] #[]] 125)).cell? ⟨G, 2, none⟩ = some (.func (.func 71) #[.agg Q] #[]) := by rw [hG]; simp [go_sem]
  have f3 : (W0.alloc (.cells #[.func (.func 69) #[.agg Q] #[], .func (.func 70) #[.agg Q] #[], .func (.func 71) #[.agg Q] #[], .func (.func 72) #[.agg Q] #[], .func (.func 73) #[.agg Q] #[]] 125)).cell? ⟨G, 3, none⟩ = some (.func (.func 72) #[.agg Q] #[]) := by rw [hG]; simp [go_sem]
  have f4 : (W0.alloc (.cells #[.func (.func 69) #[.agg Q] #[], .func (.func 70) #[.agg Q] #[], .func (.func 71) #[.agg Q] #[], .func (.func 72) #[.agg Q] #[], .func (.func 73) #[.agg Q] #[]] 125)).cell? ⟨G, 4, none⟩ = some (.func (.func 73) #[.agg Q] #[]) := by rw [hG]; simp [go_sem]
  generalize W0.alloc _ = W1 at *
  clear hG HB0 hblk HQE H1 HS HQ
  refine wp_loop_rounds 6 ?_
  rw [rounds_succ]
  go_wp2_with fail
  cases v1 : zoneB c h.f0 r.f0 with
  | false =>
    refine (CA.out _ v1 _ HB1.out).mono ?_
    rintro e w6 ⟨rfl, hb⟩
    have H := Aside0.mk (show matchF c r h = false by unfold matchF; simp [v1])
    go_wp2
    go_ret
    exact ⟨by rw [H.out]; rfl, below_then HB1.out HB1.out.size hb⟩
  | true =>
    refine (CA.out _ v1 _ HB1.out).mono ?_
    rintro e w2 ⟨rfl, hb⟩
    have HB2 := Aside0.mk (below_then HB1.out HB1.out.size hb)
    replace f0 := pw_cell_below hb f0
    replace f1 := pw_cell_below hb f1
    replace f2 := pw_cell_below hb f2
    replace f3 := pw_cell_below hb f3
    replace f4 := pw_cell_below hb f4
    clear hb
    go_wp2
    rw [rounds_succ]
    go_wp2_with fail
    cases v2 : zoneB c h.f1 r.f1 with
    | false =>
      refine (CB.out _ v2 _ HB2.out).mono ?_
      rintro e w6 ⟨rfl, hb⟩
      have H := Aside0.mk (show matchF c r h = false by unfold matchF; simp [v2])
      go_wp2
      go_ret
      exact ⟨by rw [H.out]; rfl, below_then HB2.out HB2.out.size hb⟩
    | true =>
      refine (CB.out _ v2 _ HB2.out).mono ?_
      rintro e w3 ⟨rfl, hb⟩
      have HB3 := Aside0.mk (below_then HB2.out HB2.out.size hb)
      replace f0 := pw_cell_below hb f0
      replace f1 := pw_cell_below hb f1
      replace f2 := pw_cell_below hb f2
      replace f3 := pw_cell_below hb f3
      replace f4 := pw_cell_below hb f4
      clear hb
      go_wp2
      rw [rounds_succ]
      go_wp2_with fail
      cases v3 : servesF c r.f4 h.f2 with
      | false =>
        refine (CC.out _ v3 _ HB3.out).mono ?_
        rintro e w6 ⟨rfl, hb⟩
        have H := Aside0.mk (show matchF c r h = false by unfold matchF; simp [v3])
        go_wp2
        go_ret
        exact ⟨by rw [H.out]; rfl, below_then HB3.out HB3.out.size hb⟩
      | true =>
        refine (CC.out _ v3 _ HB3.out).mono ?_
        rintro e w4 ⟨rfl, hb⟩
        have HB4 := Aside0.mk (below_then HB3.out HB3.out.size hb)
        replace f0 := pw_cell_below hb f0
        replace f1 := pw_cell_below hb f1
        replace f2 := pw_cell_below hb f2
        replace f3 := pw_cell_below hb f3
        replace f4 := pw_cell_below hb f4
        clear hb
        go_wp2
        rw [rounds_succ]
        go_wp2_with fail
        cases v4 : withinF c r.f2 h.f2.f1 with
        | false =>
          refine (CD.out _ v4 _ HB4.out).mono ?_
          rintro e w6 ⟨rfl, hb⟩
          have H := Aside0.mk (show matchF c r h = false by unfold matchF; simp [v4])
          go_wp2
          go_ret
          exact ⟨by rw [H.out]; rfl, below_then HB4.out HB4.out.size hb⟩
        | true =>
          refine (CD.out _ v4 _ HB4.out).mono ?_
          rintro e w5 ⟨rfl, hb⟩
          have HB5 := Aside0.mk (below_then HB4.out HB4.out.size hb)
          replace f0 := pw_cell_below hb f0
          replace f1 := pw_cell_below hb f1
          replace f2 := pw_cell_below hb f2
          replace f3 := pw_cell_below hb f3
          replace f4 := pw_cell_below hb f4
          clear hb
          go_wp2
          rw [rounds_succ]
          go_wp2_with fail
          cases v5 : withinF c r.f3 h.f2.f2 with
          | false =>
            refine (CE.out _ v5 _ HB5.out).mono ?_
            rintro e w6 ⟨rfl, hb⟩
            have H := Aside0.mk (show matchF c r h = false by unfold matchF; simp [v5])
            go_wp2
            go_ret
            exact ⟨by rw [H.out]; rfl, below_then HB5.out HB5.out.size hb⟩
          | true =>
            refine (CE.out _ v5 _ HB5.out).mono ?_
            rintro e w6 ⟨rfl, hb⟩
            have H := Aside0.mk (show matchF c r h = true by unfold matchF; simp [v1, v2, v3, v4, v5])
            go_wp2
            rw [rounds_succ]
            go_wp2
            go_ret
            exact ⟨by rw [H.out]; rfl, below_then HB5.out HB5.out.size hb⟩
end Go.Proofs.Ytgppfpfdoooijaa
