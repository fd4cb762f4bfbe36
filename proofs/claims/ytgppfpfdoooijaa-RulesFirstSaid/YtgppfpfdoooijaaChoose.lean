/- What is chosen for a header: the program's Choose and the document's. -/
import Derived.Test.YtgppfpfdoooijaaRefMatch
namespace Go.Proofs.Ytgppfpfdoooijaa
open Go.RowKit Go.Proofs.YtgppfpfdoooijaaW.PrintWords
set_option linter.unusedVariables false
set_option linter.unusedSimpArgs false
attribute [local go_sem] Later.cell_eq

/-- Which limit has a name; none of no name. -/
def limF (c : S36) (name : ByteArray) : Int := if name.toList = [] then -1 else idxF (fun o : S102 => o.f0.toList == name.toList) c.f3
/-- What a rule chooses; below nought: what is chosen without one. -/
def ofF (c : S36) (i : Int) : S64 := if i < 0 then ⟨c.f7, -1, -1, false⟩ else ⟨(c.f6.getD i.toNat z68).f5, i, limF c (c.f6.getD i.toNat z68).f6, (c.f6.getD i.toNat z68).f7⟩
/-- The first rule that matches. -/
def ruleF (c : S36) (h : S62) : Int := idxF (fun r => matchF c r h) c.f6
def chooseF (c : S36) (h : S62) : S64 := ofF c (ruleF c h)

theorem enters43 : EntersAt 43 := enters_at Try.func43 (by kernel_rfl) rfl
theorem enters46 : EntersAt 46 := enters_at Try.func46 (by kernel_rfl) rfl
set_option maxHeartbeats 2000000 in
theorem choose1_any (c : S36) (cs : List Value) (r : S68) (rs : List Value) (h : S62) (B : Nat) (w : World) (hz : k68.K w r rs) (hc : k36.K w c cs) (hb : w.heap[B]? = some (.cells cs.toArray 36 (0, 0)))
    (hh : w.heap[B + 1]? = some (.cells #[.int .i64 h.f0, .int .i64 h.f1, .int .i64 h.f2.f0, .int .u64 h.f2.f1.f0, .int .u64 h.f2.f1.f1, .int .u64 h.f2.f2.f0, .int .u64 h.f2.f2.f1, .int .i64 h.f2.f3, .int .i64 h.f2.f4] 62 (0, 0))) :
    Calls Try.prog 43 #[.agg rs.toArray, .pointer (some ⟨B, 0, none⟩), .pointer (some ⟨B + 1, 0, none⟩)] w fun e w' => e = .returned (.bool (matchF c r h)) ∧ Below w.heap.size w w' := by
  obtain rfl := k68_open hz
  have HK := Aside0.mk hc
  obtain ⟨A0, c0, A1, c1, A2, c2, A3, c3, A4, c4, A5, c5, A6, c6, rfl, l0, g0, l1, g1, l2, g2, l3, g3, l4, g4, l5, g5, l6, g6⟩ := k36_open hc
  clear hz hc g0 g1 g2 g3 g4 g5 g6
  have hl1 : B + 1 < w.heap.size := (Array.getElem?_eq_some_iff.1 hh).1
  have hl0 : B < w.heap.size := by omega
  have HM := Aside0.mk (fun W (hW : Below w.heap.size w W) => match_any c _ r h W (k36.K_below hW HK.out))
  have hc0 : w.cell? ⟨B, 0, none⟩ = some (.slice A0 c.f0.length c0) := by simp [World.cell?, hb]
  have hc1 : w.cell? ⟨B, 1, none⟩ = some (.slice A1 c.f1.length c1) := by simp [World.cell?, hb]
  have hc2 : w.cell? ⟨B, 2, none⟩ = some (.slice A2 c.f2.length c2) := by simp [World.cell?, hb]
  have hc3 : w.cell? ⟨B, 3, none⟩ = some (.slice A3 c.f3.length c3) := by simp [World.cell?, hb]
  have hc4 : w.cell? ⟨B, 4, none⟩ = some (.slice A4 c.f4.length c4) := by simp [World.cell?, hb]
  have hc5 : w.cell? ⟨B, 5, none⟩ = some (.slice A5 c.f5.length c5) := by simp [World.cell?, hb]
  have hc6 : w.cell? ⟨B, 6, none⟩ = some (.slice A6 c.f6.length c6) := by simp [World.cell?, hb]
  have hc7 : w.cell? ⟨B, 7, none⟩ = some (.int .i64 c.f7) := by simp [World.cell?, hb]
  have h0 : w.cell? ⟨B + 1, 0, none⟩ = some (.int .i64 h.f0) := by simp [World.cell?, hh]
  have h1 : w.cell? ⟨B + 1, 1, none⟩ = some (.int .i64 h.f1) := by simp [World.cell?, hh]
  have h2 : w.cell? ⟨B + 1, 2, none⟩ = some (.int .i64 h.f2.f0) := by simp [World.cell?, hh]
  have h3 : w.cell? ⟨B + 1, 3, none⟩ = some (.int .u64 h.f2.f1.f0) := by simp [World.cell?, hh]
  have h4 : w.cell? ⟨B + 1, 4, none⟩ = some (.int .u64 h.f2.f1.f1) := by simp [World.cell?, hh]
  have h5 : w.cell? ⟨B + 1, 5, none⟩ = some (.int .u64 h.f2.f2.f0) := by simp [World.cell?, hh]
  have h6 : w.cell? ⟨B + 1, 6, none⟩ = some (.int .u64 h.f2.f2.f1) := by simp [World.cell?, hh]
  have h7 : w.cell? ⟨B + 1, 7, none⟩ = some (.int .i64 h.f2.f3) := by simp [World.cell?, hh]
  have h8 : w.cell? ⟨B + 1, 8, none⟩ = some (.int .i64 h.f2.f4) := by simp [World.cell?, hh]
  clear hb hh
  go_enter Try.func43, Try.ntmps43
  go_wp2_with (go_at_call 44; refine (HM.out _ ((Below.refl _ _).alloc (Nat.le_refl _) _)).mono ?_; rintro e w1 ⟨rfl, hb1⟩)
  go_ret
  exact ⟨rfl, later_alloc (Below.refl _ _) hb1⟩
set_option maxHeartbeats 2000000 in
theorem choose2_any (l : S102) (ls : List Value) (name : ByteArray) (B : Nat) (w : World) (hz : k102.K w l ls) (hb : w.cell? ⟨B, 6, none⟩ = some (.string name)) :
    Calls Try.prog 46 #[.agg ls.toArray, .pointer (some ⟨B, 0, none⟩)] w fun e w' => e = .returned (.bool (l.f0.toList == name.toList)) ∧ Below w.heap.size w w' := by
  obtain rfl := k102_open hz
  have hlt : B < w.heap.size := World.block_lt_of_cell? w _ hb
  clear hz
  go_enter Try.func46, Try.ntmps46
  go_wp2
  go_ret
  exact ⟨rfl, (Below.refl _ _).alloc (Nat.le_refl _) _⟩

theorem choose_none {c : S36} {h : S62} {n : Int} (hn : n = ruleF c h) (h0 : n < 0) : chooseF c h = ⟨c.f7, -1, -1, false⟩ := by unfold chooseF ofF; rw [← hn, if_pos h0]
theorem choose_some {c : S36} {h : S62} {n : Int} (hn : n = ruleF c h) (h0 : ¬ n < 0) : chooseF c h = ⟨(c.f6.getD n.toNat z68).f5, n, limF c (c.f6.getD n.toNat z68).f6, (c.f6.getD n.toNat z68).f7⟩ := by unfold chooseF ofF; rw [← hn, if_neg h0]
set_option maxHeartbeats 8000000 in
theorem choose_any (c : S36) (cs : List Value) (h : S62) (w : World) (hc : k36.K w c cs) :
    Calls Try.prog 24 #[.agg cs.toArray, .agg #[.int .i64 h.f0, .int .i64 h.f1, .int .i64 h.f2.f0, .int .u64 h.f2.f1.f0, .int .u64 h.f2.f1.f1, .int .u64 h.f2.f2.f0, .int .u64 h.f2.f2.f1, .int .i64 h.f2.f3, .int .i64 h.f2.f4]] w fun e w' =>
      e = .returned (.agg #[.int .i64 (chooseF c h).f0, .int .i64 (chooseF c h).f1, .int .i64 (chooseF c h).f2, .bool (chooseF c h).f3]) ∧ Below w.heap.size w w' := by
  have HK := Aside0.mk hc
  obtain ⟨A0, c0, A1, c1, A2, c2, A3, c3, A4, c4, A5, c5, A6, c6, rfl, l0, g0, l1, g1, l2, g2, l3, g3, l4, g4, l5, g5, l6, g6⟩ := k36_open hc
  have HG3 := Aside0.mk g3
  have HG6 := Aside0.mk g6
  clear hc g0 g1 g2 g3 g4 g5 g6
  have HB0 := Aside0.mk (show Below w.heap.size w (((w.alloc (.cells #[.slice A0 c.f0.length c0, .slice A1 c.f1.length c1, .slice A2 c.f2.length c2, .slice A3 c.f3.length c3, .slice A4 c.f4.length c4, .slice A5 c.f5.length c5, .slice A6 c.f6.length c6, .int .i64 c.f7] 36)).alloc (.cells #[.int .i64 h.f0, .int .i64 h.f1, .int .i64 h.f2.f0, .int .u64 h.f2.f1.f0, .int .u64 h.f2.f1.f1, .int .u64 h.f2.f2.f0, .int .u64 h.f2.f2.f1, .int .i64 h.f2.f3, .int .i64 h.f2.f4] 62)).alloc (.cells #[.int .i64 0, .int .i64 0, .int .i64 0, .bool false] 64)) by go_grown)
  go_enter Try.func24, Try.ntmps24
  go_wp2_with fail
  refine (idx68 c.f6 A6 c6 43 _ _ (fun r => matchF c r h) _ enters43 (Kd.C_below HG6.out HB0.out) (fun x xs W hb hx => choose1_any c _ x xs h w.heap.size W hx (k36.K_below hb (k36.K_below HB0.out HK.out)) ((hb.block _ (by first | (simp; done) | (simp; omega))).trans ((Below.heap_alloc _ _ _ (by first | (simp; done) | (simp; omega))).trans ((Below.heap_alloc _ _ _ (by simp)).trans (heap_alloc_new w _)))) ((hb.block _ (by first | (simp; done) | (simp; omega))).trans ((Below.heap_alloc _ _ _ (by simp)).trans (heap_alloc_at _ _ _ (by simp)))))).mono ?_
  rintro e w1 ⟨rfl, hb⟩
  have HB1 := Aside0.mk (HB0.out.trans (hb.mono (by simp; omega)))
  have c3' : w1.cell? ⟨w.heap.size, 3, none⟩ = some (.slice A3 c.f3.length c3) := pw_cell_below hb (by simp [go_sem])
  have c6' : w1.cell? ⟨w.heap.size, 6, none⟩ = some (.slice A6 c.f6.length c6) := pw_cell_below hb (by simp [go_sem])
  have c7' : w1.cell? ⟨w.heap.size, 7, none⟩ = some (.int .i64 c.f7) := pw_cell_below hb (by simp [go_sem])
  have e0 : w1.cell? ⟨w.heap.size + 1 + 1, 0, none⟩ = some (.int .i64 0) := pw_cell_below hb (by simp [go_sem])
  have e1 : w1.cell? ⟨w.heap.size + 1 + 1, 1, none⟩ = some (.int .i64 0) := pw_cell_below hb (by simp [go_sem])
  have e2 : w1.cell? ⟨w.heap.size + 1 + 1, 2, none⟩ = some (.int .i64 0) := pw_cell_below hb (by simp [go_sem])
  have e3 : w1.cell? ⟨w.heap.size + 1 + 1, 3, none⟩ = some (.bool false) := pw_cell_below hb (by simp [go_sem])
  have z0 : ∀ o, w1.frozen? ⟨w.heap.size + 1 + 1, o, none⟩ = false := fun o => (hb.frozen (p := ⟨w.heap.size + 1 + 1, o, none⟩) (by first | (simp; done) | (simp; omega))).trans (by simp [go_sem])
  have hs2 : w.heap.size + 1 + 1 < w1.heap.size := World.block_lt_of_cell? w1 _ e0
  have hs0 : w.heap.size < w1.heap.size := by omega
  clear hb HB0 HK
  have hr := idxF_range (fun r => matchF c r h) c.f6
  have HN := Aside0.mk (show idxF (fun r => matchF c r h) c.f6 = ruleF c h from rfl)
  generalize idxF (fun r => matchF c r h) c.f6 = n at *
  by_cases hn : n < 0
  · have H := Aside0.mk (choose_none HN.out hn)
    have hd : decide (n < 0) = true := by simpa using hn
    clear hr
    go_wp2
    refine bodyPost_ret (v := .agg #[.int .i64 c.f7, .int .i64 (-1), .int .i64 (-1), .bool false]) (by simp [results, Try.results24, go_sem, e0, e1, e2, e3, hs2]) rfl ?_
    exact ⟨by rw [H.out], by have HH := HB1.out; go_grown⟩
  · have H := Aside0.mk (choose_some HN.out hn)
    have hd : decide (n < 0) = false := by simpa using hn
    obtain ⟨ad, rfl, q0, q1, q2, q3, q4, q5, q6, q7⟩ := at_T68 (Kd.C_below HG6.out HB1.out) n (by omega) hr.2
    unfold rd_T68 at q0 q1 q2 q3 q4 q5 q6 q7
    generalize c.f6.getD n.toNat z68 = r at *
    by_cases hnm : r.f6.toList = []
    · have HL := Aside0.mk (show limF c r.f6 = -1 from if_pos hnm)
      have hd2 : (r.f6.toList == []) = true := by simpa using hnm
      have hd3 : (r.f6.toList != []) = false := by rw [bne, hd2]; rfl
      clear hnm
      go_wp2
      refine bodyPost_ret (v := .agg #[.int .i64 r.f5, .int .i64 n, .int .i64 (-1), .bool r.f7]) (by simp [results, Try.results24, go_sem, e0, e1, e2, e3, hs2]) rfl ?_
      exact ⟨by rw [H.out, HL.out], by have HH := HB1.out; go_grown⟩
    · have HL := Aside0.mk (show limF c r.f6 = idxF (fun o : S102 => o.f0.toList == r.f6.toList) c.f3 from if_neg hnm)
      have hd2 : (r.f6.toList == []) = false := by simpa using hnm
      have hd3 : (r.f6.toList != []) = true := by rw [bne, hd2]; rfl
      clear hnm
      go_wp2_with fail
      refine (idx102 c.f3 A3 c3 46 _ (fun o => o.f0.toList == r.f6.toList) _ enters46 (Kd.C_below HG3.out (HB1.out.alloc HB1.out.size _)) (fun x xs W hb hx => choose2_any x xs r.f6 _ W hx (pw_cell_below hb (by simp [go_sem])))).mono ?_
      rintro e w2 ⟨rfl, hb⟩
      have HB2 := Aside0.mk (later_alloc HB1.out hb)
      have y0 : w2.cell? ⟨w.heap.size + 1 + 1, 0, none⟩ = some (.int .i64 0) := pw_cell_below hb (by simp [go_sem, e0, hs2])
      have y1 : w2.cell? ⟨w.heap.size + 1 + 1, 1, none⟩ = some (.int .i64 0) := pw_cell_below hb (by simp [go_sem, e1, hs2])
      have y2 : w2.cell? ⟨w.heap.size + 1 + 1, 2, none⟩ = some (.int .i64 0) := pw_cell_below hb (by simp [go_sem, e2, hs2])
      have y3 : w2.cell? ⟨w.heap.size + 1 + 1, 3, none⟩ = some (.bool false) := pw_cell_below hb (by simp [go_sem, e3, hs2])
      have x5 : w2.cell? ⟨w1.heap.size, 5, none⟩ = some (.int .i64 r.f5) := pw_cell_below hb (by simp [go_sem])
      have x7 : w2.cell? ⟨w1.heap.size, 7, none⟩ = some (.bool r.f7) := pw_cell_below hb (by simp [go_sem])
      have zz : ∀ o, w2.frozen? ⟨w.heap.size + 1 + 1, o, none⟩ = false := fun o => (hb.frozen (p := ⟨w.heap.size + 1 + 1, o, none⟩) (by simp; omega)).trans (by simp [go_sem, z0, hs2])
      have hs3 : w.heap.size + 1 + 1 < w2.heap.size := World.block_lt_of_cell? w2 _ y0
      have hs4 : w1.heap.size < w2.heap.size := World.block_lt_of_cell? w2 _ x5
      clear hb e0 e1 e2 e3 z0
      rw [← HL.out]
      go_wp2
      refine bodyPost_ret (v := .agg #[.int .i64 r.f5, .int .i64 n, .int .i64 (limF c r.f6), .bool r.f7]) (by simp [results, Try.results24, go_sem, y0, y1, y2, y3, hs3]) rfl ?_
      exact ⟨by rw [H.out], by have HH := HB2.out; go_grown⟩
end Go.Proofs.Ytgppfpfdoooijaa
