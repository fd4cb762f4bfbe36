/- What a rule chooses: the document's Of; its Choose. -/
import Derived.Test.YtgppfpfdoooijaaChoose
namespace Go.Proofs.Ytgppfpfdoooijaa
open Go.RowKit Go.Proofs.YtgppfpfdoooijaaW.PrintWords
set_option linter.unusedVariables false
set_option linter.unusedSimpArgs false
attribute [local go_sem] Later.cell_eq

/-- What the document's loop knows behind k limits. -/
def LimAt (p : S102 → Bool) (l : List S102) (k : Nat) (v : Int) : Prop := (v = -1 ∧ ∀ j, j < k → ∀ y, l[j]? = some y → p y = false) ∨ (0 ≤ v ∧ v = idxF p l)
theorem LimAt.end_ {p : S102 → Bool} {l : List S102} {k : Nat} {v : Int} (h : LimAt p l k v) (hk : k = l.length) : v = idxF p l := by
  rcases h with ⟨rfl, h⟩ | ⟨_, h⟩
  · rw [idxF_none (fun j hj => h j (by omega))]
  · exact h
theorem LimAt.ways {p : S102 → Bool} {l : List S102} {k : Nat} {v : Int} {x : S102} (h : LimAt p l k v) (hx : l[k]? = some x) :
    (p x = false ∧ LimAt p l (k + 1) v) ∨ (p x = true ∧ decide (v < 0) = true ∧ LimAt p l (k + 1) k) ∨ (p x = true ∧ decide (v < 0) = false ∧ LimAt p l (k + 1) v) := by
  cases hp : p x with
  | false =>
    refine .inl ⟨rfl, ?_⟩
    rcases h with ⟨rfl, h⟩ | ⟨h0, h⟩
    · exact .inl ⟨rfl, none_succ hx hp h⟩
    · exact .inr ⟨h0, h⟩
  | true =>
    rcases h with ⟨rfl, h⟩ | ⟨h0, h⟩
    · exact .inr (.inl ⟨rfl, by decide, .inr ⟨by omega, (idxF_at hx hp h).symm⟩⟩)
    · exact .inr (.inr ⟨rfl, by simp; omega, .inr ⟨h0, h⟩⟩)
theorem of_none {c : S36} {i : Int} (h : i < 0) : ofF c i = ⟨c.f7, -1, -1, false⟩ := by unfold ofF; rw [if_pos h]
theorem of_some {c : S36} {i : Int} (h : ¬ i < 0) : ofF c i = ⟨(c.f6.getD i.toNat z68).f5, i, limF c (c.f6.getD i.toNat z68).f6, (c.f6.getD i.toNat z68).f7⟩ := by unfold ofF; rw [if_neg h]
set_option maxHeartbeats 8000000 in
theorem of_any (c : S36) (cs : List Value) (i : Int) (w : World) (hc : k36.K w c cs) (hi : i < c.f6.length) :
    Calls Try.prog 48 #[.agg cs.toArray, .int .i64 i] w fun e w' => e = .returned (.agg #[.int .i64 (ofF c i).f0, .int .i64 (ofF c i).f1, .int .i64 (ofF c i).f2, .bool (ofF c i).f3]) ∧ Below w.heap.size w w' := by
  obtain ⟨A0, c0, A1, c1, A2, c2, A3, c3, A4, c4, A5, c5, A6, c6, rfl, l0, g0, l1, g1, l2, g2, l3, g3, l4, g4, l5, g5, l6, g6⟩ := k36_open hc
  have hmax : c.f3.length ≤ 9223372036854775807 := Kd.C_max g3
  have HG3 := Aside0.mk g3
  have HG6 := Aside0.mk g6
  clear hc g0 g1 g2 g3 g4 g5 g6
  by_cases hn : i < 0
  · have H := Aside0.mk (of_none (c := c) hn)
    have hd : decide (i < 0) = true := by simpa using hn
    clear hn
    go_enter Try.func48, Try.ntmps48
    go_wp2
    refine bodyPost_ret (v := .agg #[.int .i64 c.f7, .int .i64 (-1), .int .i64 (-1), .bool false]) (by simp [results, Try.results48, go_sem]) rfl ?_
    exact ⟨by rw [H.out], by go_grown⟩
  · have H := Aside0.mk (of_some (c := c) hn)
    have hd : decide (i < 0) = false := by simpa using hn
    have HB2 := Aside0.mk (show Below w.heap.size w ((w.alloc (.cells #[.slice A0 c.f0.length c0, .slice A1 c.f1.length c1, .slice A2 c.f2.length c2, .slice A3 c.f3.length c3, .slice A4 c.f4.length c4, .slice A5 c.f5.length c5, .slice A6 c.f6.length c6, .int .i64 c.f7] 36)).alloc (.cells #[.int .i64 0, .int .i64 0, .int .i64 0, .bool false] 64)) by go_grown)
    obtain ⟨ad, rfl, q0, q1, q2, q3, q4, q5, q6, q7⟩ := at_T68 (Kd.C_below HG6.out HB2.out) i (by omega) hi
    unfold rd_T68 at q0 q1 q2 q3 q4 q5 q6 q7
    generalize c.f6.getD i.toNat z68 = r at *
    go_enter Try.func48, Try.ntmps48
    go_wp2
    obtain ⟨W0, hW0⟩ : ∃ W0, W0 = (((w.alloc (.cells #[.slice A0 c.f0.length c0, .slice A1 c.f1.length c1, .slice A2 c.f2.length c2, .slice A3 c.f3.length c3, .slice A4 c.f4.length c4, .slice A5 c.f5.length c5, .slice (some ad) c.f6.length c6, .int .i64 c.f7] 36)).alloc (.cells #[.int .i64 0, .int .i64 0, .int .i64 0, .bool false] 64)).alloc (.cells #[.string r.f0, .string r.f1, .string r.f2, .string r.f3, .string r.f4, .int .i64 r.f5, .string r.f6, .bool r.f7] 68)).alloc (.cells #[.int .i64 r.f5, .int .i64 i, .int .i64 (-1), .bool r.f7] 64) := ⟨_, rfl⟩
    rw [← hW0]
    have HB0 := Aside0.mk (show Below w.heap.size w W0 by rw [hW0]; go_grown)
    have b3 : W0.heap[w.heap.size + 1 + 1 + 1]? = some (.cells #[.int .i64 r.f5, .int .i64 i, .int .i64 (-1), .bool r.f7] 64 (0, 0)) := by rw [hW0]; exact heap_alloc_at _ _ _ (by simp only [World.size_alloc])
    have b1 : W0.heap[w.heap.size + 1]? = some (.cells #[.int .i64 0, .int .i64 0, .int .i64 0, .bool false] 64 (0, 0)) := by rw [hW0]; repeat (first | exact heap_alloc_at _ _ _ (by simp only [World.size_alloc]) | refine (Below.heap_alloc _ _ _ (by simp only [World.size_alloc]; omega)).trans ?_)
    have cl : W0.cell? ⟨w.heap.size, 3, none⟩ = some (.slice A3 c.f3.length c3) := by rw [hW0]; simp [go_sem]
    have cn : W0.cell? ⟨w.heap.size + 1 + 1, 6, none⟩ = some (.string r.f6) := by rw [hW0]; simp [go_sem]
    have B1 := Aside0.mk b1
    have B3 := Aside0.mk b3
    have CL := Aside0.mk (And.intro cl cn)
    clear hW0 b1 b3 cl cn
    have PACK : ∀ (wr : World) (lv : Int), Below (w.heap.size + 1 + 1 + 1) W0 wr → wr.heap[w.heap.size + 1 + 1 + 1]? = some (.cells #[.int .i64 r.f5, .int .i64 i, .int .i64 lv, .bool r.f7] 64 (0, 0)) →
        wr.cell? ⟨w.heap.size, 3, none⟩ = some (.slice A3 c.f3.length c3) ∧ wr.cell? ⟨w.heap.size + 1 + 1, 6, none⟩ = some (.string r.f6) ∧ wr.heap[w.heap.size + 1]? = some (.cells #[.int .i64 0, .int .i64 0, .int .i64 0, .bool false] 64 (0, 0)) ∧ w.heap.size + 1 + 1 + 1 < wr.heap.size ∧ Below w.heap.size w wr := by
      intro wr lv hb hk
      refine ⟨(hb.cell (p := ⟨w.heap.size, 3, none⟩) (by simp; omega)).trans CL.out.1, (hb.cell (p := ⟨w.heap.size + 1 + 1, 6, none⟩) (by simp)).trans CL.out.2, (hb.block _ (by omega)).trans B1.out, (Array.getElem?_eq_some_iff.1 hk).1, HB0.out.trans (hb.mono (by omega))⟩
    have PK := Aside0.mk PACK
    clear PACK q0 q1 q2 q3 q4 q5 q6 q7 HG6 B1 CL
    by_cases hnm : r.f6.toList = []
    · have HE := Aside0.mk (show limF c r.f6 = -1 from if_pos hnm)
      have hd2 : (r.f6.toList == []) = true := by simpa using hnm
      have hd3 : (r.f6.toList != []) = false := by rw [bne, hd2]; rfl
      obtain ⟨cl, cn, b1, hsz, hbw⟩ := PK.out W0 (-1) (Below.refl _ _) B3.out
      have HBW := Aside0.mk hbw
      have B1 := Aside0.mk b1
      have HV := B3
      clear hbw b1 hnm
      have hs0 : w.heap.size < W0.heap.size := by omega
      have hs2 : w.heap.size + 1 + 1 < W0.heap.size := by omega
      refine wp_loop_rounds 1 ?_
      rw [rounds_succ]
      by_cases hlen : 0 < c.f3.length
      · have hl2 : decide ((0 : Int) < c.f3.length) = true := by simpa using hlen
        have y0 : W0.cell? ⟨w.heap.size + 1 + 1 + 1, 0, none⟩ = some (.int .i64 r.f5) := by simp [World.cell?, HV.out]
        have y1 : W0.cell? ⟨w.heap.size + 1 + 1 + 1, 1, none⟩ = some (.int .i64 i) := by simp [World.cell?, HV.out]
        have y2 : W0.cell? ⟨w.heap.size + 1 + 1 + 1, 2, none⟩ = some (.int .i64 (-1)) := by simp [World.cell?, HV.out]
        have y3 : W0.cell? ⟨w.heap.size + 1 + 1 + 1, 3, none⟩ = some (.bool r.f7) := by simp [World.cell?, HV.out]
        have e0 : W0.cell? ⟨w.heap.size + 1, 0, none⟩ = some (.int .i64 0) := by simp [World.cell?, B1.out]
        have e1 : W0.cell? ⟨w.heap.size + 1, 1, none⟩ = some (.int .i64 0) := by simp [World.cell?, B1.out]
        have e2 : W0.cell? ⟨w.heap.size + 1, 2, none⟩ = some (.int .i64 0) := by simp [World.cell?, B1.out]
        have e3 : W0.cell? ⟨w.heap.size + 1, 3, none⟩ = some (.bool false) := by simp [World.cell?, B1.out]
        have z0 : ∀ o, W0.frozen? ⟨w.heap.size + 1, o, none⟩ = false := fun o => by simp [World.frozen?, B1.out]
        have hs1 : w.heap.size + 1 < W0.heap.size := by omega
        go_wp2
        refine bodyPost_ret (v := .agg #[.int .i64 r.f5, .int .i64 i, .int .i64 (-1), .bool r.f7]) (by simp [results, Try.results48, go_sem, e0, e1, e2, e3, hs1]) rfl ?_
        exact ⟨by rw [H.out, HE.out], by have HH := HBW.out; go_grown⟩
      · have hl2 : decide ((0 : Int) < c.f3.length) = false := by simpa using hlen
        have y0 : W0.cell? ⟨w.heap.size + 1 + 1 + 1, 0, none⟩ = some (.int .i64 r.f5) := by simp [World.cell?, HV.out]
        have y1 : W0.cell? ⟨w.heap.size + 1 + 1 + 1, 1, none⟩ = some (.int .i64 i) := by simp [World.cell?, HV.out]
        have y2 : W0.cell? ⟨w.heap.size + 1 + 1 + 1, 2, none⟩ = some (.int .i64 (-1)) := by simp [World.cell?, HV.out]
        have y3 : W0.cell? ⟨w.heap.size + 1 + 1 + 1, 3, none⟩ = some (.bool r.f7) := by simp [World.cell?, HV.out]
        have e0 : W0.cell? ⟨w.heap.size + 1, 0, none⟩ = some (.int .i64 0) := by simp [World.cell?, B1.out]
        have e1 : W0.cell? ⟨w.heap.size + 1, 1, none⟩ = some (.int .i64 0) := by simp [World.cell?, B1.out]
        have e2 : W0.cell? ⟨w.heap.size + 1, 2, none⟩ = some (.int .i64 0) := by simp [World.cell?, B1.out]
        have e3 : W0.cell? ⟨w.heap.size + 1, 3, none⟩ = some (.bool false) := by simp [World.cell?, B1.out]
        have z0 : ∀ o, W0.frozen? ⟨w.heap.size + 1, o, none⟩ = false := fun o => by simp [World.frozen?, B1.out]
        have hs1 : w.heap.size + 1 < W0.heap.size := by omega
        go_wp2
        refine bodyPost_ret (v := .agg #[.int .i64 r.f5, .int .i64 i, .int .i64 (-1), .bool r.f7]) (by simp [results, Try.results48, go_sem, e0, e1, e2, e3, hs1]) rfl ?_
        exact ⟨by rw [H.out, HE.out], by have HH := HBW.out; go_grown⟩
    · have HL := Aside0.mk (show limF c r.f6 = idxF (fun o : S102 => o.f0.toList == r.f6.toList) c.f3 from if_neg hnm)
      have hd2 : (r.f6.toList == []) = false := by simpa using hnm
      have hd3 : (r.f6.toList != []) = true := by rw [bne, hd2]; rfl
      clear hnm
      go_loopw [7] (fun v wr => ∃ (k : Nat) (lv : Int), k ≤ c.f3.length ∧ v = .int .i64 k ∧ Aside0 (LimAt (fun o : S102 => o.f0.toList == r.f6.toList) c.f3 k lv) ∧ Aside0 (wr.heap[w.heap.size + 1 + 1 + 1]? = some (.cells #[.int .i64 r.f5, .int .i64 i, .int .i64 lv, .bool r.f7] 64 (0, 0))) ∧ Aside0 (Below (w.heap.size + 1 + 1 + 1) W0 wr)) (fun v _ => c.f3.length - (intOf v).toNat)
      case atStart => exact ⟨0, -1, Nat.zero_le _, rfl, ⟨.inl ⟨rfl, fun j hj => by omega⟩⟩, ⟨B3.out⟩, ⟨Below.refl _ _⟩⟩
      case round =>
        obtain ⟨k, lv, hk, rfl, HA, HV, HB⟩ := hrel
        obtain ⟨cl, cn, b1, hsz, hbw⟩ := PK.out wr lv HB.out HV.out
        have HBW := Aside0.mk hbw
        have B1 := Aside0.mk b1
        clear hbw b1
        have v2 : wr.cell? ⟨w.heap.size + 1 + 1 + 1, 2, none⟩ = some (.int .i64 lv) := by simp [World.cell?, HV.out]
        have hs0 : w.heap.size < wr.heap.size := by omega
        have hs2 : w.heap.size + 1 + 1 < wr.heap.size := by omega
        by_cases hlt : k < c.f3.length
        · obtain ⟨al, rfl, x0, x1, x2, x3⟩ := at_T102 (Kd.C_below HG3.out HBW.out) (k : Int) (by omega) (by omega)
          have HX := Aside0.mk (getD_get z102 hlt)
          unfold rd_T102 at x0 x1 x2 x3
          simp only [Int.toNat_natCast] at x0 x1 x2 x3
          generalize c.f3.getD k z102 = x at *
          rcases HA.out.ways HX.out with ⟨u1, hn⟩ | ⟨u1, u2, hn⟩ | ⟨u1, u2, hn⟩
          · have HN := Aside0.mk hn
            clear hn x1 x2 x3
            go_wp2
            go_quiet (fail)
            go_wp2
            go_roundw
            case rel => exact ⟨k + 1, lv, by omega, by go_num, ⟨HN.out⟩, ⟨HV.out⟩, ⟨pw_below_drewN HB.out _⟩⟩
            case measure => simp [intOf]; omega
          · have HN := Aside0.mk hn
            clear hn x1 x2 x3
            have z2 : wr.frozen? ⟨w.heap.size + 1 + 1 + 1, 2, none⟩ = false := by simp [World.frozen?, HV.out]
            go_wp2
            go_quiet (fail)
            go_wp2
            go_roundw
            case rel => exact ⟨k + 1, k, by omega, by go_num, ⟨HN.out⟩, ⟨(heap_setCell_same _ _ _ _ _ _ HV.out).trans rfl⟩, ⟨(pw_below_drewN HB.out _).setCell (by simp) _⟩⟩
            case measure => simp [intOf]; omega
          · have HN := Aside0.mk hn
            clear hn x1 x2 x3
            go_wp2
            go_quiet (fail)
            go_wp2
            go_roundw
            case rel => exact ⟨k + 1, lv, by omega, by go_num, ⟨HN.out⟩, ⟨HV.out⟩, ⟨pw_below_drewN HB.out _⟩⟩
            case measure => simp [intOf]; omega
        · have HE := Aside0.mk (HL.out.trans (HA.out.end_ (by omega)).symm)
          have y0 : wr.cell? ⟨w.heap.size + 1 + 1 + 1, 0, none⟩ = some (.int .i64 r.f5) := by simp [World.cell?, HV.out]
          have y1 : wr.cell? ⟨w.heap.size + 1 + 1 + 1, 1, none⟩ = some (.int .i64 i) := by simp [World.cell?, HV.out]
          have y2 : wr.cell? ⟨w.heap.size + 1 + 1 + 1, 2, none⟩ = some (.int .i64 lv) := by simp [World.cell?, HV.out]
          have y3 : wr.cell? ⟨w.heap.size + 1 + 1 + 1, 3, none⟩ = some (.bool r.f7) := by simp [World.cell?, HV.out]
          have e0 : wr.cell? ⟨w.heap.size + 1, 0, none⟩ = some (.int .i64 0) := by simp [World.cell?, B1.out]
          have e1 : wr.cell? ⟨w.heap.size + 1, 1, none⟩ = some (.int .i64 0) := by simp [World.cell?, B1.out]
          have e2 : wr.cell? ⟨w.heap.size + 1, 2, none⟩ = some (.int .i64 0) := by simp [World.cell?, B1.out]
          have e3 : wr.cell? ⟨w.heap.size + 1, 3, none⟩ = some (.bool false) := by simp [World.cell?, B1.out]
          have z0 : ∀ o, wr.frozen? ⟨w.heap.size + 1, o, none⟩ = false := fun o => by simp [World.frozen?, B1.out]
          have hs1 : w.heap.size + 1 < wr.heap.size := by omega
          go_wp2
          refine bodyPost_ret (v := .agg #[.int .i64 r.f5, .int .i64 i, .int .i64 lv, .bool r.f7]) (by simp [results, Try.results48, go_sem, e0, e1, e2, e3, hs1]) rfl ?_
          exact ⟨by rw [H.out, HE.out], by have HH := HBW.out; go_grown⟩
end Go.Proofs.Ytgppfpfdoooijaa
