/- RulesRoutes, walked: of all routes that have a destination the one with the most bits is taken. -/
import Derived.Test.YtgppfpfdoooijaaRoute
import Derived.Test.YtgppfpfdoooijaaHeavy
namespace Go.Proofs.Ytgppfpfdoooijaa
open Go.RowKit Go.Proofs.YtgppfpfdoooijaaW.PrintWords
set_option linter.unusedVariables false
set_option linter.unusedSimpArgs false
attribute [local go_sem] Later.cell_eq

/-- The ways in which an address lies to a range; what each means. -/
theorem hasR_ways (r : S44) (a : S39) :
    (decide (a.f0 < r.f0.f0) = true ∧ hasR r a = false) ∨ (decide (a.f0 < r.f0.f0) = false ∧ (a.f0 == r.f0.f0) = true ∧ decide (a.f1 < r.f0.f1) = true ∧ hasR r a = false) ∨
    (((decide (a.f0 < r.f0.f0) = false ∧ (a.f0 == r.f0.f0) = false) ∨ (decide (a.f0 < r.f0.f0) = false ∧ (a.f0 == r.f0.f0) = true ∧ decide (a.f1 < r.f0.f1) = false)) ∧
      ((decide (r.f1.f0 < a.f0) = true ∧ hasR r a = false) ∨ (decide (r.f1.f0 < a.f0) = false ∧ (a.f0 == r.f1.f0) = true ∧ decide (r.f1.f1 < a.f1) = true ∧ hasR r a = false) ∨
       (decide (r.f1.f0 < a.f0) = false ∧ (a.f0 == r.f1.f0) = false ∧ hasR r a = true) ∨ (decide (r.f1.f0 < a.f0) = false ∧ (a.f0 == r.f1.f0) = true ∧ decide (r.f1.f1 < a.f1) = false ∧ hasR r a = true))) := by
  obtain ⟨⟨fh, fl⟩, ⟨th, tl⟩⟩ := r
  obtain ⟨ah, al⟩ := a
  have e1 : cmpA ⟨fh, fl⟩ ⟨ah, al⟩ ≤ 0 ↔ (fh < ah ∨ fh = ah ∧ fl ≤ al) := by unfold cmpA; simp only; (repeat' split) <;> omega
  have e2 : cmpA ⟨ah, al⟩ ⟨th, tl⟩ ≤ 0 ↔ (ah < th ∨ ah = th ∧ al ≤ tl) := by unfold cmpA; simp only; (repeat' split) <;> omega
  unfold hasR
  simp only [e1, e2, Bool.and_eq_false_iff, Bool.and_eq_true, decide_eq_false_iff_not, decide_eq_true_eq, beq_eq_false_iff_ne, beq_iff_eq, ne_eq]
  omega

/-- One round of the law's first loop, after the comparison: what the three numbers become. -/
theorem bestS_ways (d : S39) (b : Option S46) (x : S46) : (hasR x.f0 d = false → bestS d b x = b) ∧ (hasR x.f0 d = true →
    (stF b = false ∧ bestS d b x = some x) ∨ (stF b = true ∧ decide (stB b < x.f1) = true ∧ bestS d b x = some x) ∨ (stF b = true ∧ decide (stB b < x.f1) = false ∧ bestS d b x = b)) := by
  refine ⟨best_no, fun h => ?_⟩
  cases hb : stF b with
  | false => exact .inl ⟨rfl, best_first h hb⟩
  | true =>
    rcases Int.lt_or_le (stB b) x.f1 with hl | hl
    · exact .inr (.inl ⟨rfl, by simpa using hl, best_more h hb hl⟩)
    · exact .inr (.inr ⟨rfl, by simp; omega, best_less hb hl⟩)
theorem best_mem {d : S39} {l : List S46} {r : S46} (h : bestR d l = some r) : ∃ m, m < l.length ∧ l[m]? = some r := by
  have key : ∀ (l' : List S46) (b : Option S46), (∀ q, b = some q → q ∈ l) → (∀ q ∈ l', q ∈ l) → ∀ q, l'.foldl (bestS d) b = some q → q ∈ l := by
    intro l'
    induction l' with
    | nil => intro b hb _ q hq; exact hb q hq
    | cons x l' ih =>
      intro b hb hl q hq
      refine ih (bestS d b x) ?_ (fun q hq => hl q (List.mem_cons_of_mem _ hq)) q hq
      intro q hq
      have : bestS d b x = some x ∨ bestS d b x = b := by
        cases hx : hasR x.f0 d with
        | false => exact .inr ((bestS_ways d b x).1 hx)
        | true => rcases (bestS_ways d b x).2 hx with ⟨_, h⟩ | ⟨_, _, h⟩ | ⟨_, _, h⟩ <;> simp [h]
      rcases this with h | h
      · rw [h] at hq
        obtain rfl : x = q := by simpa using hq
        exact hl _ List.mem_cons_self
      · rw [h] at hq
        exact hb q hq
  obtain ⟨m, hm, he⟩ := List.mem_iff_getElem.1 (key l none (fun q h => by cases h) (fun q h => h) r h)
  exact ⟨m, hm, by rw [List.getElem?_eq_getElem hm, he]⟩


set_option maxRecDepth 50000 in
set_option maxHeartbeats 16000000 in
theorem routes_any (c : S36) (cs : List Value) (d : S39) (w : World) (hc : k36.K w c cs) (hf : Fits c) :
    Calls Try.prog 5 #[.agg cs.toArray, .agg #[.int .u64 d.f0, .int .u64 d.f1]] w fun e w' => e = .returned (.bool true) ∧ Below w.heap.size w w' := by
  have HK := Aside0.mk hc
  obtain ⟨A0, c0, A1, c1, A2, c2, A3, c3, A4, c4, A5, c5, A6, c6, rfl, l0, g0, l1, g1, l2, g2, l3, g3, l4, g4, l5, g5, l6, g6⟩ := k36_open hc
  have hmax : c.f4.length ≤ 9223372036854775807 := Kd.C_max g4
  have HG := Aside0.mk g4
  clear hc g0 g1 g2 g3 g4 g5 g6
  have HF := Aside0.mk hf
  clear hf
  go_enter Try.func5, Try.ntmps5
  go_wp2_with fail
  refine (heavy17_any c _ _ (k36.K_below (((Below.refl _ _).alloc (Nat.le_refl _) _).alloc (by simp) _) HK.out) HF.out).mono ?_
  rintro e w1 ⟨b, rfl, hle, hb1⟩
  have HB1 := Aside0.mk (below2 hb1)
  obtain ⟨hc1, hf1⟩ := bcell hb1
  have hs1 : w.heap.size + 1 < w1.heap.size := by have := hb1.size; simp at this; omega
  have hs1' : w.heap.size < w1.heap.size := by omega
  have hblk := hb1.block w.heap.size (by simp; omega)
  have HBLK := Aside0.mk (hblk.trans ((Below.heap_alloc _ _ _ (by simp)).trans (heap_alloc_new w _)))
  clear hle hb1 hblk
  cases b with
  | true =>
    go_wp2
    go_ret
    exact ⟨rfl, HB1.out⟩
  | false =>
    go_wp2_with fail
    refine (route_any c _ d _ (k36.K_below HB1.out HK.out)).mono ?_
    rintro e w2 ⟨rfl, hb2⟩
    have HB2 := Aside0.mk (below_then HB1.out HB1.out.size hb2)
    obtain ⟨hc2, hf2⟩ := bcell hb2
    have hs2 : w.heap.size + 1 < w2.heap.size := by have := hb2.size; omega
    have hs2' : w.heap.size < w2.heap.size := by omega
    have HBLK2 := Aside0.mk ((hb2.block w.heap.size hs1').trans HBLK.out)
    clear hb2
    go_wp2_with fail
    refine (refroute_any c _ d _ (k36.K_below HB2.out HK.out)).mono ?_
    rintro e w3 ⟨rfl, hb3⟩
    have HB3 := Aside0.mk (below_then HB2.out HB2.out.size hb3)
    obtain ⟨hc3, hf3⟩ := bcell hb3
    have hs3 : w.heap.size + 1 < w3.heap.size := by have := hb3.size; omega
    have HBLK3 := Aside0.mk ((hb3.block w.heap.size hs2').trans HBLK2.out)
    have hd0 : w3.cell? ⟨w.heap.size + 1, 0, none⟩ = some (.int .u64 d.f0) := by simp [go_sem, hc1, hc2, hc3, hs1, hs2, hs3]
    have hd1 : w3.cell? ⟨w.heap.size + 1, 1, none⟩ = some (.int .u64 d.f1) := by simp [go_sem, hc1, hc2, hc3, hs1, hs2, hs3]
    have HD0 := Aside0.mk hd0
    have HD1 := Aside0.mk hd1
    have HS3 := Aside0.mk hs3
    have hs3' : w.heap.size < w3.heap.size := by omega
    clear hb3 hc1 hf1 hc2 hf2 hc3 hf3 hd0 hd1 HBLK HBLK2 hs1 hs2 hs1' hs2'
    go_wp2
    go_loopw [9, 10, 11] (fun v9 v10 v11 wr => ∃ (k : Nat) (b : Option S46), k ≤ c.f4.length ∧ v11 = .int .i64 k ∧ v10 = .int .i64 (stB b) ∧ v9 = .bool (stF b) ∧ Aside0 (b = bestR d (c.f4.take k)) ∧ Aside0 (Below w3.heap.size w3 wr)) (fun _ _ v _ => c.f4.length - (intOf v).toNat)
    case atStart => exact ⟨0, none, Nat.zero_le _, rfl, rfl, rfl, ⟨rfl⟩, ⟨Below.refl _ _⟩⟩
    case round =>
      obtain ⟨k, b, hk, rfl, rfl, rfl, HE, HB⟩ := hrel
      have hBw : Below w.heap.size w wr := below_then HB3.out HB3.out.size HB.out
      have HBW := Aside0.mk hBw
      clear hBw
      have hwr : w.heap.size + 1 < wr.heap.size := by have := HB.out.size; have := HS3.out; omega
      have hwr' : w.heap.size < wr.heap.size := by omega
      have hd0 := pw_cell_below HB.out HD0.out
      have hd1 := pw_cell_below HB.out HD1.out
      have hblk := (HB.out.block _ hs3').trans HBLK3.out
      have hc4 : wr.cell? ⟨w.heap.size, 4, none⟩ = some (.slice A4 c.f4.length c4) := by simp [World.cell?, hblk]
      by_cases hlt : k < c.f4.length
      · obtain ⟨ad, rfl, h0, h1, h2, h3, h4, h5⟩ := at_T46 (Kd.C_below HG.out HBW.out) (k : Int) (by omega) (by omega)
        have HX := Aside0.mk (getD_get z46 hlt)
        unfold rd_T46 at h0 h1 h2 h3 h4 h5
        simp only [Int.toNat_natCast] at h0 h1 h2 h3 h4 h5
        generalize c.f4.getD k z46 = x at *
        have HN := Aside0.mk (show bestR d (c.f4.take (k + 1)) = bestS d b x by rw [bestR_succ HX.out, HE.out])
        have HM := Aside0.mk (bestS_ways d b x)
        rcases hasR_ways x.f0 d with ⟨q1, e⟩ | ⟨q1, q2, q3, e⟩ | ⟨⟨q1, q2⟩ | ⟨q1, q2, q3⟩, ⟨q4, e⟩ | ⟨q4, q5, q6, e⟩ | ⟨q4, q5, e⟩ | ⟨q4, q5, q6, e⟩⟩
        · have HN2 := Aside0.mk (HN.out.trans (HM.out.1 e))
          clear e
          go_wp2
          go_roundw
          case rel => exact ⟨k + 1, b, by omega, by go_num, rfl, rfl, ⟨HN2.out.symm⟩, ⟨HB.out.alloc HB.out.size _⟩⟩
          case measure => simp [intOf]; omega
        · have HN2 := Aside0.mk (HN.out.trans (HM.out.1 e))
          clear e
          go_wp2
          go_roundw
          case rel => exact ⟨k + 1, b, by omega, by go_num, rfl, rfl, ⟨HN2.out.symm⟩, ⟨HB.out.alloc HB.out.size _⟩⟩
          case measure => simp [intOf]; omega
        · have HN2 := Aside0.mk (HN.out.trans (HM.out.1 e))
          clear e
          go_wp2
          go_roundw
          case rel => exact ⟨k + 1, b, by omega, by go_num, rfl, rfl, ⟨HN2.out.symm⟩, ⟨HB.out.alloc HB.out.size _⟩⟩
          case measure => simp [intOf]; omega
        · have HN2 := Aside0.mk (HN.out.trans (HM.out.1 e))
          clear e
          go_wp2
          go_roundw
          case rel => exact ⟨k + 1, b, by omega, by go_num, rfl, rfl, ⟨HN2.out.symm⟩, ⟨HB.out.alloc HB.out.size _⟩⟩
          case measure => simp [intOf]; omega
        · rcases HM.out.2 e with ⟨hf, hn⟩ | ⟨hf, hl, hn⟩ | ⟨hf, hl, hn⟩
          · have HN2 := Aside0.mk (HN.out.trans hn)
            clear e hn
            go_wp2
            go_roundw
            case rel => exact ⟨k + 1, some x, by omega, by go_num, rfl, rfl, ⟨HN2.out.symm⟩, ⟨HB.out.alloc HB.out.size _⟩⟩
            case measure => simp [intOf]; omega
          · have HN2 := Aside0.mk (HN.out.trans hn)
            clear e hn
            go_wp2
            go_roundw
            case rel => exact ⟨k + 1, some x, by omega, by go_num, rfl, rfl, ⟨HN2.out.symm⟩, ⟨HB.out.alloc HB.out.size _⟩⟩
            case measure => simp [intOf]; omega
          · have HN2 := Aside0.mk (HN.out.trans hn)
            clear e hn
            go_wp2
            go_roundw
            case rel => exact ⟨k + 1, b, by omega, by go_num, rfl, by rw [hf], ⟨HN2.out.symm⟩, ⟨HB.out.alloc HB.out.size _⟩⟩
            case measure => simp [intOf]; omega
        · rcases HM.out.2 e with ⟨hf, hn⟩ | ⟨hf, hl, hn⟩ | ⟨hf, hl, hn⟩
          · have HN2 := Aside0.mk (HN.out.trans hn)
            clear e hn
            go_wp2
            go_roundw
            case rel => exact ⟨k + 1, some x, by omega, by go_num, rfl, rfl, ⟨HN2.out.symm⟩, ⟨HB.out.alloc HB.out.size _⟩⟩
            case measure => simp [intOf]; omega
          · have HN2 := Aside0.mk (HN.out.trans hn)
            clear e hn
            go_wp2
            go_roundw
            case rel => exact ⟨k + 1, some x, by omega, by go_num, rfl, rfl, ⟨HN2.out.symm⟩, ⟨HB.out.alloc HB.out.size _⟩⟩
            case measure => simp [intOf]; omega
          · have HN2 := Aside0.mk (HN.out.trans hn)
            clear e hn
            go_wp2
            go_roundw
            case rel => exact ⟨k + 1, b, by omega, by go_num, rfl, by rw [hf], ⟨HN2.out.symm⟩, ⟨HB.out.alloc HB.out.size _⟩⟩
            case measure => simp [intOf]; omega
        · have HN2 := Aside0.mk (HN.out.trans (HM.out.1 e))
          clear e
          go_wp2
          go_roundw
          case rel => exact ⟨k + 1, b, by omega, by go_num, rfl, rfl, ⟨HN2.out.symm⟩, ⟨HB.out.alloc HB.out.size _⟩⟩
          case measure => simp [intOf]; omega
        · have HN2 := Aside0.mk (HN.out.trans (HM.out.1 e))
          clear e
          go_wp2
          go_roundw
          case rel => exact ⟨k + 1, b, by omega, by go_num, rfl, rfl, ⟨HN2.out.symm⟩, ⟨HB.out.alloc HB.out.size _⟩⟩
          case measure => simp [intOf]; omega
        · rcases HM.out.2 e with ⟨hf, hn⟩ | ⟨hf, hl, hn⟩ | ⟨hf, hl, hn⟩
          · have HN2 := Aside0.mk (HN.out.trans hn)
            clear e hn
            go_wp2
            go_roundw
            case rel => exact ⟨k + 1, some x, by omega, by go_num, rfl, rfl, ⟨HN2.out.symm⟩, ⟨HB.out.alloc HB.out.size _⟩⟩
            case measure => simp [intOf]; omega
          · have HN2 := Aside0.mk (HN.out.trans hn)
            clear e hn
            go_wp2
            go_roundw
            case rel => exact ⟨k + 1, some x, by omega, by go_num, rfl, rfl, ⟨HN2.out.symm⟩, ⟨HB.out.alloc HB.out.size _⟩⟩
            case measure => simp [intOf]; omega
          · have HN2 := Aside0.mk (HN.out.trans hn)
            clear e hn
            go_wp2
            go_roundw
            case rel => exact ⟨k + 1, b, by omega, by go_num, rfl, by rw [hf], ⟨HN2.out.symm⟩, ⟨HB.out.alloc HB.out.size _⟩⟩
            case measure => simp [intOf]; omega
        · rcases HM.out.2 e with ⟨hf, hn⟩ | ⟨hf, hl, hn⟩ | ⟨hf, hl, hn⟩
          · have HN2 := Aside0.mk (HN.out.trans hn)
            clear e hn
            go_wp2
            go_roundw
            case rel => exact ⟨k + 1, some x, by omega, by go_num, rfl, rfl, ⟨HN2.out.symm⟩, ⟨HB.out.alloc HB.out.size _⟩⟩
            case measure => simp [intOf]; omega
          · have HN2 := Aside0.mk (HN.out.trans hn)
            clear e hn
            go_wp2
            go_roundw
            case rel => exact ⟨k + 1, some x, by omega, by go_num, rfl, rfl, ⟨HN2.out.symm⟩, ⟨HB.out.alloc HB.out.size _⟩⟩
            case measure => simp [intOf]; omega
          · have HN2 := Aside0.mk (HN.out.trans hn)
            clear e hn
            go_wp2
            go_roundw
            case rel => exact ⟨k + 1, b, by omega, by go_num, rfl, by rw [hf], ⟨HN2.out.symm⟩, ⟨HB.out.alloc HB.out.size _⟩⟩
            case measure => simp [intOf]; omega
      · have hkl : k = c.f4.length := by omega
        have HR := Aside0.mk (show b = bestR d c.f4 by rw [HE.out, hkl, bestR_all])
        clear hkl
        cases hb : stF b with
        | false =>
          have e1 : ((routeF c d).fst == -1) = true := by rw [routeF_no HR.out hb]; rfl
          have e2 : ((routeF c d).snd == -1) = true := by rw [routeF_no HR.out hb]; rfl
          go_wp2
          go_ret
          exact ⟨rfl, HBW.out⟩
        | true =>
          obtain ⟨r, rfl⟩ : ∃ r, b = some r := by cases b with | none => simp [stF] at hb | some r => exact ⟨r, rfl⟩
          obtain ⟨m, hm, hr⟩ := best_mem HR.out.symm
          have HF1 := Aside0.mk (show (routeF c d).fst = r.f2 by rw [routeF_yes HR.out hb]; rfl)
          have HF2 := Aside0.mk (show (routeF c d).snd = zoneF c (routeF c d).fst by rw [routeF_yes HR.out hb])
          have HM := Aside0.mk hr
          clear hr
          go_wp2
          obtain ⟨wo, rfl⟩ : ∃ wo : World, wo = wr := ⟨_, rfl⟩
          go_loopw [14] (fun v14 w4 => ∃ (k : Nat), k ≤ m ∧ v14 = .int .i64 k ∧ Aside0 (Below wo.heap.size wo w4)) (fun v _ => c.f4.length - (intOf v).toNat)
          case atStart => exact ⟨0, Nat.zero_le _, rfl, ⟨Below.refl _ _⟩⟩
          case round =>
            obtain ⟨k, hk, rfl, HB4⟩ := hrel
            have hlt : k < c.f4.length := by omega
            have HBW4 := Aside0.mk (below_then HBW.out HBW.out.size HB4.out)
            have hwr4 : w.heap.size < wr.heap.size := by have := HB4.out.size; omega
            have hblk4 := (HB4.out.block _ hwr').trans hblk
            have hc44 : wr.cell? ⟨w.heap.size, 4, none⟩ = some (.slice A4 c.f4.length c4) := by simp [World.cell?, hblk4]
            obtain ⟨ad, rfl, h0, h1, h2, h3, h4, h5⟩ := at_T46 (Kd.C_below HG.out HBW4.out) (k : Int) (by omega) (by omega)
            have HX := Aside0.mk (getD_get z46 hlt)
            unfold rd_T46 at h0 h1 h2 h3 h4 h5
            simp only [Int.toNat_natCast] at h0 h1 h2 h3 h4 h5
            generalize c.f4.getD k z46 = x at *
            have hat : k = m → (x.f1 == stB (some r)) = true ∧ (x.f2 == (routeF c d).fst) = true := by
              intro he
              have hx := HX.out
              rw [he, HM.out] at hx
              injection hx with hx
              subst hx
              exact ⟨by simp [stB], by rw [HF1.out]; simp⟩
            generalize stB (some r) = most at *
            have HZ := fun (cs : List Value) (W : World) (hW : k36.K W c cs) => zone_any c cs (routeF c d).fst W hW
            rw [← HF2.out] at HZ
            have HZA := Aside0.mk HZ
            clear HZ
            generalize (routeF c d).snd = zone at *
            generalize (routeF c d).fst = ifc at *
            cases q1 : x.f1 == most with
            | false =>
              have hkm : k < m := by rcases Nat.lt_or_ge k m with h | h; exact h; have := (hat (by omega)).1; rw [q1] at this; cases this
              clear hat
              go_wp2
              go_roundw
              case rel => exact ⟨k + 1, by omega, by go_num, HB4⟩
              case measure => simp [intOf]; omega
            | true =>
              cases q2 : x.f2 == ifc with
              | false =>
                have hkm : k < m := by rcases Nat.lt_or_ge k m with h | h; exact h; have := (hat (by omega)).2; rw [q2] at this; cases this
                clear hat
                go_wp2
                go_roundw
                case rel => exact ⟨k + 1, by omega, by go_num, HB4⟩
                case measure => simp [intOf]; omega
              | true =>
                clear hat
                go_wp2_with (first | (refine gate_ (.load 36 (.tmp 2)) rfl ?_; refine wpList_load_row rfl 36 _ rfl w.heap.size rfl 36 _ (0, 0) _ hblk4 Try.underlying36 rfl (by kernel_rfl) ?_) | (go_at_call 20; refine (HZA.out _ _ (k36.K_below HBW4.out HK.out)).mono ?_; rintro e w5 ⟨rfl, hb5⟩))
                go_ret
                exact ⟨by simp, below_then HBW4.out HBW4.out.size hb5⟩
end Go.Proofs.Ytgppfpfdoooijaa
