/- Whither a destination is turned: the program's Dest and the document's. -/
import Derived.Test.YtgppfpfdoooijaaServes
import Derived.Handy
namespace Go.Proofs.Ytgppfpfdoooijaa
open Go.RowKit Go.Proofs.YtgppfpfdoooijaaW.PrintWords
set_option linter.unusedVariables false
set_option linter.unusedSimpArgs false
attribute [local go_sem] Later.cell_eq

/-- Are two addresses the same? -/
def eqA (a b : S39) : Bool := a.f0 == b.f0 && a.f1 == b.f1
/-- Does a translation turn this key's destination? -/
def destB (c : S36) (k : S51) (n : S56) : Bool := eqA n.f4 k.f2 && (n.f0 == 3 || (n.f0 == 2 && servesF c n.f3 k))
/-- The port behind it. -/
def portD (k : S51) (n : S56) : Int := if n.f0 == 3 then k.f4 else if n.f6 == 0 || !portedB k.f0 then k.f4 else n.f6
/-- The program's Dest. -/
def destF (c : S36) (k : S51) : S39 × Int × Int := if idxF (destB c k) c.f5 < 0 then (k.f2, k.f4, -1) else ((c.f5.getD (idxF (destB c k) c.f5).toNat z56).f5, portD k (c.f5.getD (idxF (destB c k) c.f5).toNat z56), idxF (destB c k) c.f5)
theorem dest_at {c : S36} {k : S51} {m : Nat} {n : S56} (ho : c.f5[m]? = some n) (hp : destB c k n = true) (hn : ∀ j, j < m → ∀ y, c.f5[j]? = some y → destB c k y = false) : destF c k = (n.f5, portD k n, (m : Int)) := by
  have hk : idxF (destB c k) c.f5 = m := idxF_at ho hp hn
  unfold destF
  rw [hk, if_neg (by omega)]
  simp [ho]
theorem dest_none {c : S36} {k : S51} (hn : ∀ j, j < c.f5.length → ∀ y, c.f5[j]? = some y → destB c k y = false) : destF c k = (k.f2, k.f4, -1) := by
  unfold destF
  rw [idxF_none hn, if_pos (by omega)]
/-- The ways in which a translation turns a key's destination or not. -/
theorem dest_ways (c : S36) (k : S51) (n : S56) :
    ((n.f4.f0 == k.f2.f0) = false ∧ destB c k n = false) ∨ ((n.f4.f0 == k.f2.f0) = true ∧ (n.f4.f1 == k.f2.f1) = false ∧ destB c k n = false) ∨
    ((n.f4.f0 == k.f2.f0) = true ∧ (n.f4.f1 == k.f2.f1) = true ∧
      (((n.f0 == 3) = true ∧ destB c k n = true ∧ portD k n = k.f4) ∨
       ((n.f0 == 3) = false ∧ (n.f0 == 2) = false ∧ destB c k n = false) ∨
       ((n.f0 == 3) = false ∧ (n.f0 == 2) = true ∧ servesF c n.f3 k = false ∧ destB c k n = false) ∨
       ((n.f0 == 3) = false ∧ (n.f0 == 2) = true ∧ servesF c n.f3 k = true ∧ destB c k n = true ∧ (((n.f6 == 0) = true ∧ portD k n = k.f4) ∨ ((n.f6 == 0) = false ∧ portedB k.f0 = false ∧ portD k n = k.f4) ∨ ((n.f6 == 0) = false ∧ portedB k.f0 = true ∧ portD k n = n.f6))))) := by
  unfold destB eqA portD
  cases h1 : n.f4.f0 == k.f2.f0 <;> cases h2 : n.f4.f1 == k.f2.f1 <;> cases h3 : n.f0 == 3 <;> cases h4 : n.f0 == 2 <;> cases h5 : servesF c n.f3 k <;> cases h6 : n.f6 == 0 <;> cases h7 : portedB k.f0 <;> simp

set_option maxHeartbeats 8000000 in
theorem dest_any (c : S36) (cs : List Value) (k : S51) (w : World) (hc : k36.K w c cs) :
    Calls Try.prog 22 #[.agg cs.toArray, .agg #[.int .i64 k.f0, .int .u64 k.f1.f0, .int .u64 k.f1.f1, .int .u64 k.f2.f0, .int .u64 k.f2.f1, .int .i64 k.f3, .int .i64 k.f4]] w fun e w' =>
      e = .returned (.tuple #[.agg #[.int .u64 (destF c k).1.f0, .int .u64 (destF c k).1.f1], .int .i64 (destF c k).2.1, .int .i64 (destF c k).2.2]) ∧ Below w.heap.size w w' := by
  have HK := Aside0.mk hc
  obtain ⟨A0, c0, A1, c1, A2, c2, A3, c3, A4, c4, A5, c5, A6, c6, rfl, l0, g0, l1, g1, l2, g2, l3, g3, l4, g4, l5, g5, l6, g6⟩ := k36_open hc
  have hmax : c.f5.length ≤ 9223372036854775807 := Kd.C_max g5
  have HG := Aside0.mk g5
  clear hc g0 g1 g2 g3 g4 g5 g6
  go_enter Try.func22, Try.ntmps22
  go_wp2
  obtain ⟨W0, hW0⟩ : ∃ W0, W0 = ((w.alloc (.cells #[.slice A0 c.f0.length c0, .slice A1 c.f1.length c1, .slice A2 c.f2.length c2, .slice A3 c.f3.length c3, .slice A4 c.f4.length c4, .slice A5 c.f5.length c5, .slice A6 c.f6.length c6, .int .i64 c.f7] 36)).alloc (.cells #[.int .i64 k.f0, .int .u64 k.f1.f0, .int .u64 k.f1.f1, .int .u64 k.f2.f0, .int .u64 k.f2.f1, .int .i64 k.f3, .int .i64 k.f4] 51)).alloc (.cells #[.int .u64 0, .int .u64 0] 39) := ⟨_, rfl⟩
  have hb0 : Below w.heap.size w W0 := by rw [hW0]; go_grown
  have hsz : W0.heap.size = w.heap.size + 1 + 1 + 1 := by rw [hW0]; simp
  have hblk : W0.heap[w.heap.size]? = some (.cells #[.slice A0 c.f0.length c0, .slice A1 c.f1.length c1, .slice A2 c.f2.length c2, .slice A3 c.f3.length c3, .slice A4 c.f4.length c4, .slice A5 c.f5.length c5, .slice A6 c.f6.length c6, .int .i64 c.f7] 36 (0, 0)) := by rw [hW0]; exact (Below.heap_alloc _ _ _ (by simp; omega)).trans ((Below.heap_alloc _ _ _ (by simp)).trans (heap_alloc_new w _))
  have hk0 : W0.cell? ⟨w.heap.size + 1, 0, none⟩ = some (.int .i64 k.f0) := by rw [hW0]; simp [go_sem]
  have hk1 : W0.cell? ⟨w.heap.size + 1, 1, none⟩ = some (.int .u64 k.f1.f0) := by rw [hW0]; simp [go_sem]
  have hk2 : W0.cell? ⟨w.heap.size + 1, 2, none⟩ = some (.int .u64 k.f1.f1) := by rw [hW0]; simp [go_sem]
  have hk3 : W0.cell? ⟨w.heap.size + 1, 3, none⟩ = some (.int .u64 k.f2.f0) := by rw [hW0]; simp [go_sem]
  have hk4 : W0.cell? ⟨w.heap.size + 1, 4, none⟩ = some (.int .u64 k.f2.f1) := by rw [hW0]; simp [go_sem]
  have hk5 : W0.cell? ⟨w.heap.size + 1, 5, none⟩ = some (.int .i64 k.f3) := by rw [hW0]; simp [go_sem]
  have hk6 : W0.cell? ⟨w.heap.size + 1, 6, none⟩ = some (.int .i64 k.f4) := by rw [hW0]; simp [go_sem]
  have hr0 : W0.cell? ⟨w.heap.size + 1 + 1, 0, none⟩ = some (.int .u64 0) := by rw [hW0]; simp [go_sem]
  have hr1 : W0.cell? ⟨w.heap.size + 1 + 1, 1, none⟩ = some (.int .u64 0) := by rw [hW0]; simp [go_sem]
  have hz0 : W0.frozen? ⟨w.heap.size + 1 + 1, 0, none⟩ = false := by rw [hW0]; simp [go_sem]
  have hz1 : W0.frozen? ⟨w.heap.size + 1 + 1, 1, none⟩ = false := by rw [hW0]; simp [go_sem]
  rw [← hW0]
  clear hW0
  have HB0 := Aside0.mk hb0
  have HS := Aside0.mk hsz
  have HBLK := Aside0.mk hblk
  have HD := Aside0.mk (And.intro hk0 (And.intro hk1 (And.intro hk2 (And.intro hk3 (And.intro hk4 (And.intro hk5 hk6))))))
  have HR := Aside0.mk (And.intro hr0 (And.intro hr1 (And.intro hz0 hz1)))
  clear hb0 hsz hblk hk0 hk1 hk2 hk3 hk4 hk5 hk6 hr0 hr1 hz0 hz1
  go_loopw [13] (fun v wr => ∃ m : Nat, m ≤ c.f5.length ∧ v = .int .i64 m ∧ Aside0 (∀ j, j < m → ∀ y, c.f5[j]? = some y → destB c k y = false) ∧ Aside0 (Below W0.heap.size W0 wr)) (fun v _ => c.f5.length - (intOf v).toNat)
  case atStart => exact ⟨0, Nat.zero_le _, rfl, ⟨fun j hj => by omega⟩, ⟨Below.refl _ _⟩⟩
  case round =>
    obtain ⟨m, hm, rfl, HN, HB⟩ := hrel
    have hsw : w.heap.size + 1 + 1 < wr.heap.size := by have := HB.out.size; have := HS.out; omega
    have hsw1 : w.heap.size + 1 < wr.heap.size := by omega
    have hsw0 : w.heap.size < wr.heap.size := by omega
    have HBW := Aside0.mk (show Below w.heap.size w wr from below_then HB0.out HB0.out.size HB.out)
    have hblk := (HB.out.block w.heap.size (by have := HS.out; omega)).trans HBLK.out
    have hc0 : wr.cell? ⟨w.heap.size, 0, none⟩ = some (.slice A0 c.f0.length c0) := by simp [World.cell?, hblk]
    have hc1 : wr.cell? ⟨w.heap.size, 1, none⟩ = some (.slice A1 c.f1.length c1) := by simp [World.cell?, hblk]
    have hc2 : wr.cell? ⟨w.heap.size, 2, none⟩ = some (.slice A2 c.f2.length c2) := by simp [World.cell?, hblk]
    have hc3 : wr.cell? ⟨w.heap.size, 3, none⟩ = some (.slice A3 c.f3.length c3) := by simp [World.cell?, hblk]
    have hc4 : wr.cell? ⟨w.heap.size, 4, none⟩ = some (.slice A4 c.f4.length c4) := by simp [World.cell?, hblk]
    have hc5 : wr.cell? ⟨w.heap.size, 5, none⟩ = some (.slice A5 c.f5.length c5) := by simp [World.cell?, hblk]
    have hc6 : wr.cell? ⟨w.heap.size, 6, none⟩ = some (.slice A6 c.f6.length c6) := by simp [World.cell?, hblk]
    have hc7 : wr.cell? ⟨w.heap.size, 7, none⟩ = some (.int .i64 c.f7) := by simp [World.cell?, hblk]
    clear hblk
    have hk0 := pw_cell_below HB.out HD.out.1
    have hk1 := pw_cell_below HB.out HD.out.2.1
    have hk2 := pw_cell_below HB.out HD.out.2.2.1
    have hk3 := pw_cell_below HB.out HD.out.2.2.2.1
    have hk4 := pw_cell_below HB.out HD.out.2.2.2.2.1
    have hk5 := pw_cell_below HB.out HD.out.2.2.2.2.2.1
    have hk6 := pw_cell_below HB.out HD.out.2.2.2.2.2.2
    have hr0 := pw_cell_below HB.out HR.out.1
    have hr1 := pw_cell_below HB.out HR.out.2.1
    have hz0 := (HB.out.frozen (p := ⟨w.heap.size + 1 + 1, 0, none⟩) (by have := HS.out; simp; omega)).trans HR.out.2.2.1
    have hz1 := (HB.out.frozen (p := ⟨w.heap.size + 1 + 1, 1, none⟩) (by have := HS.out; simp; omega)).trans HR.out.2.2.2
    by_cases hlt : m < c.f5.length
    · obtain ⟨ad, rfl, q0, q1, q2, q3, q4, q5, q6, q7, q8, q9⟩ := at_T56 (Kd.C_below HG.out HBW.out) (m : Int) (by omega) (by omega)
      have HX := Aside0.mk (getD_get z56 hlt)
      unfold rd_T56 at q0 q1 q2 q3 q4 q5 q6 q7 q8 q9
      simp only [Int.toNat_natCast] at q0 q1 q2 q3 q4 q5 q6 q7 q8 q9
      generalize c.f5.getD m z56 = n at *
      have HSV := Aside0.mk (fun (b : Bool) (hb : b = servesF c n.f3 k) (cs : List Value) (W : World) (hW : k36.K W c cs) => show Calls Try.prog 35 #[.agg cs.toArray, .string n.f3, .agg #[.int .i64 k.f0, .int .u64 k.f1.f0, .int .u64 k.f1.f1, .int .u64 k.f2.f0, .int .u64 k.f2.f1, .int .i64 k.f3, .int .i64 k.f4]] W (fun e w' => e = .returned (.bool b) ∧ Below W.heap.size W w') by rw [hb]; exact serves_any c cs n.f3 k W hW)
      have HPO := Aside0.mk (fun (b : Bool) (hb : b = portedB k.f0) W => show Calls Try.prog 36 #[.int .i64 k.f0] W (fun e w' => e = .returned (.bool b) ∧ W = w') by rw [hb]; exact ported_any _ _)
      rcases dest_ways c k n with ⟨u1, hno⟩ | ⟨u1, u2, hno⟩ | ⟨u1, u2, ⟨u3, hy, hp⟩ | ⟨u3, u4, hno⟩ | ⟨u3, u4, u5, hno⟩ | ⟨u3, u4, u5, hy, ⟨u6, hp⟩ | ⟨u6, u7, hp⟩ | ⟨u6, u7, hp⟩⟩⟩
      · have HNO := Aside0.mk hno
        clear hno
        go_wp2
        go_roundw
        case rel => exact ⟨m + 1, by omega, by go_num, ⟨none_succ HX.out HNO.out HN.out⟩, ⟨HB.out.alloc HB.out.size _⟩⟩
        case measure => simp [intOf]; omega
      · have HNO := Aside0.mk hno
        clear hno
        go_wp2
        go_roundw
        case rel => exact ⟨m + 1, by omega, by go_num, ⟨none_succ HX.out HNO.out HN.out⟩, ⟨HB.out.alloc HB.out.size _⟩⟩
        case measure => simp [intOf]; omega
      · have H := Aside0.mk (dest_at HX.out hy HN.out)
        rw [hp] at H
        clear hy hp
        go_wp2
        go_region
        all_goals go_wp2
        all_goals refine bodyPost_ret (v := .tuple #[.agg #[.int .u64 (n.f5).f0, .int .u64 (n.f5).f1], .int .i64 k.f4, .int .i64 m]) (by simp [results, Try.results22, go_sem, hr0, hr1, hsw]) rfl ?_
        all_goals exact ⟨by rw [H.out], by have HH := HBW.out; go_grown⟩
      · have HNO := Aside0.mk hno
        clear hno
        go_wp2
        go_roundw
        case rel => exact ⟨m + 1, by omega, by go_num, ⟨none_succ HX.out HNO.out HN.out⟩, ⟨HB.out.alloc HB.out.size _⟩⟩
        case measure => simp [intOf]; omega
      · have HSV2 := Aside0.mk (HSV.out _ u5.symm)
        have HNO := Aside0.mk hno
        clear hno u5
        go_wp2_with ((go_at_call 35; refine (HSV2.out _ _ (k36.K_below (HBW.out.alloc HBW.out.size _) HK.out)).mono ?_; rintro e w2 ⟨rfl, hb2⟩; obtain ⟨hcc, hff⟩ := bcell hb2))
        go_roundw
        case rel => exact ⟨m + 1, by omega, by go_num, ⟨none_succ HX.out HNO.out HN.out⟩, ⟨later_alloc HB.out hb2⟩⟩
        case measure => simp [intOf]; omega
      · have HSV2 := Aside0.mk (HSV.out _ u5.symm)
        have H := Aside0.mk (dest_at HX.out hy HN.out)
        rw [hp] at H
        have HPO2 := Aside0.mk (HPO.out _ rfl)
        have u6b : (n.f6 != 0) = !(n.f6 == 0) := rfl
        rw [u6] at u6b
        simp only [Bool.not_true, Bool.not_false] at u6b
        try rw [u7] at HPO2
        try clear u7
        clear hy hp u5
        go_wp2_with fail
        refine (HSV2.out _ _ (k36.K_below (HBW.out.alloc HBW.out.size _) HK.out)).mono ?_
        rintro e w2 ⟨rfl, hb2⟩
        obtain ⟨hcc, hff⟩ := bcell hb2
        have HB2 := Aside0.mk (show Below w.heap.size w w2 from later_alloc HBW.out hb2)
        have hs2 : w.heap.size + 1 + 1 < w2.heap.size := by have := hb2.size; simp at this; omega
        have e0 : w2.cell? ⟨w.heap.size + 1 + 1, 0, none⟩ = some (.int .u64 0) := pw_cell_below hb2 (by simp [go_sem, hr0, hsw])
        have e1 : w2.cell? ⟨w.heap.size + 1 + 1, 1, none⟩ = some (.int .u64 0) := pw_cell_below hb2 (by simp [go_sem, hr1, hsw])
        clear hb2
        go_wp2_with (go_at_call 36; refine (HPO2.out _).mono ?_; rintro e w3 ⟨rfl, rfl⟩)
        refine bodyPost_ret (v := .tuple #[.agg #[.int .u64 n.f5.f0, .int .u64 n.f5.f1], .int .i64 k.f4, .int .i64 m]) (by simp [results, Try.results22, go_sem, e0, e1, hs2]) rfl ?_
        exact ⟨by rw [H.out], by have HH := HB2.out; go_grown⟩
      · have HSV2 := Aside0.mk (HSV.out _ u5.symm)
        have H := Aside0.mk (dest_at HX.out hy HN.out)
        rw [hp] at H
        have HPO2 := Aside0.mk (HPO.out _ rfl)
        have u6b : (n.f6 != 0) = !(n.f6 == 0) := rfl
        rw [u6] at u6b
        simp only [Bool.not_true, Bool.not_false] at u6b
        try rw [u7] at HPO2
        try clear u7
        clear hy hp u5
        go_wp2_with fail
        refine (HSV2.out _ _ (k36.K_below (HBW.out.alloc HBW.out.size _) HK.out)).mono ?_
        rintro e w2 ⟨rfl, hb2⟩
        obtain ⟨hcc, hff⟩ := bcell hb2
        have HB2 := Aside0.mk (show Below w.heap.size w w2 from later_alloc HBW.out hb2)
        have hs2 : w.heap.size + 1 + 1 < w2.heap.size := by have := hb2.size; simp at this; omega
        have e0 : w2.cell? ⟨w.heap.size + 1 + 1, 0, none⟩ = some (.int .u64 0) := pw_cell_below hb2 (by simp [go_sem, hr0, hsw])
        have e1 : w2.cell? ⟨w.heap.size + 1 + 1, 1, none⟩ = some (.int .u64 0) := pw_cell_below hb2 (by simp [go_sem, hr1, hsw])
        clear hb2
        go_wp2_with (go_at_call 36; refine (HPO2.out _).mono ?_; rintro e w3 ⟨rfl, rfl⟩)
        refine bodyPost_ret (v := .tuple #[.agg #[.int .u64 n.f5.f0, .int .u64 n.f5.f1], .int .i64 k.f4, .int .i64 m]) (by simp [results, Try.results22, go_sem, e0, e1, hs2]) rfl ?_
        exact ⟨by rw [H.out], by have HH := HB2.out; go_grown⟩
      · have HSV2 := Aside0.mk (HSV.out _ u5.symm)
        have H := Aside0.mk (dest_at HX.out hy HN.out)
        rw [hp] at H
        have HPO2 := Aside0.mk (HPO.out _ rfl)
        have u6b : (n.f6 != 0) = !(n.f6 == 0) := rfl
        rw [u6] at u6b
        simp only [Bool.not_true, Bool.not_false] at u6b
        try rw [u7] at HPO2
        try clear u7
        clear hy hp u5
        go_wp2_with fail
        refine (HSV2.out _ _ (k36.K_below (HBW.out.alloc HBW.out.size _) HK.out)).mono ?_
        rintro e w2 ⟨rfl, hb2⟩
        obtain ⟨hcc, hff⟩ := bcell hb2
        have HB2 := Aside0.mk (show Below w.heap.size w w2 from later_alloc HBW.out hb2)
        have hs2 : w.heap.size + 1 + 1 < w2.heap.size := by have := hb2.size; simp at this; omega
        have e0 : w2.cell? ⟨w.heap.size + 1 + 1, 0, none⟩ = some (.int .u64 0) := pw_cell_below hb2 (by simp [go_sem, hr0, hsw])
        have e1 : w2.cell? ⟨w.heap.size + 1 + 1, 1, none⟩ = some (.int .u64 0) := pw_cell_below hb2 (by simp [go_sem, hr1, hsw])
        clear hb2
        go_wp2_with (go_at_call 36; refine (HPO2.out _).mono ?_; rintro e w3 ⟨rfl, rfl⟩)
        refine bodyPost_ret (v := .tuple #[.agg #[.int .u64 n.f5.f0, .int .u64 n.f5.f1], .int .i64 n.f6, .int .i64 m]) (by simp [results, Try.results22, go_sem, e0, e1, hs2]) rfl ?_
        exact ⟨by rw [H.out], by have HH := HB2.out; go_grown⟩
    · have H := Aside0.mk (dest_none (c := c) (k := k) (fun j hj => HN.out j (by omega)))
      go_wp2
      go_region
      all_goals go_wp2
      all_goals refine bodyPost_ret (v := .tuple #[.agg #[.int .u64 (k.f2).f0, .int .u64 (k.f2).f1], .int .i64 k.f4, .int .i64 (-1)]) (by simp [results, Try.results22, go_sem, hr0, hr1, hsw]) rfl ?_
      all_goals exact ⟨by rw [H.out], by have HH := HBW.out; go_grown⟩
end Go.Proofs.Ytgppfpfdoooijaa
