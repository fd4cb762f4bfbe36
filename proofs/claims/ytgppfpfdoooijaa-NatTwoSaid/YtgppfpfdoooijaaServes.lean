/- Does a service serve a key: the program's Serves and the document's. -/
import Derived.Test.YtgppfpfdoooijaaWithin
namespace Go.Proofs.Ytgppfpfdoooijaa
open Go.RowKit Go.Proofs.YtgppfpfdoooijaaW.PrintWords
set_option linter.unusedVariables false
set_option linter.unusedSimpArgs false
attribute [local go_sem] Later.cell_eq

/-- Which service has a name. -/
def serF (c : S36) (name : ByteArray) : Int := idxF (fun o : S116 => o.f0.toList == name.toList) c.f2
/-- Does this one serve a key? -/
def serB (s : S116) (k : S51) : Bool := (s.f1 == 0 || s.f1 == k.f0) && (!portedB s.f1 || (decide (s.f2 ≤ k.f4) && decide (k.f4 ≤ s.f3)))
/-- Does a service of this name serve a key? -/
def servesF (c : S36) (name : ByteArray) (k : S51) : Bool := name.toList == [97, 110, 121] || (decide (0 ≤ serF c name) && serB (c.f2.getD (serF c name).toNat z116) k)
theorem serves_all {c : S36} {name : ByteArray} {a : S51} (h : (name.toList == [97, 110, 121]) = true) : servesF c name a = true := by unfold servesF; rw [h]; rfl
theorem serves_no {c : S36} {name : ByteArray} {a : S51} (h : (name.toList == [97, 110, 121]) = false) (hn : decide (0 ≤ serF c name) = false) : servesF c name a = false := by unfold servesF; rw [h, hn]; rfl
theorem serves_yes {c : S36} {name : ByteArray} {a : S51} (h : (name.toList == [97, 110, 121]) = false) (hn : decide (0 ≤ serF c name) = true) : servesF c name a = serB (c.f2.getD (serF c name).toNat z116) a := by unfold servesF; rw [h, hn]; rfl
theorem serves_at {c : S36} {name : ByteArray} {a : S51} {k : Nat} {o : S116} (h : (name.toList == [97, 110, 121]) = false) (ho : c.f2[k]? = some o) (hp : (o.f0.toList == name.toList) = true)
    (hn : ∀ j, j < k → ∀ y, c.f2[j]? = some y → (fun o : S116 => o.f0.toList == name.toList) y = false) : servesF c name a = serB o a := by
  have hk : serF c name = k := idxF_at (p := fun o : S116 => o.f0.toList == name.toList) ho hp hn
  rw [serves_yes h (by rw [hk]; simp), hk]
  simp [ho]
/-- The ways in which a service serves a key or not. -/
theorem ser_ways (s : S116) (k : S51) : ((s.f1 == 0) = true ∨ ((s.f1 == 0) = false ∧ (s.f1 == k.f0) = true)) ∧ ((portedB s.f1 = false ∧ serB s k = true) ∨ (portedB s.f1 = true ∧ decide (s.f2 ≤ k.f4) = false ∧ serB s k = false) ∨ (portedB s.f1 = true ∧ decide (s.f2 ≤ k.f4) = true ∧ serB s k = decide (k.f4 ≤ s.f3)))
    ∨ ((s.f1 == 0) = false ∧ (s.f1 == k.f0) = false ∧ serB s k = false) := by
  unfold serB
  cases h1 : s.f1 == 0 <;> cases h2 : s.f1 == k.f0 <;> cases h3 : portedB s.f1 <;> cases h4 : decide (s.f2 ≤ k.f4) <;> simp

set_option maxHeartbeats 4000000 in
theorem serves_any (c : S36) (cs : List Value) (name : ByteArray) (k : S51) (w : World) (hc : k36.K w c cs) :
    Calls Try.prog 35 #[.agg cs.toArray, .string name, .agg #[.int .i64 k.f0, .int .u64 k.f1.f0, .int .u64 k.f1.f1, .int .u64 k.f2.f0, .int .u64 k.f2.f1, .int .i64 k.f3, .int .i64 k.f4]] w fun e w' => e = .returned (.bool (servesF c name k)) ∧ Below w.heap.size w w' := by
  obtain ⟨A0, c0, A1, c1, A2, c2, A3, c3, A4, c4, A5, c5, A6, c6, rfl, l0, g0, l1, g1, l2, g2, _⟩ := k36_open hc
  have hmax : c.f2.length ≤ 9223372036854775807 := Kd.C_max g2
  have HG := Aside0.mk g2
  clear hc g0 g1 g2
  cases hany : name.toList == [97, 110, 121] with
  | true =>
    have H := Aside0.mk (serves_all (c := c) (a := k) hany)
    go_enter Try.func35, Try.ntmps35
    go_wp2
    go_ret
    exact ⟨by rw [H.out]; rfl, (((Below.refl _ _).alloc (Nat.le_refl _) _).alloc (by simp) _).alloc (by simp; omega) _⟩
  | false =>
    have HANY := Aside0.mk hany
    go_enter Try.func35, Try.ntmps35
    go_wp2_with fail
    refine (idx116 c.f2 A2 c2 64 _ (fun o => o.f0.toList == name.toList) _ enters64 (Kd.C_alloc (Kd.C_alloc (Kd.C_alloc HG.out _) _) _) (fun x cs W hb hk => serves1_any x cs name _ W hk (pw_cell_below hb (by simp [go_sem])))).mono ?_
    rintro e w1 ⟨rfl, hb⟩
    have HB1 := Aside0.mk (show Below w.heap.size w w1 from ((((Below.refl _ _).alloc (Nat.le_refl _) _).alloc (by simp) _).alloc (by simp; omega) _).trans (hb.mono (by simp; omega)))
    have hq0 : w1.cell? ⟨w.heap.size, 2, none⟩ = some (.slice A2 c.f2.length c2) := pw_cell_below hb (by simp [go_sem])
    have hq1 : w1.cell? ⟨w.heap.size + 1 + 1, 0, none⟩ = some (.int .i64 k.f0) := pw_cell_below hb (by simp [go_sem])
    have hq2 : w1.cell? ⟨w.heap.size + 1 + 1, 6, none⟩ = some (.int .i64 k.f4) := pw_cell_below hb (by simp [go_sem])
    have hs1 : w.heap.size < w1.heap.size := World.block_lt_of_cell? w1 _ hq0
    have hs2 : w.heap.size + 1 + 1 < w1.heap.size := World.block_lt_of_cell? w1 _ hq1
    clear hb
    have hr := idxF_range (fun o : S116 => o.f0.toList == name.toList) c.f2
    have HI := Aside0.mk (show idxF (fun o : S116 => o.f0.toList == name.toList) c.f2 = serF c name from rfl)
    rw [HI.out] at hr ⊢
    by_cases hi : 0 ≤ serF c name
    · have H := Aside0.mk (serves_yes (c := c) (a := k) hany (by simpa using hi))
      generalize serF c name = n at *
      obtain ⟨ad, rfl, q0, q1, q2, q3⟩ := at_T116 (Kd.C_below HG.out HB1.out) n hi hr.2
      unfold rd_T116 at q0 q1 q2 q3
      generalize c.f2.getD n.toNat z116 = s at *
      have hd : decide (n < 0) = false := by simp; omega
      clear hany
      have HPA := Aside0.mk (fun (b : Bool) (hb : b = portedB s.f1) W => show Calls Try.prog 36 #[.int .i64 s.f1] W (fun e w' => e = .returned (.bool b) ∧ W = w') by rw [hb]; first | exact ported_any _ _ | exact refported_any _ _)
      have HPB := Aside0.mk (HPA.out _ rfl)
      clear HPA
      have HPA := HPB
      clear HPB
      rcases ser_ways s k with ⟨u1 | ⟨u1, u2⟩, ⟨u3, u4⟩ | ⟨u3, u4, u5⟩ | ⟨u3, u4, u5⟩⟩ | ⟨u1, u2, u3⟩
      · rw [u3] at HPA
        have HE := Aside0.mk u4
        clear u3 u4
        go_wp2_with (go_at_call 36; refine (HPA.out _).mono ?_; rintro e w2 ⟨rfl, rfl⟩)
        go_ret
        exact ⟨by rw [H.out, HE.out]; rfl, HB1.out.alloc HB1.out.size _⟩
      · rw [u3] at HPA
        have HE := Aside0.mk u5
        clear u3 u5
        go_wp2_with (go_at_call 36; refine (HPA.out _).mono ?_; rintro e w2 ⟨rfl, rfl⟩)
        go_ret
        exact ⟨by rw [H.out, HE.out]; rfl, HB1.out.alloc HB1.out.size _⟩
      · rw [u3] at HPA
        have HE := Aside0.mk u5
        clear u3 u5
        go_wp2_with (go_at_call 36; refine (HPA.out _).mono ?_; rintro e w2 ⟨rfl, rfl⟩)
        go_ret
        exact ⟨by rw [H.out, HE.out]; rfl, HB1.out.alloc HB1.out.size _⟩
      · rw [u3] at HPA
        have HE := Aside0.mk u4
        clear u3 u4
        go_wp2_with (go_at_call 36; refine (HPA.out _).mono ?_; rintro e w2 ⟨rfl, rfl⟩)
        go_ret
        exact ⟨by rw [H.out, HE.out]; rfl, HB1.out.alloc HB1.out.size _⟩
      · rw [u3] at HPA
        have HE := Aside0.mk u5
        clear u3 u5
        go_wp2_with (go_at_call 36; refine (HPA.out _).mono ?_; rintro e w2 ⟨rfl, rfl⟩)
        go_ret
        exact ⟨by rw [H.out, HE.out]; rfl, HB1.out.alloc HB1.out.size _⟩
      · rw [u3] at HPA
        have HE := Aside0.mk u5
        clear u3 u5
        go_wp2_with (go_at_call 36; refine (HPA.out _).mono ?_; rintro e w2 ⟨rfl, rfl⟩)
        go_ret
        exact ⟨by rw [H.out, HE.out]; rfl, HB1.out.alloc HB1.out.size _⟩
      · have HE := Aside0.mk u3
        clear u3 HPA
        go_wp2
        go_ret
        exact ⟨by rw [H.out, HE.out]; rfl, HB1.out.alloc HB1.out.size _⟩
    · have hd : decide (0 ≤ serF c name) = false := by simpa using hi
      have H := Aside0.mk (serves_no (c := c) (a := k) hany hd)
      generalize serF c name = n at *
      have hd : decide (n < 0) = true := by simp; omega
      go_wp2
      go_ret
      exact ⟨by rw [H.out]; rfl, HB1.out⟩

set_option maxHeartbeats 4000000 in
theorem refserves_any (c : S36) (cs : List Value) (name : ByteArray) (k : S51) (w : World) (hc : k36.K w c cs) :
    Calls Try.prog 76 #[.agg cs.toArray, .string name, .agg #[.int .i64 k.f0, .int .u64 k.f1.f0, .int .u64 k.f1.f1, .int .u64 k.f2.f0, .int .u64 k.f2.f1, .int .i64 k.f3, .int .i64 k.f4]] w fun e w' => e = .returned (.bool (servesF c name k)) ∧ Below w.heap.size w w' := by
  obtain ⟨A0, c0, A1, c1, A2, c2, A3, c3, A4, c4, A5, c5, A6, c6, rfl, l0, g0, l1, g1, l2, g2, _⟩ := k36_open hc
  have hmax : c.f2.length ≤ 9223372036854775807 := Kd.C_max g2
  have HG := Aside0.mk g2
  clear hc g0 g1 g2
  cases hany : name.toList == [97, 110, 121] with
  | true =>
    have H := Aside0.mk (serves_all (c := c) (a := k) hany)
    go_enter Try.func76, Try.ntmps76
    go_wp2
    go_ret
    exact ⟨by rw [H.out]; rfl, ((Below.refl _ _).alloc (Nat.le_refl _) _).alloc (by simp) _⟩
  | false =>
    have HANY := Aside0.mk hany
    go_enter Try.func76, Try.ntmps76
    go_wp2
    obtain ⟨W0, hW0⟩ : ∃ W0, W0 = (w.alloc (.cells #[.slice A0 c.f0.length c0, .slice A1 c.f1.length c1, .slice A2 c.f2.length c2, .slice A3 c.f3.length c3, .slice A4 c.f4.length c4, .slice A5 c.f5.length c5, .slice A6 c.f6.length c6, .int .i64 c.f7] 36)).alloc (.cells #[.int .i64 k.f0, .int .u64 k.f1.f0, .int .u64 k.f1.f1, .int .u64 k.f2.f0, .int .u64 k.f2.f1, .int .i64 k.f3, .int .i64 k.f4] 51) := ⟨_, rfl⟩
    have hb0 : Below w.heap.size w W0 := by rw [hW0]; exact ((Below.refl _ _).alloc (Nat.le_refl _) _).alloc (by simp) _
    have hsz : W0.heap.size = w.heap.size + 1 + 1 := by rw [hW0]; simp
    have hf1 : W0.cell? ⟨w.heap.size, 2, none⟩ = some (.slice A2 c.f2.length c2) := by rw [hW0]; simp [go_sem]
    have hd0 : W0.cell? ⟨w.heap.size + 1, 0, none⟩ = some (.int .i64 k.f0) := by rw [hW0]; simp [go_sem]
    have hd1 : W0.cell? ⟨w.heap.size + 1, 6, none⟩ = some (.int .i64 k.f4) := by rw [hW0]; simp [go_sem]
    rw [← hW0]
    clear hW0
    have HB0 := Aside0.mk hb0
    have HS := Aside0.mk hsz
    have HF := Aside0.mk hf1
    have HD := Aside0.mk (And.intro hd0 hd1)
    clear hb0 hsz hf1 hd0 hd1 hany
    go_loopw [7] (fun v7 wr => ∃ k : Nat, k ≤ c.f2.length ∧ v7 = .int .i64 k ∧ Aside0 (∀ j, j < k → ∀ y, c.f2[j]? = some y → (fun o : S116 => o.f0.toList == name.toList) y = false) ∧ Aside0 (Below W0.heap.size W0 wr)) (fun v _ => c.f2.length - (intOf v).toNat)
    case atStart => exact ⟨0, Nat.zero_le _, rfl, ⟨fun j hj => by omega⟩, ⟨Below.refl _ _⟩⟩
    case round =>
      obtain ⟨m, hk, rfl, HN, HB⟩ := hrel
      have HBW := Aside0.mk (show Below w.heap.size w wr from below_then HB0.out HB0.out.size HB.out)
      have hf := pw_cell_below HB.out HF.out
      have hd0 := pw_cell_below HB.out HD.out.1
      have hd1 := pw_cell_below HB.out HD.out.2
      have hwr : w.heap.size < wr.heap.size := by have := HB.out.size; have := HS.out; omega
      have hwr1 : w.heap.size + 1 < wr.heap.size := by have := HB.out.size; have := HS.out; omega
      by_cases hlt : m < c.f2.length
      · obtain ⟨ad, rfl, q0, q1, q2, q3⟩ := at_T116 (Kd.C_below HG.out HBW.out) (m : Int) (by omega) (by omega)
        have HX := Aside0.mk (getD_get z116 hlt)
        unfold rd_T116 at q0 q1 q2 q3
        simp only [Int.toNat_natCast] at q0 q1 q2 q3
        generalize c.f2.getD m z116 = s at *
        cases hnm : s.f0.toList == name.toList with
        | false =>
          have HNM := Aside0.mk hnm
          go_wp2
          go_roundw
          case rel => exact ⟨m + 1, by omega, by go_num, ⟨none_succ HX.out HNM.out HN.out⟩, ⟨HB.out.alloc HB.out.size _⟩⟩
          case measure => simp [intOf]; omega
        | true =>
          have H := Aside0.mk (serves_at (a := k) HANY.out HX.out hnm HN.out)
          have HPA := Aside0.mk (fun (b : Bool) (hb : b = portedB s.f1) W => show Calls Try.prog 79 #[.int .i64 s.f1] W (fun e w' => e = .returned (.bool b) ∧ W = w') by rw [hb]; first | exact ported_any _ _ | exact refported_any _ _)
          have HPB := Aside0.mk (HPA.out _ rfl)
          clear HPA
          have HPA := HPB
          clear HPB
          rcases ser_ways s k with ⟨u1 | ⟨u1, u2⟩, ⟨u3, u4⟩ | ⟨u3, u4, u5⟩ | ⟨u3, u4, u5⟩⟩ | ⟨u1, u2, u3⟩
          · rw [u3] at HPA
            have HE := Aside0.mk u4
            clear u3 u4
            go_wp2_with (go_at_call 79; refine (HPA.out _).mono ?_; rintro e w2 ⟨rfl, rfl⟩)
            go_ret
            exact ⟨by rw [H.out, HE.out]; rfl, HBW.out.alloc HBW.out.size _⟩
          · rw [u3] at HPA
            have HE := Aside0.mk u5
            clear u3 u5
            go_wp2_with (go_at_call 79; refine (HPA.out _).mono ?_; rintro e w2 ⟨rfl, rfl⟩)
            go_ret
            exact ⟨by rw [H.out, HE.out]; rfl, HBW.out.alloc HBW.out.size _⟩
          · rw [u3] at HPA
            have HE := Aside0.mk u5
            clear u3 u5
            go_wp2_with (go_at_call 79; refine (HPA.out _).mono ?_; rintro e w2 ⟨rfl, rfl⟩)
            go_ret
            exact ⟨by rw [H.out, HE.out]; rfl, HBW.out.alloc HBW.out.size _⟩
          · rw [u3] at HPA
            have HE := Aside0.mk u4
            clear u3 u4
            go_wp2_with (go_at_call 79; refine (HPA.out _).mono ?_; rintro e w2 ⟨rfl, rfl⟩)
            go_ret
            exact ⟨by rw [H.out, HE.out]; rfl, HBW.out.alloc HBW.out.size _⟩
          · rw [u3] at HPA
            have HE := Aside0.mk u5
            clear u3 u5
            go_wp2_with (go_at_call 79; refine (HPA.out _).mono ?_; rintro e w2 ⟨rfl, rfl⟩)
            go_ret
            exact ⟨by rw [H.out, HE.out]; rfl, HBW.out.alloc HBW.out.size _⟩
          · rw [u3] at HPA
            have HE := Aside0.mk u5
            clear u3 u5
            go_wp2_with (go_at_call 79; refine (HPA.out _).mono ?_; rintro e w2 ⟨rfl, rfl⟩)
            go_ret
            exact ⟨by rw [H.out, HE.out]; rfl, HBW.out.alloc HBW.out.size _⟩
          · have HE := Aside0.mk u3
            clear u3 HPA
            go_wp2
            go_ret
            exact ⟨by rw [H.out, HE.out]; rfl, HBW.out.alloc HBW.out.size _⟩
      · have H := Aside0.mk (serves_no (c := c) (a := k) HANY.out (show decide (0 ≤ serF c name) = false by unfold serF; rw [idxF_none (fun j hj => HN.out j (by omega))]; rfl))
        go_wp2
        go_ret
        exact ⟨by rw [H.out]; rfl, HBW.out⟩
end Go.Proofs.Ytgppfpfdoooijaa
