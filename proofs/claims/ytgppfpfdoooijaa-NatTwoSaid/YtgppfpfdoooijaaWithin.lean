/- Does an object have an address: the program's Within and the document's. -/
import Derived.Test.YtgppfpfdoooijaaAsks
namespace Go.Proofs.Ytgppfpfdoooijaa
open Go.RowKit Go.Proofs.YtgppfpfdoooijaaW.PrintWords
set_option linter.unusedVariables false
set_option linter.unusedSimpArgs false
attribute [local go_sem] Later.cell_eq

/-- Which object has a name. -/
def objF (c : S36) (name : ByteArray) : Int := idxF (fun o : S85 => o.f0.toList == name.toList) c.f1
/-- Does an object of this name have an address? -/
def withinF (c : S36) (name : ByteArray) (a : S39) : Bool := name.toList == [97, 110, 121] || (decide (0 ≤ objF c name) && (c.f1.getD (objF c name).toNat z85).f1.any (fun r => hasR r a))
theorem within_all {c : S36} {name : ByteArray} {a : S39} (h : (name.toList == [97, 110, 121]) = true) : withinF c name a = true := by unfold withinF; rw [h]; rfl
theorem within_no {c : S36} {name : ByteArray} {a : S39} (h : (name.toList == [97, 110, 121]) = false) (hn : decide (0 ≤ objF c name) = false) : withinF c name a = false := by unfold withinF; rw [h, hn]; rfl
theorem within_yes {c : S36} {name : ByteArray} {a : S39} (h : (name.toList == [97, 110, 121]) = false) (hn : decide (0 ≤ objF c name) = true) : withinF c name a = (c.f1.getD (objF c name).toNat z85).f1.any (fun r => hasR r a) := by unfold withinF; rw [h, hn]; rfl

set_option maxHeartbeats 2000000 in
theorem within_any (c : S36) (cs : List Value) (name : ByteArray) (a : S39) (w : World) (hc : k36.K w c cs) :
    Calls Try.prog 40 #[.agg cs.toArray, .string name, .agg #[.int .u64 a.f0, .int .u64 a.f1]] w fun e w' => e = .returned (.bool (withinF c name a)) ∧ Below w.heap.size w w' := by
  obtain ⟨A0, c0, A1, c1, A2, c2, A3, c3, A4, c4, A5, c5, A6, c6, rfl, l0, g0, l1, g1, _⟩ := k36_open hc
  have hmax : c.f1.length ≤ 9223372036854775807 := Kd.C_max g1
  have HG := Aside0.mk g1
  clear hc g0 g1
  cases hany : name.toList == [97, 110, 121] with
  | true =>
    have H := Aside0.mk (within_all (c := c) (a := a) hany)
    go_enter Try.func40, Try.ntmps40
    go_wp2
    go_ret
    exact ⟨by rw [H.out]; rfl, (((Below.refl _ _).alloc (Nat.le_refl _) _).alloc (by simp) _).alloc (by simp; omega) _⟩
  | false =>
    have HANY := Aside0.mk hany
    go_enter Try.func40, Try.ntmps40
    go_wp2_with fail
    refine (idx85 c.f1 A1 c1 66 _ (fun o => o.f0.toList == name.toList) _ enters66 (Kd.C_alloc (Kd.C_alloc (Kd.C_alloc HG.out _) _) _) (fun x cs W hb hk => within1_any x cs name _ W hk (pw_cell_below hb (by simp [go_sem])))).mono ?_
    rintro e w1 ⟨rfl, hb⟩
    have HB1 := Aside0.mk (show Below w.heap.size w w1 from ((((Below.refl _ _).alloc (Nat.le_refl _) _).alloc (by simp) _).alloc (by simp; omega) _).trans (hb.mono (by simp; omega)))
    have hq0 : w1.cell? ⟨w.heap.size, 1, none⟩ = some (.slice A1 c.f1.length c1) := pw_cell_below hb (by simp [go_sem])
    have hq1 : w1.cell? ⟨w.heap.size + 1 + 1, 0, none⟩ = some (.int .u64 a.f0) := pw_cell_below hb (by simp [go_sem])
    have hq2 : w1.cell? ⟨w.heap.size + 1 + 1, 1, none⟩ = some (.int .u64 a.f1) := pw_cell_below hb (by simp [go_sem])
    clear hb
    have hr := idxF_range (fun o : S85 => o.f0.toList == name.toList) c.f1
    have HI := Aside0.mk (show idxF (fun o : S85 => o.f0.toList == name.toList) c.f1 = objF c name from rfl)
    rw [HI.out] at hr ⊢
    by_cases hi : 0 ≤ objF c name
    · have H := Aside0.mk (within_yes (c := c) (a := a) hany (by simpa using hi))
      generalize objF c name = n at *
      obtain ⟨ad, B1, d1, rfl, _, q1, hl, hin⟩ := at_T85 (Kd.C_below HG.out HB1.out) n hi hr.2
      unfold rd_T85 at q1 hl hin
      have HQ := Aside0.mk (And.intro hq1 hq2)
      generalize (c.f1.getD n.toNat z85).f1 = rs at *
      have HIN := Aside0.mk hin
      clear hin hany
      have hd : decide (0 ≤ n) = true := by simpa using hi
      go_wp2_with fail
      refine (containsR_any rs B1 d1 68 _ (fun r => hasR r a) _ enters68 HIN.out (fun x cs W hb hk => within2_any x cs a _ W hk (pw_cell_below hb HQ.out.1) (pw_cell_below hb HQ.out.2))).mono ?_
      rintro e w2 ⟨rfl, hb2⟩
      go_wp2
      go_ret
      exact ⟨by rw [H.out]; rfl, below_then HB1.out HB1.out.size hb2⟩
    · have hd : decide (0 ≤ objF c name) = false := by simpa using hi
      have H := Aside0.mk (within_no (c := c) (a := a) hany hd)
      generalize objF c name = n at *
      clear hi
      go_wp2
      go_ret
      exact ⟨by rw [H.out]; rfl, HB1.out⟩

theorem any_at {α : Type} {p : α → Bool} {l : List α} {k : Nat} {x : α} (hx : l[k]? = some x) (hp : p x = true) : l.any p = true := List.any_eq_true.2 ⟨x, List.mem_of_getElem? hx, hp⟩
theorem any_none {α : Type} {p : α → Bool} {l : List α} (h : ∀ j, j < l.length → ∀ y, l[j]? = some y → p y = false) : l.any p = false := by
  rw [List.any_eq_false]
  intro y hy
  obtain ⟨j, hj, rfl⟩ := List.mem_iff_getElem.1 hy
  simp [h j hj _ (List.getElem?_eq_getElem hj)]
theorem within_at {c : S36} {name : ByteArray} {a : S39} {k : Nat} {o : S85} (h : (name.toList == [97, 110, 121]) = false) (ho : c.f1[k]? = some o) (hp : (o.f0.toList == name.toList) = true)
    (hn : ∀ j, j < k → ∀ y, c.f1[j]? = some y → (fun o : S85 => o.f0.toList == name.toList) y = false) : withinF c name a = o.f1.any (fun r => hasR r a) := by
  have hk : objF c name = k := idxF_at (p := fun o : S85 => o.f0.toList == name.toList) ho hp hn
  rw [within_yes h (by rw [hk]; simp), hk]
  simp [ho]

set_option maxHeartbeats 4000000 in
theorem refwithin_any (c : S36) (cs : List Value) (name : ByteArray) (a : S39) (w : World) (hc : k36.K w c cs) :
    Calls Try.prog 75 #[.agg cs.toArray, .string name, .agg #[.int .u64 a.f0, .int .u64 a.f1]] w fun e w' => e = .returned (.bool (withinF c name a)) ∧ Below w.heap.size w w' := by
  obtain ⟨A0, c0, A1, c1, A2, c2, A3, c3, A4, c4, A5, c5, A6, c6, rfl, l0, g0, l1, g1, _⟩ := k36_open hc
  have hmax : c.f1.length ≤ 9223372036854775807 := Kd.C_max g1
  have HG := Aside0.mk g1
  clear hc g0 g1
  cases hany : name.toList == [97, 110, 121] with
  | true =>
    have H := Aside0.mk (within_all (c := c) (a := a) hany)
    go_enter Try.func75, Try.ntmps75
    go_wp2
    go_ret
    exact ⟨by rw [H.out]; rfl, ((Below.refl _ _).alloc (Nat.le_refl _) _).alloc (by simp) _⟩
  | false =>
    have HANY := Aside0.mk hany
    go_enter Try.func75, Try.ntmps75
    go_wp2
    obtain ⟨W0, hW0⟩ : ∃ W0, W0 = (w.alloc (.cells #[.slice A0 c.f0.length c0, .slice A1 c.f1.length c1, .slice A2 c.f2.length c2, .slice A3 c.f3.length c3, .slice A4 c.f4.length c4, .slice A5 c.f5.length c5, .slice A6 c.f6.length c6, .int .i64 c.f7] 36)).alloc (.cells #[.int .u64 a.f0, .int .u64 a.f1] 39) := ⟨_, rfl⟩
    have hb0 : Below w.heap.size w W0 := by rw [hW0]; exact ((Below.refl _ _).alloc (Nat.le_refl _) _).alloc (by simp) _
    have hsz : W0.heap.size = w.heap.size + 1 + 1 := by rw [hW0]; simp
    have hf1 : W0.cell? ⟨w.heap.size, 1, none⟩ = some (.slice A1 c.f1.length c1) := by rw [hW0]; simp [go_sem]
    have hd0 : W0.cell? ⟨w.heap.size + 1, 0, none⟩ = some (.int .u64 a.f0) := by rw [hW0]; simp [go_sem]
    have hd1 : W0.cell? ⟨w.heap.size + 1, 1, none⟩ = some (.int .u64 a.f1) := by rw [hW0]; simp [go_sem]
    rw [← hW0]
    clear hW0
    have HB0 := Aside0.mk hb0
    have HS := Aside0.mk hsz
    have HF := Aside0.mk hf1
    have HD := Aside0.mk (And.intro hd0 hd1)
    clear hb0 hsz hf1 hd0 hd1 hany
    go_loopw [7] (fun v7 wr => ∃ k : Nat, k ≤ c.f1.length ∧ v7 = .int .i64 k ∧ Aside0 (∀ j, j < k → ∀ y, c.f1[j]? = some y → (fun o : S85 => o.f0.toList == name.toList) y = false) ∧ Aside0 (Below W0.heap.size W0 wr)) (fun v _ => c.f1.length - (intOf v).toNat)
    case atStart => exact ⟨0, Nat.zero_le _, rfl, ⟨fun j hj => by omega⟩, ⟨Below.refl _ _⟩⟩
    case round =>
      obtain ⟨k, hk, rfl, HN, HB⟩ := hrel
      have HBW := Aside0.mk (show Below w.heap.size w wr from below_then HB0.out HB0.out.size HB.out)
      have hf := pw_cell_below HB.out HF.out
      have hwr : w.heap.size < wr.heap.size := by have := HB.out.size; have := HS.out; omega
      have hwr1 : w.heap.size + 1 < wr.heap.size := by have := HB.out.size; have := HS.out; omega
      by_cases hlt : k < c.f1.length
      · obtain ⟨ad, B1, d1, rfl, q0, q1, hl, hin⟩ := at_T85 (Kd.C_below HG.out HBW.out) (k : Int) (by omega) (by omega)
        have HX := Aside0.mk (getD_get z85 hlt)
        unfold rd_T85 at q0 q1 hl hin
        simp only [Int.toNat_natCast] at q0 q1 hl hin
        generalize c.f1.getD k z85 = o at *
        have hmr : o.f1.length ≤ 9223372036854775807 := Kd.C_max hin
        have HIN := Aside0.mk hin
        clear hin
        cases hnm : o.f0.toList == name.toList with
        | false =>
          have HNM := Aside0.mk hnm
          go_wp2
          go_roundw
          case rel => exact ⟨k + 1, by omega, by go_num, ⟨none_succ HX.out HNM.out HN.out⟩, HB⟩
          case measure => simp [intOf]; omega
        | true =>
          have H := Aside0.mk (within_at (a := a) HANY.out HX.out hnm HN.out)
          have HQ := Aside0.mk (And.intro q0 q1)
          go_wp2
          obtain ⟨wo, rfl⟩ : ∃ wo : World, wo = wr := ⟨_, rfl⟩
          clear q0 q1 hf
          go_loopw [8] (fun v8 wr => ∃ m : Nat, m ≤ o.f1.length ∧ v8 = .int .i64 m ∧ Aside0 (∀ j, j < m → ∀ y, o.f1[j]? = some y → (fun r : S44 => hasR r a) y = false) ∧ Aside0 (Below wo.heap.size wo wr)) (fun v _ => o.f1.length - (intOf v).toNat)
          case atStart => exact ⟨0, Nat.zero_le _, rfl, ⟨fun j hj => by omega⟩, ⟨Below.refl _ _⟩⟩
          case round =>
            obtain ⟨m, hm, rfl, HM, HB4⟩ := hrel
            have HBW4 := Aside0.mk (below_then HBW.out HBW.out.size HB4.out)
            have hf := pw_cell_below HB4.out (pw_cell_below HB.out HF.out)
            have hd0 := pw_cell_below HB4.out (pw_cell_below HB.out HD.out.1)
            have hd1 := pw_cell_below HB4.out (pw_cell_below HB.out HD.out.2)
            have q0 := pw_cell_below HB4.out HQ.out.1
            have q1 := pw_cell_below HB4.out HQ.out.2
            have hs4 : w.heap.size < wr.heap.size := by have := HB4.out.size; omega
            have hs41 : w.heap.size + 1 < wr.heap.size := by have := HB4.out.size; omega
            by_cases hlm : m < o.f1.length
            · obtain ⟨ad2, rfl, r0, r1, r2, r3⟩ := at_T44 (Kd.C_below HIN.out HB4.out) (m : Int) (by omega) (by omega)
              have HY := Aside0.mk (getD_get z44 hlm)
              unfold rd_T44 at r0 r1 r2 r3
              simp only [Int.toNat_natCast] at r0 r1 r2 r3
              generalize o.f1.getD m z44 = r at *
              have hb1 : (ad.add (k * 2)).block < wr.heap.size := World.block_lt_of_cell? wr _ q0
              have hb2 : (ad2.add (m * 4)).block < wr.heap.size := World.block_lt_of_cell? wr _ r0
              have HRA := Aside0.mk (fun (b : Bool) (hb : b = hasR r a) W => show Calls Try.prog 31 #[.agg #[.int .u64 r.f0.f0, .int .u64 r.f0.f1, .int .u64 r.f1.f0, .int .u64 r.f1.f1], .agg #[.int .u64 a.f0, .int .u64 a.f1]] W (fun e w' => e = .returned (.bool b) ∧ Below W.heap.size W w') by rw [hb]; exact refhas_any r.f0.f0 r.f0.f1 r.f1.f0 r.f1.f1 a.f0 a.f1 W)
              cases hh : hasR r a with
              | true =>
                have HRT := Aside0.mk (HRA.out true hh.symm)
                have HH := Aside0.mk hh
                clear hh
                go_wp2
                refine wp_region_later (by kernel_rfl) (by kernel_rfl) ?_
                repeat (first | go_big_quiet_step ((go_at_call 31; exact later_of (HRT.out _))) | quiet_step ((go_at_call 31; exact later_of (HRT.out _))))
                refine wpQuiet_nil ?_
                intro w5 hw5
                have HB5 := Aside0.mk (later_below hw5)
                clear hw5
                go_wp2
                go_ret
                exact ⟨by rw [H.out, any_at HY.out HH.out]; rfl, below_then HBW4.out HBW4.out.size HB5.out⟩
              | false =>
                have HRT := Aside0.mk (HRA.out false hh.symm)
                have HH := Aside0.mk hh
                clear hh
                go_wp2
                refine wp_region_later (by kernel_rfl) (by kernel_rfl) ?_
                repeat (first | go_big_quiet_step ((go_at_call 31; exact later_of (HRT.out _))) | quiet_step ((go_at_call 31; exact later_of (HRT.out _))))
                refine wpQuiet_nil ?_
                intro w5 hw5
                have HB5 := Aside0.mk (later_below hw5)
                clear hw5
                go_wp2
                go_roundw
                case rel => exact ⟨m + 1, by omega, by go_num, ⟨none_succ HY.out HH.out HM.out⟩, ⟨below_then HB4.out HB4.out.size HB5.out⟩⟩
                case measure => simp [intOf]; omega
            · go_wp2
              go_ret
              exact ⟨by rw [H.out, any_none (fun j hj => HM.out j (by omega))]; rfl, HBW4.out⟩
      · have H := Aside0.mk (within_no (c := c) (a := a) HANY.out (show decide (0 ≤ objF c name) = false by unfold objF; rw [idxF_none (fun j hj => HN.out j (by omega))]; rfl))
        go_wp2
        go_ret
        exact ⟨by rw [H.out]; rfl, HBW.out⟩
end Go.Proofs.Ytgppfpfdoooijaa
