/- Of which zone an interface is: the program's Zone and the document's, both the first zone that has it. -/
import Derived.Test.YtgppfpfdoooijaaIdx
import Derived.Test.YtgppfpfdoooijaaAddr
namespace Go.Proofs.Ytgppfpfdoooijaa
open Go.RowKit Go.Proofs.YtgppfpfdoooijaaW.PrintWords
set_option linter.unusedVariables false
set_option linter.unusedSimpArgs false

theorem idxF_range {α : Type} (p : α → Bool) (l : List α) : -1 ≤ idxF p l ∧ idxF p l < l.length := by
  unfold idxF
  cases h : l.findIdx? p with
  | none => simp only; omega
  | some i =>
    obtain ⟨hi, _⟩ := List.findIdx?_eq_some_iff_getElem.1 h
    simp only; omega
theorem idxF_any {α : Type} (p : α → Bool) (l : List α) : decide (0 ≤ idxF p l) = l.any p := by
  unfold idxF
  cases h : l.findIdx? p with
  | none =>
    rw [List.findIdx?_eq_none_iff] at h
    have : l.any p = false := by rw [List.any_eq_false]; intro x hx; simp [h x hx]
    rw [this]; simp
  | some i =>
    obtain ⟨hi, h1, _⟩ := List.findIdx?_eq_some_iff_getElem.1 h
    have : l.any p = true := List.any_eq_true.2 ⟨_, List.getElem_mem hi, h1⟩
    rw [this]; simp

/-- Is a number in a list? -/
def contI (l : List Int) (v : Int) : Bool := l.any fun y => v == y

set_option maxHeartbeats 1000000 in
theorem indexI_any (l : List Int) (A : Option Addr) (c : Nat) (x : Int) (w : World) (hC : (Kd.int .i64).C w A l.length l) :
    Calls Try.prog 62 #[.slice A l.length c, .int .i64 x] w fun e w' => e = .returned (.int .i64 (idxF (fun y => x == y) l)) ∧ w = w' := by
  have hmax : l.length ≤ 9223372036854775807 := Kd.C_max hC
  have HC := Aside0.mk hC
  clear hC
  go_enter Try.func62, Try.ntmps62
  go_wp2
  go_loop [8] (fun v => ∃ k : Nat, k ≤ l.length ∧ v = .int .i64 k ∧ Aside0 (∀ j, j < k → ∀ y, l[j]? = some y → (fun y => x == y) y = false)) (fun v => l.length - (intOf v).toNat)
  case atStart => exact ⟨0, Nat.zero_le _, rfl, ⟨fun j hj => by omega⟩⟩
  case round =>
    obtain ⟨k, hk, rfl, HN⟩ := hrel
    by_cases hlt : k < l.length
    · obtain ⟨ad, rfl, h0⟩ := Kd.at_int HC.out (k : Int) (by omega) (by omega)
      have HX := Aside0.mk (getD_get 0 hlt)
      simp only [Int.toNat_natCast] at h0
      obtain ⟨y, hy⟩ : ∃ y, y = l.getD k 0 := ⟨_, rfl⟩
      rw [← hy] at HX
      have h0' : w.cell? (ad.add k) = some (.int .i64 y) := by rw [hy]; exact h0
      clear h0 hy
      cases hb : (x == y) with
      | true =>
        have HB := Aside0.mk hb
        go_wp2
        go_ret
        exact ⟨by rw [idxF_at (p := fun y => x == y) HX.out HB.out HN.out]; rfl, rfl⟩
      | false =>
        have HB := Aside0.mk hb
        go_wp2
        go_round
        case rel => exact ⟨k + 1, by omega, by go_num, ⟨none_succ HX.out HB.out HN.out⟩⟩
        case measure => simp [intOf]; omega
    · go_wp2
      go_ret
      exact ⟨by rw [idxF_none (fun j hj => HN.out j (by omega))]; rfl, rfl⟩

theorem contI_any (l : List Int) (A : Option Addr) (c : Nat) (x : Int) (w : World) (hC : (Kd.int .i64).C w A l.length l) :
    Calls Try.prog 34 #[.slice A l.length c, .int .i64 x] w fun e w' => e = .returned (.bool (contI l x)) ∧ w = w' := by
  have HI := Aside0.mk (fun (n : Int) (hn : n = idxF (fun y => x == y) l) => by have h := indexI_any l A c x w hC; rw [← hn] at h; exact h)
  have HA := Aside0.mk (idxF_any (fun y => x == y) l)
  generalize idxF (fun y => x == y) l = n at *
  have HJ := Aside0.mk (HI.out n rfl)
  clear HI hC
  go_enter Try.func34, Try.ntmps34
  go_wp2_with (go_at_call 62; refine (HJ.out).mono ?_; rintro e w' ⟨rfl, rfl⟩)
  go_ret
  exact ⟨by unfold contI; rw [← HA.out]; rfl, rfl⟩

theorem enters33 : EntersAt 33 := enters_at Try.func33 (by kernel_rfl) rfl

set_option maxHeartbeats 1000000 in
theorem zone1_any (z : S54) (cs : List Value) (i : Int) (B : Nat) (w : World) (hz : k54.K w z cs) (hB : w.cell? ⟨B, 0, none⟩ = some (.int .i64 i)) :
    Calls Try.prog 33 #[.agg cs.toArray, .pointer (some ⟨B, 0, none⟩)] w fun e w' => e = .returned (.bool (contI z.f2 i)) ∧ Below w.heap.size w w' := by
  obtain ⟨A3, c3, rfl, l3, g3⟩ := k54_open hz
  have hlt : B < w.heap.size := World.block_lt_of_cell? w _ hB
  have HG := Aside0.mk g3
  clear hz g3
  go_enter Try.func33, Try.ntmps33
  go_wp2_with (go_at_call 34; refine (contI_any _ _ _ _ _ (Kd.C_alloc HG.out _)).mono ?_; rintro e w' ⟨rfl, rfl⟩)
  go_ret
  exact ⟨rfl, (Below.refl _ _).alloc (Nat.le_refl _) _⟩

/-- Of which zone an interface is. -/
def zoneF (c : S36) (i : Int) : Int := idxF (fun z => contI z.f2 i) c.f0

set_option maxHeartbeats 1000000 in
theorem zone_any (c : S36) (cs : List Value) (i : Int) (w : World) (hc : k36.K w c cs) :
    Calls Try.prog 20 #[.agg cs.toArray, .int .i64 i] w fun e w' => e = .returned (.int .i64 (zoneF c i)) ∧ Below w.heap.size w w' := by
  obtain ⟨A0, c0, A1, c1, A2, c2, A3, c3, A4, c4, A5, c5, A6, c6, rfl, l0, g0, _⟩ := k36_open hc
  have HG := Aside0.mk g0
  clear hc g0
  go_enter Try.func20, Try.ntmps20
  go_wp2_with fail
  refine (idx54 c.f0 A0 c0 33 _ (fun z => contI z.f2 i) _ enters33 (Kd.C_alloc (Kd.C_alloc HG.out _) _) (fun x cs W hb hk => zone1_any x cs i _ W hk (pw_cell_below hb (by simp [go_sem])))).mono ?_
  rintro e w1 ⟨rfl, hb⟩
  go_wp2
  go_ret
  exact ⟨rfl, below2 hb⟩

theorem contI_none {l : List Int} {x : Int} (h : ∀ j, j < l.length → ∀ y, l[j]? = some y → (fun y => y == x) y = false) : contI l x = false := by
  unfold contI
  rw [List.any_eq_false]
  intro y hy
  obtain ⟨j, hj, rfl⟩ := List.mem_iff_getElem.1 hy
  have := h j hj _ (List.getElem?_eq_getElem hj)
  simp only [beq_eq_false_iff_ne] at this
  simp only [beq_iff_eq]
  exact fun e => this e.symm
theorem contI_some {l : List Int} {x y : Int} {j : Nat} (h : l[j]? = some y) (hy : (y == x) = true) : contI l x = true := by
  unfold contI
  rw [List.any_eq_true]
  have e : y = x := by simpa using hy
  exact ⟨y, List.mem_of_getElem? h, by rw [e]; simp⟩

set_option maxHeartbeats 2000000 in
/-- The document's Zone. -/
theorem refzone_any (c : S36) (cs : List Value) (i : Int) (w : World) (hc : k36.K w c cs) :
    Calls Try.prog 21 #[.agg cs.toArray, .int .i64 i] w fun e w' => e = .returned (.int .i64 (zoneF c i)) ∧ Below w.heap.size w w' := by
  obtain ⟨A0, c0, A1, c1, A2, c2, A3, c3, A4, c4, A5, c5, A6, c6, rfl, l0, g0, _⟩ := k36_open hc
  have hmax : c.f0.length ≤ 9223372036854775807 := Kd.C_max g0
  have HG := Aside0.mk g0
  clear hc g0
  go_enter Try.func21, Try.ntmps21
  go_wp2
  go_loop [5] (fun v => ∃ k : Nat, k ≤ c.f0.length ∧ v = .int .i64 k ∧ Aside0 (∀ j, j < k → ∀ y, c.f0[j]? = some y → (fun z : S54 => contI z.f2 i) y = false)) (fun v => c.f0.length - (intOf v).toNat)
  case atStart => exact ⟨0, Nat.zero_le _, rfl, ⟨fun j hj => by omega⟩⟩
  case round =>
    obtain ⟨k, hk, rfl, HN⟩ := hrel
    by_cases hlt : k < c.f0.length
    · obtain ⟨ad, B3, d3, rfl, _, _, _, h3, hl3, hi3⟩ := at_T54 (Kd.C_alloc HG.out (.cells #[.slice A0 c.f0.length c0, .slice A1 c.f1.length c1, .slice A2 c.f2.length c2, .slice A3 c.f3.length c3, .slice A4 c.f4.length c4, .slice A5 c.f5.length c5, .slice A6 c.f6.length c6, .int .i64 c.f7] 36)) (k : Int) (by omega) (by omega)
      have HX := Aside0.mk (getD_get z54 hlt)
      obtain ⟨z, hz⟩ : ∃ z, z = c.f0.getD k z54 := ⟨_, rfl⟩
      unfold rd_T54 at h3 hl3 hi3
      simp only [Int.toNat_natCast] at h3 hl3 hi3
      rw [← hz] at HX h3 hl3 hi3
      have hmz : z.f2.length ≤ 9223372036854775807 := Kd.C_max hi3
      have HI := Aside0.mk hi3
      clear hi3 hz
      go_wp2
      go_loop [6] (fun v => ∃ m : Nat, m ≤ z.f2.length ∧ v = .int .i64 m ∧ Aside0 (∀ j, j < m → ∀ y, z.f2[j]? = some y → (fun y => y == i) y = false)) (fun v => z.f2.length - (intOf v).toNat)
      case atStart => exact ⟨0, Nat.zero_le _, rfl, ⟨fun j hj => by omega⟩⟩
      case round =>
        obtain ⟨m, hm, rfl, HM⟩ := hrel
        by_cases hlm : m < z.f2.length
        · obtain ⟨ad2, rfl, h0⟩ := Kd.at_int HI.out (m : Int) (by omega) (by omega)
          have HY := Aside0.mk (getD_get 0 hlm)
          simp only [Int.toNat_natCast] at h0
          unfold rd at h0
          simp only [Int.toNat_natCast] at h0
          generalize z.f2.getD m 0 = y at *
          cases hb : (y == i) with
          | true =>
            have HB := Aside0.mk hb
            go_wp2
            go_ret
            exact ⟨by unfold zoneF; rw [idxF_at (p := fun z : S54 => contI z.f2 i) HX.out (contI_some HY.out HB.out) HN.out]; rfl, (Below.refl _ _).alloc (Nat.le_refl _) _⟩
          | false =>
            have HB := Aside0.mk hb
            go_wp2
            go_round
            case rel => exact ⟨m + 1, by omega, by go_num, ⟨none_succ HY.out HB.out HM.out⟩⟩
            case measure => simp [intOf]; omega
        · go_wp2
          go_round
          case rel => exact ⟨k + 1, by omega, by go_num, ⟨none_succ HX.out (contI_none (fun j hj => HM.out j (by omega))) HN.out⟩⟩
          case measure => simp [intOf]; omega
    · go_wp2
      go_ret
      exact ⟨by unfold zoneF; rw [idxF_none (fun j hj => HN.out j (by omega))]; rfl, (Below.refl _ _).alloc (Nat.le_refl _) _⟩
end Go.Proofs.Ytgppfpfdoooijaa
