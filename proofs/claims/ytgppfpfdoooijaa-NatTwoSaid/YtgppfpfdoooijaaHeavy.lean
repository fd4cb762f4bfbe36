/- The laws' guard 'heavy': it answers some bool; where it says no, the configuration's lists have at most 4096 elements together. Condition: each list has at most 2^47 elements. -/
import Derived.Test.YtgppfpfdoooijaaZone
namespace Go.Proofs.Ytgppfpfdoooijaa
open Go.RowKit Go.Proofs.YtgppfpfdoooijaaW.PrintWords
set_option linter.unusedVariables false
set_option linter.unusedSimpArgs false

/-- How many elements the lists have. -/
def lens (c : S36) : Int := (c.f0.length : Int) + c.f1.length + c.f2.length + c.f3.length + c.f4.length + c.f5.length + c.f6.length
/-- No list is greater than any machine. -/
def Fits (c : S36) : Prop := c.f0.length ≤ 140737488355328 ∧ c.f1.length ≤ 140737488355328 ∧ c.f2.length ≤ 140737488355328 ∧ c.f3.length ≤ 140737488355328 ∧ c.f4.length ≤ 140737488355328 ∧ c.f5.length ≤ 140737488355328 ∧ c.f6.length ≤ 140737488355328
/-- Some bool; if no, the lists are short. -/
def HeavyPost (c : S36) (w : World) (e : Ending) (w' : World) : Prop := ∃ b : Bool, e = .returned (.bool b) ∧ (b = false → lens c ≤ 4096) ∧ Below w.heap.size w w'

set_option maxHeartbeats 4000000 in
theorem heavy17_any (c : S36) (cs : List Value) (w : World) (hc : k36.K w c cs) (hf : Fits c) : Calls Try.prog 17 #[.agg cs.toArray] w (HeavyPost c w) := by
  obtain ⟨A0, c0, A1, c1, A2, c2, A3, c3, A4, c4, A5, c5, A6, c6, rfl, l0, g0, l1, g1, _⟩ := k36_open hc
  obtain ⟨f0, f1, f2, f3, f4, f5, f6⟩ := hf
  have HG0 := Aside0.mk g0
  have HG1 := Aside0.mk g1
  have HL := Aside0.mk (show lens c = (c.f0.length : Int) + c.f1.length + c.f2.length + c.f3.length + c.f4.length + c.f5.length + c.f6.length from rfl)
  have hl0 : 0 ≤ lens c := by unfold lens; omega
  clear hc g0 g1
  go_enter Try.func17, Try.ntmps17
  go_wp2
  go_loop [3, 4] (fun n v => ∃ (x : Int) (k : Nat), n = .int .i64 x ∧ lens c ≤ x ∧ x ≤ 1152921504606846976 ∧ k ≤ c.f0.length ∧ v = .int .i64 k) (fun _ v => c.f0.length - (intOf v).toNat)
  case atStart => exact ⟨_, 0, rfl, by rw [HL.out]; omega, by omega, Nat.zero_le _, rfl⟩
  case round =>
    obtain ⟨x, k, rfl, hx0, hx1, hk, rfl⟩ := hrel
    by_cases hgo : k < c.f0.length ∧ x ≤ 4096
    · obtain ⟨hlt, hle⟩ := hgo
      obtain ⟨ad, B3, d3, rfl, _, _, _, h3, _, _⟩ := at_T54 (Kd.C_alloc HG0.out (.cells #[.slice A0 c.f0.length c0, .slice A1 c.f1.length c1, .slice A2 c.f2.length c2, .slice A3 c.f3.length c3, .slice A4 c.f4.length c4, .slice A5 c.f5.length c5, .slice A6 c.f6.length c6, .int .i64 c.f7] 36)) (k : Int) (by omega) (by omega)
      unfold rd_T54 at h3
      simp only [Int.toNat_natCast] at h3
      generalize (c.f0.getD k z54).f2.length = m at *
      rcases Int.lt_or_le 65536 (m : Int) with hm | hm
      all_goals
        go_wp2
        go_round
        case rel => exact ⟨_, k + 1, rfl, by omega, by omega, by omega, by go_num⟩
        case measure => simp [intOf]; omega
    · have hstop : c.f0.length ≤ k ∨ k < c.f0.length ∧ 4096 < x := by omega
      clear hgo
      rcases hstop with hs | ⟨hs, hs2⟩
      all_goals
        go_wp2
        go_loop [3, 5] (fun n v => ∃ (x : Int) (k : Nat), n = .int .i64 x ∧ lens c ≤ x ∧ x ≤ 1152921504606846976 ∧ k ≤ c.f1.length ∧ v = .int .i64 k) (fun _ v => c.f1.length - (intOf v).toNat)
        case atStart => exact ⟨x, 0, rfl, hx0, hx1, Nat.zero_le _, rfl⟩
        case round =>
          clear hx0 hx1
          obtain ⟨x2, k2, rfl, hx0, hx1, hk2, rfl⟩ := hrel
          by_cases hgo : k2 < c.f1.length ∧ x2 ≤ 4096
          · obtain ⟨hlt, hle⟩ := hgo
            obtain ⟨ad, B3, d3, rfl, _, h3, _, _⟩ := at_T85 (Kd.C_alloc HG1.out (.cells #[.slice A0 c.f0.length c0, .slice A1 c.f1.length c1, .slice A2 c.f2.length c2, .slice A3 c.f3.length c3, .slice A4 c.f4.length c4, .slice A5 c.f5.length c5, .slice A6 c.f6.length c6, .int .i64 c.f7] 36)) (k2 : Int) (by omega) (by omega)
            unfold rd_T85 at h3
            simp only [Int.toNat_natCast] at h3
            generalize (c.f1.getD k2 z85).f1.length = m at *
            rcases Int.lt_or_le 65536 (m : Int) with hm | hm
            all_goals
              go_wp2
              go_round
              case rel => exact ⟨_, k2 + 1, rfl, by omega, by omega, by omega, by go_num⟩
              case measure => simp [intOf]; omega
          · have hstop : c.f1.length ≤ k2 ∨ k2 < c.f1.length ∧ 4096 < x2 := by omega
            clear hgo
            rcases hstop with hs3 | ⟨hs3, hs4⟩
            all_goals
              go_wp2
              go_ret
              refine ⟨_, rfl, fun h => ?_, (Below.refl _ _).alloc (Nat.le_refl _) _⟩
              first | (simp at h; done) | (simp at h; omega)

set_option maxHeartbeats 4000000 in
theorem heavy26_any (c : S36) (cs : List Value) (w : World) (hc : k36.K w c cs) (hf : Fits c) : Calls Try.prog 26 #[.agg cs.toArray] w (HeavyPost c w) := by
  obtain ⟨A0, c0, A1, c1, A2, c2, A3, c3, A4, c4, A5, c5, A6, c6, rfl, l0, g0, l1, g1, _⟩ := k36_open hc
  obtain ⟨f0, f1, f2, f3, f4, f5, f6⟩ := hf
  have HG0 := Aside0.mk g0
  have HG1 := Aside0.mk g1
  have HL := Aside0.mk (show lens c = (c.f0.length : Int) + c.f1.length + c.f2.length + c.f3.length + c.f4.length + c.f5.length + c.f6.length from rfl)
  have hl0 : 0 ≤ lens c := by unfold lens; omega
  clear hc g0 g1
  go_enter Try.func26, Try.ntmps26
  go_wp2
  go_loop [3, 4] (fun n v => ∃ (x : Int) (k : Nat), n = .int .i64 x ∧ lens c ≤ x ∧ x ≤ 1152921504606846976 ∧ k ≤ c.f0.length ∧ v = .int .i64 k) (fun _ v => c.f0.length - (intOf v).toNat)
  case atStart => exact ⟨_, 0, rfl, by rw [HL.out]; omega, by omega, Nat.zero_le _, rfl⟩
  case round =>
    obtain ⟨x, k, rfl, hx0, hx1, hk, rfl⟩ := hrel
    by_cases hgo : k < c.f0.length ∧ x ≤ 4096
    · obtain ⟨hlt, hle⟩ := hgo
      obtain ⟨ad, B3, d3, rfl, _, _, _, h3, _, _⟩ := at_T54 (Kd.C_alloc HG0.out (.cells #[.slice A0 c.f0.length c0, .slice A1 c.f1.length c1, .slice A2 c.f2.length c2, .slice A3 c.f3.length c3, .slice A4 c.f4.length c4, .slice A5 c.f5.length c5, .slice A6 c.f6.length c6, .int .i64 c.f7] 36)) (k : Int) (by omega) (by omega)
      unfold rd_T54 at h3
      simp only [Int.toNat_natCast] at h3
      generalize (c.f0.getD k z54).f2.length = m at *
      rcases Int.lt_or_le 65536 (m : Int) with hm | hm
      all_goals
        go_wp2
        go_round
        case rel => exact ⟨_, k + 1, rfl, by omega, by omega, by omega, by go_num⟩
        case measure => simp [intOf]; omega
    · have hstop : c.f0.length ≤ k ∨ k < c.f0.length ∧ 4096 < x := by omega
      clear hgo
      rcases hstop with hs | ⟨hs, hs2⟩
      all_goals
        go_wp2
        go_loop [3, 5] (fun n v => ∃ (x : Int) (k : Nat), n = .int .i64 x ∧ lens c ≤ x ∧ x ≤ 1152921504606846976 ∧ k ≤ c.f1.length ∧ v = .int .i64 k) (fun _ v => c.f1.length - (intOf v).toNat)
        case atStart => exact ⟨x, 0, rfl, hx0, hx1, Nat.zero_le _, rfl⟩
        case round =>
          clear hx0 hx1
          obtain ⟨x2, k2, rfl, hx0, hx1, hk2, rfl⟩ := hrel
          by_cases hgo : k2 < c.f1.length ∧ x2 ≤ 4096
          · obtain ⟨hlt, hle⟩ := hgo
            obtain ⟨ad, B3, d3, rfl, _, h3, _, _⟩ := at_T85 (Kd.C_alloc HG1.out (.cells #[.slice A0 c.f0.length c0, .slice A1 c.f1.length c1, .slice A2 c.f2.length c2, .slice A3 c.f3.length c3, .slice A4 c.f4.length c4, .slice A5 c.f5.length c5, .slice A6 c.f6.length c6, .int .i64 c.f7] 36)) (k2 : Int) (by omega) (by omega)
            unfold rd_T85 at h3
            simp only [Int.toNat_natCast] at h3
            generalize (c.f1.getD k2 z85).f1.length = m at *
            rcases Int.lt_or_le 65536 (m : Int) with hm | hm
            all_goals
              go_wp2
              go_round
              case rel => exact ⟨_, k2 + 1, rfl, by omega, by omega, by omega, by go_num⟩
              case measure => simp [intOf]; omega
          · have hstop : c.f1.length ≤ k2 ∨ k2 < c.f1.length ∧ 4096 < x2 := by omega
            clear hgo
            rcases hstop with hs3 | ⟨hs3, hs4⟩
            all_goals
              go_wp2
              go_ret
              refine ⟨_, rfl, fun h => ?_, (Below.refl _ _).alloc (Nat.le_refl _) _⟩
              first | (simp at h; done) | (simp at h; omega)
end Go.Proofs.Ytgppfpfdoooijaa

