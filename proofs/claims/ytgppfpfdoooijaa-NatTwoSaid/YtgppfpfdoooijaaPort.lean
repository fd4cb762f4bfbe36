/- nat.Port and the document's Port, walked: each call comes to the port that 'port' says, whatever the four numbers. -/
import Derived.Test.YtgppfpfdoooijaaProg
import Derived.WalkKit
import Derived.WalkSpells
namespace Go.Proofs.Ytgppfpfdoooijaa
open Go.RowKit
set_option linter.unusedVariables false
set_option linter.unusedSimpArgs false

/-- A fact kept from the walk. -/
structure Hd (p : Prop) : Prop where
  out : p

theorem IntKindB.u16 {x : Int} (h : (Lit.int .u16 x).wf = true) : 0 ≤ x ∧ x ≤ 65535 := by
  simp [Lit.wf, IntKind.min, IntKind.max, IntKind.signed, IntKind.bits] at h
  omega
theorem IntKindB.i64 {x : Int} (h : (Lit.int .i64 x).wf = true) : -9223372036854775808 ≤ x ∧ x ≤ 9223372036854775807 := by
  simp [Lit.wf, IntKind.min, IntKind.max, IntKind.signed, IntKind.bits] at h
  omega
theorem IntKindB.u64 {x : Int} (h : (Lit.int .u64 x).wf = true) : 0 ≤ x ∧ x ≤ 18446744073709551615 := by
  simp [Lit.wf, IntKind.min, IntKind.max, IntKind.signed, IntKind.bits] at h
  omega
theorem small (x : Int) (h0 : -9223372036854775808 ≤ x) (h1 : x ≤ 9223372036854775807) : wrap64 x = x := by
  unfold wrap64; omega

theorem tmod_wrap (x m : Int) (h0 : 0 ≤ x) (_hm : 0 < m) (h2 : x < 2 * m) : Int.tmod x m = if x < m then x else x - m := by
  rw [Int.tmod_eq_emod_of_nonneg h0]
  split
  · exact Int.emod_eq_of_lt h0 (by assumption)
  · rw [← Int.sub_emod_right x m]
    exact Int.emod_eq_of_lt (by omega) (by omega)

theorem port_at (a0 a1 a3 v : Int)  (h0 : 0 ≤ a3) (h3 : a3 ≤ a1 - a0) (h1 : a0 ≤ v) (h2 : v ≤ a1) :
    a0 + (v - a0 + a3) % (a1 - a0 + 1) = if a3 ≤ a1 - v then v + a3 else a0 + a3 - (a1 - v + 1) := by
  rw [← Int.tmod_eq_emod_of_nonneg (by omega), tmod_wrap _ _ (by omega) (by omega) (by omega)]
  split <;> split <;> omega

/-- May the four numbers be? -/
def portBad (a0 a1 a3 : Int) : Bool := decide (a0 < 0 ∨ a0 > 65535 ∨ a1 < a0 ∨ a1 > 65535 ∨ a3 < 0 ∨ a3 > a1 - a0)
/-- The port. -/
def portAt (a0 a1 a2 a3 : Int) : Int := if a3 ≤ a1 - (if a2 < a0 ∨ a2 > a1 then a0 else a2) then (if a2 < a0 ∨ a2 > a1 then a0 else a2) + a3 else a0 + a3 - (a1 - (if a2 < a0 ∨ a2 > a1 then a0 else a2) + 1)
def portV (a0 a1 a2 a3 : Int) : Value := if portBad a0 a1 a3 = true then .tuple #[.int .i64 0, .bool false] else .tuple #[.int .i64 (portAt a0 a1 a2 a3), .bool true]

theorem bad_of {a0 a1 a2 a3 : Int} (h : a0 < 0 ∨ a0 > 65535 ∨ a1 < a0 ∨ a1 > 65535 ∨ a3 < 0 ∨ a3 > a1 - a0) : portV a0 a1 a2 a3 = .tuple #[.int .i64 0, .bool false] := by
  unfold portV portBad; rw [if_pos (by simpa using h)]

/-- Where the numbers may be. -/
theorem good_of {a0 a1 a2 a3 v : Int} (h : 0 ≤ a0 ∧ a1 ≤ 65535 ∧ 0 ≤ a3 ∧ a3 ≤ a1 - a0 ∧ a0 ≤ v ∧ v ≤ a1) (hv : v = if a2 < a0 ∨ a2 > a1 then a0 else a2) :
    portV a0 a1 a2 a3 = .tuple #[.int .i64 (a0 + (v - a0 + a3) % (a1 - a0 + 1)), .bool true] := by
  obtain ⟨h0, h1, h2, h3, h4, h5⟩ := h
  unfold portV portBad portAt
  rw [if_neg (by simp; omega), port_at a0 a1 a3 v h2 h3 h4 h5, ← hv]

theorem mod_in (x m : Int) (hm : 0 < m) : 0 ≤ x % m ∧ x % m < m := ⟨Int.emod_nonneg _ (by omega), Int.emod_lt_of_pos _ hm⟩

theorem leave_bad {P : Program} {f : FuncId} {args : Array Value} {w : World} {v : Value} (h : v = .tuple #[.int .i64 0, .bool false]) (hc : Calls P f args w fun e w' => e = .returned (.tuple #[.int .i64 0, .bool false]) ∧ w = w') : Calls P f args w fun e w' => e = .returned v ∧ w = w' := by
  subst h; exact hc

set_option maxHeartbeats 1000000 in
/-- nat.Port. -/
theorem port_any (a0 a1 a2 a3 : Int) (w : World) :
    Calls Try.prog 15 #[.int .i64 a0, .int .i64 a1, .int .i64 a2, .int .i64 a3] w fun e w' => e = .returned (portV a0 a1 a2 a3) ∧ w = w' := by
  by_cases c0 : a0 < 0
  · refine leave_bad (bad_of (by omega)) ?_
    go_enter Try.func15, Try.ntmps15
    go_wp2
    go_ret2
    exact ⟨rfl, rfl⟩
  by_cases c1 : 65535 < a0
  · refine leave_bad (bad_of (by omega)) ?_
    go_enter Try.func15, Try.ntmps15
    go_wp2
    go_ret2
    exact ⟨rfl, rfl⟩
  by_cases c2 : a1 < a0
  · refine leave_bad (bad_of (by omega)) ?_
    go_enter Try.func15, Try.ntmps15
    go_wp2
    go_ret2
    exact ⟨rfl, rfl⟩
  by_cases c3 : 65535 < a1
  · refine leave_bad (bad_of (by omega)) ?_
    go_enter Try.func15, Try.ntmps15
    go_wp2
    go_ret2
    exact ⟨rfl, rfl⟩
  by_cases c4 : a3 < 0
  · refine leave_bad (bad_of (by omega)) ?_
    go_enter Try.func15, Try.ntmps15
    go_wp2
    go_ret2
    exact ⟨rfl, rfl⟩
  by_cases c5 : a1 - a0 < a3
  · refine leave_bad (bad_of (by omega)) ?_
    go_enter Try.func15, Try.ntmps15
    go_wp2
    go_ret2
    exact ⟨rfl, rfl⟩
  by_cases c6 : a2 < a0
  · have H := Hd.mk (good_of (a2 := a2) (v := a0) (a0 := a0) (a1 := a1) (a3 := a3) (by omega) (by rw [if_pos (by omega)]))
    obtain ⟨m0, m1⟩ := mod_in (a0 - a0 + a3) (a1 - a0 + 1) (by omega)
    rw [show a0 - a0 + a3 = a3 by omega] at m0 m1
    go_enter Try.func15, Try.ntmps15
    go_wp2
    go_ret2
    exact ⟨by rw [H.out, show a0 - a0 + a3 = a3 by omega]; rfl, rfl⟩
  by_cases c7 : a1 < a2
  · have H := Hd.mk (good_of (a2 := a2) (v := a0) (a0 := a0) (a1 := a1) (a3 := a3) (by omega) (by rw [if_pos (by omega)]))
    obtain ⟨m0, m1⟩ := mod_in (a0 - a0 + a3) (a1 - a0 + 1) (by omega)
    rw [show a0 - a0 + a3 = a3 by omega] at m0 m1
    go_enter Try.func15, Try.ntmps15
    go_wp2
    go_ret2
    exact ⟨by rw [H.out, show a0 - a0 + a3 = a3 by omega]; rfl, rfl⟩
  · have H := Hd.mk (good_of (a2 := a2) (v := a2) (a0 := a0) (a1 := a1) (a3 := a3) (by omega) (by rw [if_neg (by omega)]))
    obtain ⟨m0, m1⟩ := mod_in (a2 - a0 + a3) (a1 - a0 + 1) (by omega)
    go_enter Try.func15, Try.ntmps15
    go_wp2
    go_ret2
    exact ⟨by rw [H.out]; rfl, rfl⟩

theorem bad_no {a0 a1 a3 : Int} (h : 0 ≤ a0 ∧ a0 ≤ 65535 ∧ a0 ≤ a1 ∧ a1 ≤ 65535 ∧ 0 ≤ a3 ∧ a3 ≤ a1 - a0) : ¬ portBad a0 a1 a3 = true := by
  unfold portBad; simp; omega

theorem good_two {a0 a1 a2 a3 v r : Int} (h : 0 ≤ a0 ∧ a0 ≤ 65535 ∧ a0 ≤ a1 ∧ a1 ≤ 65535 ∧ 0 ≤ a3 ∧ a3 ≤ a1 - a0) (hv : v = if a2 < a0 ∨ a2 > a1 then a0 else a2) (hr : r = if a3 ≤ a1 - v then v + a3 else a0 + a3 - (a1 - v + 1)) :
    portV a0 a1 a2 a3 = .tuple #[.int .i64 r, .bool true] := by
  unfold portV portAt
  rw [if_neg (bad_no h), ← hv, hr]

set_option maxHeartbeats 1000000 in
/-- The document's Port. -/
theorem refport_any (a0 a1 a2 a3 : Int) (w : World) :
    Calls Try.prog 16 #[.int .i64 a0, .int .i64 a1, .int .i64 a2, .int .i64 a3] w fun e w' => e = .returned (portV a0 a1 a2 a3) ∧ w = w' := by
  by_cases c0 : a0 < 0
  · refine leave_bad (bad_of (by omega)) ?_
    go_enter Try.func16, Try.ntmps16
    go_wp2
    go_ret2
    exact ⟨rfl, rfl⟩
  by_cases c1 : 65535 < a0
  · refine leave_bad (bad_of (by omega)) ?_
    go_enter Try.func16, Try.ntmps16
    go_wp2
    go_ret2
    exact ⟨rfl, rfl⟩
  by_cases c2 : a1 < a0
  · refine leave_bad (bad_of (by omega)) ?_
    go_enter Try.func16, Try.ntmps16
    go_wp2
    go_ret2
    exact ⟨rfl, rfl⟩
  by_cases c3 : 65535 < a1
  · refine leave_bad (bad_of (by omega)) ?_
    go_enter Try.func16, Try.ntmps16
    go_wp2
    go_ret2
    exact ⟨rfl, rfl⟩
  by_cases c4 : a3 < 0
  · refine leave_bad (bad_of (by omega)) ?_
    go_enter Try.func16, Try.ntmps16
    go_wp2
    go_ret2
    exact ⟨rfl, rfl⟩
  by_cases c5 : a1 - a0 < a3
  · refine leave_bad (bad_of (by omega)) ?_
    go_enter Try.func16, Try.ntmps16
    go_wp2
    go_ret2
    exact ⟨rfl, rfl⟩
  by_cases c6 : a2 < a0
  · have H := Hd.mk (good_two (a2 := a2) (v := a0) (a0 := a0) (a1 := a1) (a3 := a3) (r := a0 + a3) (by omega) (by rw [if_pos (by omega)]) (by rw [if_pos (by omega)]))
    go_enter Try.func16, Try.ntmps16
    go_wp2
    go_ret2
    exact ⟨by rw [H.out]; rfl, rfl⟩
  by_cases c7 : a1 < a2
  · have H := Hd.mk (good_two (a2 := a2) (v := a0) (a0 := a0) (a1 := a1) (a3 := a3) (r := a0 + a3) (by omega) (by rw [if_pos (by omega)]) (by rw [if_pos (by omega)]))
    go_enter Try.func16, Try.ntmps16
    go_wp2
    go_ret2
    exact ⟨by rw [H.out]; rfl, rfl⟩
  by_cases c8 : a3 ≤ a1 - a2
  · have H := Hd.mk (good_two (a2 := a2) (v := a2) (a0 := a0) (a1 := a1) (a3 := a3) (r := a2 + a3) (by omega) (by rw [if_neg (by omega)]) (by rw [if_pos (by omega)]))
    go_enter Try.func16, Try.ntmps16
    go_wp2
    go_ret2
    exact ⟨by rw [H.out]; rfl, rfl⟩
  · have H := Hd.mk (good_two (a2 := a2) (v := a2) (a0 := a0) (a1 := a1) (a3 := a3) (r := a0 + a3 - (a1 - a2 + 1)) (by omega) (by rw [if_neg (by omega)]) (by rw [if_neg (by omega)]))
    go_enter Try.func16, Try.ntmps16
    go_wp2
    go_ret2
    exact ⟨by rw [H.out]; rfl, rfl⟩

theorem portV_pair (a0 a1 a2 a3 : Int) : ∃ (n : Int) (b : Bool), portV a0 a1 a2 a3 = .tuple #[.int .i64 n, .bool b] := by
  unfold portV; split <;> exact ⟨_, _, rfl⟩

/-- The law. -/
theorem natports_any (a0 a1 a2 a3 : Int) (w : World) :
    Calls Try.prog 3 #[.int .i64 a0, .int .i64 a1, .int .i64 a2, .int .i64 a3] w fun e w' => e = .returned (.bool true) ∧ Below w.heap.size w w' := by
  obtain ⟨n, b, hp⟩ := portV_pair a0 a1 a2 a3
  have P1 := fun W => port_any a0 a1 a2 a3 W
  have P2 := fun W => refport_any a0 a1 a2 a3 W
  rw [hp] at P1 P2
  have P1' := Hd.mk P1
  have P2' := Hd.mk P2
  clear P1 P2 hp
  go_enter Try.func3, Try.ntmps3
  go_wp2_with (first | (go_at_call 15; refine (P1'.out _).mono ?_; rintro e w' ⟨rfl, rfl⟩) | (go_at_call 16; refine (P2'.out _).mono ?_; rintro e w' ⟨rfl, rfl⟩))
  go_ret
  exact ⟨by simp, Below.refl _ _⟩
end Go.Proofs.Ytgppfpfdoooijaa
