/- NatAll, walked: each port of a range comes just once, the wanted one first; behind the last none is told. -/
import Derived.Test.YtgppfpfdoooijaaPort
import Derived.Maps.OwnOps
import Derived.Maps.OwnSet
namespace Go.Proofs.Ytgppfpfdoooijaa
open Go.RowKit Go.Maps
set_option linter.unusedVariables false
set_option linter.unusedSimpArgs false

/-- The i-th port. -/
def pt (lo hi want : Int) (i : Nat) : Int := portAt lo hi want (i : Int)

theorem pt_call (lo hi want : Int) (i : Nat) (w : World) (h0 : 0 ≤ lo) (h1 : hi ≤ 65535) (hi1 : (i : Int) ≤ hi - lo) :
    Calls Try.prog 15 #[.int .i64 lo, .int .i64 hi, .int .i64 want, .int .i64 (i : Int)] w fun e w' => e = .returned (.tuple #[.int .i64 (pt lo hi want i), .bool true]) ∧ w = w' := by
  have h := port_any lo hi want (i : Int) w
  have e : portV lo hi want (i : Int) = .tuple #[.int .i64 (pt lo hi want i), .bool true] := by
    unfold portV pt
    rw [if_neg (bad_no (by omega))]
  rw [e] at h
  exact h

theorem pt_last (lo hi want : Int) (n : Int) (w : World) (hn : n = hi - lo + 1) :
    Calls Try.prog 15 #[.int .i64 lo, .int .i64 hi, .int .i64 want, .int .i64 n] w fun e w' => e = .returned (.tuple #[.int .i64 0, .bool false]) ∧ w = w' := by
  have h := port_any lo hi want n w
  rw [bad_of (by omega)] at h
  exact h

theorem pt_in (lo hi want : Int) (i : Nat) (hi1 : (i : Int) ≤ hi - lo) : lo ≤ pt lo hi want i ∧ pt lo hi want i ≤ hi := by
  unfold pt portAt
  repeat' split
  all_goals omega
theorem pt_inj (lo hi want : Int) (i j : Nat) (hij : j < i) (hi1 : (i : Int) ≤ hi - lo) : pt lo hi want j ≠ pt lo hi want i := by
  unfold pt portAt
  repeat' split
  all_goals omega
theorem pt_first (lo hi want : Int) (h0 : lo ≤ want) (h1 : want ≤ hi) : pt lo hi want 0 = want := by
  unfold pt portAt
  rw [if_neg (show ¬ (want < lo ∨ want > hi) by omega), if_pos (by omega)]
  simp

theorem law3 : Keyed Try.prog 3 := int_keyed Try.underlying3
theorem zero3 (w : World) : (zeroValue 3).run Try.prog w = .ok (.int .i64 0) w := by kernel_rfl

/-- What the map holds behind k rounds. -/
structure Seen {H : Type} (lo hi want : Int) (k : Nat) (D : DataW H) : Prop where
  size : Maps.size D = k
  keys : ∀ x : Lit, Maps.has D x = true → ∃ j, j < k ∧ x = .int .i64 (pt lo hi want j)

theorem Seen.start {H : Type} (lo hi want : Int) : Seen (H := H) lo hi want 0 (.map []) := ⟨rfl, fun x h => by simp [has_eq] at h⟩
theorem Seen.fresh {H : Type} {lo hi want : Int} {k : Nat} {D : DataW H} (h : Seen lo hi want k D) (hk : (k : Int) ≤ hi - lo) : Maps.has D (.int .i64 (pt lo hi want k)) = false := by
  cases e : Maps.has D (.int .i64 (pt lo hi want k)) with
  | false => rfl
  | true =>
    obtain ⟨j, hj, hx⟩ := h.keys _ e
    injection hx with _ hx
    exact absurd hx.symm (pt_inj lo hi want k j hj hk)
theorem Seen.step {H : Type} {lo hi want : Int} {k : Nat} {D : DataW H} (h : Seen lo hi want k D) (ht : Tidy D) (hk : (k : Int) ≤ hi - lo) (d : DataW H) : Seen lo hi want (k + 1) (D.put (.int .i64 (pt lo hi want k)) d) := by
  refine ⟨by rw [size_put ht, h.fresh hk]; simp [h.size], fun x hx => ?_⟩
  by_cases e : x = .int .i64 (pt lo hi want k)
  · exact ⟨k, by omega, e⟩
  · rw [has_put_other e] at hx
    obtain ⟨j, hj, rfl⟩ := h.keys x hx
    exact ⟨j, by omega, rfl⟩

theorem wf_port {lo hi want : Int} (i : Nat) (h0 : 0 ≤ lo) (h1 : hi ≤ 65535) (hi1 : (i : Int) ≤ hi - lo) : (Lit.int .i64 (pt lo hi want i)).wf = true := by
  have := pt_in lo hi want i hi1
  exact WalkArith.wf_i64 (by omega)

set_option maxRecDepth 100000 in
set_option maxHeartbeats 4000000 in
/-- The law where there is a range. -/
theorem natall_yes {H : Type} (lo hi want : Int) (w : World) (h0 : 0 ≤ lo) (h1 : hi ≤ 65535) (h2 : lo ≤ hi) (h3 : hi - lo ≤ 1024) (w0 : -9223372036854775808 ≤ want) (w1 : want ≤ 9223372036854775807) :
    Calls Try.prog 4 #[.int .u16 lo, .int .u16 hi, .int .i64 want] w fun e w' => e = .returned (.bool true) ∧ Below w.heap.size w w' := by
  have hmm := @run_makeMap Try.prog
  go_enter Try.func4, Try.ntmps4
  go_wp2
  go_loopw [9] (fun i wr => ∃ (k : Nat) (D : DataW H), (k : Int) ≤ hi - lo + 1 ∧ i = .int .i64 k ∧ wr.ownsMap Try.prog 3 (plainElem (H := H) Try.prog 3) w.heap.size k D ∧ Seen lo hi want k D ∧ Below w.heap.size w wr)
    (fun i _ => ((hi - lo + 1) - intOf i).toNat)
  case atStart => exact ⟨0, .map [], by omega, rfl, World.ownsMap_made _ _ _ _, Seen.start _ _ _, (Below.refl _ _).alloc (Nat.le_refl _) _⟩
  case round =>
    obtain ⟨k, D, hk, rfl, hown, hsn, hnx⟩ := hrel
    have hkey : ∀ (_ : (k : Int) ≤ hi - lo), keyOf Try.prog 3 (.int .i64 (pt lo hi want k)) = some (.int .i64 (pt lo hi want k)) := fun h => keyOf_int_mk Try.underlying3 (wf_port k h0 h1 h)
    have hc := fun (h : (k : Int) ≤ hi - lo) W => pt_call lo hi want k W h0 h1 h
    have HK := Hd.mk hkey
    have HC := Hd.mk hc
    have HS := Hd.mk hsn
    clear hkey hc hsn
    by_cases hlt : (k : Int) < hi - lo + 1
    · obtain ⟨p0, p1⟩ := pt_in lo hi want k (by omega)
      have hgo : ∃ (b : Bool), ((k : Int) == 0) = b ∧ (b = true → lo ≤ want → want ≤ hi → (pt lo hi want k != want) = false) := by
        refine ⟨_, rfl, fun e h h' => ?_⟩
        obtain rfl : k = 0 := by simpa using e
        rw [pt_first lo hi want h h']; simp
      obtain ⟨b, hb, hf⟩ := hgo
      have HF := Hd.mk hf
      clear hf
      have fin : b = false ∨ b = true ∧ want < lo ∨ b = true ∧ lo ≤ want ∧ hi < want ∨ b = true ∧ lo ≤ want ∧ want ≤ hi ∧ (pt lo hi want k != want) = false := by
        cases b with
        | false => exact .inl rfl
        | true =>
          rcases Int.lt_or_le want lo with h | h
          · exact .inr (.inl ⟨rfl, h⟩)
          · rcases Int.lt_or_le hi want with h' | h'
            · exact .inr (.inr (.inl ⟨rfl, h, h'⟩))
            · exact .inr (.inr (.inr ⟨rfl, h, h', HF.out rfl h h'⟩))
      clear HF
      rcases fin with rfl | ⟨rfl, g0⟩ | ⟨rfl, g0, g1⟩ | ⟨rfl, g0, g1, g2⟩
      all_goals
        go_wp2_with (first
          | (go_at_call 15; refine (HC.out (by omega) _).mono ?_; rintro e w' ⟨rfl, rfl⟩)
          | (at_lookup; refine wpList_lookup_own_int _ rfl _ _ 26 rfl 3 3 .i64 law3 Try.underlying26 Try.underlying3 (zero3 _) w.heap.size k _ rfl hown _ _ rfl (HK.out (by omega)) ?_; intro c hat hwc)
          | (at_mapUpdate; refine wpList_mapUpdate_own _ rfl _ _ _ 26 rfl 3 3 law3 Try.underlying26 _ w.heap.size k _ rfl hown (by unfold maxLen; omega) _ _ _ rfl rfl (HK.out (by omega)) _ [] (plainElem_int Try.underlying3 (wrap64_wf _)) ?_; intro w1 hown1 hgrow1))
        go_roundw
        case rel => exact ⟨k + 1, _, by omega, by go_num, hown1, HS.out.step (hown.tidy law3) (by omega) _, hnx.grown hgrow1 hnx.size (fun j hj => by cases hj; exact Nat.le_refl _)⟩
        case measure => simp [intOf]; omega
    · have hkn : (k : Int) = hi - lo + 1 := by omega
      have HL := Hd.mk (fun W => pt_last lo hi want (hi - lo + 1) W rfl)
      have hlen : (Builtin.len_ #[26] 3 #[.map (some w.heap.size)]).run Try.prog wr = .ok (.int .i64 (hi - lo + 1)) wr := by
        rw [hown.len Try.underlying26 3, HS.out.size, hkn]
      clear hkn
      go_wp2_with (first | (go_at_call 15; refine (HL.out _).mono ?_; rintro e w' ⟨rfl, rfl⟩))
      go_ret
      exact ⟨by simp, hnx⟩

set_option maxHeartbeats 1000000 in
/-- The law. -/
theorem natall_any (lo hi want : Int) (w : World) (h0 : 0 ≤ lo) (h0' : lo ≤ 65535) (h1 : 0 ≤ hi) (h1' : hi ≤ 65535) (w0 : -9223372036854775808 ≤ want) (w1 : want ≤ 9223372036854775807) :
    Calls Try.prog 4 #[.int .u16 lo, .int .u16 hi, .int .i64 want] w fun e w' => e = .returned (.bool true) ∧ Below w.heap.size w w' := by
  by_cases h2 : hi < lo
  · go_enter Try.func4, Try.ntmps4
    go_wp2
    go_ret
    exact ⟨rfl, Below.refl _ _⟩
  by_cases h3 : 1024 < hi - lo
  · go_enter Try.func4, Try.ntmps4
    go_wp2
    go_ret
    exact ⟨rfl, Below.refl _ _⟩
  exact natall_yes (H := Unit) lo hi want w h0 h1' (by omega) (by omega) w0 w1
end Go.Proofs.Ytgppfpfdoooijaa
