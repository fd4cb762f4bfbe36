/- slices.IndexFunc at the seat's types: the first place at which the predicate holds, or -1. The predicate is asked of the elements in turn; it may lay blocks of its own. -/
import Derived.Test.YtgppfpfdoooijaaBase
namespace Go.Proofs.Ytgppfpfdoooijaa
open Go.RowKit Go.Proofs.YtgppfpfdoooijaaW.PrintWords
set_option linter.unusedVariables false
set_option linter.unusedSimpArgs false

set_option maxHeartbeats 2000000 in
theorem idx54 (l : List S54) (A : Option Addr) (c : Nat) (g : Nat) (q0 : Value) (p : S54 → Bool) (w : World) (eg : EntersAt g) (hC : k54.C w A l.length l)
    (hp : ∀ (x : S54) (cs : List Value) (W : World), Below w.heap.size w W → k54.K W x cs → Calls Try.prog g #[.agg cs.toArray, q0] W fun e W' => e = .returned (.bool (p x)) ∧ Below W.heap.size W W') :
    Calls Try.prog 32 #[.slice A l.length c, .func (.func g) #[] #[q0]] w fun e w' => e = .returned (.int .i64 (idxF p l)) ∧ Below w.heap.size w w' := by
  have hmax : l.length ≤ 9223372036854775807 := Kd.C_max hC
  have hcall : ∀ (args : Array Value) (w : World), (callFunc g args).run Try.prog w = .ok (.enter g args) w := eg
  have HC := Aside0.mk hC
  have HP := Aside0.mk hp
  clear hC hp eg
  go_enter Try.func32, Try.ntmps32
  go_wp2
  go_loopw [8] (fun v wr => ∃ k : Nat, k ≤ l.length ∧ v = .int .i64 k ∧ Aside0 (∀ j, j < k → ∀ y, l[j]? = some y → p y = false) ∧ Aside0 (Below w.heap.size w wr)) (fun v _ => l.length - (intOf v).toNat)
  case atStart => exact ⟨0, Nat.zero_le _, rfl, ⟨fun j hj => by omega⟩, ⟨Below.refl _ _⟩⟩
  case round =>
    obtain ⟨k, hk, rfl, HN, HB⟩ := hrel
    by_cases hlt : k < l.length
    · obtain ⟨ad, cs, hA, _, hK, hcell⟩ := Kd.C_get (Kd.C_below HC.out HB.out) z54 (k : Int) (by omega) (by omega)
      have hx := getD_get z54 hlt
      simp only [Int.toNat_natCast] at hK hcell
      have hc : ∀ j u, cs[j]? = some u → wr.cell? (ad.add (k * 4 + j)) = some u := hcell
      have HK := Aside0.mk hK
      obtain ⟨A3, c3, rfl, l3, g3⟩ := k54_open hK
      have h0 := hc 0 _ rfl
      have h1 := hc 1 _ rfl
      have h2 := hc 2 _ rfl
      have h3 := hc 3 _ rfl
      rw [add_field _ _ 1 (by omega)] at h1
      rw [add_field _ _ 2 (by omega)] at h2
      rw [add_field _ _ 3 (by omega)] at h3
      simp only [Nat.add_zero] at h0
      have HX := Aside0.mk hx
      clear hcell hc hK hx l3 g3
      subst hA
      generalize l.getD k z54 = x at *
      cases hpx : p x with
      | true =>
        have HPX := Aside0.mk hpx
        have HPP := Aside0.mk (HP.out x _ wr HB.out HK.out)
        rw [hpx] at HPP
        clear hpx
        go_wp2_with ((with_reducible refine (HPP.out).mono ?_); rintro e w1 ⟨rfl, hb1⟩)
        go_ret
        exact ⟨by rw [idxF_at HX.out HPX.out HN.out]; rfl, below_then HB.out HB.out.size hb1⟩
      | false =>
        have HPX := Aside0.mk hpx
        have HPP := Aside0.mk (HP.out x _ wr HB.out HK.out)
        rw [hpx] at HPP
        clear hpx
        go_wp2_with ((with_reducible refine (HPP.out).mono ?_); rintro e w1 ⟨rfl, hb1⟩)
        go_roundw
        case rel => exact ⟨k + 1, by omega, by go_num, ⟨none_succ HX.out HPX.out HN.out⟩, ⟨below_then HB.out HB.out.size hb1⟩⟩
        case measure => simp [intOf]; omega
    · go_wp2
      go_ret
      exact ⟨by rw [idxF_none (fun j hj => HN.out j (by omega))]; rfl, HB.out⟩

set_option maxHeartbeats 2000000 in
theorem idx56 (l : List S56) (A : Option Addr) (c : Nat) (g : Nat) (q0 q1 q2 : Value) (p : S56 → Bool) (w : World) (eg : EntersAt g) (hC : k56.C w A l.length l)
    (hp : ∀ (x : S56) (cs : List Value) (W : World), Below w.heap.size w W → k56.K W x cs → Calls Try.prog g #[.agg cs.toArray, q0, q1, q2] W fun e W' => e = .returned (.bool (p x)) ∧ Below W.heap.size W W') :
    Calls Try.prog 37 #[.slice A l.length c, .func (.func g) #[] #[q0, q1, q2]] w fun e w' => e = .returned (.int .i64 (idxF p l)) ∧ Below w.heap.size w w' := by
  have hmax : l.length ≤ 9223372036854775807 := Kd.C_max hC
  have hcall : ∀ (args : Array Value) (w : World), (callFunc g args).run Try.prog w = .ok (.enter g args) w := eg
  have HC := Aside0.mk hC
  have HP := Aside0.mk hp
  clear hC hp eg
  go_enter Try.func37, Try.ntmps37
  go_wp2
  go_loopw [8] (fun v wr => ∃ k : Nat, k ≤ l.length ∧ v = .int .i64 k ∧ Aside0 (∀ j, j < k → ∀ y, l[j]? = some y → p y = false) ∧ Aside0 (Below w.heap.size w wr)) (fun v _ => l.length - (intOf v).toNat)
  case atStart => exact ⟨0, Nat.zero_le _, rfl, ⟨fun j hj => by omega⟩, ⟨Below.refl _ _⟩⟩
  case round =>
    obtain ⟨k, hk, rfl, HN, HB⟩ := hrel
    by_cases hlt : k < l.length
    · obtain ⟨ad, cs, hA, _, hK, hcell⟩ := Kd.C_get (Kd.C_below HC.out HB.out) z56 (k : Int) (by omega) (by omega)
      have hx := getD_get z56 hlt
      simp only [Int.toNat_natCast] at hK hcell
      have hc : ∀ j u, cs[j]? = some u → wr.cell? (ad.add (k * 10 + j)) = some u := hcell
      have HK := Aside0.mk hK
      obtain rfl := k56_open hK
      have h0 := hc 0 _ rfl
      have h1 := hc 1 _ rfl
      have h2 := hc 2 _ rfl
      have h3 := hc 3 _ rfl
      have h4 := hc 4 _ rfl
      have h5 := hc 5 _ rfl
      have h6 := hc 6 _ rfl
      have h7 := hc 7 _ rfl
      have h8 := hc 8 _ rfl
      have h9 := hc 9 _ rfl
      rw [add_field _ _ 1 (by omega)] at h1
      rw [add_field _ _ 2 (by omega)] at h2
      rw [add_field _ _ 3 (by omega)] at h3
      rw [add_field _ _ 4 (by omega)] at h4
      rw [add_field _ _ 5 (by omega)] at h5
      rw [add_field _ _ 6 (by omega)] at h6
      rw [add_field _ _ 7 (by omega)] at h7
      rw [add_field _ _ 8 (by omega)] at h8
      rw [add_field _ _ 9 (by omega)] at h9
      simp only [Nat.add_zero] at h0
      have HX := Aside0.mk hx
      clear hcell hc hK hx 
      subst hA
      generalize l.getD k z56 = x at *
      cases hpx : p x with
      | true =>
        have HPX := Aside0.mk hpx
        have HPP := Aside0.mk (HP.out x _ wr HB.out HK.out)
        rw [hpx] at HPP
        clear hpx
        go_wp2_with ((with_reducible refine (HPP.out).mono ?_); rintro e w1 ⟨rfl, hb1⟩)
        go_ret
        exact ⟨by rw [idxF_at HX.out HPX.out HN.out]; rfl, below_then HB.out HB.out.size hb1⟩
      | false =>
        have HPX := Aside0.mk hpx
        have HPP := Aside0.mk (HP.out x _ wr HB.out HK.out)
        rw [hpx] at HPP
        clear hpx
        go_wp2_with ((with_reducible refine (HPP.out).mono ?_); rintro e w1 ⟨rfl, hb1⟩)
        go_roundw
        case rel => exact ⟨k + 1, by omega, by go_num, ⟨none_succ HX.out HPX.out HN.out⟩, ⟨below_then HB.out HB.out.size hb1⟩⟩
        case measure => simp [intOf]; omega
    · go_wp2
      go_ret
      exact ⟨by rw [idxF_none (fun j hj => HN.out j (by omega))]; rfl, HB.out⟩

set_option maxHeartbeats 2000000 in
theorem idx68 (l : List S68) (A : Option Addr) (c : Nat) (g : Nat) (q0 q1 : Value) (p : S68 → Bool) (w : World) (eg : EntersAt g) (hC : k68.C w A l.length l)
    (hp : ∀ (x : S68) (cs : List Value) (W : World), Below w.heap.size w W → k68.K W x cs → Calls Try.prog g #[.agg cs.toArray, q0, q1] W fun e W' => e = .returned (.bool (p x)) ∧ Below W.heap.size W W') :
    Calls Try.prog 42 #[.slice A l.length c, .func (.func g) #[] #[q0, q1]] w fun e w' => e = .returned (.int .i64 (idxF p l)) ∧ Below w.heap.size w w' := by
  have hmax : l.length ≤ 9223372036854775807 := Kd.C_max hC
  have hcall : ∀ (args : Array Value) (w : World), (callFunc g args).run Try.prog w = .ok (.enter g args) w := eg
  have HC := Aside0.mk hC
  have HP := Aside0.mk hp
  clear hC hp eg
  go_enter Try.func42, Try.ntmps42
  go_wp2
  go_loopw [8] (fun v wr => ∃ k : Nat, k ≤ l.length ∧ v = .int .i64 k ∧ Aside0 (∀ j, j < k → ∀ y, l[j]? = some y → p y = false) ∧ Aside0 (Below w.heap.size w wr)) (fun v _ => l.length - (intOf v).toNat)
  case atStart => exact ⟨0, Nat.zero_le _, rfl, ⟨fun j hj => by omega⟩, ⟨Below.refl _ _⟩⟩
  case round =>
    obtain ⟨k, hk, rfl, HN, HB⟩ := hrel
    by_cases hlt : k < l.length
    · obtain ⟨ad, cs, hA, _, hK, hcell⟩ := Kd.C_get (Kd.C_below HC.out HB.out) z68 (k : Int) (by omega) (by omega)
      have hx := getD_get z68 hlt
      simp only [Int.toNat_natCast] at hK hcell
      have hc : ∀ j u, cs[j]? = some u → wr.cell? (ad.add (k * 8 + j)) = some u := hcell
      have HK := Aside0.mk hK
      obtain rfl := k68_open hK
      have h0 := hc 0 _ rfl
      have h1 := hc 1 _ rfl
      have h2 := hc 2 _ rfl
      have h3 := hc 3 _ rfl
      have h4 := hc 4 _ rfl
      have h5 := hc 5 _ rfl
      have h6 := hc 6 _ rfl
      have h7 := hc 7 _ rfl
      rw [add_field _ _ 1 (by omega)] at h1
      rw [add_field _ _ 2 (by omega)] at h2
      rw [add_field _ _ 3 (by omega)] at h3
      rw [add_field _ _ 4 (by omega)] at h4
      rw [add_field _ _ 5 (by omega)] at h5
      rw [add_field _ _ 6 (by omega)] at h6
      rw [add_field _ _ 7 (by omega)] at h7
      simp only [Nat.add_zero] at h0
      have HX := Aside0.mk hx
      clear hcell hc hK hx 
      subst hA
      generalize l.getD k z68 = x at *
      cases hpx : p x with
      | true =>
        have HPX := Aside0.mk hpx
        have HPP := Aside0.mk (HP.out x _ wr HB.out HK.out)
        rw [hpx] at HPP
        clear hpx
        go_wp2_with ((with_reducible refine (HPP.out).mono ?_); rintro e w1 ⟨rfl, hb1⟩)
        go_ret
        exact ⟨by rw [idxF_at HX.out HPX.out HN.out]; rfl, below_then HB.out HB.out.size hb1⟩
      | false =>
        have HPX := Aside0.mk hpx
        have HPP := Aside0.mk (HP.out x _ wr HB.out HK.out)
        rw [hpx] at HPP
        clear hpx
        go_wp2_with ((with_reducible refine (HPP.out).mono ?_); rintro e w1 ⟨rfl, hb1⟩)
        go_roundw
        case rel => exact ⟨k + 1, by omega, by go_num, ⟨none_succ HX.out HPX.out HN.out⟩, ⟨below_then HB.out HB.out.size hb1⟩⟩
        case measure => simp [intOf]; omega
    · go_wp2
      go_ret
      exact ⟨by rw [idxF_none (fun j hj => HN.out j (by omega))]; rfl, HB.out⟩

set_option maxHeartbeats 2000000 in
theorem idx102 (l : List S102) (A : Option Addr) (c : Nat) (g : Nat) (q0 : Value) (p : S102 → Bool) (w : World) (eg : EntersAt g) (hC : k102.C w A l.length l)
    (hp : ∀ (x : S102) (cs : List Value) (W : World), Below w.heap.size w W → k102.K W x cs → Calls Try.prog g #[.agg cs.toArray, q0] W fun e W' => e = .returned (.bool (p x)) ∧ Below W.heap.size W W') :
    Calls Try.prog 45 #[.slice A l.length c, .func (.func g) #[] #[q0]] w fun e w' => e = .returned (.int .i64 (idxF p l)) ∧ Below w.heap.size w w' := by
  have hmax : l.length ≤ 9223372036854775807 := Kd.C_max hC
  have hcall : ∀ (args : Array Value) (w : World), (callFunc g args).run Try.prog w = .ok (.enter g args) w := eg
  have HC := Aside0.mk hC
  have HP := Aside0.mk hp
  clear hC hp eg
  go_enter Try.func45, Try.ntmps45
  go_wp2
  go_loopw [8] (fun v wr => ∃ k : Nat, k ≤ l.length ∧ v = .int .i64 k ∧ Aside0 (∀ j, j < k → ∀ y, l[j]? = some y → p y = false) ∧ Aside0 (Below w.heap.size w wr)) (fun v _ => l.length - (intOf v).toNat)
  case atStart => exact ⟨0, Nat.zero_le _, rfl, ⟨fun j hj => by omega⟩, ⟨Below.refl _ _⟩⟩
  case round =>
    obtain ⟨k, hk, rfl, HN, HB⟩ := hrel
    by_cases hlt : k < l.length
    · obtain ⟨ad, cs, hA, _, hK, hcell⟩ := Kd.C_get (Kd.C_below HC.out HB.out) z102 (k : Int) (by omega) (by omega)
      have hx := getD_get z102 hlt
      simp only [Int.toNat_natCast] at hK hcell
      have hc : ∀ j u, cs[j]? = some u → wr.cell? (ad.add (k * 4 + j)) = some u := hcell
      have HK := Aside0.mk hK
      obtain rfl := k102_open hK
      have h0 := hc 0 _ rfl
      have h1 := hc 1 _ rfl
      have h2 := hc 2 _ rfl
      have h3 := hc 3 _ rfl
      rw [add_field _ _ 1 (by omega)] at h1
      rw [add_field _ _ 2 (by omega)] at h2
      rw [add_field _ _ 3 (by omega)] at h3
      simp only [Nat.add_zero] at h0
      have HX := Aside0.mk hx
      clear hcell hc hK hx 
      subst hA
      generalize l.getD k z102 = x at *
      cases hpx : p x with
      | true =>
        have HPX := Aside0.mk hpx
        have HPP := Aside0.mk (HP.out x _ wr HB.out HK.out)
        rw [hpx] at HPP
        clear hpx
        go_wp2_with ((with_reducible refine (HPP.out).mono ?_); rintro e w1 ⟨rfl, hb1⟩)
        go_ret
        exact ⟨by rw [idxF_at HX.out HPX.out HN.out]; rfl, below_then HB.out HB.out.size hb1⟩
      | false =>
        have HPX := Aside0.mk hpx
        have HPP := Aside0.mk (HP.out x _ wr HB.out HK.out)
        rw [hpx] at HPP
        clear hpx
        go_wp2_with ((with_reducible refine (HPP.out).mono ?_); rintro e w1 ⟨rfl, hb1⟩)
        go_roundw
        case rel => exact ⟨k + 1, by omega, by go_num, ⟨none_succ HX.out HPX.out HN.out⟩, ⟨below_then HB.out HB.out.size hb1⟩⟩
        case measure => simp [intOf]; omega
    · go_wp2
      go_ret
      exact ⟨by rw [idxF_none (fun j hj => HN.out j (by omega))]; rfl, HB.out⟩

set_option maxHeartbeats 2000000 in
theorem idx116 (l : List S116) (A : Option Addr) (c : Nat) (g : Nat) (q0 : Value) (p : S116 → Bool) (w : World) (eg : EntersAt g) (hC : k116.C w A l.length l)
    (hp : ∀ (x : S116) (cs : List Value) (W : World), Below w.heap.size w W → k116.K W x cs → Calls Try.prog g #[.agg cs.toArray, q0] W fun e W' => e = .returned (.bool (p x)) ∧ Below W.heap.size W W') :
    Calls Try.prog 63 #[.slice A l.length c, .func (.func g) #[] #[q0]] w fun e w' => e = .returned (.int .i64 (idxF p l)) ∧ Below w.heap.size w w' := by
  have hmax : l.length ≤ 9223372036854775807 := Kd.C_max hC
  have hcall : ∀ (args : Array Value) (w : World), (callFunc g args).run Try.prog w = .ok (.enter g args) w := eg
  have HC := Aside0.mk hC
  have HP := Aside0.mk hp
  clear hC hp eg
  go_enter Try.func63, Try.ntmps63
  go_wp2
  go_loopw [8] (fun v wr => ∃ k : Nat, k ≤ l.length ∧ v = .int .i64 k ∧ Aside0 (∀ j, j < k → ∀ y, l[j]? = some y → p y = false) ∧ Aside0 (Below w.heap.size w wr)) (fun v _ => l.length - (intOf v).toNat)
  case atStart => exact ⟨0, Nat.zero_le _, rfl, ⟨fun j hj => by omega⟩, ⟨Below.refl _ _⟩⟩
  case round =>
    obtain ⟨k, hk, rfl, HN, HB⟩ := hrel
    by_cases hlt : k < l.length
    · obtain ⟨ad, cs, hA, _, hK, hcell⟩ := Kd.C_get (Kd.C_below HC.out HB.out) z116 (k : Int) (by omega) (by omega)
      have hx := getD_get z116 hlt
      simp only [Int.toNat_natCast] at hK hcell
      have hc : ∀ j u, cs[j]? = some u → wr.cell? (ad.add (k * 4 + j)) = some u := hcell
      have HK := Aside0.mk hK
      obtain rfl := k116_open hK
      have h0 := hc 0 _ rfl
      have h1 := hc 1 _ rfl
      have h2 := hc 2 _ rfl
      have h3 := hc 3 _ rfl
      rw [add_field _ _ 1 (by omega)] at h1
      rw [add_field _ _ 2 (by omega)] at h2
      rw [add_field _ _ 3 (by omega)] at h3
      simp only [Nat.add_zero] at h0
      have HX := Aside0.mk hx
      clear hcell hc hK hx 
      subst hA
      generalize l.getD k z116 = x at *
      cases hpx : p x with
      | true =>
        have HPX := Aside0.mk hpx
        have HPP := Aside0.mk (HP.out x _ wr HB.out HK.out)
        rw [hpx] at HPP
        clear hpx
        go_wp2_with ((with_reducible refine (HPP.out).mono ?_); rintro e w1 ⟨rfl, hb1⟩)
        go_ret
        exact ⟨by rw [idxF_at HX.out HPX.out HN.out]; rfl, below_then HB.out HB.out.size hb1⟩
      | false =>
        have HPX := Aside0.mk hpx
        have HPP := Aside0.mk (HP.out x _ wr HB.out HK.out)
        rw [hpx] at HPP
        clear hpx
        go_wp2_with ((with_reducible refine (HPP.out).mono ?_); rintro e w1 ⟨rfl, hb1⟩)
        go_roundw
        case rel => exact ⟨k + 1, by omega, by go_num, ⟨none_succ HX.out HPX.out HN.out⟩, ⟨below_then HB.out HB.out.size hb1⟩⟩
        case measure => simp [intOf]; omega
    · go_wp2
      go_ret
      exact ⟨by rw [idxF_none (fun j hj => HN.out j (by omega))]; rfl, HB.out⟩

set_option maxHeartbeats 2000000 in
theorem idx85 (l : List S85) (A : Option Addr) (c : Nat) (g : Nat) (q0 : Value) (p : S85 → Bool) (w : World) (eg : EntersAt g) (hC : k85.C w A l.length l)
    (hp : ∀ (x : S85) (cs : List Value) (W : World), Below w.heap.size w W → k85.K W x cs → Calls Try.prog g #[.agg cs.toArray, q0] W fun e W' => e = .returned (.bool (p x)) ∧ Below W.heap.size W W') :
    Calls Try.prog 65 #[.slice A l.length c, .func (.func g) #[] #[q0]] w fun e w' => e = .returned (.int .i64 (idxF p l)) ∧ Below w.heap.size w w' := by
  have hmax : l.length ≤ 9223372036854775807 := Kd.C_max hC
  have hcall : ∀ (args : Array Value) (w : World), (callFunc g args).run Try.prog w = .ok (.enter g args) w := eg
  have HC := Aside0.mk hC
  have HP := Aside0.mk hp
  clear hC hp eg
  go_enter Try.func65, Try.ntmps65
  go_wp2
  go_loopw [8] (fun v wr => ∃ k : Nat, k ≤ l.length ∧ v = .int .i64 k ∧ Aside0 (∀ j, j < k → ∀ y, l[j]? = some y → p y = false) ∧ Aside0 (Below w.heap.size w wr)) (fun v _ => l.length - (intOf v).toNat)
  case atStart => exact ⟨0, Nat.zero_le _, rfl, ⟨fun j hj => by omega⟩, ⟨Below.refl _ _⟩⟩
  case round =>
    obtain ⟨k, hk, rfl, HN, HB⟩ := hrel
    by_cases hlt : k < l.length
    · obtain ⟨ad, cs, hA, _, hK, hcell⟩ := Kd.C_get (Kd.C_below HC.out HB.out) z85 (k : Int) (by omega) (by omega)
      have hx := getD_get z85 hlt
      simp only [Int.toNat_natCast] at hK hcell
      have hc : ∀ j u, cs[j]? = some u → wr.cell? (ad.add (k * 2 + j)) = some u := hcell
      have HK := Aside0.mk hK
      obtain ⟨A1, c1, rfl, l1, g1⟩ := k85_open hK
      have h0 := hc 0 _ rfl
      have h1 := hc 1 _ rfl
      rw [add_field _ _ 1 (by omega)] at h1
      simp only [Nat.add_zero] at h0
      have HX := Aside0.mk hx
      clear hcell hc hK hx l1 g1
      subst hA
      generalize l.getD k z85 = x at *
      cases hpx : p x with
      | true =>
        have HPX := Aside0.mk hpx
        have HPP := Aside0.mk (HP.out x _ wr HB.out HK.out)
        rw [hpx] at HPP
        clear hpx
        go_wp2_with ((with_reducible refine (HPP.out).mono ?_); rintro e w1 ⟨rfl, hb1⟩)
        go_ret
        exact ⟨by rw [idxF_at HX.out HPX.out HN.out]; rfl, below_then HB.out HB.out.size hb1⟩
      | false =>
        have HPX := Aside0.mk hpx
        have HPP := Aside0.mk (HP.out x _ wr HB.out HK.out)
        rw [hpx] at HPP
        clear hpx
        go_wp2_with ((with_reducible refine (HPP.out).mono ?_); rintro e w1 ⟨rfl, hb1⟩)
        go_roundw
        case rel => exact ⟨k + 1, by omega, by go_num, ⟨none_succ HX.out HPX.out HN.out⟩, ⟨below_then HB.out HB.out.size hb1⟩⟩
        case measure => simp [intOf]; omega
    · go_wp2
      go_ret
      exact ⟨by rw [idxF_none (fun j hj => HN.out j (by omega))]; rfl, HB.out⟩

set_option maxHeartbeats 2000000 in
theorem idx44 (l : List S44) (A : Option Addr) (c : Nat) (g : Nat) (q0 : Value) (p : S44 → Bool) (w : World) (eg : EntersAt g) (hC : k44.C w A l.length l)
    (hp : ∀ (x : S44) (cs : List Value) (W : World), Below w.heap.size w W → k44.K W x cs → Calls Try.prog g #[.agg cs.toArray, q0] W fun e W' => e = .returned (.bool (p x)) ∧ Below W.heap.size W W') :
    Calls Try.prog 83 #[.slice A l.length c, .func (.func g) #[] #[q0]] w fun e w' => e = .returned (.int .i64 (idxF p l)) ∧ Below w.heap.size w w' := by
  have hmax : l.length ≤ 9223372036854775807 := Kd.C_max hC
  have hcall : ∀ (args : Array Value) (w : World), (callFunc g args).run Try.prog w = .ok (.enter g args) w := eg
  have HC := Aside0.mk hC
  have HP := Aside0.mk hp
  clear hC hp eg
  go_enter Try.func83, Try.ntmps83
  go_wp2
  go_loopw [8] (fun v wr => ∃ k : Nat, k ≤ l.length ∧ v = .int .i64 k ∧ Aside0 (∀ j, j < k → ∀ y, l[j]? = some y → p y = false) ∧ Aside0 (Below w.heap.size w wr)) (fun v _ => l.length - (intOf v).toNat)
  case atStart => exact ⟨0, Nat.zero_le _, rfl, ⟨fun j hj => by omega⟩, ⟨Below.refl _ _⟩⟩
  case round =>
    obtain ⟨k, hk, rfl, HN, HB⟩ := hrel
    by_cases hlt : k < l.length
    · obtain ⟨ad, cs, hA, _, hK, hcell⟩ := Kd.C_get (Kd.C_below HC.out HB.out) z44 (k : Int) (by omega) (by omega)
      have hx := getD_get z44 hlt
      simp only [Int.toNat_natCast] at hK hcell
      have hc : ∀ j u, cs[j]? = some u → wr.cell? (ad.add (k * 4 + j)) = some u := hcell
      have HK := Aside0.mk hK
      obtain rfl := k44_open hK
      have h0 := hc 0 _ rfl
      have h1 := hc 1 _ rfl
      have h2 := hc 2 _ rfl
      have h3 := hc 3 _ rfl
      rw [add_field _ _ 1 (by omega)] at h1
      rw [add_field _ _ 2 (by omega)] at h2
      rw [add_field _ _ 3 (by omega)] at h3
      simp only [Nat.add_zero] at h0
      have HX := Aside0.mk hx
      clear hcell hc hK hx 
      subst hA
      generalize l.getD k z44 = x at *
      cases hpx : p x with
      | true =>
        have HPX := Aside0.mk hpx
        have HPP := Aside0.mk (HP.out x _ wr HB.out HK.out)
        rw [hpx] at HPP
        clear hpx
        go_wp2_with ((with_reducible refine (HPP.out).mono ?_); rintro e w1 ⟨rfl, hb1⟩)
        go_ret
        exact ⟨by rw [idxF_at HX.out HPX.out HN.out]; rfl, below_then HB.out HB.out.size hb1⟩
      | false =>
        have HPX := Aside0.mk hpx
        have HPP := Aside0.mk (HP.out x _ wr HB.out HK.out)
        rw [hpx] at HPP
        clear hpx
        go_wp2_with ((with_reducible refine (HPP.out).mono ?_); rintro e w1 ⟨rfl, hb1⟩)
        go_roundw
        case rel => exact ⟨k + 1, by omega, by go_num, ⟨none_succ HX.out HPX.out HN.out⟩, ⟨below_then HB.out HB.out.size hb1⟩⟩
        case measure => simp [intOf]; omega
    · go_wp2
      go_ret
      exact ⟨by rw [idxF_none (fun j hj => HN.out j (by omega))]; rfl, HB.out⟩
end Go.Proofs.Ytgppfpfdoooijaa

