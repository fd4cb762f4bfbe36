/- slices.IndexFunc at the seat's types: the first place at which the predicate holds, or -1. The predicate is asked of the elements in turn; it may lay blocks of its own. -/
import Derived.Test.YtcgcognejjpcmaaBase
namespace Go.Proofs.Ytcgcognejjpcmaa
open Go.RowKit Go.Proofs.YtcgcognejjpcmaaW.PrintWords
set_option linter.unusedVariables false
set_option linter.unusedSimpArgs false

set_option maxHeartbeats 2000000 in
theorem idx26 (l : List S26) (A : Option Addr) (c : Nat) (g : Nat) (p : S26 → Bool) (w : World) (eg : EntersAt g) (hC : k26.C w A l.length l)
    (hp : ∀ (x : S26) (cs : List Value) (W : World), Below w.heap.size w W → k26.K W x cs → Calls Try.prog g #[.agg cs.toArray] W fun e W' => e = .returned (.bool (p x)) ∧ Below W.heap.size W W') :
    Calls Try.prog 72 #[.slice A l.length c, .func (.func g) #[] #[]] w fun e w' => e = .returned (.int .i64 (idxF p l)) ∧ Below w.heap.size w w' := by
  have hmax : l.length ≤ 9223372036854775807 := Kd.C_max hC
  have hcall : ∀ (args : Array Value) (w : World), (callFunc g args).run Try.prog w = .ok (.enter g args) w := eg
  have HC := Aside0.mk hC
  have HP := Aside0.mk hp
  clear hC hp eg
  go_enter Try.func72, Try.ntmps72
  go_wp2
  go_loopw [8] (fun v wr => ∃ k : Nat, k ≤ l.length ∧ v = .int .i64 k ∧ Aside0 (∀ j, j < k → ∀ y, l[j]? = some y → p y = false) ∧ Aside0 (Below w.heap.size w wr)) (fun v _ => l.length - (intOf v).toNat)
  case atStart => exact ⟨0, Nat.zero_le _, rfl, ⟨fun j hj => by omega⟩, ⟨Below.refl _ _⟩⟩
  case round =>
    obtain ⟨k, hk, rfl, HN, HB⟩ := hrel
    by_cases hlt : k < l.length
    · obtain ⟨ad, cs, hA, _, hK, hcell⟩ := Kd.C_get (Kd.C_below HC.out HB.out) z26 (k : Int) (by omega) (by omega)
      have hx := getD_get z26 hlt
      simp only [Int.toNat_natCast] at hK hcell
      have hc : ∀ j u, cs[j]? = some u → wr.cell? (ad.add (k * 4 + j)) = some u := hcell
      have HK := Aside0.mk hK
      obtain rfl := k26_open hK
      have h0 := hc 0 _ rfl
      have h1 := hc 1 _ rfl
      have h2 := hc 2 _ rfl
      have h3 := hc 3 _ rfl
      rw [add_field _ _ 1 (by omega)] at h1
      rw [add_field _ _ 2 (by omega)] at h2
      rw [add_field _ _ 3 (by omega)] at h3
      simp only [Nat.add_zero] at h0
      have HX := Aside0.mk hx
      clear hcell hc hK hx 
      subst hA
      generalize l.getD k z26 = x at *
      cases hpx : p x with
      | true =>
        have HPX := Aside0.mk hpx
        have HPP := Aside0.mk (HP.out x _ wr HB.out HK.out)
        rw [hpx] at HPP
        clear hpx
        go_wp2_with ((with_reducible refine (HPP.out).mono ?_); rintro e w1 ⟨rfl, hb1⟩)
        go_ret
        exact ⟨by rw [idxF_at HX.out HPX.out HN.out]; rfl, below_then HB.out HB.out.size hb1⟩
      | false =>
        have HPX := Aside0.mk hpx
        have HPP := Aside0.mk (HP.out x _ wr HB.out HK.out)
        rw [hpx] at HPP
        clear hpx
        go_wp2_with ((with_reducible refine (HPP.out).mono ?_); rintro e w1 ⟨rfl, hb1⟩)
        go_roundw
        case rel => exact ⟨k + 1, by omega, by go_num, ⟨none_succ HX.out HPX.out HN.out⟩, ⟨below_then HB.out HB.out.size hb1⟩⟩
        case measure => simp [intOf]; omega
    · go_wp2
      go_ret
      exact ⟨by rw [idxF_none (fun j hj => HN.out j (by omega))]; rfl, HB.out⟩
end Go.Proofs.Ytcgcognejjpcmaa

