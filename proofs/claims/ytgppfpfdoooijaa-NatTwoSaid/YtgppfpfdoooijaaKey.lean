/- Keys: turned about; of which protocol; among those that are taken. -/
import Derived.Test.YtgppfpfdoooijaaEql
import Derived.Handy
import Derived.Laws.Rows
import Derived.Laws.Tables
import Derived.Maps.RangeWalk
namespace Go.Proofs.Ytgppfpfdoooijaa
open Go.RowKit Go.Proofs.YtgppfpfdoooijaaW.PrintWords
set_option linter.unusedVariables false
set_option linter.unusedSimpArgs false
attribute [local go_sem] Later.cell_eq

/-- A key the other way. -/
def turnK (k : S51) : S51 := ⟨k.f0, k.f2, k.f1, k.f4, k.f3⟩
theorem turned_any (k : S51) (w : World) : Calls Try.prog 49 #[.agg #[.int .i64 k.f0, .int .u64 k.f1.f0, .int .u64 k.f1.f1, .int .u64 k.f2.f0, .int .u64 k.f2.f1, .int .i64 k.f3, .int .i64 k.f4]] w fun e w' =>
    e = .returned (.agg #[.int .i64 (turnK k).f0, .int .u64 (turnK k).f1.f0, .int .u64 (turnK k).f1.f1, .int .u64 (turnK k).f2.f0, .int .u64 (turnK k).f2.f1, .int .i64 (turnK k).f3, .int .i64 (turnK k).f4]) ∧ Below w.heap.size w w' := by
  go_enter Try.func49, Try.ntmps49
  go_wp2
  refine bodyPost_ret (v := .agg #[.int .i64 k.f0, .int .u64 k.f2.f0, .int .u64 k.f2.f1, .int .u64 k.f1.f0, .int .u64 k.f1.f1, .int .i64 k.f4, .int .i64 k.f3]) (by simp [results, Try.results49, go_sem]) rfl ?_
  exact ⟨rfl, by go_grown⟩
theorem refturned_any (k : S51) (w : World) : Calls Try.prog 28 #[.agg #[.int .i64 k.f0, .int .u64 k.f1.f0, .int .u64 k.f1.f1, .int .u64 k.f2.f0, .int .u64 k.f2.f1, .int .i64 k.f3, .int .i64 k.f4]] w fun e w' =>
    e = .returned (.agg #[.int .i64 (turnK k).f0, .int .u64 (turnK k).f1.f0, .int .u64 (turnK k).f1.f1, .int .u64 (turnK k).f2.f0, .int .u64 (turnK k).f2.f1, .int .i64 (turnK k).f3, .int .i64 (turnK k).f4]) ∧ Below w.heap.size w w' := by
  go_enter Try.func28, Try.ntmps28
  go_wp2
  refine bodyPost_ret (v := .agg #[.int .i64 k.f0, .int .u64 k.f2.f0, .int .u64 k.f2.f1, .int .u64 k.f1.f0, .int .u64 k.f1.f1, .int .i64 k.f4, .int .i64 k.f3]) (by simp [results, Try.results28, go_sem]) rfl ?_
  exact ⟨rfl, by go_grown⟩
/-- An echo's protocol? -/
def icmpB (p : Int) : Bool := p == 1 || p == 58
theorem icmp_any (p : Int) (w : World) : Calls Try.prog 77 #[.int .i64 p] w fun e w' => e = .returned (.bool (icmpB p)) ∧ w = w' := by
  cases h1 : p == 1 with
  | true =>
    have H := Aside0.mk (show icmpB p = true by unfold icmpB; rw [h1]; rfl)
    go_enter Try.func77, Try.ntmps77
    go_wp2
    go_ret
    exact ⟨by rw [H.out]; rfl, rfl⟩
  | false =>
    have H := Aside0.mk (show icmpB p = (p == 58) by unfold icmpB; rw [h1]; rfl)
    go_enter Try.func77, Try.ntmps77
    go_wp2
    go_ret
    exact ⟨by rw [H.out]; rfl, rfl⟩
theorem reficmp_any (p : Int) (w : World) : Calls Try.prog 55 #[.int .i64 p] w fun e w' => e = .returned (.bool (icmpB p)) ∧ w = w' := by
  cases h1 : p == 1 with
  | true =>
    have H := Aside0.mk (show icmpB p = true by unfold icmpB; rw [h1]; rfl)
    go_enter Try.func55, Try.ntmps55
    go_wp2
    go_ret
    exact ⟨by rw [H.out]; rfl, rfl⟩
  | false =>
    have H := Aside0.mk (show icmpB p = (p == 58) by unfold icmpB; rw [h1]; rfl)
    go_enter Try.func55, Try.ntmps55
    go_wp2
    go_ret
    exact ⟨by rw [H.out]; rfl, rfl⟩
/-- A protocol of which ports are looked for? -/
def ported16 (p : Int) : Bool := (p == 6 || p == 17) || icmpB p
theorem refported16_any (p : Int) (w : World) : Calls Try.prog 58 #[.int .i64 p] w fun e w' => e = .returned (.bool (ported16 p)) ∧ w = w' := by
  have HI := Aside0.mk (fun (b : Bool) (h : icmpB p = b) => show Calls Try.prog 55 #[.int .i64 p] w (fun e w' => e = .returned (.bool b) ∧ w = w') by rw [← h]; exact reficmp_any p w)
  have H0 := Aside0.mk (show ported16 p = ((p == 6 || p == 17) || icmpB p) from rfl)
  cases h1 : p == 6 with
  | true =>
    have H := Aside0.mk (show ported16 p = true by rw [H0.out, h1]; rfl)
    go_enter Try.func58, Try.ntmps58
    go_wp2
    go_ret
    exact ⟨by rw [H.out]; rfl, rfl⟩
  | false =>
    cases h2 : p == 17 with
    | true =>
      have H := Aside0.mk (show ported16 p = true by rw [H0.out, h1, h2]; rfl)
      go_enter Try.func58, Try.ntmps58
      go_wp2
      go_ret
      exact ⟨by rw [H.out]; rfl, rfl⟩
    | false =>
      have H := Aside0.mk (show ported16 p = icmpB p by rw [H0.out, h1, h2]; rfl)
      go_enter Try.func58, Try.ntmps58
      go_wp2_with (go_at_call 55; refine (HI.out _ rfl).mono ?_; rintro e w' ⟨rfl, rfl⟩)
      go_ret
      exact ⟨by rw [H.out]; rfl, rfl⟩

theorem add_block (a : Addr) (k : Nat) : (a.add k).block = a.block := by unfold Addr.add; split <;> rfl
set_option maxRecDepth 100000 in
set_option maxHeartbeats 2000000 in
theorem indexK_any (l : List S51) (A : Option Addr) (c : Nat) (x : S51) (w : World) (hC : k51.C w A l.length l) :
    Calls Try.prog 86 #[.slice A l.length c, .agg #[.int .i64 x.f0, .int .u64 x.f1.f0, .int .u64 x.f1.f1, .int .u64 x.f2.f0, .int .u64 x.f2.f1, .int .i64 x.f3, .int .i64 x.f4]] w fun e w' => e = .returned (.int .i64 (idxF (fun y => eqK x y) l)) ∧ Below w.heap.size w w' := by
  have hmax : l.length ≤ 9223372036854775807 := Kd.C_max hC
  have HC := Aside0.mk hC
  clear hC
  go_enter Try.func86, Try.ntmps86
  go_wp2
  have hb0 : (w.alloc (.cells #[.int .i64 x.f0, .int .u64 x.f1.f0, .int .u64 x.f1.f1, .int .u64 x.f2.f0, .int .u64 x.f2.f1, .int .i64 x.f3, .int .i64 x.f4] 51)).heap[w.heap.size]? = some (.cells #[.int .i64 x.f0, .int .u64 x.f1.f0, .int .u64 x.f1.f1, .int .u64 x.f2.f0, .int .u64 x.f2.f1, .int .i64 x.f3, .int .i64 x.f4] 51 (0, 0)) := heap_alloc_new _ _
  have HBB := Aside0.mk hb0
  have HB0 := Aside0.mk (show Below w.heap.size w (w.alloc (.cells #[.int .i64 x.f0, .int .u64 x.f1.f0, .int .u64 x.f1.f1, .int .u64 x.f2.f0, .int .u64 x.f2.f1, .int .i64 x.f3, .int .i64 x.f4] 51)) by go_grown)
  clear hb0
  generalize World.alloc _ _ = W0 at *
  go_loopw [8] (fun v wr => ∃ k : Nat, k ≤ l.length ∧ v = .int .i64 k ∧ Aside0 (∀ j, j < k → ∀ y, l[j]? = some y → (fun y => eqK x y) y = false) ∧ Aside0 (Below W0.heap.size W0 wr)) (fun v _ => l.length - (intOf v).toNat)
  case atStart => exact ⟨0, Nat.zero_le _, rfl, ⟨fun j hj => by omega⟩, ⟨Below.refl _ _⟩⟩
  case round =>
    obtain ⟨k, hk, rfl, HN, HB⟩ := hrel
    have HBW := Aside0.mk (show Below w.heap.size w wr from below_then HB0.out HB0.out.size HB.out)
    by_cases hlt : k < l.length
    · obtain ⟨ad, cs, rfl, hK, hc⟩ := elem_at HC.out z51 k hlt
      have HX := Aside0.mk (getD_get z51 hlt)
      obtain ⟨y, hy⟩ : ∃ y, y = l.getD k z51 := ⟨_, rfl⟩
      rw [← hy] at HX hK
      obtain rfl := k51_open hK
      have HCA := Aside0.mk hc
      have hlb : ad.block < w.heap.size := by have := cells_lt hc; rwa [add_block] at this
      clear hK hc hy
      go_wp2
      refine wp_region_later (by kernel_rfl) (by kernel_rfl) ?_
      repeat (first
        | (refine quiet_load_row 51 (.tmp 3) rfl rfl w.heap.size #[.int .i64 x.f0, .int .u64 x.f1.f0, .int .u64 x.f1.f1, .int .u64 x.f2.f0, .int .u64 x.f2.f1, .int .i64 x.f3, .int .i64 x.f4] 51 (0, 0) _ rfl (later_blk (blk_call HB.out HBB.out)) Try.underlying51 rfl (by kernel_rfl) ?_; go_frame)
        | (refine quiet_load_at 51 (.tmp 14) rfl rfl (ad.add (k * 7)) (kc y) _ rfl (later_cells (HCA.out.below HBW.out)) Try.underlying51 rfl (by kernel_rfl) ?_; go_frame)
        | (refine quiet_eql51 rfl _ _ _ rfl x y rfl rfl ?_; go_frame)
        | go_big_quiet_step (fail)
        | quiet_step (fail))
      refine wpQuiet_nil ?_
      intro w5 hw5
      have HB5 := Aside0.mk (later_below hw5)
      clear hw5
      cases hb : eqK x y with
      | true =>
        have HQ := Aside0.mk hb
        go_wp2
        go_ret
        exact ⟨by rw [idxF_at (p := fun y => eqK x y) HX.out HQ.out HN.out]; rfl, below_then HBW.out HBW.out.size HB5.out⟩
      | false =>
        have HQ := Aside0.mk hb
        go_wp2
        go_roundw
        case rel => exact ⟨k + 1, by omega, by go_num, ⟨none_succ HX.out HQ.out HN.out⟩, ⟨below_then HB.out HB.out.size HB5.out⟩⟩
        case measure => simp [intOf]; omega
    · go_wp2
      go_ret
      exact ⟨by rw [idxF_none (fun j hj => HN.out j (by omega))]; rfl, HBW.out⟩
end Go.Proofs.Ytgppfpfdoooijaa
