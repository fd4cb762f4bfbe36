/- Covers a box another one: the program's Covers; the document's Empty, HasPoint. -/
import Derived.Test.YtcgcognejjpcmaaEmpty
namespace Go.Proofs.Ytcgcognejjpcmaa
open Go.RowKit Go.Proofs.YtcgcognejjpcmaaW.PrintWords
set_option linter.unusedVariables false
set_option linter.unusedSimpArgs false
attribute [local go_sem] Later.cell_eq

/-- Covers a range another one? -/
def coverR (a r : S26) : Bool := !decide (0 < cmpA a.f0 r.f0) && !decide (cmpA a.f1 r.f1 < 0)
def coversB (a b : S29) : Bool := emptyB b || (List.range 6).all fun k => coverR (rg a k) (rg b k)
theorem all6_no {f : Nat → Bool} {k : Nat} (hk : k < 6) (h : f k = false) : (List.range 6).all f = false := by
  rw [List.all_eq_false]
  exact ⟨k, List.mem_range.2 hk, by simp [h]⟩
theorem all6_yes {f : Nat → Bool} (h : ∀ j, j < 6 → f j = true) : (List.range 6).all f = true := by
  rw [List.all_eq_true]
  exact fun j hj => h j (List.mem_range.1 hj)
theorem any6_yes {f : Nat → Bool} {k : Nat} (hk : k < 6) (h : f k = true) : (List.range 6).any f = true := List.any_eq_true.2 ⟨k, List.mem_range.2 hk, h⟩
theorem any6_no {f : Nat → Bool} (h : ∀ j, j < 6 → f j = false) : (List.range 6).any f = false := by
  rw [List.any_eq_false]
  exact fun j hj => by simp [h j (List.mem_range.1 hj)]
theorem none_succ6 {f : Nat → Bool} {k : Nat} (h : ∀ j, j < k → f j = false) (hk : f k = false) : ∀ j, j < k + 1 → f j = false := by
  intro j hj
  rcases Nat.lt_or_ge j k with h1 | h1
  · exact h j h1
  · obtain rfl : j = k := by omega
    exact hk
theorem cover_ways (a r : S26) : (decide (0 < cmpA a.f0 r.f0) = true ∧ coverR a r = false) ∨ (decide (0 < cmpA a.f0 r.f0) = false ∧ decide (cmpA a.f1 r.f1 < 0) = true ∧ coverR a r = false) ∨ (decide (0 < cmpA a.f0 r.f0) = false ∧ decide (cmpA a.f1 r.f1 < 0) = false ∧ coverR a r = true) := by
  unfold coverR
  cases decide (0 < cmpA a.f0 r.f0) <;> cases decide (cmpA a.f1 r.f1 < 0) <;> simp

set_option maxHeartbeats 4000000 in
theorem covers_any (a b : S29) (w : World) : Calls Try.prog 16 #[.agg (bc a), .agg (bc b)] w fun e w' => e = .returned (.bool (coversB a b)) ∧ Below w.heap.size w w' := by
  have HE := Aside0.mk (fun (v : Bool) (hv : emptyB b = v) W => show Calls Try.prog 21 #[.agg (bc b)] W (fun e w' => e = .returned (.bool v) ∧ Below W.heap.size W w') by rw [← hv]; exact empty_any b W)
  go_enter Try.func16, Try.ntmps16
  go_wp2_with (first
    | (refine gate_ (.load 29 (.tmp 3)) rfl ?_; refine wpList_load_row rfl 29 _ rfl (w.heap.size + 1) rfl 29 (bc b) (0, 0) _ (heap_alloc_at _ _ _ (by simp)) Try.underlying29 rfl (bc_info b) ?_)
    | (go_at_call 21; refine mark_ ?_))
  unfold Marked
  cases he : emptyB b with
  | true =>
    refine (HE.out _ he _).mono ?_
    rintro e w1 ⟨rfl, hb1⟩
    have H := Aside0.mk (show coversB a b = true by unfold coversB; rw [he]; rfl)
    go_wp2
    go_ret
    exact ⟨by rw [H.out]; rfl, below2 hb1⟩
  | false =>
    refine (HE.out _ he _).mono ?_
    rintro e w1 ⟨rfl, hb1⟩
    have H := Aside0.mk (show coversB a b = (List.range 6).all fun k => coverR (rg a k) (rg b k) by unfold coversB; rw [he]; rfl)
    have HB1 := Aside0.mk (below2 hb1)
    have ba : w1.heap[w.heap.size]? = some (.cells (bc a) 29 (0, 0)) := (hb1.block _ (by simp; omega)).trans ((Below.heap_alloc _ _ _ (by simp)).trans (heap_alloc_new _ _))
    have bb : w1.heap[w.heap.size + 1]? = some (.cells (bc b) 29 (0, 0)) := (hb1.block _ (by simp)).trans (heap_alloc_at _ _ _ (by simp))
    have BA := Aside0.mk ba
    clear hb1 he
    go_wp2_with (refine gate_ (.load 27 (.tmp 9)) rfl ?_; refine wpList_load_row rfl 27 _ rfl (w.heap.size + 1) rfl 29 (bc b) (0, 0) _ bb Try.underlying27 rfl (bc_info27 b) ?_)
    clear ba bb
    go_loopw [11] (fun v wr => ∃ k : Nat, k ≤ 6 ∧ v = .int .i64 k ∧ Aside0 (∀ j, j < k → coverR (rg a j) (rg b j) = true) ∧ Aside0 (Below w1.heap.size w1 wr)) (fun v _ => 6 - (intOf v).toNat)
    case atStart => exact ⟨0, by omega, rfl, ⟨fun j hj => by omega⟩, ⟨Below.refl _ _⟩⟩
    case round =>
      obtain ⟨k, hk, rfl, HN, HB⟩ := hrel
      have HBW := Aside0.mk (show Below w.heap.size w wr from below_then HB1.out HB1.out.size HB.out)
      have hs0 : w.heap.size < wr.heap.size := by have := (Array.getElem?_eq_some_iff.1 BA.out).1; have := HB.out.size; omega
      have hs1 : w.heap.size < wr.heap.size + 1 := by omega
      by_cases hlt : k < 6
      · have hbk := (HB.out.block _ (Array.getElem?_eq_some_iff.1 BA.out).1).trans BA.out
        have p0 : wr.cell? ⟨w.heap.size, k * 4, none⟩ = some (.int .u64 (rg a k).f0.f0) := by simp [World.cell?, hbk, (bc_at a k hlt).1]
        have p1 : wr.cell? ⟨w.heap.size, k * 4 + 1, none⟩ = some (.int .u64 (rg a k).f0.f1) := by simp [World.cell?, hbk, (bc_at a k hlt).2.1]
        have p2 : wr.cell? ⟨w.heap.size, k * 4 + 2, none⟩ = some (.int .u64 (rg a k).f1.f0) := by simp [World.cell?, hbk, (bc_at a k hlt).2.2.1]
        have p3 : wr.cell? ⟨w.heap.size, k * 4 + 2 + 1, none⟩ = some (.int .u64 (rg a k).f1.f1) := by simp [World.cell?, hbk, (bc_at a k hlt).2.2.2]
        clear hbk
        go_wp2_with (refine gate_dst (N := 14) rfl ?_; refine wpList_index_box rfl _ _ rfl b k hlt rfl rfl ?_)
        rcases cover_ways (rg a k) (rg b k) with ⟨u1, hv⟩ | ⟨u1, u2, hv⟩ | ⟨u1, u2, hv⟩
        · have HV := Aside0.mk hv
          clear hv
          refine wp_region_later (by kernel_rfl) (by kernel_rfl) ?_
          repeat (first | go_big_quiet_step ((go_at_call 46; exact later_of (cmpA_any _ _ _ _ _))) | quiet_step ((go_at_call 46; exact later_of (cmpA_any _ _ _ _ _))))
          refine wpQuiet_nil ?_
          intro w5 hw5
          have HB5 := Aside0.mk (later_below hw5)
          clear hw5
          go_wp2
          go_ret
          exact ⟨by rw [H.out, all6_no hlt HV.out]; rfl, later_alloc HBW.out HB5.out⟩
        · have HV := Aside0.mk hv
          clear hv
          refine wp_region_later (by kernel_rfl) (by kernel_rfl) ?_
          repeat (first | go_big_quiet_step ((go_at_call 46; exact later_of (cmpA_any _ _ _ _ _))) | quiet_step ((go_at_call 46; exact later_of (cmpA_any _ _ _ _ _))))
          refine wpQuiet_nil ?_
          intro w5 hw5
          have HB5 := Aside0.mk (later_below hw5)
          clear hw5
          go_wp2
          go_ret
          exact ⟨by rw [H.out, all6_no hlt HV.out]; rfl, later_alloc HBW.out HB5.out⟩
        · have HV := Aside0.mk hv
          clear hv
          refine wp_region_later (by kernel_rfl) (by kernel_rfl) ?_
          repeat (first | go_big_quiet_step ((go_at_call 46; exact later_of (cmpA_any _ _ _ _ _))) | quiet_step ((go_at_call 46; exact later_of (cmpA_any _ _ _ _ _))))
          refine wpQuiet_nil ?_
          intro w5 hw5
          have HB5 := Aside0.mk (later_below hw5)
          clear hw5
          go_wp2
          go_roundw
          case rel => exact ⟨k + 1, by omega, by go_num, ⟨all_succ (f := fun j => coverR (rg a j) (rg b j)) HN.out HV.out⟩, ⟨later_alloc HB.out HB5.out⟩⟩
          case measure => simp [intOf]; omega
      · go_wp2
        go_ret
        exact ⟨by rw [H.out, all6_yes (fun j hj => HN.out j (by omega))]; rfl, HBW.out⟩

set_option maxHeartbeats 1000000 in
theorem less_any (ah al bh bl : Int) (w : World) : Calls Try.prog 38 #[.agg #[.int .u64 ah, .int .u64 al], .agg #[.int .u64 bh, .int .u64 bl]] w fun e w' => e = .returned (.bool (decide (cmpA ⟨ah, al⟩ ⟨bh, bl⟩ < 0))) ∧ Below w.heap.size w w' := by
  go_enter Try.func38, Try.ntmps38
  go_wp2_with (go_at_call 63; refine (refcmp_any _ _ _ _ _).mono ?_; rintro e w1 ⟨rfl, hb⟩)
  go_ret
  exact ⟨rfl, below2 hb⟩
end Go.Proofs.Ytcgcognejjpcmaa
