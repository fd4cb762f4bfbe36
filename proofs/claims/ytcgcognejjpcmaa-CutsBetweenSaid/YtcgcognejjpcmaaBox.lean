/- A box's cells and a point's, kept folded in a walk; the range, the number, of one field. -/
import Derived.Test.YtcgcognejjpcmaaAddr
import Derived.Laws.Rows
import Derived.Laws.Tables
import Derived.Handy
namespace Go.Proofs.Ytcgcognejjpcmaa
open Go.RowKit Go.Proofs.YtcgcognejjpcmaaW.PrintWords
set_option linter.unusedVariables false
set_option linter.unusedSimpArgs false
attribute [local go_sem] Later.cell_eq

theorem heap_alloc_at (w : World) (o : Obj) (n : Nat) (h : n = w.heap.size) : (w.alloc o).heap[n]? = some o := by subst h; exact heap_alloc_new w o
def rc (r : S26) : List Value := [.int .u64 r.f0.f0, .int .u64 r.f0.f1, .int .u64 r.f1.f0, .int .u64 r.f1.f1]
def ac (a : S24) : List Value := [.int .u64 a.f0, .int .u64 a.f1]
/-- The cells of a box. -/
def bc (b : S29) : Array Value := (rc b.f0 ++ (rc b.f1 ++ (rc b.f2 ++ (rc b.f3 ++ (rc b.f4 ++ rc b.f5))))).toArray
/-- The cells of a point. -/
def pc (p : S54) : Array Value := (ac p.f0 ++ (ac p.f1 ++ (ac p.f2 ++ (ac p.f3 ++ (ac p.f4 ++ ac p.f5))))).toArray
/-- A box's range of field k. -/
def rg (b : S29) (k : Nat) : S26 := match k with | 0 => b.f0 | 1 => b.f1 | 2 => b.f2 | 3 => b.f3 | 4 => b.f4 | _ => b.f5
/-- A point's number of field k. -/
def nr (p : S54) (k : Nat) : S24 := match k with | 0 => p.f0 | 1 => p.f1 | 2 => p.f2 | 3 => p.f3 | 4 => p.f4 | _ => p.f5
theorem bc_size (b : S29) : (bc b).size = 24 := rfl
theorem pc_size (p : S54) : (pc p).size = 12 := rfl
theorem bc_at (b : S29) (k : Nat) (hk : k < 6) : (bc b)[k * 4]? = some (.int .u64 (rg b k).f0.f0) ∧ (bc b)[k * 4 + 1]? = some (.int .u64 (rg b k).f0.f1) ∧ (bc b)[k * 4 + 2]? = some (.int .u64 (rg b k).f1.f0) ∧ (bc b)[k * 4 + 3]? = some (.int .u64 (rg b k).f1.f1) := by
  match k, hk with
  | 0, _ => exact ⟨rfl, rfl, rfl, rfl⟩
  | 1, _ => exact ⟨rfl, rfl, rfl, rfl⟩
  | 2, _ => exact ⟨rfl, rfl, rfl, rfl⟩
  | 3, _ => exact ⟨rfl, rfl, rfl, rfl⟩
  | 4, _ => exact ⟨rfl, rfl, rfl, rfl⟩
  | 5, _ => exact ⟨rfl, rfl, rfl, rfl⟩
theorem pc_at (p : S54) (k : Nat) (hk : k < 6) : (pc p)[k * 2]? = some (.int .u64 (nr p k).f0) ∧ (pc p)[k * 2 + 1]? = some (.int .u64 (nr p k).f1) := by
  match k, hk with
  | 0, _ => exact ⟨rfl, rfl⟩
  | 1, _ => exact ⟨rfl, rfl⟩
  | 2, _ => exact ⟨rfl, rfl⟩
  | 3, _ => exact ⟨rfl, rfl⟩
  | 4, _ => exact ⟨rfl, rfl⟩
  | 5, _ => exact ⟨rfl, rfl⟩
theorem bc_one (b : S29) : (bc b).all (·.oneCell') = true := by simp [bc, rc, Value.oneCell']
theorem pc_one (p : S54) : (pc p).all (·.oneCell') = true := by simp [pc, ac, Value.oneCell']
theorem bc_info (b : S29) : (Try.prog.info? 29).map (·.size) = some (bc b).size := by rw [bc_size]; kernel_rfl
theorem bc_info27 (b : S29) : (Try.prog.info? 27).map (·.size) = some (bc b).size := by rw [bc_size]; kernel_rfl
theorem pc_info (p : S54) : (Try.prog.info? 54).map (·.size) = some (pc p).size := by rw [pc_size]; kernel_rfl

theorem run_index_box0 (b : S29) (w : World) : (Instr.index 27 (.agg (bc b)) (.int .i64 ((0 : Nat) : Int))).run Try.prog w = Result.ok (Value.agg (rc (rg b 0)).toArray) w := by kernel_rfl
theorem run_index_box1 (b : S29) (w : World) : (Instr.index 27 (.agg (bc b)) (.int .i64 ((1 : Nat) : Int))).run Try.prog w = Result.ok (Value.agg (rc (rg b 1)).toArray) w := by kernel_rfl
theorem run_index_box2 (b : S29) (w : World) : (Instr.index 27 (.agg (bc b)) (.int .i64 ((2 : Nat) : Int))).run Try.prog w = Result.ok (Value.agg (rc (rg b 2)).toArray) w := by kernel_rfl
theorem run_index_box3 (b : S29) (w : World) : (Instr.index 27 (.agg (bc b)) (.int .i64 ((3 : Nat) : Int))).run Try.prog w = Result.ok (Value.agg (rc (rg b 3)).toArray) w := by kernel_rfl
theorem run_index_box4 (b : S29) (w : World) : (Instr.index 27 (.agg (bc b)) (.int .i64 ((4 : Nat) : Int))).run Try.prog w = Result.ok (Value.agg (rc (rg b 4)).toArray) w := by kernel_rfl
theorem run_index_box5 (b : S29) (w : World) : (Instr.index 27 (.agg (bc b)) (.int .i64 ((5 : Nat) : Int))).run Try.prog w = Result.ok (Value.agg (rc (rg b 5)).toArray) w := by kernel_rfl
theorem run_index_box (b : S29) (k : Nat) (hk : k < 6) (w : World) : (Instr.index 27 (.agg (bc b)) (.int .i64 k)).run Try.prog w = .ok (.agg (rc (rg b k)).toArray) w := by
  have h : k = 0 ∨ k = 1 ∨ k = 2 ∨ k = 3 ∨ k = 4 ∨ k = 5 := by omega
  rcases h with rfl | rfl | rfl | rfl | rfl | rfl
  · exact run_index_box0 b w
  · exact run_index_box1 b w
  · exact run_index_box2 b w
  · exact run_index_box3 b w
  · exact run_index_box4 b w
  · exact run_index_box5 b w
theorem wpList_index_box {ops : Array Oper} {rest : List Oper} {o : Oper} {a : Act} {w : World} {Q : Exit → Act → World → Prop} (hgd : o.guard = none) (x i : Operand) (ho : o.op = .index 27 x i) (b : S29) (k : Nat) (hk : k < 6)
    (hx : a.eval x = .agg (bc b)) (hi : a.eval i = .int .i64 k) (h : wpList Try.prog ops Q rest (a.put o.dst (.agg #[.int .u64 (rg b k).f0.f0, .int .u64 (rg b k).f0.f1, .int .u64 (rg b k).f1.f0, .int .u64 (rg b k).f1.f1])) w) : wpList Try.prog ops Q (o :: rest) a w :=
  wpList_plain hgd fun _ hK => by
    unfold Oper.wp execOp
    simp only [ho, hx, hi, Sem.run_bind, run_index_box b k hk, Result.andThen_ok]
    exact hK _ _ h
/-- Has a box a point? -/
def hasP (b : S29) (p : S54) : Bool := (List.range 6).all fun k => hasR (rg b k) (nr p k)
theorem hasP_no {b : S29} {p : S54} {k : Nat} (hk : k < 6) (h : hasR (rg b k) (nr p k) = false) : hasP b p = false := by
  unfold hasP
  rw [List.all_eq_false]
  exact ⟨k, List.mem_range.2 hk, by simp [h]⟩
theorem hasP_yes {b : S29} {p : S54} (h : ∀ j, j < 6 → hasR (rg b j) (nr p j) = true) : hasP b p = true := by
  unfold hasP
  rw [List.all_eq_true]
  exact fun j hj => h j (List.mem_range.1 hj)
theorem all_succ {f : Nat → Bool} {k : Nat} (h : ∀ j, j < k → f j = true) (hk : f k = true) : ∀ j, j < k + 1 → f j = true := by
  intro j hj
  rcases Nat.lt_or_ge j k with h1 | h1
  · exact h j h1
  · obtain rfl : j = k := by omega
    exact hk
/-- The walk halts at what is marked. -/
def Marked (p : Prop) : Prop := p
theorem mark_ {p : Prop} (h : Marked p) : p := h

set_option maxHeartbeats 2000000 in
theorem hasPoint_any (b : S29) (p : S54) (w : World) : Calls Try.prog 30 #[.agg (bc b), .agg (pc p)] w fun e w' => e = .returned (.bool (hasP b p)) ∧ Below w.heap.size w w' := by
  go_enter Try.func30, Try.ntmps30
  go_wp2_with (refine gate_ (.load 27 (.tmp 7)) rfl ?_; refine wpList_load_row rfl 27 _ rfl w.heap.size rfl 29 (bc b) (0, 0) _ ((Below.heap_alloc _ _ _ (by simp)).trans (heap_alloc_new w _)) Try.underlying27 rfl (bc_info27 b) ?_)
  obtain ⟨W0, hW0⟩ : ∃ W0, W0 = (w.alloc (.cells (bc b) 29)).alloc (.cells (pc p) 54) := ⟨_, rfl⟩
  rw [← hW0]
  have HB0 := Aside0.mk (show Below w.heap.size w W0 by rw [hW0]; go_grown)
  have hbp : W0.heap[w.heap.size + 1]? = some (.cells (pc p) 54 (0, 0)) := by rw [hW0]; exact heap_alloc_at _ _ _ (by simp)
  have HP := Aside0.mk hbp
  clear hW0 hbp
  go_loopw [9] (fun v wr => ∃ k : Nat, k ≤ 6 ∧ v = .int .i64 k ∧ Aside0 (∀ j, j < k → hasR (rg b j) (nr p j) = true) ∧ Aside0 (Below W0.heap.size W0 wr)) (fun v _ => 6 - (intOf v).toNat)
  case atStart => exact ⟨0, by omega, rfl, ⟨fun j hj => by omega⟩, ⟨Below.refl _ _⟩⟩
  case round =>
    obtain ⟨k, hk, rfl, HN, HB⟩ := hrel
    have HBW := Aside0.mk (show Below w.heap.size w wr from below_then HB0.out HB0.out.size HB.out)
    have hs1 : w.heap.size + 1 < wr.heap.size := by have := (Array.getElem?_eq_some_iff.1 HP.out).1; have := HB.out.size; omega
    have hs0 : w.heap.size < wr.heap.size := by omega
    by_cases hlt : k < 6
    · have hbk := (HB.out.block _ (Array.getElem?_eq_some_iff.1 HP.out).1).trans HP.out
      have p0 : wr.cell? ⟨w.heap.size + 1, k * 2, none⟩ = some (.int .u64 (nr p k).f0) := by simp [World.cell?, hbk, (pc_at p k hlt).1]
      have p1 : wr.cell? ⟨w.heap.size + 1, k * 2 + 1, none⟩ = some (.int .u64 (nr p k).f1) := by simp [World.cell?, hbk, (pc_at p k hlt).2]
      clear hbk
      go_wp2_with (refine gate_dst (N := 12) rfl ?_; refine wpList_index_box rfl _ _ rfl b k hlt rfl rfl ?_)
      have HH := Aside0.mk (fun (v : Bool) (hv : hasR (rg b k) (nr p k) = v) W => show Calls Try.prog 59 #[.agg #[.int .u64 (rg b k).f0.f0, .int .u64 (rg b k).f0.f1, .int .u64 (rg b k).f1.f0, .int .u64 (rg b k).f1.f1], .agg #[.int .u64 (nr p k).f0, .int .u64 (nr p k).f1]] W (fun e w' => e = .returned (.bool v) ∧ Below W.heap.size W w') by rw [← hv]; exact has_any _ _ _ _ _ _ W)
      cases hv : hasR (rg b k) (nr p k) with
      | true =>
        have HV := Aside0.mk hv
        have H2 := Aside0.mk (HH.out true hv)
        clear hv
        refine wp_region_later (by kernel_rfl) (by kernel_rfl) ?_
        repeat (first | go_big_quiet_step ((go_at_call 59; exact later_of (H2.out _))) | quiet_step ((go_at_call 59; exact later_of (H2.out _))))
        refine wpQuiet_nil ?_
        intro w5 hw5
        have HB5 := Aside0.mk (later_below hw5)
        clear hw5
        go_wp2
        go_roundw
        case rel => exact ⟨k + 1, by omega, by go_num, ⟨all_succ (f := fun j => hasR (rg b j) (nr p j)) HN.out HV.out⟩, ⟨later_alloc HB.out HB5.out⟩⟩
        case measure => simp [intOf]; omega
      | false =>
        have HV := Aside0.mk hv
        have H2 := Aside0.mk (HH.out false hv)
        clear hv
        refine wp_region_later (by kernel_rfl) (by kernel_rfl) ?_
        repeat (first | go_big_quiet_step ((go_at_call 59; exact later_of (H2.out _))) | quiet_step ((go_at_call 59; exact later_of (H2.out _))))
        refine wpQuiet_nil ?_
        intro w5 hw5
        have HB5 := Aside0.mk (later_below hw5)
        clear hw5
        go_wp2
        go_ret
        exact ⟨by rw [hasP_no hlt HV.out]; rfl, later_alloc HBW.out HB5.out⟩
    · go_wp2
      go_ret
      exact ⟨by rw [hasP_yes (fun j hj => HN.out j (by omega))]; rfl, HBW.out⟩
end Go.Proofs.Ytcgcognejjpcmaa
