/- The closure of Points: a point that lies within the box's field is laid down. -/
import Derived.Test.YtcgcognejjpcmaaSortRow
import Derived.Test.YtcgcognejjpcmaaSplit
import Derived.Test.YtcgcognejjpcmaaSlc
namespace Go.Proofs.Ytcgcognejjpcmaa
open Go.RowKit Go.Proofs.YtcgcognejjpcmaaW.PrintWords
set_option linter.unusedVariables false
set_option linter.unusedSimpArgs false
attribute [local go_sem] Later.cell_eq

/-- Does a lie within the range, its last one left out? -/
def inW (r : S26) (a : S24) : Bool := decide (cmpA r.f0 a ≤ 0) && decide (cmpA a r.f1 < 0)
theorem info24 : (Try.prog.info? 24).map (fun i => (i.zero, i.size, i.bytes)) = some (some (.agg #[.int .u64 0, .int .u64 0]), k24.sz, 16) := by kernel_rfl
/-- All blocks but two are as they were. -/
structure KeptBut (w w' : World) (O : Nat) (own : Option Nat) : Prop where
  os : w'.os = w.os
  tape : w'.tape = w.tape
  output : w'.output = w.output
  size : w.heap.size ≤ w'.heap.size
  blk : ∀ g o, w.heap[g]? = some o → g ≠ O → some g ≠ own → w'.heap[g]? = some o
theorem KeptBut.refl (w : World) (O : Nat) (own : Option Nat) : KeptBut w w O own := ⟨rfl, rfl, rfl, Nat.le_refl _, fun _ _ h _ _ => h⟩
theorem KeptBut.below {w w1 w2 : World} {O : Nat} {own : Option Nat} (h : KeptBut w w1 O own) (hb : Below w1.heap.size w1 w2) : KeptBut w w2 O own :=
  ⟨hb.os.trans h.os, hb.tape.trans h.tape, hb.output.trans h.output, Nat.le_trans h.size hb.size, fun g o hg h1 h2 => blk_call hb (h.blk g o hg h1 h2)⟩
theorem KeptBut.grown {w w1 w2 : World} {O : Nat} {own : Option Nat} (h : KeptBut w w1 O own) {r : Option Nat} (hg : w1.grownBy w2 r) (hr : ∀ g, r = some g → g = O ∨ some g = own) : KeptBut w w2 O own :=
  ⟨hg.os.trans h.os, hg.tape.trans h.tape, hg.output.trans h.output, Nat.le_trans h.size hg.size, fun g o hq h1 h2 => by
    have := h.blk g o hq h1 h2
    exact (hg.block g (blk_lt this) (fun e => by rcases hr g e.symm with rfl | e; exact h1 rfl; exact h2 e)).trans this⟩
/-- The points that have been laid down lie in cell O. -/
def PtsAt (base O : Nat) (xs : List S24) (v : Value) (w : World) : Prop := w.heap[O]? = some (.cells #[v] 68 (0, 0)) ∧ k24.R 24 w base (fun k => k ≠ O) v xs ∧ base ≤ w.heap.size

set_option maxRecDepth 100000 in
set_option maxHeartbeats 4000000 in
theorem inside_any (b : S29) (k : Nat) (hk : k < 6) (a : S24) (xs : List S24) (v : Value) (base B F O : Nat) (w : World) (hb : w.heap[B]? = some (.cells (bc b) 29 (0, 0))) (hf : w.heap[F]? = some (.cells #[.int .i64 k] 3 (0, 0))) (hP : PtsAt base O xs v w) (hBO : B ≠ O ∧ F ≠ O) (hl : xs.length ≤ 1000000) :
    Calls Try.prog 64 #[.agg #[.int .u64 a.f0, .int .u64 a.f1], .pointer (some ⟨B, 0, none⟩), .pointer (some ⟨F, 0, none⟩), .pointer (some ⟨O, 0, none⟩)] w fun e w' =>
      e = .returned (.tuple #[]) ∧ KeptBut w w' O v.ownBlock ∧ ∃ v', (v'.ownBlock = v.ownBlock ∨ ∃ g, v'.ownBlock = some g ∧ w.heap.size ≤ g) ∧ PtsAt base O (if inW (rg b k) a = true then xs ++ [a] else xs) v' w' := by
  obtain ⟨ho, hR, hbase⟩ := hP
  have HR := Aside0.mk hR
  have hB := blk_lt hb
  have hF := blk_lt hf
  have hO := blk_lt ho
  have HBS := Aside0.mk hbase
  obtain ⟨A, c, rfl⟩ := Kd.R_slice hR
  have C1 := Aside0.mk (fun W => cmpA_any (rg b k).f0.f0 (rg b k).f0.f1 a.f0 a.f1 W)
  have C2 := Aside0.mk (fun W => cmpA_any a.f0 a.f1 (rg b k).f1.f0 (rg b k).f1.f1 W)
  obtain ⟨c1, h1⟩ : ∃ c1, decide (cmpA ⟨(rg b k).f0.f0, (rg b k).f0.f1⟩ ⟨a.f0, a.f1⟩ ≤ 0) = c1 := ⟨_, rfl⟩
  obtain ⟨c2, h2⟩ : ∃ c2, decide (cmpA ⟨a.f0, a.f1⟩ ⟨(rg b k).f1.f0, (rg b k).f1.f1⟩ < 0) = c2 := ⟨_, rfl⟩
  have HI := Aside0.mk (show inW (rg b k) a = (c1 && c2) by rw [← h1, ← h2]; rfl)
  obtain ⟨ys, hys⟩ : ∃ ys, (if inW (rg b k) a = true then xs ++ [a] else xs) = ys := ⟨_, rfl⟩
  rw [hys]
  have HYS := Aside0.mk hys
  clear hys
  have S := Aside0.mk (((((St.nil w).alloc (.cells #[.int .u64 a.f0, .int .u64 a.f1] 24)).add ((Below.heap_alloc _ _ _ hB).trans hb)).add ((Below.heap_alloc _ _ _ hF).trans hf)).add ((Below.heap_alloc _ _ _ hO).trans ho))
  simp only [List.cons_append, List.nil_append] at S
  clear hb hf ho hR hbase hB hF hO
  go_enter Try.func64, Try.ntmps64
  go_upto_region 1 with fail
  generalize World.alloc _ _ = W0 at *
  cases c1 with
  | false =>
    refine wp_region_later (by kernel_rfl) (by kernel_rfl) ?_
    (repeat (first
      | go_big_quiet_skip
      | (refine quiet_load_one 3 (.tmp 2) rfl rfl _ _ (.int .i64 k) #[.int .i64 k] 3 (0, 0) _ rfl (later_blk (S.out.get 2 rfl)) rfl Try.underlying3 rfl ?_; go_frame)
      | (refine quiet_load_row 24 (.tmp 4) rfl rfl _ #[.int .u64 a.f0, .int .u64 a.f1] 24 (0, 0) _ rfl (later_blk (S.out.get 0 rfl)) Try.underlying24 rfl (by kernel_rfl) ?_; go_frame)
      | (refine quiet_load_blk 24 (.tmp 8) rfl rfl _ (k * 4) 2 [.int .u64 (rg b k).f0.f0, .int .u64 (rg b k).f0.f1] (bc b) 29 (0, 0) _ rfl (later_blk (S.out.get 1 rfl)) (bc_from b hk) Try.underlying24 rfl (by kernel_rfl) ?_; go_frame)
      | (refine quiet_load_blk 24 (.tmp 18) rfl rfl _ (k * 4 + 2) 2 [.int .u64 (rg b k).f1.f0, .int .u64 (rg b k).f1.f1] (bc b) 29 (0, 0) _ rfl (later_blk (S.out.get 1 rfl)) (bc_to b hk) Try.underlying24 rfl (by kernel_rfl) ?_; go_frame)
      | go_big_quiet_step ((first | (go_at_call 46; with_reducible exact later_of (C1.out _)) | (go_at_call 46; with_reducible exact later_of (C2.out _))))
      | fail))
    refine wpQuiet_nil ?_
    intro w5 hw5
    replace S := Aside0.mk (S.out.call (later_below hw5))
    clear hw5
    go_wp2
    go_end0
    exact ⟨rfl, (KeptBut.refl w O _).below S.out.below, _, .inl rfl, by rw [← HYS.out, HI.out]; exact ⟨S.out.get 3 rfl, Kd.R_below HR.out S.out.below, Nat.le_trans HBS.out S.out.below.size⟩⟩
  | true =>
    cases c2 with
    | false =>
      refine wp_region_later (by kernel_rfl) (by kernel_rfl) ?_
      (repeat (first
        | go_big_quiet_skip
        | (refine quiet_load_one 3 (.tmp 2) rfl rfl _ _ (.int .i64 k) #[.int .i64 k] 3 (0, 0) _ rfl (later_blk (S.out.get 2 rfl)) rfl Try.underlying3 rfl ?_; go_frame)
        | (refine quiet_load_row 24 (.tmp 4) rfl rfl _ #[.int .u64 a.f0, .int .u64 a.f1] 24 (0, 0) _ rfl (later_blk (S.out.get 0 rfl)) Try.underlying24 rfl (by kernel_rfl) ?_; go_frame)
        | (refine quiet_load_blk 24 (.tmp 8) rfl rfl _ (k * 4) 2 [.int .u64 (rg b k).f0.f0, .int .u64 (rg b k).f0.f1] (bc b) 29 (0, 0) _ rfl (later_blk (S.out.get 1 rfl)) (bc_from b hk) Try.underlying24 rfl (by kernel_rfl) ?_; go_frame)
        | (refine quiet_load_blk 24 (.tmp 18) rfl rfl _ (k * 4 + 2) 2 [.int .u64 (rg b k).f1.f0, .int .u64 (rg b k).f1.f1] (bc b) 29 (0, 0) _ rfl (later_blk (S.out.get 1 rfl)) (bc_to b hk) Try.underlying24 rfl (by kernel_rfl) ?_; go_frame)
        | go_big_quiet_step ((first | (go_at_call 46; with_reducible exact later_of (C1.out _)) | (go_at_call 46; with_reducible exact later_of (C2.out _))))
        | fail))
      refine wpQuiet_nil ?_
      intro w5 hw5
      replace S := Aside0.mk (S.out.call (later_below hw5))
      clear hw5
      go_wp2
      go_end0
      exact ⟨rfl, (KeptBut.refl w O _).below S.out.below, _, .inl rfl, by rw [← HYS.out, HI.out]; exact ⟨S.out.get 3 rfl, Kd.R_below HR.out S.out.below, Nat.le_trans HBS.out S.out.below.size⟩⟩
    | true =>
      refine wp_region_later (by kernel_rfl) (by kernel_rfl) ?_
      (repeat (first
        | go_big_quiet_skip
        | (refine quiet_load_one 3 (.tmp 2) rfl rfl _ _ (.int .i64 k) #[.int .i64 k] 3 (0, 0) _ rfl (later_blk (S.out.get 2 rfl)) rfl Try.underlying3 rfl ?_; go_frame)
        | (refine quiet_load_row 24 (.tmp 4) rfl rfl _ #[.int .u64 a.f0, .int .u64 a.f1] 24 (0, 0) _ rfl (later_blk (S.out.get 0 rfl)) Try.underlying24 rfl (by kernel_rfl) ?_; go_frame)
        | (refine quiet_load_blk 24 (.tmp 8) rfl rfl _ (k * 4) 2 [.int .u64 (rg b k).f0.f0, .int .u64 (rg b k).f0.f1] (bc b) 29 (0, 0) _ rfl (later_blk (S.out.get 1 rfl)) (bc_from b hk) Try.underlying24 rfl (by kernel_rfl) ?_; go_frame)
        | (refine quiet_load_blk 24 (.tmp 18) rfl rfl _ (k * 4 + 2) 2 [.int .u64 (rg b k).f1.f0, .int .u64 (rg b k).f1.f1] (bc b) 29 (0, 0) _ rfl (later_blk (S.out.get 1 rfl)) (bc_to b hk) Try.underlying24 rfl (by kernel_rfl) ?_; go_frame)
        | go_big_quiet_step ((first | (go_at_call 46; with_reducible exact later_of (C1.out _)) | (go_at_call 46; with_reducible exact later_of (C2.out _))))
        | fail))
      refine wpQuiet_nil ?_
      intro w5 hw5
      replace S := Aside0.mk (S.out.call (later_below hw5))
      clear hw5
      have HRW := Aside0.mk (Kd.R_below HR.out S.out.below)
      have hbs := Nat.le_trans HBS.out S.out.below.size
      have HO5 := Aside0.mk (S.out.get 3 rfl)
      have hO5 := blk_lt HO5.out
      go_wp2_with (first
        | (refine gate_ (.load 68 (.tmp 3)) rfl ?_; refine wpList_load_one 68 _ rfl rfl _ _ (.slice A xs.length c) #[.slice A xs.length c] 68 (0, 0) _ rfl HO5.out rfl Try.underlying68 rfl ?_)
        | (refine gate_ (.load 24 (.tmp 4)) rfl ?_; refine wpList_load_row rfl 24 _ rfl _ rfl 24 #[.int .u64 a.f0, .int .u64 a.f1] (0, 0) _ (S.out.get 0 rfl) Try.underlying24 rfl (by kernel_rfl) ?_)
        | (at_builtin; refine Aside0.out ?_)
        | fail)
      refine Aside0.mk ?_
      refine Kd.R_append k24 (w0 := w5) base rfl (.tmp 23) (.tmp 25) 68 24 (.agg #[.int .u64 0, .int .u64 0]) 16 rfl Try.underlying68 info24 rfl (by decide) (by omega) (.slice A xs.length c) xs a [.int .u64 a.f0, .int .u64 a.f1] (fun k => k ≠ O) (fun _ => False) rfl rfl (k24_mkM _ _ _ a) (fun _ hk => hk.elim) (fun k hk => by omega) HRW.out (Below.refl _ _) hbs (by omega) ?_
      intro v1 w1 hR1 hb1 hg1 hat1
      have HR1 := Aside0.mk hR1
      have HC1 := Aside0.mk (show v1.cells = #[v1] ∧ v1.oneCell' = true by obtain ⟨A1, c1, h⟩ := Kd.R_slice hR1; rw [h]; exact ⟨rfl, rfl⟩)
      have HG1 := Aside0.mk hg1
      have HAT := Aside0.mk hat1
      have HO1 := Aside0.mk ((hg1.block O hO5 (Kd.R_away HRW.out (fun k hk => hk))).trans HO5.out)
      clear hR1 hb1 hg1 hat1
      go_wp2_with (first
        | (refine gate_ (.store 68 (.tmp 3) (.tmp 26)) rfl ?_; refine wpList_store_blk rfl 68 _ _ rfl O 0 #[v1] _ 68 rfl HC1.out.1 HO1.out (Nat.le_of_ble_eq_true rfl) (by kernel_rfl) (by simp [HC1.out.2]) ?_; intro w2 hb2 hg2 hz2)
        | fail)
      go_end0
      refine ⟨rfl, (((KeptBut.refl w O _).below S.out.below).grown HG1.out (fun g hg => .inr hg.symm)).grown hg2 (fun g hg => .inl (by injection hg with h; exact h.symm)), v1, ?_, by rw [← HYS.out, HI.out]; exact ⟨hb2, Kd.R_grown HR1.out hg2 (fun k hk e => hk (by injection e)), Nat.le_trans hbs (Nat.le_trans HG1.out.size hg2.size)⟩⟩
      rcases HAT.out with h | ⟨q, h, hq⟩
      · exact .inl h
      · exact .inr ⟨q, h, Nat.le_trans S.out.below.size hq⟩
end Go.Proofs.Ytcgcognejjpcmaa
