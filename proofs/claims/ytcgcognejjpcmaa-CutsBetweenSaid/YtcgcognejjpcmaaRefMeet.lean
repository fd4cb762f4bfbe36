/- What two ranges have in common: the document's Meet. -/
import Derived.Test.YtcgcognejjpcmaaMeetB
import Derived.Test.YtcgcognejjpcmaaFull
namespace Go.Proofs.Ytcgcognejjpcmaa
open Go.RowKit Go.Proofs.YtcgcognejjpcmaaW.PrintWords
set_option linter.unusedVariables false
set_option linter.unusedSimpArgs false
attribute [local go_sem] Later.cell_eq

theorem meet_of (a b : S26) {v0 v1 : Bool} (h0 : decide (cmpA a.f0 b.f0 < 0) = v0) (h1 : decide (cmpA b.f1 a.f1 < 0) = v1) : meetR a b = ⟨if v0 = true then b.f0 else a.f0, if v1 = true then b.f1 else a.f1⟩ := by
  unfold meetR maxA minA
  rw [cmpA_flip] at h1
  subst h0 h1
  simp only [decide_eq_true_eq]
theorem meet_end {a b : S26} {x y : S24} {v : Bool} (h : meetR a b = ⟨x, y⟩) (hv : decide (cmpA y x < 0) = v) : meetO a b = if v = true then (zr, false) else (⟨x, y⟩, true) := by
  unfold meetO
  rw [h]
  have : noneR ⟨x, y⟩ = v := by unfold noneR; rw [← cmpA_flip]; exact hv
  rw [this]

set_option maxHeartbeats 8000000 in
theorem refmeet_any (a b : S26) (w : World) : Calls Try.prog 37 #[.agg #[.int .u64 a.f0.f0, .int .u64 a.f0.f1, .int .u64 a.f1.f0, .int .u64 a.f1.f1], .agg #[.int .u64 b.f0.f0, .int .u64 b.f0.f1, .int .u64 b.f1.f0, .int .u64 b.f1.f1]] w fun e w' =>
    e = .returned (.tuple #[.agg #[.int .u64 (meetO a b).1.f0.f0, .int .u64 (meetO a b).1.f0.f1, .int .u64 (meetO a b).1.f1.f0, .int .u64 (meetO a b).1.f1.f1], .bool (meetO a b).2]) ∧ Below w.heap.size w w' := by
  have HLs := Aside0.mk (fun (x y : S24) (v : Bool) (hv : decide (cmpA x y < 0) = v) W => show Calls Try.prog 38 #[.agg #[.int .u64 x.f0, .int .u64 x.f1], .agg #[.int .u64 y.f0, .int .u64 y.f1]] W (fun e w' => e = .returned (.bool v) ∧ Below W.heap.size W w') by rw [← hv]; exact less_any _ _ _ _ W)
  have HB0 := Aside0.mk (show Below w.heap.size w ((((w.alloc (.cells #[.int .u64 a.f0.f0, .int .u64 a.f0.f1, .int .u64 a.f1.f0, .int .u64 a.f1.f1] 26)).alloc (.cells #[.int .u64 b.f0.f0, .int .u64 b.f0.f1, .int .u64 b.f1.f0, .int .u64 b.f1.f1] 26)).alloc (.cells #[.int .u64 0, .int .u64 0, .int .u64 0, .int .u64 0] 26)).alloc (.cells #[.int .u64 a.f0.f0, .int .u64 a.f0.f1, .int .u64 a.f1.f0, .int .u64 a.f1.f1] 26)) by go_grown)
  go_enter Try.func37, Try.ntmps37
  go_wp2_with fail
  cases v0 : decide (cmpA a.f0 b.f0 < 0) with
  | true =>
    refine (HLs.out a.f0 b.f0 true v0 _).mono ?_
    rintro e w1 ⟨rfl, hb1⟩
    have HB1 := Aside0.mk (HB0.out.trans (hb1.mono (by simp; omega)))
    have t0' : w1.cell? ⟨w.heap.size + 1 + 1 + 1, 0, none⟩ = some (.int .u64 a.f0.f0) := pw_cell_below hb1 (by simp [go_sem])
    have t1' : w1.cell? ⟨w.heap.size + 1 + 1 + 1, 1, none⟩ = some (.int .u64 a.f0.f1) := pw_cell_below hb1 (by simp [go_sem])
    have t2' : w1.cell? ⟨w.heap.size + 1 + 1 + 1, 2, none⟩ = some (.int .u64 a.f1.f0) := pw_cell_below hb1 (by simp [go_sem])
    have t3' : w1.cell? ⟨w.heap.size + 1 + 1 + 1, 3, none⟩ = some (.int .u64 a.f1.f1) := pw_cell_below hb1 (by simp [go_sem])
    have b0' : w1.cell? ⟨w.heap.size + 1, 0, none⟩ = some (.int .u64 b.f0.f0) := pw_cell_below hb1 (by simp [go_sem])
    have b1' : w1.cell? ⟨w.heap.size + 1, 1, none⟩ = some (.int .u64 b.f0.f1) := pw_cell_below hb1 (by simp [go_sem])
    have b2' : w1.cell? ⟨w.heap.size + 1, 2, none⟩ = some (.int .u64 b.f1.f0) := pw_cell_below hb1 (by simp [go_sem])
    have b3' : w1.cell? ⟨w.heap.size + 1, 3, none⟩ = some (.int .u64 b.f1.f1) := pw_cell_below hb1 (by simp [go_sem])
    have r0' : w1.cell? ⟨w.heap.size + 1 + 1, 0, none⟩ = some (.int .u64 0) := pw_cell_below hb1 (by simp [go_sem])
    have r1' : w1.cell? ⟨w.heap.size + 1 + 1, 1, none⟩ = some (.int .u64 0) := pw_cell_below hb1 (by simp [go_sem])
    have r2' : w1.cell? ⟨w.heap.size + 1 + 1, 2, none⟩ = some (.int .u64 0) := pw_cell_below hb1 (by simp [go_sem])
    have r3' : w1.cell? ⟨w.heap.size + 1 + 1, 3, none⟩ = some (.int .u64 0) := pw_cell_below hb1 (by simp [go_sem])
    have y0' : w1.frozen? ⟨w.heap.size + 1 + 1 + 1, 0, none⟩ = false := (hb1.frozen (p := ⟨w.heap.size + 1 + 1 + 1, 0, none⟩) (by first | (simp; omega) | (simp; done))).trans (by simp [go_sem])
    have y1' : w1.frozen? ⟨w.heap.size + 1 + 1 + 1, 1, none⟩ = false := (hb1.frozen (p := ⟨w.heap.size + 1 + 1 + 1, 1, none⟩) (by first | (simp; omega) | (simp; done))).trans (by simp [go_sem])
    have y2' : w1.frozen? ⟨w.heap.size + 1 + 1 + 1, 2, none⟩ = false := (hb1.frozen (p := ⟨w.heap.size + 1 + 1 + 1, 2, none⟩) (by first | (simp; omega) | (simp; done))).trans (by simp [go_sem])
    have y3' : w1.frozen? ⟨w.heap.size + 1 + 1 + 1, 3, none⟩ = false := (hb1.frozen (p := ⟨w.heap.size + 1 + 1 + 1, 3, none⟩) (by first | (simp; omega) | (simp; done))).trans (by simp [go_sem])
    have z0' : w1.frozen? ⟨w.heap.size + 1 + 1, 0, none⟩ = false := (hb1.frozen (p := ⟨w.heap.size + 1 + 1, 0, none⟩) (by first | (simp; omega) | (simp; done))).trans (by simp [go_sem])
    have z1' : w1.frozen? ⟨w.heap.size + 1 + 1, 1, none⟩ = false := (hb1.frozen (p := ⟨w.heap.size + 1 + 1, 1, none⟩) (by first | (simp; omega) | (simp; done))).trans (by simp [go_sem])
    have z2' : w1.frozen? ⟨w.heap.size + 1 + 1, 2, none⟩ = false := (hb1.frozen (p := ⟨w.heap.size + 1 + 1, 2, none⟩) (by first | (simp; omega) | (simp; done))).trans (by simp [go_sem])
    have z3' : w1.frozen? ⟨w.heap.size + 1 + 1, 3, none⟩ = false := (hb1.frozen (p := ⟨w.heap.size + 1 + 1, 3, none⟩) (by first | (simp; omega) | (simp; done))).trans (by simp [go_sem])
    have st' : w.heap.size + 1 + 1 + 1 < w1.heap.size := World.block_lt_of_cell? w1 _ t0'
    have sr' : w.heap.size + 1 + 1 < w1.heap.size := by omega
    have sb' : w.heap.size + 1 < w1.heap.size := by omega
    have t0 := t0'
    clear t0'
    have t1 := t1'
    clear t1'
    have t2 := t2'
    clear t2'
    have t3 := t3'
    clear t3'
    have b0 := b0'
    clear b0'
    have b1 := b1'
    clear b1'
    have b2 := b2'
    clear b2'
    have b3 := b3'
    clear b3'
    have r0 := r0'
    clear r0'
    have r1 := r1'
    clear r1'
    have r2 := r2'
    clear r2'
    have r3 := r3'
    clear r3'
    have y0 := y0'
    clear y0'
    have y1 := y1'
    clear y1'
    have y2 := y2'
    clear y2'
    have y3 := y3'
    clear y3'
    have z0 := z0'
    clear z0'
    have z1 := z1'
    clear z1'
    have z2 := z2'
    clear z2'
    have z3 := z3'
    clear z3'
    have st := st'
    clear st'
    have sr := sr'
    clear sr'
    have sb := sb'
    clear sb'
    have V0 := Aside0.mk v0
    clear hb1 v0
    go_wp2_with fail
    cases v1 : decide (cmpA b.f1 a.f1 < 0) with
    | true =>
      refine (HLs.out b.f1 a.f1 true v1 _).mono ?_
      rintro e w2 ⟨rfl, hb2⟩
      have HB2 := Aside0.mk (kbelow hb2 (show Below w.heap.size w _ by have HH := HB1.out; go_grown))
      have t0' : w2.cell? ⟨w.heap.size + 1 + 1 + 1, 0, none⟩ = some (.int .u64 b.f0.f0) := pw_cell_below hb2 (by simp [go_sem, t0, t1, t2, t3, b0, b1, b2, b3, r0, r1, r2, r3, y0, y1, y2, y3, z0, z1, z2, z3, st, sr, sb])
      have t1' : w2.cell? ⟨w.heap.size + 1 + 1 + 1, 1, none⟩ = some (.int .u64 b.f0.f1) := pw_cell_below hb2 (by simp [go_sem, t0, t1, t2, t3, b0, b1, b2, b3, r0, r1, r2, r3, y0, y1, y2, y3, z0, z1, z2, z3, st, sr, sb])
      have t2' : w2.cell? ⟨w.heap.size + 1 + 1 + 1, 2, none⟩ = some (.int .u64 a.f1.f0) := pw_cell_below hb2 (by simp [go_sem, t0, t1, t2, t3, b0, b1, b2, b3, r0, r1, r2, r3, y0, y1, y2, y3, z0, z1, z2, z3, st, sr, sb])
      have t3' : w2.cell? ⟨w.heap.size + 1 + 1 + 1, 3, none⟩ = some (.int .u64 a.f1.f1) := pw_cell_below hb2 (by simp [go_sem, t0, t1, t2, t3, b0, b1, b2, b3, r0, r1, r2, r3, y0, y1, y2, y3, z0, z1, z2, z3, st, sr, sb])
      have b0' : w2.cell? ⟨w.heap.size + 1, 0, none⟩ = some (.int .u64 b.f0.f0) := pw_cell_below hb2 (by simp [go_sem, t0, t1, t2, t3, b0, b1, b2, b3, r0, r1, r2, r3, y0, y1, y2, y3, z0, z1, z2, z3, st, sr, sb])
      have b1' : w2.cell? ⟨w.heap.size + 1, 1, none⟩ = some (.int .u64 b.f0.f1) := pw_cell_below hb2 (by simp [go_sem, t0, t1, t2, t3, b0, b1, b2, b3, r0, r1, r2, r3, y0, y1, y2, y3, z0, z1, z2, z3, st, sr, sb])
      have b2' : w2.cell? ⟨w.heap.size + 1, 2, none⟩ = some (.int .u64 b.f1.f0) := pw_cell_below hb2 (by simp [go_sem, t0, t1, t2, t3, b0, b1, b2, b3, r0, r1, r2, r3, y0, y1, y2, y3, z0, z1, z2, z3, st, sr, sb])
      have b3' : w2.cell? ⟨w.heap.size + 1, 3, none⟩ = some (.int .u64 b.f1.f1) := pw_cell_below hb2 (by simp [go_sem, t0, t1, t2, t3, b0, b1, b2, b3, r0, r1, r2, r3, y0, y1, y2, y3, z0, z1, z2, z3, st, sr, sb])
      have r0' : w2.cell? ⟨w.heap.size + 1 + 1, 0, none⟩ = some (.int .u64 0) := pw_cell_below hb2 (by simp [go_sem, t0, t1, t2, t3, b0, b1, b2, b3, r0, r1, r2, r3, y0, y1, y2, y3, z0, z1, z2, z3, st, sr, sb])
      have r1' : w2.cell? ⟨w.heap.size + 1 + 1, 1, none⟩ = some (.int .u64 0) := pw_cell_below hb2 (by simp [go_sem, t0, t1, t2, t3, b0, b1, b2, b3, r0, r1, r2, r3, y0, y1, y2, y3, z0, z1, z2, z3, st, sr, sb])
      have r2' : w2.cell? ⟨w.heap.size + 1 + 1, 2, none⟩ = some (.int .u64 0) := pw_cell_below hb2 (by simp [go_sem, t0, t1, t2, t3, b0, b1, b2, b3, r0, r1, r2, r3, y0, y1, y2, y3, z0, z1, z2, z3, st, sr, sb])
      have r3' : w2.cell? ⟨w.heap.size + 1 + 1, 3, none⟩ = some (.int .u64 0) := pw_cell_below hb2 (by simp [go_sem, t0, t1, t2, t3, b0, b1, b2, b3, r0, r1, r2, r3, y0, y1, y2, y3, z0, z1, z2, z3, st, sr, sb])
      have y0' : w2.frozen? ⟨w.heap.size + 1 + 1 + 1, 0, none⟩ = false := (hb2.frozen (p := ⟨w.heap.size + 1 + 1 + 1, 0, none⟩) (by first | (simp; omega) | (simp; done))).trans (by simp [go_sem, t0, t1, t2, t3, b0, b1, b2, b3, r0, r1, r2, r3, y0, y1, y2, y3, z0, z1, z2, z3, st, sr, sb])
      have y1' : w2.frozen? ⟨w.heap.size + 1 + 1 + 1, 1, none⟩ = false := (hb2.frozen (p := ⟨w.heap.size + 1 + 1 + 1, 1, none⟩) (by first | (simp; omega) | (simp; done))).trans (by simp [go_sem, t0, t1, t2, t3, b0, b1, b2, b3, r0, r1, r2, r3, y0, y1, y2, y3, z0, z1, z2, z3, st, sr, sb])
      have y2' : w2.frozen? ⟨w.heap.size + 1 + 1 + 1, 2, none⟩ = false := (hb2.frozen (p := ⟨w.heap.size + 1 + 1 + 1, 2, none⟩) (by first | (simp; omega) | (simp; done))).trans (by simp [go_sem, t0, t1, t2, t3, b0, b1, b2, b3, r0, r1, r2, r3, y0, y1, y2, y3, z0, z1, z2, z3, st, sr, sb])
      have y3' : w2.frozen? ⟨w.heap.size + 1 + 1 + 1, 3, none⟩ = false := (hb2.frozen (p := ⟨w.heap.size + 1 + 1 + 1, 3, none⟩) (by first | (simp; omega) | (simp; done))).trans (by simp [go_sem, t0, t1, t2, t3, b0, b1, b2, b3, r0, r1, r2, r3, y0, y1, y2, y3, z0, z1, z2, z3, st, sr, sb])
      have z0' : w2.frozen? ⟨w.heap.size + 1 + 1, 0, none⟩ = false := (hb2.frozen (p := ⟨w.heap.size + 1 + 1, 0, none⟩) (by first | (simp; omega) | (simp; done))).trans (by simp [go_sem, t0, t1, t2, t3, b0, b1, b2, b3, r0, r1, r2, r3, y0, y1, y2, y3, z0, z1, z2, z3, st, sr, sb])
      have z1' : w2.frozen? ⟨w.heap.size + 1 + 1, 1, none⟩ = false := (hb2.frozen (p := ⟨w.heap.size + 1 + 1, 1, none⟩) (by first | (simp; omega) | (simp; done))).trans (by simp [go_sem, t0, t1, t2, t3, b0, b1, b2, b3, r0, r1, r2, r3, y0, y1, y2, y3, z0, z1, z2, z3, st, sr, sb])
      have z2' : w2.frozen? ⟨w.heap.size + 1 + 1, 2, none⟩ = false := (hb2.frozen (p := ⟨w.heap.size + 1 + 1, 2, none⟩) (by first | (simp; omega) | (simp; done))).trans (by simp [go_sem, t0, t1, t2, t3, b0, b1, b2, b3, r0, r1, r2, r3, y0, y1, y2, y3, z0, z1, z2, z3, st, sr, sb])
      have z3' : w2.frozen? ⟨w.heap.size + 1 + 1, 3, none⟩ = false := (hb2.frozen (p := ⟨w.heap.size + 1 + 1, 3, none⟩) (by first | (simp; omega) | (simp; done))).trans (by simp [go_sem, t0, t1, t2, t3, b0, b1, b2, b3, r0, r1, r2, r3, y0, y1, y2, y3, z0, z1, z2, z3, st, sr, sb])
      have st' : w.heap.size + 1 + 1 + 1 < w2.heap.size := World.block_lt_of_cell? w2 _ t0'
      have sr' : w.heap.size + 1 + 1 < w2.heap.size := by omega
      have sb' : w.heap.size + 1 < w2.heap.size := by omega
      clear t0 t1 t2 t3 b0 b1 b2 b3 r0 r1 r2 r3 y0 y1 y2 y3 z0 z1 z2 z3 st sr sb
      have t0 := t0'
      clear t0'
      have t1 := t1'
      clear t1'
      have t2 := t2'
      clear t2'
      have t3 := t3'
      clear t3'
      have b0 := b0'
      clear b0'
      have b1 := b1'
      clear b1'
      have b2 := b2'
      clear b2'
      have b3 := b3'
      clear b3'
      have r0 := r0'
      clear r0'
      have r1 := r1'
      clear r1'
      have r2 := r2'
      clear r2'
      have r3 := r3'
      clear r3'
      have y0 := y0'
      clear y0'
      have y1 := y1'
      clear y1'
      have y2 := y2'
      clear y2'
      have y3 := y3'
      clear y3'
      have z0 := z0'
      clear z0'
      have z1 := z1'
      clear z1'
      have z2 := z2'
      clear z2'
      have z3 := z3'
      clear z3'
      have st := st'
      clear st'
      have sr := sr'
      clear sr'
      have sb := sb'
      clear sb'
      have V1 := Aside0.mk v1
      clear hb2 v1
      go_wp2_with fail
      have M := Aside0.mk (meet_of (a) (b) V0.out V1.out)
      cases v2 : decide (cmpA b.f1 b.f0 < 0) with
      | true =>
        refine (HLs.out b.f1 b.f0 true v2 _).mono ?_
        rintro e w3 ⟨rfl, hb3⟩
        have HB3 := Aside0.mk (kbelow hb3 (show Below w.heap.size w _ by have HH := HB2.out; go_grown))
        have t0' : w3.cell? ⟨w.heap.size + 1 + 1 + 1, 0, none⟩ = some (.int .u64 b.f0.f0) := pw_cell_below hb3 (by simp [go_sem, t0, t1, t2, t3, b0, b1, b2, b3, r0, r1, r2, r3, y0, y1, y2, y3, z0, z1, z2, z3, st, sr, sb])
        have t1' : w3.cell? ⟨w.heap.size + 1 + 1 + 1, 1, none⟩ = some (.int .u64 b.f0.f1) := pw_cell_below hb3 (by simp [go_sem, t0, t1, t2, t3, b0, b1, b2, b3, r0, r1, r2, r3, y0, y1, y2, y3, z0, z1, z2, z3, st, sr, sb])
        have t2' : w3.cell? ⟨w.heap.size + 1 + 1 + 1, 2, none⟩ = some (.int .u64 b.f1.f0) := pw_cell_below hb3 (by simp [go_sem, t0, t1, t2, t3, b0, b1, b2, b3, r0, r1, r2, r3, y0, y1, y2, y3, z0, z1, z2, z3, st, sr, sb])
        have t3' : w3.cell? ⟨w.heap.size + 1 + 1 + 1, 3, none⟩ = some (.int .u64 b.f1.f1) := pw_cell_below hb3 (by simp [go_sem, t0, t1, t2, t3, b0, b1, b2, b3, r0, r1, r2, r3, y0, y1, y2, y3, z0, z1, z2, z3, st, sr, sb])
        have b0' : w3.cell? ⟨w.heap.size + 1, 0, none⟩ = some (.int .u64 b.f0.f0) := pw_cell_below hb3 (by simp [go_sem, t0, t1, t2, t3, b0, b1, b2, b3, r0, r1, r2, r3, y0, y1, y2, y3, z0, z1, z2, z3, st, sr, sb])
        have b1' : w3.cell? ⟨w.heap.size + 1, 1, none⟩ = some (.int .u64 b.f0.f1) := pw_cell_below hb3 (by simp [go_sem, t0, t1, t2, t3, b0, b1, b2, b3, r0, r1, r2, r3, y0, y1, y2, y3, z0, z1, z2, z3, st, sr, sb])
        have b2' : w3.cell? ⟨w.heap.size + 1, 2, none⟩ = some (.int .u64 b.f1.f0) := pw_cell_below hb3 (by simp [go_sem, t0, t1, t2, t3, b0, b1, b2, b3, r0, r1, r2, r3, y0, y1, y2, y3, z0, z1, z2, z3, st, sr, sb])
        have b3' : w3.cell? ⟨w.heap.size + 1, 3, none⟩ = some (.int .u64 b.f1.f1) := pw_cell_below hb3 (by simp [go_sem, t0, t1, t2, t3, b0, b1, b2, b3, r0, r1, r2, r3, y0, y1, y2, y3, z0, z1, z2, z3, st, sr, sb])
        have r0' : w3.cell? ⟨w.heap.size + 1 + 1, 0, none⟩ = some (.int .u64 0) := pw_cell_below hb3 (by simp [go_sem, t0, t1, t2, t3, b0, b1, b2, b3, r0, r1, r2, r3, y0, y1, y2, y3, z0, z1, z2, z3, st, sr, sb])
        have r1' : w3.cell? ⟨w.heap.size + 1 + 1, 1, none⟩ = some (.int .u64 0) := pw_cell_below hb3 (by simp [go_sem, t0, t1, t2, t3, b0, b1, b2, b3, r0, r1, r2, r3, y0, y1, y2, y3, z0, z1, z2, z3, st, sr, sb])
        have r2' : w3.cell? ⟨w.heap.size + 1 + 1, 2, none⟩ = some (.int .u64 0) := pw_cell_below hb3 (by simp [go_sem, t0, t1, t2, t3, b0, b1, b2, b3, r0, r1, r2, r3, y0, y1, y2, y3, z0, z1, z2, z3, st, sr, sb])
        have r3' : w3.cell? ⟨w.heap.size + 1 + 1, 3, none⟩ = some (.int .u64 0) := pw_cell_below hb3 (by simp [go_sem, t0, t1, t2, t3, b0, b1, b2, b3, r0, r1, r2, r3, y0, y1, y2, y3, z0, z1, z2, z3, st, sr, sb])
        have y0' : w3.frozen? ⟨w.heap.size + 1 + 1 + 1, 0, none⟩ = false := (hb3.frozen (p := ⟨w.heap.size + 1 + 1 + 1, 0, none⟩) (by first | (simp; omega) | (simp; done))).trans (by simp [go_sem, t0, t1, t2, t3, b0, b1, b2, b3, r0, r1, r2, r3, y0, y1, y2, y3, z0, z1, z2, z3, st, sr, sb])
        have y1' : w3.frozen? ⟨w.heap.size + 1 + 1 + 1, 1, none⟩ = false := (hb3.frozen (p := ⟨w.heap.size + 1 + 1 + 1, 1, none⟩) (by first | (simp; omega) | (simp; done))).trans (by simp [go_sem, t0, t1, t2, t3, b0, b1, b2, b3, r0, r1, r2, r3, y0, y1, y2, y3, z0, z1, z2, z3, st, sr, sb])
        have y2' : w3.frozen? ⟨w.heap.size + 1 + 1 + 1, 2, none⟩ = false := (hb3.frozen (p := ⟨w.heap.size + 1 + 1 + 1, 2, none⟩) (by first | (simp; omega) | (simp; done))).trans (by simp [go_sem, t0, t1, t2, t3, b0, b1, b2, b3, r0, r1, r2, r3, y0, y1, y2, y3, z0, z1, z2, z3, st, sr, sb])
        have y3' : w3.frozen? ⟨w.heap.size + 1 + 1 + 1, 3, none⟩ = false := (hb3.frozen (p := ⟨w.heap.size + 1 + 1 + 1, 3, none⟩) (by first | (simp; omega) | (simp; done))).trans (by simp [go_sem, t0, t1, t2, t3, b0, b1, b2, b3, r0, r1, r2, r3, y0, y1, y2, y3, z0, z1, z2, z3, st, sr, sb])
        have z0' : w3.frozen? ⟨w.heap.size + 1 + 1, 0, none⟩ = false := (hb3.frozen (p := ⟨w.heap.size + 1 + 1, 0, none⟩) (by first | (simp; omega) | (simp; done))).trans (by simp [go_sem, t0, t1, t2, t3, b0, b1, b2, b3, r0, r1, r2, r3, y0, y1, y2, y3, z0, z1, z2, z3, st, sr, sb])
        have z1' : w3.frozen? ⟨w.heap.size + 1 + 1, 1, none⟩ = false := (hb3.frozen (p := ⟨w.heap.size + 1 + 1, 1, none⟩) (by first | (simp; omega) | (simp; done))).trans (by simp [go_sem, t0, t1, t2, t3, b0, b1, b2, b3, r0, r1, r2, r3, y0, y1, y2, y3, z0, z1, z2, z3, st, sr, sb])
        have z2' : w3.frozen? ⟨w.heap.size + 1 + 1, 2, none⟩ = false := (hb3.frozen (p := ⟨w.heap.size + 1 + 1, 2, none⟩) (by first | (simp; omega) | (simp; done))).trans (by simp [go_sem, t0, t1, t2, t3, b0, b1, b2, b3, r0, r1, r2, r3, y0, y1, y2, y3, z0, z1, z2, z3, st, sr, sb])
        have z3' : w3.frozen? ⟨w.heap.size + 1 + 1, 3, none⟩ = false := (hb3.frozen (p := ⟨w.heap.size + 1 + 1, 3, none⟩) (by first | (simp; omega) | (simp; done))).trans (by simp [go_sem, t0, t1, t2, t3, b0, b1, b2, b3, r0, r1, r2, r3, y0, y1, y2, y3, z0, z1, z2, z3, st, sr, sb])
        have st' : w.heap.size + 1 + 1 + 1 < w3.heap.size := World.block_lt_of_cell? w3 _ t0'
        have sr' : w.heap.size + 1 + 1 < w3.heap.size := by omega
        have sb' : w.heap.size + 1 < w3.heap.size := by omega
        clear t0 t1 t2 t3 b0 b1 b2 b3 r0 r1 r2 r3 y0 y1 y2 y3 z0 z1 z2 z3 st sr sb
        have t0 := t0'
        clear t0'
        have t1 := t1'
        clear t1'
        have t2 := t2'
        clear t2'
        have t3 := t3'
        clear t3'
        have b0 := b0'
        clear b0'
        have b1 := b1'
        clear b1'
        have b2 := b2'
        clear b2'
        have b3 := b3'
        clear b3'
        have r0 := r0'
        clear r0'
        have r1 := r1'
        clear r1'
        have r2 := r2'
        clear r2'
        have r3 := r3'
        clear r3'
        have y0 := y0'
        clear y0'
        have y1 := y1'
        clear y1'
        have y2 := y2'
        clear y2'
        have y3 := y3'
        clear y3'
        have z0 := z0'
        clear z0'
        have z1 := z1'
        clear z1'
        have z2 := z2'
        clear z2'
        have z3 := z3'
        clear z3'
        have st := st'
        clear st'
        have sr := sr'
        clear sr'
        have sb := sb'
        clear sb'
        have H := Aside0.mk (meet_end M.out v2)
        clear hb3 v2
        go_wp2
        refine bodyPost_ret (v := .tuple #[.agg #[.int .u64 0, .int .u64 0, .int .u64 0, .int .u64 0], .bool false]) (by simp [results, Try.results37, go_sem, r0, r1, r2, r3, sr]) rfl ?_
        exact ⟨by rw [H.out]; rfl, by have HH := HB3.out; go_grown⟩
      | false =>
        refine (HLs.out b.f1 b.f0 false v2 _).mono ?_
        rintro e w3 ⟨rfl, hb3⟩
        have HB3 := Aside0.mk (kbelow hb3 (show Below w.heap.size w _ by have HH := HB2.out; go_grown))
        have t0' : w3.cell? ⟨w.heap.size + 1 + 1 + 1, 0, none⟩ = some (.int .u64 b.f0.f0) := pw_cell_below hb3 (by simp [go_sem, t0, t1, t2, t3, b0, b1, b2, b3, r0, r1, r2, r3, y0, y1, y2, y3, z0, z1, z2, z3, st, sr, sb])
        have t1' : w3.cell? ⟨w.heap.size + 1 + 1 + 1, 1, none⟩ = some (.int .u64 b.f0.f1) := pw_cell_below hb3 (by simp [go_sem, t0, t1, t2, t3, b0, b1, b2, b3, r0, r1, r2, r3, y0, y1, y2, y3, z0, z1, z2, z3, st, sr, sb])
        have t2' : w3.cell? ⟨w.heap.size + 1 + 1 + 1, 2, none⟩ = some (.int .u64 b.f1.f0) := pw_cell_below hb3 (by simp [go_sem, t0, t1, t2, t3, b0, b1, b2, b3, r0, r1, r2, r3, y0, y1, y2, y3, z0, z1, z2, z3, st, sr, sb])
        have t3' : w3.cell? ⟨w.heap.size + 1 + 1 + 1, 3, none⟩ = some (.int .u64 b.f1.f1) := pw_cell_below hb3 (by simp [go_sem, t0, t1, t2, t3, b0, b1, b2, b3, r0, r1, r2, r3, y0, y1, y2, y3, z0, z1, z2, z3, st, sr, sb])
        have b0' : w3.cell? ⟨w.heap.size + 1, 0, none⟩ = some (.int .u64 b.f0.f0) := pw_cell_below hb3 (by simp [go_sem, t0, t1, t2, t3, b0, b1, b2, b3, r0, r1, r2, r3, y0, y1, y2, y3, z0, z1, z2, z3, st, sr, sb])
        have b1' : w3.cell? ⟨w.heap.size + 1, 1, none⟩ = some (.int .u64 b.f0.f1) := pw_cell_below hb3 (by simp [go_sem, t0, t1, t2, t3, b0, b1, b2, b3, r0, r1, r2, r3, y0, y1, y2, y3, z0, z1, z2, z3, st, sr, sb])
        have b2' : w3.cell? ⟨w.heap.size + 1, 2, none⟩ = some (.int .u64 b.f1.f0) := pw_cell_below hb3 (by simp [go_sem, t0, t1, t2, t3, b0, b1, b2, b3, r0, r1, r2, r3, y0, y1, y2, y3, z0, z1, z2, z3, st, sr, sb])
        have b3' : w3.cell? ⟨w.heap.size + 1, 3, none⟩ = some (.int .u64 b.f1.f1) := pw_cell_below hb3 (by simp [go_sem, t0, t1, t2, t3, b0, b1, b2, b3, r0, r1, r2, r3, y0, y1, y2, y3, z0, z1, z2, z3, st, sr, sb])
        have r0' : w3.cell? ⟨w.heap.size + 1 + 1, 0, none⟩ = some (.int .u64 0) := pw_cell_below hb3 (by simp [go_sem, t0, t1, t2, t3, b0, b1, b2, b3, r0, r1, r2, r3, y0, y1, y2, y3, z0, z1, z2, z3, st, sr, sb])
        have r1' : w3.cell? ⟨w.heap.size + 1 + 1, 1, none⟩ = some (.int .u64 0) := pw_cell_below hb3 (by simp [go_sem, t0, t1, t2, t3, b0, b1, b2, b3, r0, r1, r2, r3, y0, y1, y2, y3, z0, z1, z2, z3, st, sr, sb])
        have r2' : w3.cell? ⟨w.heap.size + 1 + 1, 2, none⟩ = some (.int .u64 0) := pw_cell_below hb3 (by simp [go_sem, t0, t1, t2, t3, b0, b1, b2, b3, r0, r1, r2, r3, y0, y1, y2, y3, z0, z1, z2, z3, st, sr, sb])
        have r3' : w3.cell? ⟨w.heap.size + 1 + 1, 3, none⟩ = some (.int .u64 0) := pw_cell_below hb3 (by simp [go_sem, t0, t1, t2, t3, b0, b1, b2, b3, r0, r1, r2, r3, y0, y1, y2, y3, z0, z1, z2, z3, st, sr, sb])
        have y0' : w3.frozen? ⟨w.heap.size + 1 + 1 + 1, 0, none⟩ = false := (hb3.frozen (p := ⟨w.heap.size + 1 + 1 + 1, 0, none⟩) (by first | (simp; omega) | (simp; done))).trans (by simp [go_sem, t0, t1, t2, t3, b0, b1, b2, b3, r0, r1, r2, r3, y0, y1, y2, y3, z0, z1, z2, z3, st, sr, sb])
        have y1' : w3.frozen? ⟨w.heap.size + 1 + 1 + 1, 1, none⟩ = false := (hb3.frozen (p := ⟨w.heap.size + 1 + 1 + 1, 1, none⟩) (by first | (simp; omega) | (simp; done))).trans (by simp [go_sem, t0, t1, t2, t3, b0, b1, b2, b3, r0, r1, r2, r3, y0, y1, y2, y3, z0, z1, z2, z3, st, sr, sb])
        have y2' : w3.frozen? ⟨w.heap.size + 1 + 1 + 1, 2, none⟩ = false := (hb3.frozen (p := ⟨w.heap.size + 1 + 1 + 1, 2, none⟩) (by first | (simp; omega) | (simp; done))).trans (by simp [go_sem, t0, t1, t2, t3, b0, b1, b2, b3, r0, r1, r2, r3, y0, y1, y2, y3, z0, z1, z2, z3, st, sr, sb])
        have y3' : w3.frozen? ⟨w.heap.size + 1 + 1 + 1, 3, none⟩ = false := (hb3.frozen (p := ⟨w.heap.size + 1 + 1 + 1, 3, none⟩) (by first | (simp; omega) | (simp; done))).trans (by simp [go_sem, t0, t1, t2, t3, b0, b1, b2, b3, r0, r1, r2, r3, y0, y1, y2, y3, z0, z1, z2, z3, st, sr, sb])
        have z0' : w3.frozen? ⟨w.heap.size + 1 + 1, 0, none⟩ = false := (hb3.frozen (p := ⟨w.heap.size + 1 + 1, 0, none⟩) (by first | (simp; omega) | (simp; done))).trans (by simp [go_sem, t0, t1, t2, t3, b0, b1, b2, b3, r0, r1, r2, r3, y0, y1, y2, y3, z0, z1, z2, z3, st, sr, sb])
        have z1' : w3.frozen? ⟨w.heap.size + 1 + 1, 1, none⟩ = false := (hb3.frozen (p := ⟨w.heap.size + 1 + 1, 1, none⟩) (by first | (simp; omega) | (simp; done))).trans (by simp [go_sem, t0, t1, t2, t3, b0, b1, b2, b3, r0, r1, r2, r3, y0, y1, y2, y3, z0, z1, z2, z3, st, sr, sb])
        have z2' : w3.frozen? ⟨w.heap.size + 1 + 1, 2, none⟩ = false := (hb3.frozen (p := ⟨w.heap.size + 1 + 1, 2, none⟩) (by first | (simp; omega) | (simp; done))).trans (by simp [go_sem, t0, t1, t2, t3, b0, b1, b2, b3, r0, r1, r2, r3, y0, y1, y2, y3, z0, z1, z2, z3, st, sr, sb])
        have z3' : w3.frozen? ⟨w.heap.size + 1 + 1, 3, none⟩ = false := (hb3.frozen (p := ⟨w.heap.size + 1 + 1, 3, none⟩) (by first | (simp; omega) | (simp; done))).trans (by simp [go_sem, t0, t1, t2, t3, b0, b1, b2, b3, r0, r1, r2, r3, y0, y1, y2, y3, z0, z1, z2, z3, st, sr, sb])
        have st' : w.heap.size + 1 + 1 + 1 < w3.heap.size := World.block_lt_of_cell? w3 _ t0'
        have sr' : w.heap.size + 1 + 1 < w3.heap.size := by omega
        have sb' : w.heap.size + 1 < w3.heap.size := by omega
        clear t0 t1 t2 t3 b0 b1 b2 b3 r0 r1 r2 r3 y0 y1 y2 y3 z0 z1 z2 z3 st sr sb
        have t0 := t0'
        clear t0'
        have t1 := t1'
        clear t1'
        have t2 := t2'
        clear t2'
        have t3 := t3'
        clear t3'
        have b0 := b0'
        clear b0'
        have b1 := b1'
        clear b1'
        have b2 := b2'
        clear b2'
        have b3 := b3'
        clear b3'
        have r0 := r0'
        clear r0'
        have r1 := r1'
        clear r1'
        have r2 := r2'
        clear r2'
        have r3 := r3'
        clear r3'
        have y0 := y0'
        clear y0'
        have y1 := y1'
        clear y1'
        have y2 := y2'
        clear y2'
        have y3 := y3'
        clear y3'
        have z0 := z0'
        clear z0'
        have z1 := z1'
        clear z1'
        have z2 := z2'
        clear z2'
        have z3 := z3'
        clear z3'
        have st := st'
        clear st'
        have sr := sr'
        clear sr'
        have sb := sb'
        clear sb'
        have H := Aside0.mk (meet_end M.out v2)
        clear hb3 v2
        go_wp2
        refine bodyPost_ret (v := .tuple #[.agg #[.int .u64 b.f0.f0, .int .u64 b.f0.f1, .int .u64 b.f1.f0, .int .u64 b.f1.f1], .bool true]) (by simp [results, Try.results37, go_sem, r0, r1, r2, r3, sr]) rfl ?_
        exact ⟨by rw [H.out]; rfl, by have HH := HB3.out; go_grown⟩
    | false =>
      refine (HLs.out b.f1 a.f1 false v1 _).mono ?_
      rintro e w2 ⟨rfl, hb2⟩
      have HB2 := Aside0.mk (kbelow hb2 (show Below w.heap.size w _ by have HH := HB1.out; go_grown))
      have t0' : w2.cell? ⟨w.heap.size + 1 + 1 + 1, 0, none⟩ = some (.int .u64 b.f0.f0) := pw_cell_below hb2 (by simp [go_sem, t0, t1, t2, t3, b0, b1, b2, b3, r0, r1, r2, r3, y0, y1, y2, y3, z0, z1, z2, z3, st, sr, sb])
      have t1' : w2.cell? ⟨w.heap.size + 1 + 1 + 1, 1, none⟩ = some (.int .u64 b.f0.f1) := pw_cell_below hb2 (by simp [go_sem, t0, t1, t2, t3, b0, b1, b2, b3, r0, r1, r2, r3, y0, y1, y2, y3, z0, z1, z2, z3, st, sr, sb])
      have t2' : w2.cell? ⟨w.heap.size + 1 + 1 + 1, 2, none⟩ = some (.int .u64 a.f1.f0) := pw_cell_below hb2 (by simp [go_sem, t0, t1, t2, t3, b0, b1, b2, b3, r0, r1, r2, r3, y0, y1, y2, y3, z0, z1, z2, z3, st, sr, sb])
      have t3' : w2.cell? ⟨w.heap.size + 1 + 1 + 1, 3, none⟩ = some (.int .u64 a.f1.f1) := pw_cell_below hb2 (by simp [go_sem, t0, t1, t2, t3, b0, b1, b2, b3, r0, r1, r2, r3, y0, y1, y2, y3, z0, z1, z2, z3, st, sr, sb])
      have b0' : w2.cell? ⟨w.heap.size + 1, 0, none⟩ = some (.int .u64 b.f0.f0) := pw_cell_below hb2 (by simp [go_sem, t0, t1, t2, t3, b0, b1, b2, b3, r0, r1, r2, r3, y0, y1, y2, y3, z0, z1, z2, z3, st, sr, sb])
      have b1' : w2.cell? ⟨w.heap.size + 1, 1, none⟩ = some (.int .u64 b.f0.f1) := pw_cell_below hb2 (by simp [go_sem, t0, t1, t2, t3, b0, b1, b2, b3, r0, r1, r2, r3, y0, y1, y2, y3, z0, z1, z2, z3, st, sr, sb])
      have b2' : w2.cell? ⟨w.heap.size + 1, 2, none⟩ = some (.int .u64 b.f1.f0) := pw_cell_below hb2 (by simp [go_sem, t0, t1, t2, t3, b0, b1, b2, b3, r0, r1, r2, r3, y0, y1, y2, y3, z0, z1, z2, z3, st, sr, sb])
      have b3' : w2.cell? ⟨w.heap.size + 1, 3, none⟩ = some (.int .u64 b.f1.f1) := pw_cell_below hb2 (by simp [go_sem, t0, t1, t2, t3, b0, b1, b2, b3, r0, r1, r2, r3, y0, y1, y2, y3, z0, z1, z2, z3, st, sr, sb])
      have r0' : w2.cell? ⟨w.heap.size + 1 + 1, 0, none⟩ = some (.int .u64 0) := pw_cell_below hb2 (by simp [go_sem, t0, t1, t2, t3, b0, b1, b2, b3, r0, r1, r2, r3, y0, y1, y2, y3, z0, z1, z2, z3, st, sr, sb])
      have r1' : w2.cell? ⟨w.heap.size + 1 + 1, 1, none⟩ = some (.int .u64 0) := pw_cell_below hb2 (by simp [go_sem, t0, t1, t2, t3, b0, b1, b2, b3, r0, r1, r2, r3, y0, y1, y2, y3, z0, z1, z2, z3, st, sr, sb])
      have r2' : w2.cell? ⟨w.heap.size + 1 + 1, 2, none⟩ = some (.int .u64 0) := pw_cell_below hb2 (by simp [go_sem, t0, t1, t2, t3, b0, b1, b2, b3, r0, r1, r2, r3, y0, y1, y2, y3, z0, z1, z2, z3, st, sr, sb])
      have r3' : w2.cell? ⟨w.heap.size + 1 + 1, 3, none⟩ = some (.int .u64 0) := pw_cell_below hb2 (by simp [go_sem, t0, t1, t2, t3, b0, b1, b2, b3, r0, r1, r2, r3, y0, y1, y2, y3, z0, z1, z2, z3, st, sr, sb])
      have y0' : w2.frozen? ⟨w.heap.size + 1 + 1 + 1, 0, none⟩ = false := (hb2.frozen (p := ⟨w.heap.size + 1 + 1 + 1, 0, none⟩) (by first | (simp; omega) | (simp; done))).trans (by simp [go_sem, t0, t1, t2, t3, b0, b1, b2, b3, r0, r1, r2, r3, y0, y1, y2, y3, z0, z1, z2, z3, st, sr, sb])
      have y1' : w2.frozen? ⟨w.heap.size + 1 + 1 + 1, 1, none⟩ = false := (hb2.frozen (p := ⟨w.heap.size + 1 + 1 + 1, 1, none⟩) (by first | (simp; omega) | (simp; done))).trans (by simp [go_sem, t0, t1, t2, t3, b0, b1, b2, b3, r0, r1, r2, r3, y0, y1, y2, y3, z0, z1, z2, z3, st, sr, sb])
      have y2' : w2.frozen? ⟨w.heap.size + 1 + 1 + 1, 2, none⟩ = false := (hb2.frozen (p := ⟨w.heap.size + 1 + 1 + 1, 2, none⟩) (by first | (simp; omega) | (simp; done))).trans (by simp [go_sem, t0, t1, t2, t3, b0, b1, b2, b3, r0, r1, r2, r3, y0, y1, y2, y3, z0, z1, z2, z3, st, sr, sb])
      have y3' : w2.frozen? ⟨w.heap.size + 1 + 1 + 1, 3, none⟩ = false := (hb2.frozen (p := ⟨w.heap.size + 1 + 1 + 1, 3, none⟩) (by first | (simp; omega) | (simp; done))).trans (by simp [go_sem, t0, t1, t2, t3, b0, b1, b2, b3, r0, r1, r2, r3, y0, y1, y2, y3, z0, z1, z2, z3, st, sr, sb])
      have z0' : w2.frozen? ⟨w.heap.size + 1 + 1, 0, none⟩ = false := (hb2.frozen (p := ⟨w.heap.size + 1 + 1, 0, none⟩) (by first | (simp; omega) | (simp; done))).trans (by simp [go_sem, t0, t1, t2, t3, b0, b1, b2, b3, r0, r1, r2, r3, y0, y1, y2, y3, z0, z1, z2, z3, st, sr, sb])
      have z1' : w2.frozen? ⟨w.heap.size + 1 + 1, 1, none⟩ = false := (hb2.frozen (p := ⟨w.heap.size + 1 + 1, 1, none⟩) (by first | (simp; omega) | (simp; done))).trans (by simp [go_sem, t0, t1, t2, t3, b0, b1, b2, b3, r0, r1, r2, r3, y0, y1, y2, y3, z0, z1, z2, z3, st, sr, sb])
      have z2' : w2.frozen? ⟨w.heap.size + 1 + 1, 2, none⟩ = false := (hb2.frozen (p := ⟨w.heap.size + 1 + 1, 2, none⟩) (by first | (simp; omega) | (simp; done))).trans (by simp [go_sem, t0, t1, t2, t3, b0, b1, b2, b3, r0, r1, r2, r3, y0, y1, y2, y3, z0, z1, z2, z3, st, sr, sb])
      have z3' : w2.frozen? ⟨w.heap.size + 1 + 1, 3, none⟩ = false := (hb2.frozen (p := ⟨w.heap.size + 1 + 1, 3, none⟩) (by first | (simp; omega) | (simp; done))).trans (by simp [go_sem, t0, t1, t2, t3, b0, b1, b2, b3, r0, r1, r2, r3, y0, y1, y2, y3, z0, z1, z2, z3, st, sr, sb])
      have st' : w.heap.size + 1 + 1 + 1 < w2.heap.size := World.block_lt_of_cell? w2 _ t0'
      have sr' : w.heap.size + 1 + 1 < w2.heap.size := by omega
      have sb' : w.heap.size + 1 < w2.heap.size := by omega
      clear t0 t1 t2 t3 b0 b1 b2 b3 r0 r1 r2 r3 y0 y1 y2 y3 z0 z1 z2 z3 st sr sb
      have t0 := t0'
      clear t0'
      have t1 := t1'
      clear t1'
      have t2 := t2'
      clear t2'
      have t3 := t3'
      clear t3'
      have b0 := b0'
      clear b0'
      have b1 := b1'
      clear b1'
      have b2 := b2'
      clear b2'
      have b3 := b3'
      clear b3'
      have r0 := r0'
      clear r0'
      have r1 := r1'
      clear r1'
      have r2 := r2'
      clear r2'
      have r3 := r3'
      clear r3'
      have y0 := y0'
      clear y0'
      have y1 := y1'
      clear y1'
      have y2 := y2'
      clear y2'
      have y3 := y3'
      clear y3'
      have z0 := z0'
      clear z0'
      have z1 := z1'
      clear z1'
      have z2 := z2'
      clear z2'
      have z3 := z3'
      clear z3'
      have st := st'
      clear st'
      have sr := sr'
      clear sr'
      have sb := sb'
      clear sb'
      have V1 := Aside0.mk v1
      clear hb2 v1
      go_wp2_with fail
      have M := Aside0.mk (meet_of (a) (b) V0.out V1.out)
      cases v2 : decide (cmpA a.f1 b.f0 < 0) with
      | true =>
        refine (HLs.out a.f1 b.f0 true v2 _).mono ?_
        rintro e w3 ⟨rfl, hb3⟩
        have HB3 := Aside0.mk (kbelow hb3 (show Below w.heap.size w _ by have HH := HB2.out; go_grown))
        have t0' : w3.cell? ⟨w.heap.size + 1 + 1 + 1, 0, none⟩ = some (.int .u64 b.f0.f0) := pw_cell_below hb3 (by simp [go_sem, t0, t1, t2, t3, b0, b1, b2, b3, r0, r1, r2, r3, y0, y1, y2, y3, z0, z1, z2, z3, st, sr, sb])
        have t1' : w3.cell? ⟨w.heap.size + 1 + 1 + 1, 1, none⟩ = some (.int .u64 b.f0.f1) := pw_cell_below hb3 (by simp [go_sem, t0, t1, t2, t3, b0, b1, b2, b3, r0, r1, r2, r3, y0, y1, y2, y3, z0, z1, z2, z3, st, sr, sb])
        have t2' : w3.cell? ⟨w.heap.size + 1 + 1 + 1, 2, none⟩ = some (.int .u64 a.f1.f0) := pw_cell_below hb3 (by simp [go_sem, t0, t1, t2, t3, b0, b1, b2, b3, r0, r1, r2, r3, y0, y1, y2, y3, z0, z1, z2, z3, st, sr, sb])
        have t3' : w3.cell? ⟨w.heap.size + 1 + 1 + 1, 3, none⟩ = some (.int .u64 a.f1.f1) := pw_cell_below hb3 (by simp [go_sem, t0, t1, t2, t3, b0, b1, b2, b3, r0, r1, r2, r3, y0, y1, y2, y3, z0, z1, z2, z3, st, sr, sb])
        have b0' : w3.cell? ⟨w.heap.size + 1, 0, none⟩ = some (.int .u64 b.f0.f0) := pw_cell_below hb3 (by simp [go_sem, t0, t1, t2, t3, b0, b1, b2, b3, r0, r1, r2, r3, y0, y1, y2, y3, z0, z1, z2, z3, st, sr, sb])
        have b1' : w3.cell? ⟨w.heap.size + 1, 1, none⟩ = some (.int .u64 b.f0.f1) := pw_cell_below hb3 (by simp [go_sem, t0, t1, t2, t3, b0, b1, b2, b3, r0, r1, r2, r3, y0, y1, y2, y3, z0, z1, z2, z3, st, sr, sb])
        have b2' : w3.cell? ⟨w.heap.size + 1, 2, none⟩ = some (.int .u64 b.f1.f0) := pw_cell_below hb3 (by simp [go_sem, t0, t1, t2, t3, b0, b1, b2, b3, r0, r1, r2, r3, y0, y1, y2, y3, z0, z1, z2, z3, st, sr, sb])
        have b3' : w3.cell? ⟨w.heap.size + 1, 3, none⟩ = some (.int .u64 b.f1.f1) := pw_cell_below hb3 (by simp [go_sem, t0, t1, t2, t3, b0, b1, b2, b3, r0, r1, r2, r3, y0, y1, y2, y3, z0, z1, z2, z3, st, sr, sb])
        have r0' : w3.cell? ⟨w.heap.size + 1 + 1, 0, none⟩ = some (.int .u64 0) := pw_cell_below hb3 (by simp [go_sem, t0, t1, t2, t3, b0, b1, b2, b3, r0, r1, r2, r3, y0, y1, y2, y3, z0, z1, z2, z3, st, sr, sb])
        have r1' : w3.cell? ⟨w.heap.size + 1 + 1, 1, none⟩ = some (.int .u64 0) := pw_cell_below hb3 (by simp [go_sem, t0, t1, t2, t3, b0, b1, b2, b3, r0, r1, r2, r3, y0, y1, y2, y3, z0, z1, z2, z3, st, sr, sb])
        have r2' : w3.cell? ⟨w.heap.size + 1 + 1, 2, none⟩ = some (.int .u64 0) := pw_cell_below hb3 (by simp [go_sem, t0, t1, t2, t3, b0, b1, b2, b3, r0, r1, r2, r3, y0, y1, y2, y3, z0, z1, z2, z3, st, sr, sb])
        have r3' : w3.cell? ⟨w.heap.size + 1 + 1, 3, none⟩ = some (.int .u64 0) := pw_cell_below hb3 (by simp [go_sem, t0, t1, t2, t3, b0, b1, b2, b3, r0, r1, r2, r3, y0, y1, y2, y3, z0, z1, z2, z3, st, sr, sb])
        have y0' : w3.frozen? ⟨w.heap.size + 1 + 1 + 1, 0, none⟩ = false := (hb3.frozen (p := ⟨w.heap.size + 1 + 1 + 1, 0, none⟩) (by first | (simp; omega) | (simp; done))).trans (by simp [go_sem, t0, t1, t2, t3, b0, b1, b2, b3, r0, r1, r2, r3, y0, y1, y2, y3, z0, z1, z2, z3, st, sr, sb])
        have y1' : w3.frozen? ⟨w.heap.size + 1 + 1 + 1, 1, none⟩ = false := (hb3.frozen (p := ⟨w.heap.size + 1 + 1 + 1, 1, none⟩) (by first | (simp; omega) | (simp; done))).trans (by simp [go_sem, t0, t1, t2, t3, b0, b1, b2, b3, r0, r1, r2, r3, y0, y1, y2, y3, z0, z1, z2, z3, st, sr, sb])
        have y2' : w3.frozen? ⟨w.heap.size + 1 + 1 + 1, 2, none⟩ = false := (hb3.frozen (p := ⟨w.heap.size + 1 + 1 + 1, 2, none⟩) (by first | (simp; omega) | (simp; done))).trans (by simp [go_sem, t0, t1, t2, t3, b0, b1, b2, b3, r0, r1, r2, r3, y0, y1, y2, y3, z0, z1, z2, z3, st, sr, sb])
        have y3' : w3.frozen? ⟨w.heap.size + 1 + 1 + 1, 3, none⟩ = false := (hb3.frozen (p := ⟨w.heap.size + 1 + 1 + 1, 3, none⟩) (by first | (simp; omega) | (simp; done))).trans (by simp [go_sem, t0, t1, t2, t3, b0, b1, b2, b3, r0, r1, r2, r3, y0, y1, y2, y3, z0, z1, z2, z3, st, sr, sb])
        have z0' : w3.frozen? ⟨w.heap.size + 1 + 1, 0, none⟩ = false := (hb3.frozen (p := ⟨w.heap.size + 1 + 1, 0, none⟩) (by first | (simp; omega) | (simp; done))).trans (by simp [go_sem, t0, t1, t2, t3, b0, b1, b2, b3, r0, r1, r2, r3, y0, y1, y2, y3, z0, z1, z2, z3, st, sr, sb])
        have z1' : w3.frozen? ⟨w.heap.size + 1 + 1, 1, none⟩ = false := (hb3.frozen (p := ⟨w.heap.size + 1 + 1, 1, none⟩) (by first | (simp; omega) | (simp; done))).trans (by simp [go_sem, t0, t1, t2, t3, b0, b1, b2, b3, r0, r1, r2, r3, y0, y1, y2, y3, z0, z1, z2, z3, st, sr, sb])
        have z2' : w3.frozen? ⟨w.heap.size + 1 + 1, 2, none⟩ = false := (hb3.frozen (p := ⟨w.heap.size + 1 + 1, 2, none⟩) (by first | (simp; omega) | (simp; done))).trans (by simp [go_sem, t0, t1, t2, t3, b0, b1, b2, b3, r0, r1, r2, r3, y0, y1, y2, y3, z0, z1, z2, z3, st, sr, sb])
        have z3' : w3.frozen? ⟨w.heap.size + 1 + 1, 3, none⟩ = false := (hb3.frozen (p := ⟨w.heap.size + 1 + 1, 3, none⟩) (by first | (simp; omega) | (simp; done))).trans (by simp [go_sem, t0, t1, t2, t3, b0, b1, b2, b3, r0, r1, r2, r3, y0, y1, y2, y3, z0, z1, z2, z3, st, sr, sb])
        have st' : w.heap.size + 1 + 1 + 1 < w3.heap.size := World.block_lt_of_cell? w3 _ t0'
        have sr' : w.heap.size + 1 + 1 < w3.heap.size := by omega
        have sb' : w.heap.size + 1 < w3.heap.size := by omega
        clear t0 t1 t2 t3 b0 b1 b2 b3 r0 r1 r2 r3 y0 y1 y2 y3 z0 z1 z2 z3 st sr sb
        have t0 := t0'
        clear t0'
        have t1 := t1'
        clear t1'
        have t2 := t2'
        clear t2'
        have t3 := t3'
        clear t3'
        have b0 := b0'
        clear b0'
        have b1 := b1'
        clear b1'
        have b2 := b2'
        clear b2'
        have b3 := b3'
        clear b3'
        have r0 := r0'
        clear r0'
        have r1 := r1'
        clear r1'
        have r2 := r2'
        clear r2'
        have r3 := r3'
        clear r3'
        have y0 := y0'
        clear y0'
        have y1 := y1'
        clear y1'
        have y2 := y2'
        clear y2'
        have y3 := y3'
        clear y3'
        have z0 := z0'
        clear z0'
        have z1 := z1'
        clear z1'
        have z2 := z2'
        clear z2'
        have z3 := z3'
        clear z3'
        have st := st'
        clear st'
        have sr := sr'
        clear sr'
        have sb := sb'
        clear sb'
        have H := Aside0.mk (meet_end M.out v2)
        clear hb3 v2
        go_wp2
        refine bodyPost_ret (v := .tuple #[.agg #[.int .u64 0, .int .u64 0, .int .u64 0, .int .u64 0], .bool false]) (by simp [results, Try.results37, go_sem, r0, r1, r2, r3, sr]) rfl ?_
        exact ⟨by rw [H.out]; rfl, by have HH := HB3.out; go_grown⟩
      | false =>
        refine (HLs.out a.f1 b.f0 false v2 _).mono ?_
        rintro e w3 ⟨rfl, hb3⟩
        have HB3 := Aside0.mk (kbelow hb3 (show Below w.heap.size w _ by have HH := HB2.out; go_grown))
        have t0' : w3.cell? ⟨w.heap.size + 1 + 1 + 1, 0, none⟩ = some (.int .u64 b.f0.f0) := pw_cell_below hb3 (by simp [go_sem, t0, t1, t2, t3, b0, b1, b2, b3, r0, r1, r2, r3, y0, y1, y2, y3, z0, z1, z2, z3, st, sr, sb])
        have t1' : w3.cell? ⟨w.heap.size + 1 + 1 + 1, 1, none⟩ = some (.int .u64 b.f0.f1) := pw_cell_below hb3 (by simp [go_sem, t0, t1, t2, t3, b0, b1, b2, b3, r0, r1, r2, r3, y0, y1, y2, y3, z0, z1, z2, z3, st, sr, sb])
        have t2' : w3.cell? ⟨w.heap.size + 1 + 1 + 1, 2, none⟩ = some (.int .u64 a.f1.f0) := pw_cell_below hb3 (by simp [go_sem, t0, t1, t2, t3, b0, b1, b2, b3, r0, r1, r2, r3, y0, y1, y2, y3, z0, z1, z2, z3, st, sr, sb])
        have t3' : w3.cell? ⟨w.heap.size + 1 + 1 + 1, 3, none⟩ = some (.int .u64 a.f1.f1) := pw_cell_below hb3 (by simp [go_sem, t0, t1, t2, t3, b0, b1, b2, b3, r0, r1, r2, r3, y0, y1, y2, y3, z0, z1, z2, z3, st, sr, sb])
        have b0' : w3.cell? ⟨w.heap.size + 1, 0, none⟩ = some (.int .u64 b.f0.f0) := pw_cell_below hb3 (by simp [go_sem, t0, t1, t2, t3, b0, b1, b2, b3, r0, r1, r2, r3, y0, y1, y2, y3, z0, z1, z2, z3, st, sr, sb])
        have b1' : w3.cell? ⟨w.heap.size + 1, 1, none⟩ = some (.int .u64 b.f0.f1) := pw_cell_below hb3 (by simp [go_sem, t0, t1, t2, t3, b0, b1, b2, b3, r0, r1, r2, r3, y0, y1, y2, y3, z0, z1, z2, z3, st, sr, sb])
        have b2' : w3.cell? ⟨w.heap.size + 1, 2, none⟩ = some (.int .u64 b.f1.f0) := pw_cell_below hb3 (by simp [go_sem, t0, t1, t2, t3, b0, b1, b2, b3, r0, r1, r2, r3, y0, y1, y2, y3, z0, z1, z2, z3, st, sr, sb])
        have b3' : w3.cell? ⟨w.heap.size + 1, 3, none⟩ = some (.int .u64 b.f1.f1) := pw_cell_below hb3 (by simp [go_sem, t0, t1, t2, t3, b0, b1, b2, b3, r0, r1, r2, r3, y0, y1, y2, y3, z0, z1, z2, z3, st, sr, sb])
        have r0' : w3.cell? ⟨w.heap.size + 1 + 1, 0, none⟩ = some (.int .u64 0) := pw_cell_below hb3 (by simp [go_sem, t0, t1, t2, t3, b0, b1, b2, b3, r0, r1, r2, r3, y0, y1, y2, y3, z0, z1, z2, z3, st, sr, sb])
        have r1' : w3.cell? ⟨w.heap.size + 1 + 1, 1, none⟩ = some (.int .u64 0) := pw_cell_below hb3 (by simp [go_sem, t0, t1, t2, t3, b0, b1, b2, b3, r0, r1, r2, r3, y0, y1, y2, y3, z0, z1, z2, z3, st, sr, sb])
        have r2' : w3.cell? ⟨w.heap.size + 1 + 1, 2, none⟩ = some (.int .u64 0) := pw_cell_below hb3 (by simp [go_sem, t0, t1, t2, t3, b0, b1, b2, b3, r0, r1, r2, r3, y0, y1, y2, y3, z0, z1, z2, z3, st, sr, sb])
        have r3' : w3.cell? ⟨w.heap.size + 1 + 1, 3, none⟩ = some (.int .u64 0) := pw_cell_below hb3 (by simp [go_sem, t0, t1, t2, t3, b0, b1, b2, b3, r0, r1, r2, r3, y0, y1, y2, y3, z0, z1, z2, z3, st, sr, sb])
        have y0' : w3.frozen? ⟨w.heap.size + 1 + 1 + 1, 0, none⟩ = false := (hb3.frozen (p := ⟨w.heap.size + 1 + 1 + 1, 0, none⟩) (by first | (simp; omega) | (simp; done))).trans (by simp [go_sem, t0, t1, t2, t3, b0, b1, b2, b3, r0, r1, r2, r3, y0, y1, y2, y3, z0, z1, z2, z3, st, sr, sb])
        have y1' : w3.frozen? ⟨w.heap.size + 1 + 1 + 1, 1, none⟩ = false := (hb3.frozen (p := ⟨w.heap.size + 1 + 1 + 1, 1, none⟩) (by first | (simp; omega) | (simp; done))).trans (by simp [go_sem, t0, t1, t2, t3, b0, b1, b2, b3, r0, r1, r2, r3, y0, y1, y2, y3, z0, z1, z2, z3, st, sr, sb])
        have y2' : w3.frozen? ⟨w.heap.size + 1 + 1 + 1, 2, none⟩ = false := (hb3.frozen (p := ⟨w.heap.size + 1 + 1 + 1, 2, none⟩) (by first | (simp; omega) | (simp; done))).trans (by simp [go_sem, t0, t1, t2, t3, b0, b1, b2, b3, r0, r1, r2, r3, y0, y1, y2, y3, z0, z1, z2, z3, st, sr, sb])
        have y3' : w3.frozen? ⟨w.heap.size + 1 + 1 + 1, 3, none⟩ = false := (hb3.frozen (p := ⟨w.heap.size + 1 + 1 + 1, 3, none⟩) (by first | (simp; omega) | (simp; done))).trans (by simp [go_sem, t0, t1, t2, t3, b0, b1, b2, b3, r0, r1, r2, r3, y0, y1, y2, y3, z0, z1, z2, z3, st, sr, sb])
        have z0' : w3.frozen? ⟨w.heap.size + 1 + 1, 0, none⟩ = false := (hb3.frozen (p := ⟨w.heap.size + 1 + 1, 0, none⟩) (by first | (simp; omega) | (simp; done))).trans (by simp [go_sem, t0, t1, t2, t3, b0, b1, b2, b3, r0, r1, r2, r3, y0, y1, y2, y3, z0, z1, z2, z3, st, sr, sb])
        have z1' : w3.frozen? ⟨w.heap.size + 1 + 1, 1, none⟩ = false := (hb3.frozen (p := ⟨w.heap.size + 1 + 1, 1, none⟩) (by first | (simp; omega) | (simp; done))).trans (by simp [go_sem, t0, t1, t2, t3, b0, b1, b2, b3, r0, r1, r2, r3, y0, y1, y2, y3, z0, z1, z2, z3, st, sr, sb])
        have z2' : w3.frozen? ⟨w.heap.size + 1 + 1, 2, none⟩ = false := (hb3.frozen (p := ⟨w.heap.size + 1 + 1, 2, none⟩) (by first | (simp; omega) | (simp; done))).trans (by simp [go_sem, t0, t1, t2, t3, b0, b1, b2, b3, r0, r1, r2, r3, y0, y1, y2, y3, z0, z1, z2, z3, st, sr, sb])
        have z3' : w3.frozen? ⟨w.heap.size + 1 + 1, 3, none⟩ = false := (hb3.frozen (p := ⟨w.heap.size + 1 + 1, 3, none⟩) (by first | (simp; omega) | (simp; done))).trans (by simp [go_sem, t0, t1, t2, t3, b0, b1, b2, b3, r0, r1, r2, r3, y0, y1, y2, y3, z0, z1, z2, z3, st, sr, sb])
        have st' : w.heap.size + 1 + 1 + 1 < w3.heap.size := World.block_lt_of_cell? w3 _ t0'
        have sr' : w.heap.size + 1 + 1 < w3.heap.size := by omega
        have sb' : w.heap.size + 1 < w3.heap.size := by omega
        clear t0 t1 t2 t3 b0 b1 b2 b3 r0 r1 r2 r3 y0 y1 y2 y3 z0 z1 z2 z3 st sr sb
        have t0 := t0'
        clear t0'
        have t1 := t1'
        clear t1'
        have t2 := t2'
        clear t2'
        have t3 := t3'
        clear t3'
        have b0 := b0'
        clear b0'
        have b1 := b1'
        clear b1'
        have b2 := b2'
        clear b2'
        have b3 := b3'
        clear b3'
        have r0 := r0'
        clear r0'
        have r1 := r1'
        clear r1'
        have r2 := r2'
        clear r2'
        have r3 := r3'
        clear r3'
        have y0 := y0'
        clear y0'
        have y1 := y1'
        clear y1'
        have y2 := y2'
        clear y2'
        have y3 := y3'
        clear y3'
        have z0 := z0'
        clear z0'
        have z1 := z1'
        clear z1'
        have z2 := z2'
        clear z2'
        have z3 := z3'
        clear z3'
        have st := st'
        clear st'
        have sr := sr'
        clear sr'
        have sb := sb'
        clear sb'
        have H := Aside0.mk (meet_end M.out v2)
        clear hb3 v2
        go_wp2
        refine bodyPost_ret (v := .tuple #[.agg #[.int .u64 b.f0.f0, .int .u64 b.f0.f1, .int .u64 a.f1.f0, .int .u64 a.f1.f1], .bool true]) (by simp [results, Try.results37, go_sem, r0, r1, r2, r3, sr]) rfl ?_
        exact ⟨by rw [H.out]; rfl, by have HH := HB3.out; go_grown⟩
  | false =>
    refine (HLs.out a.f0 b.f0 false v0 _).mono ?_
    rintro e w1 ⟨rfl, hb1⟩
    have HB1 := Aside0.mk (HB0.out.trans (hb1.mono (by simp; omega)))
    have t0' : w1.cell? ⟨w.heap.size + 1 + 1 + 1, 0, none⟩ = some (.int .u64 a.f0.f0) := pw_cell_below hb1 (by simp [go_sem])
    have t1' : w1.cell? ⟨w.heap.size + 1 + 1 + 1, 1, none⟩ = some (.int .u64 a.f0.f1) := pw_cell_below hb1 (by simp [go_sem])
    have t2' : w1.cell? ⟨w.heap.size + 1 + 1 + 1, 2, none⟩ = some (.int .u64 a.f1.f0) := pw_cell_below hb1 (by simp [go_sem])
    have t3' : w1.cell? ⟨w.heap.size + 1 + 1 + 1, 3, none⟩ = some (.int .u64 a.f1.f1) := pw_cell_below hb1 (by simp [go_sem])
    have b0' : w1.cell? ⟨w.heap.size + 1, 0, none⟩ = some (.int .u64 b.f0.f0) := pw_cell_below hb1 (by simp [go_sem])
    have b1' : w1.cell? ⟨w.heap.size + 1, 1, none⟩ = some (.int .u64 b.f0.f1) := pw_cell_below hb1 (by simp [go_sem])
    have b2' : w1.cell? ⟨w.heap.size + 1, 2, none⟩ = some (.int .u64 b.f1.f0) := pw_cell_below hb1 (by simp [go_sem])
    have b3' : w1.cell? ⟨w.heap.size + 1, 3, none⟩ = some (.int .u64 b.f1.f1) := pw_cell_below hb1 (by simp [go_sem])
    have r0' : w1.cell? ⟨w.heap.size + 1 + 1, 0, none⟩ = some (.int .u64 0) := pw_cell_below hb1 (by simp [go_sem])
    have r1' : w1.cell? ⟨w.heap.size + 1 + 1, 1, none⟩ = some (.int .u64 0) := pw_cell_below hb1 (by simp [go_sem])
    have r2' : w1.cell? ⟨w.heap.size + 1 + 1, 2, none⟩ = some (.int .u64 0) := pw_cell_below hb1 (by simp [go_sem])
    have r3' : w1.cell? ⟨w.heap.size + 1 + 1, 3, none⟩ = some (.int .u64 0) := pw_cell_below hb1 (by simp [go_sem])
    have y0' : w1.frozen? ⟨w.heap.size + 1 + 1 + 1, 0, none⟩ = false := (hb1.frozen (p := ⟨w.heap.size + 1 + 1 + 1, 0, none⟩) (by first | (simp; omega) | (simp; done))).trans (by simp [go_sem])
    have y1' : w1.frozen? ⟨w.heap.size + 1 + 1 + 1, 1, none⟩ = false := (hb1.frozen (p := ⟨w.heap.size + 1 + 1 + 1, 1, none⟩) (by first | (simp; omega) | (simp; done))).trans (by simp [go_sem])
    have y2' : w1.frozen? ⟨w.heap.size + 1 + 1 + 1, 2, none⟩ = false := (hb1.frozen (p := ⟨w.heap.size + 1 + 1 + 1, 2, none⟩) (by first | (simp; omega) | (simp; done))).trans (by simp [go_sem])
    have y3' : w1.frozen? ⟨w.heap.size + 1 + 1 + 1, 3, none⟩ = false := (hb1.frozen (p := ⟨w.heap.size + 1 + 1 + 1, 3, none⟩) (by first | (simp; omega) | (simp; done))).trans (by simp [go_sem])
    have z0' : w1.frozen? ⟨w.heap.size + 1 + 1, 0, none⟩ = false := (hb1.frozen (p := ⟨w.heap.size + 1 + 1, 0, none⟩) (by first | (simp; omega) | (simp; done))).trans (by simp [go_sem])
    have z1' : w1.frozen? ⟨w.heap.size + 1 + 1, 1, none⟩ = false := (hb1.frozen (p := ⟨w.heap.size + 1 + 1, 1, none⟩) (by first | (simp; omega) | (simp; done))).trans (by simp [go_sem])
    have z2' : w1.frozen? ⟨w.heap.size + 1 + 1, 2, none⟩ = false := (hb1.frozen (p := ⟨w.heap.size + 1 + 1, 2, none⟩) (by first | (simp; omega) | (simp; done))).trans (by simp [go_sem])
    have z3' : w1.frozen? ⟨w.heap.size + 1 + 1, 3, none⟩ = false := (hb1.frozen (p := ⟨w.heap.size + 1 + 1, 3, none⟩) (by first | (simp; omega) | (simp; done))).trans (by simp [go_sem])
    have st' : w.heap.size + 1 + 1 + 1 < w1.heap.size := World.block_lt_of_cell? w1 _ t0'
    have sr' : w.heap.size + 1 + 1 < w1.heap.size := by omega
    have sb' : w.heap.size + 1 < w1.heap.size := by omega
    have t0 := t0'
    clear t0'
    have t1 := t1'
    clear t1'
    have t2 := t2'
    clear t2'
    have t3 := t3'
    clear t3'
    have b0 := b0'
    clear b0'
    have b1 := b1'
    clear b1'
    have b2 := b2'
    clear b2'
    have b3 := b3'
    clear b3'
    have r0 := r0'
    clear r0'
    have r1 := r1'
    clear r1'
    have r2 := r2'
    clear r2'
    have r3 := r3'
    clear r3'
    have y0 := y0'
    clear y0'
    have y1 := y1'
    clear y1'
    have y2 := y2'
    clear y2'
    have y3 := y3'
    clear y3'
    have z0 := z0'
    clear z0'
    have z1 := z1'
    clear z1'
    have z2 := z2'
    clear z2'
    have z3 := z3'
    clear z3'
    have st := st'
    clear st'
    have sr := sr'
    clear sr'
    have sb := sb'
    clear sb'
    have V0 := Aside0.mk v0
    clear hb1 v0
    go_wp2_with fail
    cases v1 : decide (cmpA b.f1 a.f1 < 0) with
    | true =>
      refine (HLs.out b.f1 a.f1 true v1 _).mono ?_
      rintro e w2 ⟨rfl, hb2⟩
      have HB2 := Aside0.mk (kbelow hb2 (show Below w.heap.size w _ by have HH := HB1.out; go_grown))
      have t0' : w2.cell? ⟨w.heap.size + 1 + 1 + 1, 0, none⟩ = some (.int .u64 a.f0.f0) := pw_cell_below hb2 (by simp [go_sem, t0, t1, t2, t3, b0, b1, b2, b3, r0, r1, r2, r3, y0, y1, y2, y3, z0, z1, z2, z3, st, sr, sb])
      have t1' : w2.cell? ⟨w.heap.size + 1 + 1 + 1, 1, none⟩ = some (.int .u64 a.f0.f1) := pw_cell_below hb2 (by simp [go_sem, t0, t1, t2, t3, b0, b1, b2, b3, r0, r1, r2, r3, y0, y1, y2, y3, z0, z1, z2, z3, st, sr, sb])
      have t2' : w2.cell? ⟨w.heap.size + 1 + 1 + 1, 2, none⟩ = some (.int .u64 a.f1.f0) := pw_cell_below hb2 (by simp [go_sem, t0, t1, t2, t3, b0, b1, b2, b3, r0, r1, r2, r3, y0, y1, y2, y3, z0, z1, z2, z3, st, sr, sb])
      have t3' : w2.cell? ⟨w.heap.size + 1 + 1 + 1, 3, none⟩ = some (.int .u64 a.f1.f1) := pw_cell_below hb2 (by simp [go_sem, t0, t1, t2, t3, b0, b1, b2, b3, r0, r1, r2, r3, y0, y1, y2, y3, z0, z1, z2, z3, st, sr, sb])
      have b0' : w2.cell? ⟨w.heap.size + 1, 0, none⟩ = some (.int .u64 b.f0.f0) := pw_cell_below hb2 (by simp [go_sem, t0, t1, t2, t3, b0, b1, b2, b3, r0, r1, r2, r3, y0, y1, y2, y3, z0, z1, z2, z3, st, sr, sb])
      have b1' : w2.cell? ⟨w.heap.size + 1, 1, none⟩ = some (.int .u64 b.f0.f1) := pw_cell_below hb2 (by simp [go_sem, t0, t1, t2, t3, b0, b1, b2, b3, r0, r1, r2, r3, y0, y1, y2, y3, z0, z1, z2, z3, st, sr, sb])
      have b2' : w2.cell? ⟨w.heap.size + 1, 2, none⟩ = some (.int .u64 b.f1.f0) := pw_cell_below hb2 (by simp [go_sem, t0, t1, t2, t3, b0, b1, b2, b3, r0, r1, r2, r3, y0, y1, y2, y3, z0, z1, z2, z3, st, sr, sb])
      have b3' : w2.cell? ⟨w.heap.size + 1, 3, none⟩ = some (.int .u64 b.f1.f1) := pw_cell_below hb2 (by simp [go_sem, t0, t1, t2, t3, b0, b1, b2, b3, r0, r1, r2, r3, y0, y1, y2, y3, z0, z1, z2, z3, st, sr, sb])
      have r0' : w2.cell? ⟨w.heap.size + 1 + 1, 0, none⟩ = some (.int .u64 0) := pw_cell_below hb2 (by simp [go_sem, t0, t1, t2, t3, b0, b1, b2, b3, r0, r1, r2, r3, y0, y1, y2, y3, z0, z1, z2, z3, st, sr, sb])
      have r1' : w2.cell? ⟨w.heap.size + 1 + 1, 1, none⟩ = some (.int .u64 0) := pw_cell_below hb2 (by simp [go_sem, t0, t1, t2, t3, b0, b1, b2, b3, r0, r1, r2, r3, y0, y1, y2, y3, z0, z1, z2, z3, st, sr, sb])
      have r2' : w2.cell? ⟨w.heap.size + 1 + 1, 2, none⟩ = some (.int .u64 0) := pw_cell_below hb2 (by simp [go_sem, t0, t1, t2, t3, b0, b1, b2, b3, r0, r1, r2, r3, y0, y1, y2, y3, z0, z1, z2, z3, st, sr, sb])
      have r3' : w2.cell? ⟨w.heap.size + 1 + 1, 3, none⟩ = some (.int .u64 0) := pw_cell_below hb2 (by simp [go_sem, t0, t1, t2, t3, b0, b1, b2, b3, r0, r1, r2, r3, y0, y1, y2, y3, z0, z1, z2, z3, st, sr, sb])
      have y0' : w2.frozen? ⟨w.heap.size + 1 + 1 + 1, 0, none⟩ = false := (hb2.frozen (p := ⟨w.heap.size + 1 + 1 + 1, 0, none⟩) (by first | (simp; omega) | (simp; done))).trans (by simp [go_sem, t0, t1, t2, t3, b0, b1, b2, b3, r0, r1, r2, r3, y0, y1, y2, y3, z0, z1, z2, z3, st, sr, sb])
      have y1' : w2.frozen? ⟨w.heap.size + 1 + 1 + 1, 1, none⟩ = false := (hb2.frozen (p := ⟨w.heap.size + 1 + 1 + 1, 1, none⟩) (by first | (simp; omega) | (simp; done))).trans (by simp [go_sem, t0, t1, t2, t3, b0, b1, b2, b3, r0, r1, r2, r3, y0, y1, y2, y3, z0, z1, z2, z3, st, sr, sb])
      have y2' : w2.frozen? ⟨w.heap.size + 1 + 1 + 1, 2, none⟩ = false := (hb2.frozen (p := ⟨w.heap.size + 1 + 1 + 1, 2, none⟩) (by first | (simp; omega) | (simp; done))).trans (by simp [go_sem, t0, t1, t2, t3, b0, b1, b2, b3, r0, r1, r2, r3, y0, y1, y2, y3, z0, z1, z2, z3, st, sr, sb])
      have y3' : w2.frozen? ⟨w.heap.size + 1 + 1 + 1, 3, none⟩ = false := (hb2.frozen (p := ⟨w.heap.size + 1 + 1 + 1, 3, none⟩) (by first | (simp; omega) | (simp; done))).trans (by simp [go_sem, t0, t1, t2, t3, b0, b1, b2, b3, r0, r1, r2, r3, y0, y1, y2, y3, z0, z1, z2, z3, st, sr, sb])
      have z0' : w2.frozen? ⟨w.heap.size + 1 + 1, 0, none⟩ = false := (hb2.frozen (p := ⟨w.heap.size + 1 + 1, 0, none⟩) (by first | (simp; omega) | (simp; done))).trans (by simp [go_sem, t0, t1, t2, t3, b0, b1, b2, b3, r0, r1, r2, r3, y0, y1, y2, y3, z0, z1, z2, z3, st, sr, sb])
      have z1' : w2.frozen? ⟨w.heap.size + 1 + 1, 1, none⟩ = false := (hb2.frozen (p := ⟨w.heap.size + 1 + 1, 1, none⟩) (by first | (simp; omega) | (simp; done))).trans (by simp [go_sem, t0, t1, t2, t3, b0, b1, b2, b3, r0, r1, r2, r3, y0, y1, y2, y3, z0, z1, z2, z3, st, sr, sb])
      have z2' : w2.frozen? ⟨w.heap.size + 1 + 1, 2, none⟩ = false := (hb2.frozen (p := ⟨w.heap.size + 1 + 1, 2, none⟩) (by first | (simp; omega) | (simp; done))).trans (by simp [go_sem, t0, t1, t2, t3, b0, b1, b2, b3, r0, r1, r2, r3, y0, y1, y2, y3, z0, z1, z2, z3, st, sr, sb])
      have z3' : w2.frozen? ⟨w.heap.size + 1 + 1, 3, none⟩ = false := (hb2.frozen (p := ⟨w.heap.size + 1 + 1, 3, none⟩) (by first | (simp; omega) | (simp; done))).trans (by simp [go_sem, t0, t1, t2, t3, b0, b1, b2, b3, r0, r1, r2, r3, y0, y1, y2, y3, z0, z1, z2, z3, st, sr, sb])
      have st' : w.heap.size + 1 + 1 + 1 < w2.heap.size := World.block_lt_of_cell? w2 _ t0'
      have sr' : w.heap.size + 1 + 1 < w2.heap.size := by omega
      have sb' : w.heap.size + 1 < w2.heap.size := by omega
      clear t0 t1 t2 t3 b0 b1 b2 b3 r0 r1 r2 r3 y0 y1 y2 y3 z0 z1 z2 z3 st sr sb
      have t0 := t0'
      clear t0'
      have t1 := t1'
      clear t1'
      have t2 := t2'
      clear t2'
      have t3 := t3'
      clear t3'
      have b0 := b0'
      clear b0'
      have b1 := b1'
      clear b1'
      have b2 := b2'
      clear b2'
      have b3 := b3'
      clear b3'
      have r0 := r0'
      clear r0'
      have r1 := r1'
      clear r1'
      have r2 := r2'
      clear r2'
      have r3 := r3'
      clear r3'
      have y0 := y0'
      clear y0'
      have y1 := y1'
      clear y1'
      have y2 := y2'
      clear y2'
      have y3 := y3'
      clear y3'
      have z0 := z0'
      clear z0'
      have z1 := z1'
      clear z1'
      have z2 := z2'
      clear z2'
      have z3 := z3'
      clear z3'
      have st := st'
      clear st'
      have sr := sr'
      clear sr'
      have sb := sb'
      clear sb'
      have V1 := Aside0.mk v1
      clear hb2 v1
      go_wp2_with fail
      have M := Aside0.mk (meet_of (a) (b) V0.out V1.out)
      cases v2 : decide (cmpA b.f1 a.f0 < 0) with
      | true =>
        refine (HLs.out b.f1 a.f0 true v2 _).mono ?_
        rintro e w3 ⟨rfl, hb3⟩
        have HB3 := Aside0.mk (kbelow hb3 (show Below w.heap.size w _ by have HH := HB2.out; go_grown))
        have t0' : w3.cell? ⟨w.heap.size + 1 + 1 + 1, 0, none⟩ = some (.int .u64 a.f0.f0) := pw_cell_below hb3 (by simp [go_sem, t0, t1, t2, t3, b0, b1, b2, b3, r0, r1, r2, r3, y0, y1, y2, y3, z0, z1, z2, z3, st, sr, sb])
        have t1' : w3.cell? ⟨w.heap.size + 1 + 1 + 1, 1, none⟩ = some (.int .u64 a.f0.f1) := pw_cell_below hb3 (by simp [go_sem, t0, t1, t2, t3, b0, b1, b2, b3, r0, r1, r2, r3, y0, y1, y2, y3, z0, z1, z2, z3, st, sr, sb])
        have t2' : w3.cell? ⟨w.heap.size + 1 + 1 + 1, 2, none⟩ = some (.int .u64 b.f1.f0) := pw_cell_below hb3 (by simp [go_sem, t0, t1, t2, t3, b0, b1, b2, b3, r0, r1, r2, r3, y0, y1, y2, y3, z0, z1, z2, z3, st, sr, sb])
        have t3' : w3.cell? ⟨w.heap.size + 1 + 1 + 1, 3, none⟩ = some (.int .u64 b.f1.f1) := pw_cell_below hb3 (by simp [go_sem, t0, t1, t2, t3, b0, b1, b2, b3, r0, r1, r2, r3, y0, y1, y2, y3, z0, z1, z2, z3, st, sr, sb])
        have b0' : w3.cell? ⟨w.heap.size + 1, 0, none⟩ = some (.int .u64 b.f0.f0) := pw_cell_below hb3 (by simp [go_sem, t0, t1, t2, t3, b0, b1, b2, b3, r0, r1, r2, r3, y0, y1, y2, y3, z0, z1, z2, z3, st, sr, sb])
        have b1' : w3.cell? ⟨w.heap.size + 1, 1, none⟩ = some (.int .u64 b.f0.f1) := pw_cell_below hb3 (by simp [go_sem, t0, t1, t2, t3, b0, b1, b2, b3, r0, r1, r2, r3, y0, y1, y2, y3, z0, z1, z2, z3, st, sr, sb])
        have b2' : w3.cell? ⟨w.heap.size + 1, 2, none⟩ = some (.int .u64 b.f1.f0) := pw_cell_below hb3 (by simp [go_sem, t0, t1, t2, t3, b0, b1, b2, b3, r0, r1, r2, r3, y0, y1, y2, y3, z0, z1, z2, z3, st, sr, sb])
        have b3' : w3.cell? ⟨w.heap.size + 1, 3, none⟩ = some (.int .u64 b.f1.f1) := pw_cell_below hb3 (by simp [go_sem, t0, t1, t2, t3, b0, b1, b2, b3, r0, r1, r2, r3, y0, y1, y2, y3, z0, z1, z2, z3, st, sr, sb])
        have r0' : w3.cell? ⟨w.heap.size + 1 + 1, 0, none⟩ = some (.int .u64 0) := pw_cell_below hb3 (by simp [go_sem, t0, t1, t2, t3, b0, b1, b2, b3, r0, r1, r2, r3, y0, y1, y2, y3, z0, z1, z2, z3, st, sr, sb])
        have r1' : w3.cell? ⟨w.heap.size + 1 + 1, 1, none⟩ = some (.int .u64 0) := pw_cell_below hb3 (by simp [go_sem, t0, t1, t2, t3, b0, b1, b2, b3, r0, r1, r2, r3, y0, y1, y2, y3, z0, z1, z2, z3, st, sr, sb])
        have r2' : w3.cell? ⟨w.heap.size + 1 + 1, 2, none⟩ = some (.int .u64 0) := pw_cell_below hb3 (by simp [go_sem, t0, t1, t2, t3, b0, b1, b2, b3, r0, r1, r2, r3, y0, y1, y2, y3, z0, z1, z2, z3, st, sr, sb])
        have r3' : w3.cell? ⟨w.heap.size + 1 + 1, 3, none⟩ = some (.int .u64 0) := pw_cell_below hb3 (by simp [go_sem, t0, t1, t2, t3, b0, b1, b2, b3, r0, r1, r2, r3, y0, y1, y2, y3, z0, z1, z2, z3, st, sr, sb])
        have y0' : w3.frozen? ⟨w.heap.size + 1 + 1 + 1, 0, none⟩ = false := (hb3.frozen (p := ⟨w.heap.size + 1 + 1 + 1, 0, none⟩) (by first | (simp; omega) | (simp; done))).trans (by simp [go_sem, t0, t1, t2, t3, b0, b1, b2, b3, r0, r1, r2, r3, y0, y1, y2, y3, z0, z1, z2, z3, st, sr, sb])
        have y1' : w3.frozen? ⟨w.heap.size + 1 + 1 + 1, 1, none⟩ = false := (hb3.frozen (p := ⟨w.heap.size + 1 + 1 + 1, 1, none⟩) (by first | (simp; omega) | (simp; done))).trans (by simp [go_sem, t0, t1, t2, t3, b0, b1, b2, b3, r0, r1, r2, r3, y0, y1, y2, y3, z0, z1, z2, z3, st, sr, sb])
        have y2' : w3.frozen? ⟨w.heap.size + 1 + 1 + 1, 2, none⟩ = false := (hb3.frozen (p := ⟨w.heap.size + 1 + 1 + 1, 2, none⟩) (by first | (simp; omega) | (simp; done))).trans (by simp [go_sem, t0, t1, t2, t3, b0, b1, b2, b3, r0, r1, r2, r3, y0, y1, y2, y3, z0, z1, z2, z3, st, sr, sb])
        have y3' : w3.frozen? ⟨w.heap.size + 1 + 1 + 1, 3, none⟩ = false := (hb3.frozen (p := ⟨w.heap.size + 1 + 1 + 1, 3, none⟩) (by first | (simp; omega) | (simp; done))).trans (by simp [go_sem, t0, t1, t2, t3, b0, b1, b2, b3, r0, r1, r2, r3, y0, y1, y2, y3, z0, z1, z2, z3, st, sr, sb])
        have z0' : w3.frozen? ⟨w.heap.size + 1 + 1, 0, none⟩ = false := (hb3.frozen (p := ⟨w.heap.size + 1 + 1, 0, none⟩) (by first | (simp; omega) | (simp; done))).trans (by simp [go_sem, t0, t1, t2, t3, b0, b1, b2, b3, r0, r1, r2, r3, y0, y1, y2, y3, z0, z1, z2, z3, st, sr, sb])
        have z1' : w3.frozen? ⟨w.heap.size + 1 + 1, 1, none⟩ = false := (hb3.frozen (p := ⟨w.heap.size + 1 + 1, 1, none⟩) (by first | (simp; omega) | (simp; done))).trans (by simp [go_sem, t0, t1, t2, t3, b0, b1, b2, b3, r0, r1, r2, r3, y0, y1, y2, y3, z0, z1, z2, z3, st, sr, sb])
        have z2' : w3.frozen? ⟨w.heap.size + 1 + 1, 2, none⟩ = false := (hb3.frozen (p := ⟨w.heap.size + 1 + 1, 2, none⟩) (by first | (simp; omega) | (simp; done))).trans (by simp [go_sem, t0, t1, t2, t3, b0, b1, b2, b3, r0, r1, r2, r3, y0, y1, y2, y3, z0, z1, z2, z3, st, sr, sb])
        have z3' : w3.frozen? ⟨w.heap.size + 1 + 1, 3, none⟩ = false := (hb3.frozen (p := ⟨w.heap.size + 1 + 1, 3, none⟩) (by first | (simp; omega) | (simp; done))).trans (by simp [go_sem, t0, t1, t2, t3, b0, b1, b2, b3, r0, r1, r2, r3, y0, y1, y2, y3, z0, z1, z2, z3, st, sr, sb])
        have st' : w.heap.size + 1 + 1 + 1 < w3.heap.size := World.block_lt_of_cell? w3 _ t0'
        have sr' : w.heap.size + 1 + 1 < w3.heap.size := by omega
        have sb' : w.heap.size + 1 < w3.heap.size := by omega
        clear t0 t1 t2 t3 b0 b1 b2 b3 r0 r1 r2 r3 y0 y1 y2 y3 z0 z1 z2 z3 st sr sb
        have t0 := t0'
        clear t0'
        have t1 := t1'
        clear t1'
        have t2 := t2'
        clear t2'
        have t3 := t3'
        clear t3'
        have b0 := b0'
        clear b0'
        have b1 := b1'
        clear b1'
        have b2 := b2'
        clear b2'
        have b3 := b3'
        clear b3'
        have r0 := r0'
        clear r0'
        have r1 := r1'
        clear r1'
        have r2 := r2'
        clear r2'
        have r3 := r3'
        clear r3'
        have y0 := y0'
        clear y0'
        have y1 := y1'
        clear y1'
        have y2 := y2'
        clear y2'
        have y3 := y3'
        clear y3'
        have z0 := z0'
        clear z0'
        have z1 := z1'
        clear z1'
        have z2 := z2'
        clear z2'
        have z3 := z3'
        clear z3'
        have st := st'
        clear st'
        have sr := sr'
        clear sr'
        have sb := sb'
        clear sb'
        have H := Aside0.mk (meet_end M.out v2)
        clear hb3 v2
        go_wp2
        refine bodyPost_ret (v := .tuple #[.agg #[.int .u64 0, .int .u64 0, .int .u64 0, .int .u64 0], .bool false]) (by simp [results, Try.results37, go_sem, r0, r1, r2, r3, sr]) rfl ?_
        exact ⟨by rw [H.out]; rfl, by have HH := HB3.out; go_grown⟩
      | false =>
        refine (HLs.out b.f1 a.f0 false v2 _).mono ?_
        rintro e w3 ⟨rfl, hb3⟩
        have HB3 := Aside0.mk (kbelow hb3 (show Below w.heap.size w _ by have HH := HB2.out; go_grown))
        have t0' : w3.cell? ⟨w.heap.size + 1 + 1 + 1, 0, none⟩ = some (.int .u64 a.f0.f0) := pw_cell_below hb3 (by simp [go_sem, t0, t1, t2, t3, b0, b1, b2, b3, r0, r1, r2, r3, y0, y1, y2, y3, z0, z1, z2, z3, st, sr, sb])
        have t1' : w3.cell? ⟨w.heap.size + 1 + 1 + 1, 1, none⟩ = some (.int .u64 a.f0.f1) := pw_cell_below hb3 (by simp [go_sem, t0, t1, t2, t3, b0, b1, b2, b3, r0, r1, r2, r3, y0, y1, y2, y3, z0, z1, z2, z3, st, sr, sb])
        have t2' : w3.cell? ⟨w.heap.size + 1 + 1 + 1, 2, none⟩ = some (.int .u64 b.f1.f0) := pw_cell_below hb3 (by simp [go_sem, t0, t1, t2, t3, b0, b1, b2, b3, r0, r1, r2, r3, y0, y1, y2, y3, z0, z1, z2, z3, st, sr, sb])
        have t3' : w3.cell? ⟨w.heap.size + 1 + 1 + 1, 3, none⟩ = some (.int .u64 b.f1.f1) := pw_cell_below hb3 (by simp [go_sem, t0, t1, t2, t3, b0, b1, b2, b3, r0, r1, r2, r3, y0, y1, y2, y3, z0, z1, z2, z3, st, sr, sb])
        have b0' : w3.cell? ⟨w.heap.size + 1, 0, none⟩ = some (.int .u64 b.f0.f0) := pw_cell_below hb3 (by simp [go_sem, t0, t1, t2, t3, b0, b1, b2, b3, r0, r1, r2, r3, y0, y1, y2, y3, z0, z1, z2, z3, st, sr, sb])
        have b1' : w3.cell? ⟨w.heap.size + 1, 1, none⟩ = some (.int .u64 b.f0.f1) := pw_cell_below hb3 (by simp [go_sem, t0, t1, t2, t3, b0, b1, b2, b3, r0, r1, r2, r3, y0, y1, y2, y3, z0, z1, z2, z3, st, sr, sb])
        have b2' : w3.cell? ⟨w.heap.size + 1, 2, none⟩ = some (.int .u64 b.f1.f0) := pw_cell_below hb3 (by simp [go_sem, t0, t1, t2, t3, b0, b1, b2, b3, r0, r1, r2, r3, y0, y1, y2, y3, z0, z1, z2, z3, st, sr, sb])
        have b3' : w3.cell? ⟨w.heap.size + 1, 3, none⟩ = some (.int .u64 b.f1.f1) := pw_cell_below hb3 (by simp [go_sem, t0, t1, t2, t3, b0, b1, b2, b3, r0, r1, r2, r3, y0, y1, y2, y3, z0, z1, z2, z3, st, sr, sb])
        have r0' : w3.cell? ⟨w.heap.size + 1 + 1, 0, none⟩ = some (.int .u64 0) := pw_cell_below hb3 (by simp [go_sem, t0, t1, t2, t3, b0, b1, b2, b3, r0, r1, r2, r3, y0, y1, y2, y3, z0, z1, z2, z3, st, sr, sb])
        have r1' : w3.cell? ⟨w.heap.size + 1 + 1, 1, none⟩ = some (.int .u64 0) := pw_cell_below hb3 (by simp [go_sem, t0, t1, t2, t3, b0, b1, b2, b3, r0, r1, r2, r3, y0, y1, y2, y3, z0, z1, z2, z3, st, sr, sb])
        have r2' : w3.cell? ⟨w.heap.size + 1 + 1, 2, none⟩ = some (.int .u64 0) := pw_cell_below hb3 (by simp [go_sem, t0, t1, t2, t3, b0, b1, b2, b3, r0, r1, r2, r3, y0, y1, y2, y3, z0, z1, z2, z3, st, sr, sb])
        have r3' : w3.cell? ⟨w.heap.size + 1 + 1, 3, none⟩ = some (.int .u64 0) := pw_cell_below hb3 (by simp [go_sem, t0, t1, t2, t3, b0, b1, b2, b3, r0, r1, r2, r3, y0, y1, y2, y3, z0, z1, z2, z3, st, sr, sb])
        have y0' : w3.frozen? ⟨w.heap.size + 1 + 1 + 1, 0, none⟩ = false := (hb3.frozen (p := ⟨w.heap.size + 1 + 1 + 1, 0, none⟩) (by first | (simp; omega) | (simp; done))).trans (by simp [go_sem, t0, t1, t2, t3, b0, b1, b2, b3, r0, r1, r2, r3, y0, y1, y2, y3, z0, z1, z2, z3, st, sr, sb])
        have y1' : w3.frozen? ⟨w.heap.size + 1 + 1 + 1, 1, none⟩ = false := (hb3.frozen (p := ⟨w.heap.size + 1 + 1 + 1, 1, none⟩) (by first | (simp; omega) | (simp; done))).trans (by simp [go_sem, t0, t1, t2, t3, b0, b1, b2, b3, r0, r1, r2, r3, y0, y1, y2, y3, z0, z1, z2, z3, st, sr, sb])
        have y2' : w3.frozen? ⟨w.heap.size + 1 + 1 + 1, 2, none⟩ = false := (hb3.frozen (p := ⟨w.heap.size + 1 + 1 + 1, 2, none⟩) (by first | (simp; omega) | (simp; done))).trans (by simp [go_sem, t0, t1, t2, t3, b0, b1, b2, b3, r0, r1, r2, r3, y0, y1, y2, y3, z0, z1, z2, z3, st, sr, sb])
        have y3' : w3.frozen? ⟨w.heap.size + 1 + 1 + 1, 3, none⟩ = false := (hb3.frozen (p := ⟨w.heap.size + 1 + 1 + 1, 3, none⟩) (by first | (simp; omega) | (simp; done))).trans (by simp [go_sem, t0, t1, t2, t3, b0, b1, b2, b3, r0, r1, r2, r3, y0, y1, y2, y3, z0, z1, z2, z3, st, sr, sb])
        have z0' : w3.frozen? ⟨w.heap.size + 1 + 1, 0, none⟩ = false := (hb3.frozen (p := ⟨w.heap.size + 1 + 1, 0, none⟩) (by first | (simp; omega) | (simp; done))).trans (by simp [go_sem, t0, t1, t2, t3, b0, b1, b2, b3, r0, r1, r2, r3, y0, y1, y2, y3, z0, z1, z2, z3, st, sr, sb])
        have z1' : w3.frozen? ⟨w.heap.size + 1 + 1, 1, none⟩ = false := (hb3.frozen (p := ⟨w.heap.size + 1 + 1, 1, none⟩) (by first | (simp; omega) | (simp; done))).trans (by simp [go_sem, t0, t1, t2, t3, b0, b1, b2, b3, r0, r1, r2, r3, y0, y1, y2, y3, z0, z1, z2, z3, st, sr, sb])
        have z2' : w3.frozen? ⟨w.heap.size + 1 + 1, 2, none⟩ = false := (hb3.frozen (p := ⟨w.heap.size + 1 + 1, 2, none⟩) (by first | (simp; omega) | (simp; done))).trans (by simp [go_sem, t0, t1, t2, t3, b0, b1, b2, b3, r0, r1, r2, r3, y0, y1, y2, y3, z0, z1, z2, z3, st, sr, sb])
        have z3' : w3.frozen? ⟨w.heap.size + 1 + 1, 3, none⟩ = false := (hb3.frozen (p := ⟨w.heap.size + 1 + 1, 3, none⟩) (by first | (simp; omega) | (simp; done))).trans (by simp [go_sem, t0, t1, t2, t3, b0, b1, b2, b3, r0, r1, r2, r3, y0, y1, y2, y3, z0, z1, z2, z3, st, sr, sb])
        have st' : w.heap.size + 1 + 1 + 1 < w3.heap.size := World.block_lt_of_cell? w3 _ t0'
        have sr' : w.heap.size + 1 + 1 < w3.heap.size := by omega
        have sb' : w.heap.size + 1 < w3.heap.size := by omega
        clear t0 t1 t2 t3 b0 b1 b2 b3 r0 r1 r2 r3 y0 y1 y2 y3 z0 z1 z2 z3 st sr sb
        have t0 := t0'
        clear t0'
        have t1 := t1'
        clear t1'
        have t2 := t2'
        clear t2'
        have t3 := t3'
        clear t3'
        have b0 := b0'
        clear b0'
        have b1 := b1'
        clear b1'
        have b2 := b2'
        clear b2'
        have b3 := b3'
        clear b3'
        have r0 := r0'
        clear r0'
        have r1 := r1'
        clear r1'
        have r2 := r2'
        clear r2'
        have r3 := r3'
        clear r3'
        have y0 := y0'
        clear y0'
        have y1 := y1'
        clear y1'
        have y2 := y2'
        clear y2'
        have y3 := y3'
        clear y3'
        have z0 := z0'
        clear z0'
        have z1 := z1'
        clear z1'
        have z2 := z2'
        clear z2'
        have z3 := z3'
        clear z3'
        have st := st'
        clear st'
        have sr := sr'
        clear sr'
        have sb := sb'
        clear sb'
        have H := Aside0.mk (meet_end M.out v2)
        clear hb3 v2
        go_wp2
        refine bodyPost_ret (v := .tuple #[.agg #[.int .u64 a.f0.f0, .int .u64 a.f0.f1, .int .u64 b.f1.f0, .int .u64 b.f1.f1], .bool true]) (by simp [results, Try.results37, go_sem, r0, r1, r2, r3, sr]) rfl ?_
        exact ⟨by rw [H.out]; rfl, by have HH := HB3.out; go_grown⟩
    | false =>
      refine (HLs.out b.f1 a.f1 false v1 _).mono ?_
      rintro e w2 ⟨rfl, hb2⟩
      have HB2 := Aside0.mk (kbelow hb2 (show Below w.heap.size w _ by have HH := HB1.out; go_grown))
      have t0' : w2.cell? ⟨w.heap.size + 1 + 1 + 1, 0, none⟩ = some (.int .u64 a.f0.f0) := pw_cell_below hb2 (by simp [go_sem, t0, t1, t2, t3, b0, b1, b2, b3, r0, r1, r2, r3, y0, y1, y2, y3, z0, z1, z2, z3, st, sr, sb])
      have t1' : w2.cell? ⟨w.heap.size + 1 + 1 + 1, 1, none⟩ = some (.int .u64 a.f0.f1) := pw_cell_below hb2 (by simp [go_sem, t0, t1, t2, t3, b0, b1, b2, b3, r0, r1, r2, r3, y0, y1, y2, y3, z0, z1, z2, z3, st, sr, sb])
      have t2' : w2.cell? ⟨w.heap.size + 1 + 1 + 1, 2, none⟩ = some (.int .u64 a.f1.f0) := pw_cell_below hb2 (by simp [go_sem, t0, t1, t2, t3, b0, b1, b2, b3, r0, r1, r2, r3, y0, y1, y2, y3, z0, z1, z2, z3, st, sr, sb])
      have t3' : w2.cell? ⟨w.heap.size + 1 + 1 + 1, 3, none⟩ = some (.int .u64 a.f1.f1) := pw_cell_below hb2 (by simp [go_sem, t0, t1, t2, t3, b0, b1, b2, b3, r0, r1, r2, r3, y0, y1, y2, y3, z0, z1, z2, z3, st, sr, sb])
      have b0' : w2.cell? ⟨w.heap.size + 1, 0, none⟩ = some (.int .u64 b.f0.f0) := pw_cell_below hb2 (by simp [go_sem, t0, t1, t2, t3, b0, b1, b2, b3, r0, r1, r2, r3, y0, y1, y2, y3, z0, z1, z2, z3, st, sr, sb])
      have b1' : w2.cell? ⟨w.heap.size + 1, 1, none⟩ = some (.int .u64 b.f0.f1) := pw_cell_below hb2 (by simp [go_sem, t0, t1, t2, t3, b0, b1, b2, b3, r0, r1, r2, r3, y0, y1, y2, y3, z0, z1, z2, z3, st, sr, sb])
      have b2' : w2.cell? ⟨w.heap.size + 1, 2, none⟩ = some (.int .u64 b.f1.f0) := pw_cell_below hb2 (by simp [go_sem, t0, t1, t2, t3, b0, b1, b2, b3, r0, r1, r2, r3, y0, y1, y2, y3, z0, z1, z2, z3, st, sr, sb])
      have b3' : w2.cell? ⟨w.heap.size + 1, 3, none⟩ = some (.int .u64 b.f1.f1) := pw_cell_below hb2 (by simp [go_sem, t0, t1, t2, t3, b0, b1, b2, b3, r0, r1, r2, r3, y0, y1, y2, y3, z0, z1, z2, z3, st, sr, sb])
      have r0' : w2.cell? ⟨w.heap.size + 1 + 1, 0, none⟩ = some (.int .u64 0) := pw_cell_below hb2 (by simp [go_sem, t0, t1, t2, t3, b0, b1, b2, b3, r0, r1, r2, r3, y0, y1, y2, y3, z0, z1, z2, z3, st, sr, sb])
      have r1' : w2.cell? ⟨w.heap.size + 1 + 1, 1, none⟩ = some (.int .u64 0) := pw_cell_below hb2 (by simp [go_sem, t0, t1, t2, t3, b0, b1, b2, b3, r0, r1, r2, r3, y0, y1, y2, y3, z0, z1, z2, z3, st, sr, sb])
      have r2' : w2.cell? ⟨w.heap.size + 1 + 1, 2, none⟩ = some (.int .u64 0) := pw_cell_below hb2 (by simp [go_sem, t0, t1, t2, t3, b0, b1, b2, b3, r0, r1, r2, r3, y0, y1, y2, y3, z0, z1, z2, z3, st, sr, sb])
      have r3' : w2.cell? ⟨w.heap.size + 1 + 1, 3, none⟩ = some (.int .u64 0) := pw_cell_below hb2 (by simp [go_sem, t0, t1, t2, t3, b0, b1, b2, b3, r0, r1, r2, r3, y0, y1, y2, y3, z0, z1, z2, z3, st, sr, sb])
      have y0' : w2.frozen? ⟨w.heap.size + 1 + 1 + 1, 0, none⟩ = false := (hb2.frozen (p := ⟨w.heap.size + 1 + 1 + 1, 0, none⟩) (by first | (simp; omega) | (simp; done))).trans (by simp [go_sem, t0, t1, t2, t3, b0, b1, b2, b3, r0, r1, r2, r3, y0, y1, y2, y3, z0, z1, z2, z3, st, sr, sb])
      have y1' : w2.frozen? ⟨w.heap.size + 1 + 1 + 1, 1, none⟩ = false := (hb2.frozen (p := ⟨w.heap.size + 1 + 1 + 1, 1, none⟩) (by first | (simp; omega) | (simp; done))).trans (by simp [go_sem, t0, t1, t2, t3, b0, b1, b2, b3, r0, r1, r2, r3, y0, y1, y2, y3, z0, z1, z2, z3, st, sr, sb])
      have y2' : w2.frozen? ⟨w.heap.size + 1 + 1 + 1, 2, none⟩ = false := (hb2.frozen (p := ⟨w.heap.size + 1 + 1 + 1, 2, none⟩) (by first | (simp; omega) | (simp; done))).trans (by simp [go_sem, t0, t1, t2, t3, b0, b1, b2, b3, r0, r1, r2, r3, y0, y1, y2, y3, z0, z1, z2, z3, st, sr, sb])
      have y3' : w2.frozen? ⟨w.heap.size + 1 + 1 + 1, 3, none⟩ = false := (hb2.frozen (p := ⟨w.heap.size + 1 + 1 + 1, 3, none⟩) (by first | (simp; omega) | (simp; done))).trans (by simp [go_sem, t0, t1, t2, t3, b0, b1, b2, b3, r0, r1, r2, r3, y0, y1, y2, y3, z0, z1, z2, z3, st, sr, sb])
      have z0' : w2.frozen? ⟨w.heap.size + 1 + 1, 0, none⟩ = false := (hb2.frozen (p := ⟨w.heap.size + 1 + 1, 0, none⟩) (by first | (simp; omega) | (simp; done))).trans (by simp [go_sem, t0, t1, t2, t3, b0, b1, b2, b3, r0, r1, r2, r3, y0, y1, y2, y3, z0, z1, z2, z3, st, sr, sb])
      have z1' : w2.frozen? ⟨w.heap.size + 1 + 1, 1, none⟩ = false := (hb2.frozen (p := ⟨w.heap.size + 1 + 1, 1, none⟩) (by first | (simp; omega) | (simp; done))).trans (by simp [go_sem, t0, t1, t2, t3, b0, b1, b2, b3, r0, r1, r2, r3, y0, y1, y2, y3, z0, z1, z2, z3, st, sr, sb])
      have z2' : w2.frozen? ⟨w.heap.size + 1 + 1, 2, none⟩ = false := (hb2.frozen (p := ⟨w.heap.size + 1 + 1, 2, none⟩) (by first | (simp; omega) | (simp; done))).trans (by simp [go_sem, t0, t1, t2, t3, b0, b1, b2, b3, r0, r1, r2, r3, y0, y1, y2, y3, z0, z1, z2, z3, st, sr, sb])
      have z3' : w2.frozen? ⟨w.heap.size + 1 + 1, 3, none⟩ = false := (hb2.frozen (p := ⟨w.heap.size + 1 + 1, 3, none⟩) (by first | (simp; omega) | (simp; done))).trans (by simp [go_sem, t0, t1, t2, t3, b0, b1, b2, b3, r0, r1, r2, r3, y0, y1, y2, y3, z0, z1, z2, z3, st, sr, sb])
      have st' : w.heap.size + 1 + 1 + 1 < w2.heap.size := World.block_lt_of_cell? w2 _ t0'
      have sr' : w.heap.size + 1 + 1 < w2.heap.size := by omega
      have sb' : w.heap.size + 1 < w2.heap.size := by omega
      clear t0 t1 t2 t3 b0 b1 b2 b3 r0 r1 r2 r3 y0 y1 y2 y3 z0 z1 z2 z3 st sr sb
      have t0 := t0'
      clear t0'
      have t1 := t1'
      clear t1'
      have t2 := t2'
      clear t2'
      have t3 := t3'
      clear t3'
      have b0 := b0'
      clear b0'
      have b1 := b1'
      clear b1'
      have b2 := b2'
      clear b2'
      have b3 := b3'
      clear b3'
      have r0 := r0'
      clear r0'
      have r1 := r1'
      clear r1'
      have r2 := r2'
      clear r2'
      have r3 := r3'
      clear r3'
      have y0 := y0'
      clear y0'
      have y1 := y1'
      clear y1'
      have y2 := y2'
      clear y2'
      have y3 := y3'
      clear y3'
      have z0 := z0'
      clear z0'
      have z1 := z1'
      clear z1'
      have z2 := z2'
      clear z2'
      have z3 := z3'
      clear z3'
      have st := st'
      clear st'
      have sr := sr'
      clear sr'
      have sb := sb'
      clear sb'
      have V1 := Aside0.mk v1
      clear hb2 v1
      go_wp2_with fail
      have M := Aside0.mk (meet_of (a) (b) V0.out V1.out)
      cases v2 : decide (cmpA a.f1 a.f0 < 0) with
      | true =>
        refine (HLs.out a.f1 a.f0 true v2 _).mono ?_
        rintro e w3 ⟨rfl, hb3⟩
        have HB3 := Aside0.mk (kbelow hb3 (show Below w.heap.size w _ by have HH := HB2.out; go_grown))
        have t0' : w3.cell? ⟨w.heap.size + 1 + 1 + 1, 0, none⟩ = some (.int .u64 a.f0.f0) := pw_cell_below hb3 (by simp [go_sem, t0, t1, t2, t3, b0, b1, b2, b3, r0, r1, r2, r3, y0, y1, y2, y3, z0, z1, z2, z3, st, sr, sb])
        have t1' : w3.cell? ⟨w.heap.size + 1 + 1 + 1, 1, none⟩ = some (.int .u64 a.f0.f1) := pw_cell_below hb3 (by simp [go_sem, t0, t1, t2, t3, b0, b1, b2, b3, r0, r1, r2, r3, y0, y1, y2, y3, z0, z1, z2, z3, st, sr, sb])
        have t2' : w3.cell? ⟨w.heap.size + 1 + 1 + 1, 2, none⟩ = some (.int .u64 a.f1.f0) := pw_cell_below hb3 (by simp [go_sem, t0, t1, t2, t3, b0, b1, b2, b3, r0, r1, r2, r3, y0, y1, y2, y3, z0, z1, z2, z3, st, sr, sb])
        have t3' : w3.cell? ⟨w.heap.size + 1 + 1 + 1, 3, none⟩ = some (.int .u64 a.f1.f1) := pw_cell_below hb3 (by simp [go_sem, t0, t1, t2, t3, b0, b1, b2, b3, r0, r1, r2, r3, y0, y1, y2, y3, z0, z1, z2, z3, st, sr, sb])
        have b0' : w3.cell? ⟨w.heap.size + 1, 0, none⟩ = some (.int .u64 b.f0.f0) := pw_cell_below hb3 (by simp [go_sem, t0, t1, t2, t3, b0, b1, b2, b3, r0, r1, r2, r3, y0, y1, y2, y3, z0, z1, z2, z3, st, sr, sb])
        have b1' : w3.cell? ⟨w.heap.size + 1, 1, none⟩ = some (.int .u64 b.f0.f1) := pw_cell_below hb3 (by simp [go_sem, t0, t1, t2, t3, b0, b1, b2, b3, r0, r1, r2, r3, y0, y1, y2, y3, z0, z1, z2, z3, st, sr, sb])
        have b2' : w3.cell? ⟨w.heap.size + 1, 2, none⟩ = some (.int .u64 b.f1.f0) := pw_cell_below hb3 (by simp [go_sem, t0, t1, t2, t3, b0, b1, b2, b3, r0, r1, r2, r3, y0, y1, y2, y3, z0, z1, z2, z3, st, sr, sb])
        have b3' : w3.cell? ⟨w.heap.size + 1, 3, none⟩ = some (.int .u64 b.f1.f1) := pw_cell_below hb3 (by simp [go_sem, t0, t1, t2, t3, b0, b1, b2, b3, r0, r1, r2, r3, y0, y1, y2, y3, z0, z1, z2, z3, st, sr, sb])
        have r0' : w3.cell? ⟨w.heap.size + 1 + 1, 0, none⟩ = some (.int .u64 0) := pw_cell_below hb3 (by simp [go_sem, t0, t1, t2, t3, b0, b1, b2, b3, r0, r1, r2, r3, y0, y1, y2, y3, z0, z1, z2, z3, st, sr, sb])
        have r1' : w3.cell? ⟨w.heap.size + 1 + 1, 1, none⟩ = some (.int .u64 0) := pw_cell_below hb3 (by simp [go_sem, t0, t1, t2, t3, b0, b1, b2, b3, r0, r1, r2, r3, y0, y1, y2, y3, z0, z1, z2, z3, st, sr, sb])
        have r2' : w3.cell? ⟨w.heap.size + 1 + 1, 2, none⟩ = some (.int .u64 0) := pw_cell_below hb3 (by simp [go_sem, t0, t1, t2, t3, b0, b1, b2, b3, r0, r1, r2, r3, y0, y1, y2, y3, z0, z1, z2, z3, st, sr, sb])
        have r3' : w3.cell? ⟨w.heap.size + 1 + 1, 3, none⟩ = some (.int .u64 0) := pw_cell_below hb3 (by simp [go_sem, t0, t1, t2, t3, b0, b1, b2, b3, r0, r1, r2, r3, y0, y1, y2, y3, z0, z1, z2, z3, st, sr, sb])
        have y0' : w3.frozen? ⟨w.heap.size + 1 + 1 + 1, 0, none⟩ = false := (hb3.frozen (p := ⟨w.heap.size + 1 + 1 + 1, 0, none⟩) (by first | (simp; omega) | (simp; done))).trans (by simp [go_sem, t0, t1, t2, t3, b0, b1, b2, b3, r0, r1, r2, r3, y0, y1, y2, y3, z0, z1, z2, z3, st, sr, sb])
        have y1' : w3.frozen? ⟨w.heap.size + 1 + 1 + 1, 1, none⟩ = false := (hb3.frozen (p := ⟨w.heap.size + 1 + 1 + 1, 1, none⟩) (by first | (simp; omega) | (simp; done))).trans (by simp [go_sem, t0, t1, t2, t3, b0, b1, b2, b3, r0, r1, r2, r3, y0, y1, y2, y3, z0, z1, z2, z3, st, sr, sb])
        have y2' : w3.frozen? ⟨w.heap.size + 1 + 1 + 1, 2, none⟩ = false := (hb3.frozen (p := ⟨w.heap.size + 1 + 1 + 1, 2, none⟩) (by first | (simp; omega) | (simp; done))).trans (by simp [go_sem, t0, t1, t2, t3, b0, b1, b2, b3, r0, r1, r2, r3, y0, y1, y2, y3, z0, z1, z2, z3, st, sr, sb])
        have y3' : w3.frozen? ⟨w.heap.size + 1 + 1 + 1, 3, none⟩ = false := (hb3.frozen (p := ⟨w.heap.size + 1 + 1 + 1, 3, none⟩) (by first | (simp; omega) | (simp; done))).trans (by simp [go_sem, t0, t1, t2, t3, b0, b1, b2, b3, r0, r1, r2, r3, y0, y1, y2, y3, z0, z1, z2, z3, st, sr, sb])
        have z0' : w3.frozen? ⟨w.heap.size + 1 + 1, 0, none⟩ = false := (hb3.frozen (p := ⟨w.heap.size + 1 + 1, 0, none⟩) (by first | (simp; omega) | (simp; done))).trans (by simp [go_sem, t0, t1, t2, t3, b0, b1, b2, b3, r0, r1, r2, r3, y0, y1, y2, y3, z0, z1, z2, z3, st, sr, sb])
        have z1' : w3.frozen? ⟨w.heap.size + 1 + 1, 1, none⟩ = false := (hb3.frozen (p := ⟨w.heap.size + 1 + 1, 1, none⟩) (by first | (simp; omega) | (simp; done))).trans (by simp [go_sem, t0, t1, t2, t3, b0, b1, b2, b3, r0, r1, r2, r3, y0, y1, y2, y3, z0, z1, z2, z3, st, sr, sb])
        have z2' : w3.frozen? ⟨w.heap.size + 1 + 1, 2, none⟩ = false := (hb3.frozen (p := ⟨w.heap.size + 1 + 1, 2, none⟩) (by first | (simp; omega) | (simp; done))).trans (by simp [go_sem, t0, t1, t2, t3, b0, b1, b2, b3, r0, r1, r2, r3, y0, y1, y2, y3, z0, z1, z2, z3, st, sr, sb])
        have z3' : w3.frozen? ⟨w.heap.size + 1 + 1, 3, none⟩ = false := (hb3.frozen (p := ⟨w.heap.size + 1 + 1, 3, none⟩) (by first | (simp; omega) | (simp; done))).trans (by simp [go_sem, t0, t1, t2, t3, b0, b1, b2, b3, r0, r1, r2, r3, y0, y1, y2, y3, z0, z1, z2, z3, st, sr, sb])
        have st' : w.heap.size + 1 + 1 + 1 < w3.heap.size := World.block_lt_of_cell? w3 _ t0'
        have sr' : w.heap.size + 1 + 1 < w3.heap.size := by omega
        have sb' : w.heap.size + 1 < w3.heap.size := by omega
        clear t0 t1 t2 t3 b0 b1 b2 b3 r0 r1 r2 r3 y0 y1 y2 y3 z0 z1 z2 z3 st sr sb
        have t0 := t0'
        clear t0'
        have t1 := t1'
        clear t1'
        have t2 := t2'
        clear t2'
        have t3 := t3'
        clear t3'
        have b0 := b0'
        clear b0'
        have b1 := b1'
        clear b1'
        have b2 := b2'
        clear b2'
        have b3 := b3'
        clear b3'
        have r0 := r0'
        clear r0'
        have r1 := r1'
        clear r1'
        have r2 := r2'
        clear r2'
        have r3 := r3'
        clear r3'
        have y0 := y0'
        clear y0'
        have y1 := y1'
        clear y1'
        have y2 := y2'
        clear y2'
        have y3 := y3'
        clear y3'
        have z0 := z0'
        clear z0'
        have z1 := z1'
        clear z1'
        have z2 := z2'
        clear z2'
        have z3 := z3'
        clear z3'
        have st := st'
        clear st'
        have sr := sr'
        clear sr'
        have sb := sb'
        clear sb'
        have H := Aside0.mk (meet_end M.out v2)
        clear hb3 v2
        go_wp2
        refine bodyPost_ret (v := .tuple #[.agg #[.int .u64 0, .int .u64 0, .int .u64 0, .int .u64 0], .bool false]) (by simp [results, Try.results37, go_sem, r0, r1, r2, r3, sr]) rfl ?_
        exact ⟨by rw [H.out]; rfl, by have HH := HB3.out; go_grown⟩
      | false =>
        refine (HLs.out a.f1 a.f0 false v2 _).mono ?_
        rintro e w3 ⟨rfl, hb3⟩
        have HB3 := Aside0.mk (kbelow hb3 (show Below w.heap.size w _ by have HH := HB2.out; go_grown))
        have t0' : w3.cell? ⟨w.heap.size + 1 + 1 + 1, 0, none⟩ = some (.int .u64 a.f0.f0) := pw_cell_below hb3 (by simp [go_sem, t0, t1, t2, t3, b0, b1, b2, b3, r0, r1, r2, r3, y0, y1, y2, y3, z0, z1, z2, z3, st, sr, sb])
        have t1' : w3.cell? ⟨w.heap.size + 1 + 1 + 1, 1, none⟩ = some (.int .u64 a.f0.f1) := pw_cell_below hb3 (by simp [go_sem, t0, t1, t2, t3, b0, b1, b2, b3, r0, r1, r2, r3, y0, y1, y2, y3, z0, z1, z2, z3, st, sr, sb])
        have t2' : w3.cell? ⟨w.heap.size + 1 + 1 + 1, 2, none⟩ = some (.int .u64 a.f1.f0) := pw_cell_below hb3 (by simp [go_sem, t0, t1, t2, t3, b0, b1, b2, b3, r0, r1, r2, r3, y0, y1, y2, y3, z0, z1, z2, z3, st, sr, sb])
        have t3' : w3.cell? ⟨w.heap.size + 1 + 1 + 1, 3, none⟩ = some (.int .u64 a.f1.f1) := pw_cell_below hb3 (by simp [go_sem, t0, t1, t2, t3, b0, b1, b2, b3, r0, r1, r2, r3, y0, y1, y2, y3, z0, z1, z2, z3, st, sr, sb])
        have b0' : w3.cell? ⟨w.heap.size + 1, 0, none⟩ = some (.int .u64 b.f0.f0) := pw_cell_below hb3 (by simp [go_sem, t0, t1, t2, t3, b0, b1, b2, b3, r0, r1, r2, r3, y0, y1, y2, y3, z0, z1, z2, z3, st, sr, sb])
        have b1' : w3.cell? ⟨w.heap.size + 1, 1, none⟩ = some (.int .u64 b.f0.f1) := pw_cell_below hb3 (by simp [go_sem, t0, t1, t2, t3, b0, b1, b2, b3, r0, r1, r2, r3, y0, y1, y2, y3, z0, z1, z2, z3, st, sr, sb])
        have b2' : w3.cell? ⟨w.heap.size + 1, 2, none⟩ = some (.int .u64 b.f1.f0) := pw_cell_below hb3 (by simp [go_sem, t0, t1, t2, t3, b0, b1, b2, b3, r0, r1, r2, r3, y0, y1, y2, y3, z0, z1, z2, z3, st, sr, sb])
        have b3' : w3.cell? ⟨w.heap.size + 1, 3, none⟩ = some (.int .u64 b.f1.f1) := pw_cell_below hb3 (by simp [go_sem, t0, t1, t2, t3, b0, b1, b2, b3, r0, r1, r2, r3, y0, y1, y2, y3, z0, z1, z2, z3, st, sr, sb])
        have r0' : w3.cell? ⟨w.heap.size + 1 + 1, 0, none⟩ = some (.int .u64 0) := pw_cell_below hb3 (by simp [go_sem, t0, t1, t2, t3, b0, b1, b2, b3, r0, r1, r2, r3, y0, y1, y2, y3, z0, z1, z2, z3, st, sr, sb])
        have r1' : w3.cell? ⟨w.heap.size + 1 + 1, 1, none⟩ = some (.int .u64 0) := pw_cell_below hb3 (by simp [go_sem, t0, t1, t2, t3, b0, b1, b2, b3, r0, r1, r2, r3, y0, y1, y2, y3, z0, z1, z2, z3, st, sr, sb])
        have r2' : w3.cell? ⟨w.heap.size + 1 + 1, 2, none⟩ = some (.int .u64 0) := pw_cell_below hb3 (by simp [go_sem, t0, t1, t2, t3, b0, b1, b2, b3, r0, r1, r2, r3, y0, y1, y2, y3, z0, z1, z2, z3, st, sr, sb])
        have r3' : w3.cell? ⟨w.heap.size + 1 + 1, 3, none⟩ = some (.int .u64 0) := pw_cell_below hb3 (by simp [go_sem, t0, t1, t2, t3, b0, b1, b2, b3, r0, r1, r2, r3, y0, y1, y2, y3, z0, z1, z2, z3, st, sr, sb])
        have y0' : w3.frozen? ⟨w.heap.size + 1 + 1 + 1, 0, none⟩ = false := (hb3.frozen (p := ⟨w.heap.size + 1 + 1 + 1, 0, none⟩) (by first | (simp; omega) | (simp; done))).trans (by simp [go_sem, t0, t1, t2, t3, b0, b1, b2, b3, r0, r1, r2, r3, y0, y1, y2, y3, z0, z1, z2, z3, st, sr, sb])
        have y1' : w3.frozen? ⟨w.heap.size + 1 + 1 + 1, 1, none⟩ = false := (hb3.frozen (p := ⟨w.heap.size + 1 + 1 + 1, 1, none⟩) (by first | (simp; omega) | (simp; done))).trans (by simp [go_sem, t0, t1, t2, t3, b0, b1, b2, b3, r0, r1, r2, r3, y0, y1, y2, y3, z0, z1, z2, z3, st, sr, sb])
        have y2' : w3.frozen? ⟨w.heap.size + 1 + 1 + 1, 2, none⟩ = false := (hb3.frozen (p := ⟨w.heap.size + 1 + 1 + 1, 2, none⟩) (by first | (simp; omega) | (simp; done))).trans (by simp [go_sem, t0, t1, t2, t3, b0, b1, b2, b3, r0, r1, r2, r3, y0, y1, y2, y3, z0, z1, z2, z3, st, sr, sb])
        have y3' : w3.frozen? ⟨w.heap.size + 1 + 1 + 1, 3, none⟩ = false := (hb3.frozen (p := ⟨w.heap.size + 1 + 1 + 1, 3, none⟩) (by first | (simp; omega) | (simp; done))).trans (by simp [go_sem, t0, t1, t2, t3, b0, b1, b2, b3, r0, r1, r2, r3, y0, y1, y2, y3, z0, z1, z2, z3, st, sr, sb])
        have z0' : w3.frozen? ⟨w.heap.size + 1 + 1, 0, none⟩ = false := (hb3.frozen (p := ⟨w.heap.size + 1 + 1, 0, none⟩) (by first | (simp; omega) | (simp; done))).trans (by simp [go_sem, t0, t1, t2, t3, b0, b1, b2, b3, r0, r1, r2, r3, y0, y1, y2, y3, z0, z1, z2, z3, st, sr, sb])
        have z1' : w3.frozen? ⟨w.heap.size + 1 + 1, 1, none⟩ = false := (hb3.frozen (p := ⟨w.heap.size + 1 + 1, 1, none⟩) (by first | (simp; omega) | (simp; done))).trans (by simp [go_sem, t0, t1, t2, t3, b0, b1, b2, b3, r0, r1, r2, r3, y0, y1, y2, y3, z0, z1, z2, z3, st, sr, sb])
        have z2' : w3.frozen? ⟨w.heap.size + 1 + 1, 2, none⟩ = false := (hb3.frozen (p := ⟨w.heap.size + 1 + 1, 2, none⟩) (by first | (simp; omega) | (simp; done))).trans (by simp [go_sem, t0, t1, t2, t3, b0, b1, b2, b3, r0, r1, r2, r3, y0, y1, y2, y3, z0, z1, z2, z3, st, sr, sb])
        have z3' : w3.frozen? ⟨w.heap.size + 1 + 1, 3, none⟩ = false := (hb3.frozen (p := ⟨w.heap.size + 1 + 1, 3, none⟩) (by first | (simp; omega) | (simp; done))).trans (by simp [go_sem, t0, t1, t2, t3, b0, b1, b2, b3, r0, r1, r2, r3, y0, y1, y2, y3, z0, z1, z2, z3, st, sr, sb])
        have st' : w.heap.size + 1 + 1 + 1 < w3.heap.size := World.block_lt_of_cell? w3 _ t0'
        have sr' : w.heap.size + 1 + 1 < w3.heap.size := by omega
        have sb' : w.heap.size + 1 < w3.heap.size := by omega
        clear t0 t1 t2 t3 b0 b1 b2 b3 r0 r1 r2 r3 y0 y1 y2 y3 z0 z1 z2 z3 st sr sb
        have t0 := t0'
        clear t0'
        have t1 := t1'
        clear t1'
        have t2 := t2'
        clear t2'
        have t3 := t3'
        clear t3'
        have b0 := b0'
        clear b0'
        have b1 := b1'
        clear b1'
        have b2 := b2'
        clear b2'
        have b3 := b3'
        clear b3'
        have r0 := r0'
        clear r0'
        have r1 := r1'
        clear r1'
        have r2 := r2'
        clear r2'
        have r3 := r3'
        clear r3'
        have y0 := y0'
        clear y0'
        have y1 := y1'
        clear y1'
        have y2 := y2'
        clear y2'
        have y3 := y3'
        clear y3'
        have z0 := z0'
        clear z0'
        have z1 := z1'
        clear z1'
        have z2 := z2'
        clear z2'
        have z3 := z3'
        clear z3'
        have st := st'
        clear st'
        have sr := sr'
        clear sr'
        have sb := sb'
        clear sb'
        have H := Aside0.mk (meet_end M.out v2)
        clear hb3 v2
        go_wp2
        refine bodyPost_ret (v := .tuple #[.agg #[.int .u64 a.f0.f0, .int .u64 a.f0.f1, .int .u64 a.f1.f0, .int .u64 a.f1.f1], .bool true]) (by simp [results, Try.results37, go_sem, r0, r1, r2, r3, sr]) rfl ?_
        exact ⟨by rw [H.out]; rfl, by have HH := HB3.out; go_grown⟩
end Go.Proofs.Ytcgcognejjpcmaa
