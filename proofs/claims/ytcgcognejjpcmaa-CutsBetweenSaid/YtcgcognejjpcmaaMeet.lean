/- What two ranges have in common: the program's Meet and the document's. -/
import Derived.Test.YtcgcognejjpcmaaCovers
import Derived.Deep.RegionHeld3
namespace Go.Proofs.Ytcgcognejjpcmaa
open Go.RowKit Go.Proofs.YtcgcognejjpcmaaW.PrintWords
set_option linter.unusedVariables false
set_option linter.unusedSimpArgs false
attribute [local go_sem] Later.cell_eq

theorem kbelow {w W w1 : World} (hb : Below W.heap.size W w1) (h : Below w.heap.size w W) : Below w.heap.size w w1 := below_then h h.size hb
theorem ksize {W w1 : World} {n : Nat} (hb : Below W.heap.size W w1) (h : n < W.heap.size) : n < w1.heap.size := by have := hb.size; omega
def Z0 (w1 : World) (B : Nat) : Prop := w1.cell? ⟨B, 0, none⟩ = some (.int .u64 0) ∧ w1.cell? ⟨B, 1, none⟩ = some (.int .u64 0) ∧ w1.cell? ⟨B, 2, none⟩ = some (.int .u64 0) ∧ w1.cell? ⟨B, 3, none⟩ = some (.int .u64 0) ∧ w1.frozen? ⟨B, 0, none⟩ = false ∧ w1.frozen? ⟨B, 1, none⟩ = false ∧ w1.frozen? ⟨B, 2, none⟩ = false ∧ w1.frozen? ⟨B, 3, none⟩ = false ∧ B < w1.heap.size
theorem new0 {X w1 : World} (hb : Below (X.alloc (.cells #[.int .u64 0, .int .u64 0, .int .u64 0, .int .u64 0] 26)).heap.size (X.alloc (.cells #[.int .u64 0, .int .u64 0, .int .u64 0, .int .u64 0] 26)) w1) : Z0 w1 X.heap.size := by
  have h := (hb.block X.heap.size (by simp)).trans (heap_alloc_new X (.cells #[.int .u64 0, .int .u64 0, .int .u64 0, .int .u64 0] 26))
  exact ⟨by simp [World.cell?, h], by simp [World.cell?, h], by simp [World.cell?, h], by simp [World.cell?, h], by simp [World.frozen?, h], by simp [World.frozen?, h], by simp [World.frozen?, h], by simp [World.frozen?, h], (Array.getElem?_eq_some_iff.1 h).1⟩
theorem old0 {W w1 : World} {B : Nat} (hb : Below W.heap.size W w1) (h : Z0 W B) : Z0 w1 B := by
  obtain ⟨h0, h1, h2, h3, z0, z1, z2, z3, hs⟩ := h
  have hz : ∀ o v, W.frozen? ⟨B, o, none⟩ = v → w1.frozen? ⟨B, o, none⟩ = v := fun o v h => (hb.frozen (p := ⟨B, o, none⟩) hs).trans h
  exact ⟨pw_cell_below hb h0, pw_cell_below hb h1, pw_cell_below hb h2, pw_cell_below hb h3, hz _ _ z0, hz _ _ z1, hz _ _ z2, hz _ _ z3, World.block_lt_of_cell? w1 ⟨B, 0, none⟩ (pw_cell_below hb h0)⟩
def maxA (a b : S24) : S24 := if cmpA a b < 0 then b else a
def minA (a b : S24) : S24 := if 0 < cmpA a b then b else a
def meetR (a b : S26) : S26 := ⟨maxA a.f0 b.f0, minA a.f1 b.f1⟩
def zr : S26 := ⟨⟨0, 0⟩, ⟨0, 0⟩⟩
set_option maxHeartbeats 1000000 in
theorem greater_any (a b : S24) (w : World) : Calls Try.prog 61 #[.agg #[.int .u64 a.f0, .int .u64 a.f1], .agg #[.int .u64 b.f0, .int .u64 b.f1]] w fun e w' => e = .returned (.agg #[.int .u64 (maxA a b).f0, .int .u64 (maxA a b).f1]) ∧ Below w.heap.size w w' := by
  go_enter Try.func61, Try.ntmps61
  go_wp2_with fail
  refine (cmpA_any _ _ _ _ _).mono ?_
  rintro e w1 ⟨rfl, hb1⟩
  have HB1 := Aside0.mk ((show Below w.heap.size w (((w.alloc (.cells #[.int .u64 a.f0, .int .u64 a.f1] 24)).alloc (.cells #[.int .u64 b.f0, .int .u64 b.f1] 24)).alloc (.cells #[.int .u64 0, .int .u64 0] 24)) by go_grown).trans (hb1.mono (by simp; omega)))
  have a0 : w1.cell? ⟨w.heap.size, 0, none⟩ = some (.int .u64 a.f0) := pw_cell_below hb1 (by simp [go_sem])
  have a1 : w1.cell? ⟨w.heap.size, 1, none⟩ = some (.int .u64 a.f1) := pw_cell_below hb1 (by simp [go_sem])
  have b0 : w1.cell? ⟨w.heap.size + 1, 0, none⟩ = some (.int .u64 b.f0) := pw_cell_below hb1 (by simp [go_sem])
  have b1 : w1.cell? ⟨w.heap.size + 1, 1, none⟩ = some (.int .u64 b.f1) := pw_cell_below hb1 (by simp [go_sem])
  have e0 : w1.cell? ⟨w.heap.size + 1 + 1, 0, none⟩ = some (.int .u64 0) := pw_cell_below hb1 (by simp [go_sem])
  have e1 : w1.cell? ⟨w.heap.size + 1 + 1, 1, none⟩ = some (.int .u64 0) := pw_cell_below hb1 (by simp [go_sem])
  have z : ∀ o, w1.frozen? ⟨w.heap.size + 1 + 1, o, none⟩ = false := fun o => (hb1.frozen (p := ⟨w.heap.size + 1 + 1, o, none⟩) (by first | (simp; done) | (simp; omega))).trans (by simp [go_sem])
  have hs2 : w.heap.size + 1 + 1 < w1.heap.size := World.block_lt_of_cell? w1 _ e0
  clear hb1
  by_cases h : cmpA a b < 0
  · have hd : decide (cmpA ⟨a.f0, a.f1⟩ ⟨b.f0, b.f1⟩ < 0) = true := by simpa using h
    have H := Aside0.mk (show maxA a b = b from if_pos h)
    clear h
    go_wp2
    refine bodyPost_ret (v := .agg #[.int .u64 b.f0, .int .u64 b.f1]) (by simp [results, Try.results61, go_sem, e0, e1, hs2]) rfl ?_
    exact ⟨by rw [H.out], by have HH := HB1.out; go_grown⟩
  · have hd : decide (cmpA ⟨a.f0, a.f1⟩ ⟨b.f0, b.f1⟩ < 0) = false := by simpa using h
    have H := Aside0.mk (show maxA a b = a from if_neg h)
    clear h
    go_wp2
    refine bodyPost_ret (v := .agg #[.int .u64 a.f0, .int .u64 a.f1]) (by simp [results, Try.results61, go_sem, e0, e1, hs2]) rfl ?_
    exact ⟨by rw [H.out], by have HH := HB1.out; go_grown⟩
set_option maxHeartbeats 1000000 in
theorem lesser_any (a b : S24) (w : World) : Calls Try.prog 62 #[.agg #[.int .u64 a.f0, .int .u64 a.f1], .agg #[.int .u64 b.f0, .int .u64 b.f1]] w fun e w' => e = .returned (.agg #[.int .u64 (minA a b).f0, .int .u64 (minA a b).f1]) ∧ Below w.heap.size w w' := by
  go_enter Try.func62, Try.ntmps62
  go_wp2_with fail
  refine (cmpA_any _ _ _ _ _).mono ?_
  rintro e w1 ⟨rfl, hb1⟩
  have HB1 := Aside0.mk ((show Below w.heap.size w (((w.alloc (.cells #[.int .u64 a.f0, .int .u64 a.f1] 24)).alloc (.cells #[.int .u64 b.f0, .int .u64 b.f1] 24)).alloc (.cells #[.int .u64 0, .int .u64 0] 24)) by go_grown).trans (hb1.mono (by simp; omega)))
  have a0 : w1.cell? ⟨w.heap.size, 0, none⟩ = some (.int .u64 a.f0) := pw_cell_below hb1 (by simp [go_sem])
  have a1 : w1.cell? ⟨w.heap.size, 1, none⟩ = some (.int .u64 a.f1) := pw_cell_below hb1 (by simp [go_sem])
  have b0 : w1.cell? ⟨w.heap.size + 1, 0, none⟩ = some (.int .u64 b.f0) := pw_cell_below hb1 (by simp [go_sem])
  have b1 : w1.cell? ⟨w.heap.size + 1, 1, none⟩ = some (.int .u64 b.f1) := pw_cell_below hb1 (by simp [go_sem])
  have e0 : w1.cell? ⟨w.heap.size + 1 + 1, 0, none⟩ = some (.int .u64 0) := pw_cell_below hb1 (by simp [go_sem])
  have e1 : w1.cell? ⟨w.heap.size + 1 + 1, 1, none⟩ = some (.int .u64 0) := pw_cell_below hb1 (by simp [go_sem])
  have z : ∀ o, w1.frozen? ⟨w.heap.size + 1 + 1, o, none⟩ = false := fun o => (hb1.frozen (p := ⟨w.heap.size + 1 + 1, o, none⟩) (by first | (simp; done) | (simp; omega))).trans (by simp [go_sem])
  have hs2 : w.heap.size + 1 + 1 < w1.heap.size := World.block_lt_of_cell? w1 _ e0
  clear hb1
  by_cases h : 0 < cmpA a b
  · have hd : decide (0 < cmpA ⟨a.f0, a.f1⟩ ⟨b.f0, b.f1⟩) = true := by simpa using h
    have H := Aside0.mk (show minA a b = b from if_pos h)
    clear h
    go_wp2
    refine bodyPost_ret (v := .agg #[.int .u64 b.f0, .int .u64 b.f1]) (by simp [results, Try.results62, go_sem, e0, e1, hs2]) rfl ?_
    exact ⟨by rw [H.out], by have HH := HB1.out; go_grown⟩
  · have hd : decide (0 < cmpA ⟨a.f0, a.f1⟩ ⟨b.f0, b.f1⟩) = false := by simpa using h
    have H := Aside0.mk (show minA a b = a from if_neg h)
    clear h
    go_wp2
    refine bodyPost_ret (v := .agg #[.int .u64 a.f0, .int .u64 a.f1]) (by simp [results, Try.results62, go_sem, e0, e1, hs2]) rfl ?_
    exact ⟨by rw [H.out], by have HH := HB1.out; go_grown⟩
end Go.Proofs.Ytcgcognejjpcmaa
