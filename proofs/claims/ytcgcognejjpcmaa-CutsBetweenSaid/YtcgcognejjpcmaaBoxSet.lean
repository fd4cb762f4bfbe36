/- Boxes by their ranges; one range of a box's cells set anew. -/
import Derived.Test.YtcgcognejjpcmaaRefMeet
namespace Go.Proofs.Ytcgcognejjpcmaa
open Go.RowKit Go.Proofs.YtcgcognejjpcmaaW.PrintWords
set_option linter.unusedVariables false
set_option linter.unusedSimpArgs false

/-- The box of these ranges. -/
def bx (f : Nat → S26) : S29 := ⟨f 0, f 1, f 2, f 3, f 4, f 5⟩
theorem rg_bx (f : Nat → S26) {k : Nat} (hk : k < 6) : rg (bx f) k = f k := by
  match k, hk with
  | 0, _ => rfl
  | 1, _ => rfl
  | 2, _ => rfl
  | 3, _ => rfl
  | 4, _ => rfl
  | 5, _ => rfl
theorem bx_rg (b : S29) : bx (rg b) = b := rfl
theorem bx_ext {f g : Nat → S26} (h : ∀ k, k < 6 → f k = g k) : bx f = bx g := by
  unfold bx
  rw [h 0 (by omega), h 1 (by omega), h 2 (by omega), h 3 (by omega), h 4 (by omega), h 5 (by omega)]
/-- Range k set anew. -/
theorem bc_set (f : Nat → S26) (r : S26) {k : Nat} (hk : k < 6) :
    ((((bc (bx f)).setIfInBounds (k * 4) (.int .u64 r.f0.f0)).setIfInBounds (k * 4 + 1) (.int .u64 r.f0.f1)).setIfInBounds (k * 4 + 2) (.int .u64 r.f1.f0)).setIfInBounds (k * 4 + 3) (.int .u64 r.f1.f1) = bc (bx fun j => if j = k then r else f j) := by
  match k, hk with
  | 0, _ => rfl
  | 1, _ => rfl
  | 2, _ => rfl
  | 3, _ => rfl
  | 4, _ => rfl
  | 5, _ => rfl
/-- What two boxes have in common. -/
def meetB (a b : S29) : S29 × Bool := if (List.range 6).all (fun k => (meetO (rg a k) (rg b k)).2) = true then (bx fun k => meetR (rg a k) (rg b k), true) else (z29, false)
theorem meetO_yes {a b : S26} (h : (meetO a b).2 = true) : meetO a b = (meetR a b, true) := by
  unfold meetO at h ⊢
  split at h
  · cases h
  · rename_i hn; rw [if_neg hn]
theorem meetO_no {a b : S26} (h : (meetO a b).2 = false) : meetO a b = (zr, false) := by
  unfold meetO at h ⊢
  split at h
  · rename_i hn; rw [if_pos hn]
  · cases h
end Go.Proofs.Ytcgcognejjpcmaa
