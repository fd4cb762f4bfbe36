/- Slices of one's own: an empty one; an element of one. -/
import Derived.Test.YtcgcognejjpcmaaMid
namespace Go.Proofs.Ytcgcognejjpcmaa
open Go.RowKit Go.Proofs.YtcgcognejjpcmaaW.PrintWords
set_option linter.unusedVariables false

theorem R_empty {α : Type} (d : Kd α) (e : Nat) (W : World) {base : Nat} {ok : Nat → Prop} (hb : base ≤ W.heap.size) (hok : ok W.heap.size) : d.R e (W.alloc (.cells #[] e)) base ok (.slice (some ⟨W.heap.size, 0, none⟩) 0 0) [] := by
  refine ⟨fun k hk => ?_, [], ?_, ?_⟩
  · have : W.heap.size = k := by simpa [Value.ownBlock] using hk
    subst this
    exact hok
  · have h2 := World.ownsRow_lit (base := base) (e := e) (size := d.sz) W #[] 0 hb (by simp [maxLen]) (by simp)
    simpa using h2
  · exact ⟨by simp, fun j p hj => by simp at hj⟩
theorem R_elem_at {α : Type} {d : Kd α} {e base n c : Nat} {ok : Nat → Prop} {w : World} {A : Option Addr} {xs : List α} (h : d.R e w base ok (.slice A n c) xs) (z : α) (k : Nat) (hk : k < n) : ∃ ad c, A = some ad ∧ d.K w (xs.getD k z) c ∧ CellsAt w (ad.add (k * d.sz)) c := by
  obtain ⟨h1, _, h2⟩ := Kd.R_reads' h
  exact elem_at h2 z k (by omega)
end Go.Proofs.Ytcgcognejjpcmaa
