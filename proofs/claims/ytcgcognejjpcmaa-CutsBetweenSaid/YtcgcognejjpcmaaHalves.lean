/- What is told of a box that is split: no program in sight. -/
import Derived.Test.YtcgcognejjpcmaaSplit
namespace Go.Proofs.Ytcgcognejjpcmaa
open Go.RowKit Go.Proofs.YtcgcognejjpcmaaW.PrintWords
set_option linter.unusedVariables false
set_option linter.unusedSimpArgs false

/-- Behind an address: just what is not at most it. -/
theorem next_le {a x : S24} (ha : FitA a) (hx : FitA x) (h : ¬ (a.f0 = 18446744073709551615 ∧ a.f1 = 18446744073709551615)) : leA (nextA a) x ↔ ¬ leA x a := by
  unfold nextA leA FitA at *
  split
  · rename_i h1
    have h0 : a.f0 ≠ 18446744073709551615 := fun e => h ⟨e, h1⟩
    rw [if_neg h0]
    simp only
    omega
  · simp only
    omega
theorem split_fact {b : S29} {f : Int} {a : S24} (h : splitOk b f a = true) : ∃ k : Nat, f = k ∧ k < 6 ∧ leA (rg b k).f0 a ∧ ¬ leA (rg b k).f1 a := by
  unfold splitOk at h
  simp only [Bool.and_eq_true, decide_eq_true_eq, Bool.not_eq_true', decide_eq_false_iff_not] at h
  obtain ⟨⟨⟨h0, h1⟩, h2⟩, h3⟩ := h
  refine ⟨f.toNat, by omega, by omega, ?_, ?_⟩
  · rw [cmp_neg, Classical.not_not] at h2; exact h2
  · rw [cmp_neg] at h3; exact h3
theorem not_top {a x : S24} (hx : FitA x) (h : ¬ leA x a) : ¬ (a.f0 = 18446744073709551615 ∧ a.f1 = 18446744073709551615) := by
  rintro ⟨h0, h1⟩
  unfold leA FitA at *
  omega
theorem rg_lo {b : S29} {k j : Nat} {a : S24} (hj : j < 6) : rg (loB b k a) j = if j = k then ⟨(rg b k).f0, a⟩ else rg b j := rg_bx _ hj
theorem rg_hi {b : S29} {k j : Nat} {a : S24} (hj : j < 6) : rg (hiB b k a) j = if j = k then ⟨nextA a, (rg b k).f1⟩ else rg b j := rg_bx _ hj
/-- The numbers of a box, of a point, fit. -/
def FitB (b : S29) : Prop := ∀ k, k < 6 → FitA (rg b k).f0 ∧ FitA (rg b k).f1
def FitP (p : S54) : Prop := ∀ k, k < 6 → FitA (nr p k)
theorem lo_has {b : S29} {k : Nat} {a : S24} {p : S54} (hk : k < 6) (h0 : leA (rg b k).f0 a) (h1 : ¬ leA (rg b k).f1 a) : hasP (loB b k a) p = true ↔ hasP b p = true ∧ leA (nr p k) a := by
  rw [hasP_iff, hasP_iff]
  constructor
  · intro h
    refine ⟨fun j hj => ?_, ?_⟩
    · have := h j hj
      rw [rg_lo hj] at this
      split at this
      · rename_i e; subst e; exact ⟨this.1, leA_trans this.2 ((leA_total a _).resolve_right h1)⟩
      · exact this
    · have := h k hk
      rw [rg_lo hk, if_pos rfl] at this
      exact this.2
  · rintro ⟨h, h2⟩ j hj
    rw [rg_lo hj]
    split
    · rename_i e; subst e; exact ⟨(h j hj).1, h2⟩
    · exact h j hj
theorem hi_has {b : S29} {k : Nat} {a : S24} {p : S54} (ha : FitA a) (hb : FitB b) (hp : FitP p) (hk : k < 6) (h0 : leA (rg b k).f0 a) (h1 : ¬ leA (rg b k).f1 a) : hasP (hiB b k a) p = true ↔ hasP b p = true ∧ ¬ leA (nr p k) a := by
  rw [hasP_iff, hasP_iff]
  have hn := not_top (hb k hk).2 h1
  constructor
  · intro h
    refine ⟨fun j hj => ?_, ?_⟩
    · have := h j hj
      rw [rg_hi hj] at this
      split at this
      · rename_i e; subst e
        have h3 := (next_le ha (hp j hj) hn).1 this.1
        exact ⟨leA_trans h0 ((leA_total a _).resolve_right h3), this.2⟩
      · exact this
    · have := h k hk
      rw [rg_hi hk, if_pos rfl] at this
      exact (next_le ha (hp k hk) hn).1 this.1
  · rintro ⟨h, h2⟩ j hj
    rw [rg_hi hj]
    split
    · rename_i e; subst e; exact ⟨(next_le ha (hp j hj) hn).2 h2, (h j hj).2⟩
    · exact h j hj
theorem lo_covered {b : S29} {k : Nat} {a : S24} (h1 : ¬ leA (rg b k).f1 a) : coversB b (loB b k a) = true := covers_iff.2 (.inr fun j hj => by
  rw [rg_lo hj]
  split
  · rename_i e; subst e; exact ⟨leA_refl _, (leA_total a _).resolve_right h1⟩
  · exact ⟨leA_refl _, leA_refl _⟩)
theorem hi_covered {b : S29} {k : Nat} {a : S24} (ha : FitA a) (hb : FitB b) (h0 : leA (rg b k).f0 a) (h1 : ¬ leA (rg b k).f1 a) (hk : k < 6) : coversB b (hiB b k a) = true := covers_iff.2 (.inr fun j hj => by
  have hn := not_top (hb k hk).2 h1
  rw [rg_hi hj]
  split
  · rename_i e; subst e
    refine ⟨?_, leA_refl _⟩
    have : leA a (nextA a) := by
      rcases leA_total a (nextA a) with h | h
      · exact h
      · exfalso
        unfold nextA leA FitA at *
        split at h
        · rename_i h1
          have h0 : a.f0 ≠ 18446744073709551615 := fun e => hn ⟨e, h1⟩
          rw [if_neg h0] at h
          simp only at h
          omega
        · simp only at h
          omega
    exact leA_trans h0 this
  · exact ⟨leA_refl _, leA_refl _⟩)
/-- What the law says of the halves. -/
theorem halves_law {b : S29} {f : Int} {a : S24} {p : S54} (ha : FitA a) (hb : FitB b) (hp : FitP p) (h : splitOk b f a = true) :
    let x := hasP (splitB b f a).1 p
    let y := hasP (splitB b f a).2.1 p
    (x && y) = false ∧ (x || y) = hasP b p ∧ coversB b (splitB b f a).1 = true ∧ coversB b (splitB b f a).2.1 = true := by
  obtain ⟨k, rfl, hk, h0, h1⟩ := split_fact h
  rw [split_yes h]
  have hl := lo_has (p := p) hk h0 h1
  have hh := hi_has (p := p) ha hb hp hk h0 h1
  refine ⟨?_, ?_, lo_covered h1, hi_covered ha hb h0 h1 hk⟩
  · cases hx : hasP (loB b k a) p <;> cases hy : hasP (hiB b k a) p <;> first | rfl | exact absurd (hl.1 hx).2 (hh.1 hy).2
  · show (hasP (loB b k a) p || hasP (hiB b k a) p) = hasP b p
    by_cases hP : hasP b p = true
    · rw [hP]
      by_cases hle : leA (nr p k) a
      · rw [hl.2 ⟨hP, hle⟩]; rfl
      · rw [hh.2 ⟨hP, hle⟩]; simp
    · have e1 : hasP (loB b k a) p = false := by rw [← Bool.not_eq_true]; exact fun e => hP (hl.1 e).1
      have e2 : hasP (hiB b k a) p = false := by rw [← Bool.not_eq_true]; exact fun e => hP (hh.1 e).1
      rw [e1, e2]
      simp only [Bool.not_eq_true] at hP
      rw [hP]; rfl
end Go.Proofs.Ytcgcognejjpcmaa
