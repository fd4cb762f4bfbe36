/- Between two cuts nothing changes: the plain law. -/
import Derived.Test.YtcgcognejjpcmaaRise
namespace Go.Proofs.Ytcgcognejjpcmaa
open Go.RowKit Go.Proofs.YtcgcognejjpcmaaW.PrintWords
set_option linter.unusedVariables false

theorem inW_iff {r : S26} {a : S24} : inW r a = true ↔ leA r.f0 a ∧ ltA a r.f1 := by
  unfold inW
  rw [Bool.and_eq_true, decide_eq_true_iff, decide_eq_true_iff, cmp_neg]
  constructor
  · rintro ⟨h1, h2⟩
    exact ⟨Classical.byContradiction fun h => by have := cmp_pos.2 h; omega, h2⟩
  · rintro ⟨h1, h2⟩
    exact ⟨by have := mt cmp_pos.1 (not_not_intro h1); omega, h2⟩
theorem prev_below {p r : S24} (hp : FitA p) (hr : FitA r) (h : ltA p r) : leA p (prevA r) ∧ ltA (prevA r) r ∧ prevB r = true := by
  obtain ⟨p0, p1⟩ := p
  obtain ⟨r0, r1⟩ := r
  obtain ⟨h0, h1, h2, h3⟩ := hp
  obtain ⟨k0, k1, k2, k3⟩ := hr
  simp only at h0 h1 h2 h3 k0 k1 k2 k3
  unfold ltA leA at *
  simp only at h
  have hb : prevB ⟨r0, r1⟩ = true := by
    unfold prevB
    rw [Bool.not_eq_true', ← Bool.not_eq_true, eqA_iff]
    intro e
    injection e with e1 e2
    omega
  refine ⟨?_, ?_, hb⟩
  · unfold prevA
    split
    · split
      · simp only at *; omega
      · simp only at *; omega
    · simp only at *; omega
  · unfold prevA
    split
    · split
      · simp only at *; omega
      · simp only at *; omega
    · simp only at *; omega
theorem mem_to {b : S29} {k : Nat} {e : S38} (h : (meetB e.f0 b).2 = true) (h1 : inW (rg b k) (rg e.f0 k).f1 = true) : (rg e.f0 k).f1 ∈ rawE b k e := by
  unfold rawE
  rw [h, if_pos rfl, h1]
  simp
theorem mem_prev {b : S29} {k : Nat} {e : S38} (h : (meetB e.f0 b).2 = true) (h0 : prevB (rg e.f0 k).f0 = true) (h1 : inW (rg b k) (prevA (rg e.f0 k).f0) = true) : prevA (rg e.f0 k).f0 ∈ rawE b k e := by
  unfold rawE
  rw [h, if_pos rfl, h0, h1]
  simp
theorem mem_pts {l : List S38} {b : S29} {k : Nat} (hk : k < 6) {a : S24} : a ∈ ptsF l b (k : Int) ↔ a ∈ rawF l b k := by
  unfold ptsF
  rw [if_pos (by omega), show (k : Int).toNat = k from rfl, points_same]
  have := (fold_rise (ys := rawF l b k) (xs := []) (by simp [Rising])).2 a
  rw [this]
  simp
theorem between_law {l : List S38} {b : S29} {k : Nat} {p q : S24} {e : S38} (hk : k < 6) (hp : FitA p) (hf : FitB e.f0) (he : e ∈ l) (hm : (meetB e.f0 b).2 = true) (hpq : leA p q) (hbp : hasR (rg b k) p = true) (hbq : hasR (rg b k) q = true)
    (hno : ∀ c ∈ ptsF l b (k : Int), ¬ (leA p c ∧ ltA c q)) : hasR (rg e.f0 k) p = hasR (rg e.f0 k) q := by
  rw [has_iff] at hbp hbq
  have hmem : ∀ {c}, c ∈ rawE b k e → c ∈ ptsF l b (k : Int) := fun h => (mem_pts hk).2 (List.mem_flatMap.2 ⟨e, he, h⟩)
  cases hx : hasR (rg e.f0 k) p <;> cases hy : hasR (rg e.f0 k) q
  · rfl
  · exfalso
    rw [← Bool.not_eq_true, has_iff] at hx
    rw [has_iff] at hy
    have hlt : ltA p (rg e.f0 k).f0 := fun h => hx ⟨h, leA_trans hpq hy.2⟩
    obtain ⟨h1, h2, h3⟩ := prev_below hp (hf k hk).1 hlt
    refine hno _ (hmem (mem_prev hm h3 (inW_iff.2 ⟨leA_trans hbp.1 h1, ?_⟩))) ⟨h1, ?_⟩
    · exact fun h => h2 (leA_trans (leA_trans hy.1 hbq.2) h)
    · exact fun h => h2 (leA_trans hy.1 h)
  · exfalso
    rw [has_iff] at hx
    rw [← Bool.not_eq_true, has_iff] at hy
    have hlt : ltA (rg e.f0 k).f1 q := fun h => hy ⟨leA_trans hx.1 hpq, h⟩
    refine hno _ (hmem (mem_to hm (inW_iff.2 ⟨leA_trans hbp.1 hx.2, ?_⟩))) ⟨hx.2, hlt⟩
    exact fun h => hlt (leA_trans hbq.2 h)
  · rfl
end Go.Proofs.Ytcgcognejjpcmaa
