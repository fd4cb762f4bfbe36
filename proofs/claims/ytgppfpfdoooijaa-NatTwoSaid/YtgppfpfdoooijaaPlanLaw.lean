/- What is told of a plan: no program in sight. -/
import Derived.Test.YtgppfpfdoooijaaMake
namespace Go.Proofs.Ytgppfpfdoooijaa
open Go.RowKit Go.Proofs.YtgppfpfdoooijaaW.PrintWords
set_option linter.unusedVariables false
set_option linter.unusedSimpArgs false

theorem outP_f (U O : S51) (p : Int) : (outP U O p).f0 = U.f0 ∧ (outP U O p).f2 = U.f2 := ⟨rfl, rfl⟩
theorem srcU_f (c : S36) (zn inn : Int) (J O : S51) (cl : Bool) : (srcU c zn inn J O cl).1.f0 = J.f0 ∧ (srcU c zn inn J O cl).1.f2 = J.f2 := by
  unfold srcU
  split
  · exact ⟨rfl, rfl⟩
  · split
    · exact ⟨rfl, rfl⟩
    · exact ⟨rfl, rfl⟩
theorem portR_some {U O u : S51} {lk : Bool} {fr tt : Int} {l : List S51} (h : portR U O lk fr tt l = some u) : freeK (turnK u) O l = true ∧ u.f0 = U.f0 ∧ u.f2 = U.f2 := by
  unfold portR at h
  split at h
  · cases hf : (List.range (manyP fr tt)).find? (hitP U O fr tt l) with
    | none => rw [hf] at h; cases h
    | some i =>
      rw [hf] at h
      injection h with h
      subst h
      have := List.find?_some hf
      exact ⟨this, outP_f _ _ _⟩
  · split at h
    · rename_i hf
      injection h with h
      subst h
      exact ⟨hf, rfl, rfl⟩
    · cases h
/-- A plan, or none. -/
theorem make_cases (c : S36) (inn : Int) (k : S51) (l : List S51) :
    (∃ (a d : S39) (s t q i z : Int), makeF c inn k l = (⟨⟨k.f0, k.f1, d, k.f3, q⟩, k, ⟨k.f0, a, d, s, t⟩, turnK ⟨k.f0, a, d, s, t⟩, turnK k, i, z⟩, 0) ∧ freeK (turnK ⟨k.f0, a, d, s, t⟩) k l = true) ∨
    (∃ r, r ≠ 0 ∧ makeF c inn k l = (zPL, r)) := by
  unfold makeF
  split
  · split
    · rename_i u hu
      obtain ⟨h1, h2, h3⟩ := portR_some hu
      left
      have h4 := srcU_f c (routeF c (destF c k).1).2 inn (judgeK c k) k (decide (0 ≤ (destF c k).2.2))
      rw [h4.1] at h2
      rw [h4.2] at h3
      obtain ⟨u0, u1, u2, u3, u4⟩ := u
      replace h2 : u0 = k.f0 := h2
      replace h3 : u2 = (destF c k).1 := h3
      subst h2 h3
      exact ⟨u1, (destF c k).1, u3, u4, _, _, _, rfl, h1⟩
    · exact .inr ⟨15, by decide, rfl⟩
  · rename_i h
    exact .inr ⟨_, h, rfl⟩
theorem free_of {b k : S51} {l : List S51} (h : freeK b k l = true) : eqK b k = false ∧ ∀ x ∈ l, eqK x b = false := by
  unfold freeK at h
  simp only [Bool.and_eq_true, Bool.not_eq_true'] at h
  refine ⟨h.1, fun x hx => ?_⟩
  cases he : eqK x b with
  | false => rfl
  | true =>
    have h2 := h.2
    unfold contK at h2
    rw [List.any_eq_false] at h2
    have h3 := h2 x hx
    rw [eqK_comm, he] at h3
    exact absurd rfl h3
end Go.Proofs.Ytgppfpfdoooijaa
