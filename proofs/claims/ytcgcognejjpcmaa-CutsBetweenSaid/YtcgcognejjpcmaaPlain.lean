/- Boxes by the order of addresses: no program in sight. -/
import Derived.Test.YtcgcognejjpcmaaRefCovers
namespace Go.Proofs.Ytcgcognejjpcmaa
open Go.RowKit Go.Proofs.YtcgcognejjpcmaaW.PrintWords
set_option linter.unusedVariables false
set_option linter.unusedSimpArgs false

def leA (x y : S24) : Prop := x.f0 < y.f0 ∨ (x.f0 = y.f0 ∧ x.f1 ≤ y.f1)
theorem ext24 {x y : S24} (h0 : x.f0 = y.f0) (h1 : x.f1 = y.f1) : x = y := by cases x; cases y; simp_all
theorem ext26 {x y : S26} (h0 : x.f0 = y.f0) (h1 : x.f1 = y.f1) : x = y := by cases x; cases y; simp_all
theorem cmp_pos {x y : S24} : 0 < cmpA x y ↔ ¬ leA x y := by
  unfold cmpA leA
  repeat' split
  all_goals omega
theorem cmp_neg {x y : S24} : cmpA x y < 0 ↔ ¬ leA y x := by
  unfold cmpA leA
  repeat' split
  all_goals omega
theorem leA_refl (x : S24) : leA x x := .inr ⟨rfl, Int.le_refl _⟩
theorem leA_trans {x y z : S24} (h : leA x y) (k : leA y z) : leA x z := by unfold leA at *; omega
theorem leA_total (x y : S24) : leA x y ∨ leA y x := by unfold leA; omega
theorem leA_anti {x y : S24} (h : leA x y) (k : leA y x) : x = y := ext24 (by unfold leA at *; omega) (by unfold leA at *; omega)
theorem max_le {x y z : S24} : leA (maxA x y) z ↔ leA x z ∧ leA y z := by
  unfold maxA
  split
  · rename_i h
    rw [cmp_neg] at h
    constructor
    · intro k; exact ⟨leA_trans ((leA_total x y).resolve_right h) k, k⟩
    · exact fun k => k.2
  · rename_i h
    rw [cmp_neg, Classical.not_not] at h
    exact ⟨fun k => ⟨k, leA_trans h k⟩, fun k => k.1⟩
theorem le_min {x y z : S24} : leA z (minA x y) ↔ leA z x ∧ leA z y := by
  unfold minA
  split
  · rename_i h
    rw [cmp_pos] at h
    exact ⟨fun k => ⟨leA_trans k ((leA_total x y).resolve_left h), k⟩, fun k => k.2⟩
  · rename_i h
    rw [cmp_pos, Classical.not_not] at h
    exact ⟨fun k => ⟨k, leA_trans k h⟩, fun k => k.1⟩
theorem max_comm (x y : S24) : maxA x y = maxA y x := leA_anti (max_le.2 ((max_le.1 (leA_refl _)).symm)) (max_le.2 ((max_le.1 (leA_refl _)).symm))
theorem min_comm (x y : S24) : minA x y = minA y x := leA_anti (le_min.2 ((le_min.1 (leA_refl _)).symm)) (le_min.2 ((le_min.1 (leA_refl _)).symm))
theorem max_eq {x y : S24} (h : leA x y) : maxA x y = y := leA_anti (max_le.2 ⟨h, leA_refl _⟩) ((max_le.1 (leA_refl (maxA x y))).2)
theorem min_eq {x y : S24} (h : leA y x) : minA x y = y := leA_anti ((le_min.1 (leA_refl (minA x y))).2) (le_min.2 ⟨h, leA_refl _⟩)
theorem none_iff {r : S26} : noneR r = false ↔ leA r.f0 r.f1 := by
  unfold noneR
  rw [decide_eq_false_iff_not, cmp_pos, Classical.not_not]
theorem has_iff {r : S26} {a : S24} : hasR r a = true ↔ leA r.f0 a ∧ leA a r.f1 := by
  unfold hasR
  rw [Bool.and_eq_true, decide_eq_true_iff, decide_eq_true_iff, ← Int.not_lt, ← Int.not_lt, cmp_pos, cmp_pos, Classical.not_not, Classical.not_not]
theorem cover_iff {a r : S26} : coverR a r = true ↔ leA a.f0 r.f0 ∧ leA r.f1 a.f1 := by
  unfold coverR
  rw [Bool.and_eq_true, Bool.not_eq_true', Bool.not_eq_true', decide_eq_false_iff_not, decide_eq_false_iff_not, cmp_pos, cmp_neg, Classical.not_not, Classical.not_not]
theorem meet_iff {a b : S26} : (meetO a b).2 = true ↔ leA (maxA a.f0 b.f0) (minA a.f1 b.f1) := by
  have h := none_iff (r := meetR a b)
  unfold meetO
  cases hn : noneR (meetR a b) with
  | true =>
    rw [hn] at h
    simp only [if_true]
    constructor
    · intro k; cases k
    · intro k; have := h.2 k; cases this
  | false =>
    simp only [Bool.false_eq_true, if_false, true_iff]
    exact h.1 hn
theorem meetR_comm (a b : S26) : meetR a b = meetR b a := by unfold meetR; rw [max_comm, min_comm]
theorem meetO_comm (a b : S26) : meetO a b = meetO b a := by unfold meetO; rw [meetR_comm]
theorem all6 {f : Nat → Bool} : (List.range 6).all f = true ↔ ∀ k, k < 6 → f k = true := by
  rw [List.all_eq_true]
  exact ⟨fun h k hk => h k (List.mem_range.2 hk), fun h k hk => h k (List.mem_range.1 hk)⟩
theorem empty_iff {b : S29} : emptyB b = false ↔ ∀ k, k < 6 → leA (rg b k).f0 (rg b k).f1 := by
  unfold emptyB
  rw [List.any_eq_false]
  exact ⟨fun h k hk => none_iff.1 (by simpa using h k (List.mem_range.2 hk)), fun h k hk => by rw [none_iff.2 (h k (List.mem_range.1 hk))]; decide⟩
theorem hasP_iff {b : S29} {p : S54} : hasP b p = true ↔ ∀ k, k < 6 → leA (rg b k).f0 (nr p k) ∧ leA (nr p k) (rg b k).f1 := by
  unfold hasP
  rw [all6]
  exact ⟨fun h k hk => has_iff.1 (h k hk), fun h k hk => has_iff.2 (h k hk)⟩
theorem covers_iff {a b : S29} : coversB a b = true ↔ emptyB b = true ∨ ∀ k, k < 6 → leA (rg a k).f0 (rg b k).f0 ∧ leA (rg b k).f1 (rg a k).f1 := by
  unfold coversB
  rw [Bool.or_eq_true, all6]
  exact ⟨fun h => h.imp id fun h k hk => cover_iff.1 (h k hk), fun h => h.imp id fun h k hk => cover_iff.2 (h k hk)⟩
theorem meetB_iff {a b : S29} : (meetB a b).2 = true ↔ ∀ k, k < 6 → leA (maxA (rg a k).f0 (rg b k).f0) (minA (rg a k).f1 (rg b k).f1) := by
  have h : (List.range 6).all (fun k => (meetO (rg a k) (rg b k)).2) = true ↔ _ := all6
  unfold meetB
  split
  · rename_i hy
    exact ⟨fun _ k hk => meet_iff.1 (h.1 hy k hk), fun _ => rfl⟩
  · rename_i hn
    exact ⟨fun k => (by cases k), fun k => absurd (h.2 fun j hj => meet_iff.2 (k j hj)) hn⟩
theorem meetB_some {a b : S29} (h : (meetB a b).2 = true) : (meetB a b).1 = bx fun k => meetR (rg a k) (rg b k) := by
  unfold meetB at h ⊢
  split
  · rfl
  · rename_i hn; rw [if_neg hn] at h; cases h
theorem meetB_none {a b : S29} (h : (meetB a b).2 = false) : (meetB a b).1 = z29 := by
  unfold meetB at h ⊢
  split
  · rename_i hn; rw [if_pos hn] at h; cases h
  · rfl
theorem box_ext {x y : S29} (h : ∀ k, k < 6 → rg x k = rg y k) : x = y := by rw [← bx_rg x, ← bx_rg y]; exact bx_ext h
theorem rg_meet {a b : S29} (h : (meetB a b).2 = true) {k : Nat} (hk : k < 6) : rg (meetB a b).1 k = meetR (rg a k) (rg b k) := by rw [meetB_some h, rg_bx _ hk]

/-! #### The laws -/
theorem covers_same (a b : S29) : coversB a b = refcoversB a b := by
  cases he : emptyB b with
  | true => unfold coversB refcoversB; rw [he]; rfl
  | false =>
    have hb := empty_iff.1 he
    rw [Bool.eq_iff_iff]
    have h1 : refcoversB a b = true ↔ (meetB a b).2 = true ∧ eqB (meetB a b).1 b = true := by unfold refcoversB; rw [he, Bool.false_or, Bool.and_eq_true]
    rw [h1, covers_iff, he]
    constructor
    · rintro (h | h)
      · cases h
      · have hm : (meetB a b).2 = true := meetB_iff.2 fun k hk => by
          rw [max_eq (h k hk).1, min_eq (h k hk).2]; exact hb k hk
        refine ⟨hm, (eqB_iff _ _).2 (box_ext fun k hk => ?_)⟩
        rw [rg_meet hm hk]
        exact ext26 (max_eq (h k hk).1) (min_eq (h k hk).2)
    · rintro ⟨hm, he⟩
      refine .inr fun k hk => ?_
      have := congrArg (fun x => rg x k) ((eqB_iff _ _).1 he)
      simp only [rg_meet hm hk] at this
      rw [← this]
      exact ⟨(max_le.1 (leA_refl _)).1, (le_min.1 (leA_refl _)).1⟩
theorem covers_self (a : S29) : coversB a a = true := covers_iff.2 (.inr fun k hk => ⟨leA_refl _, leA_refl _⟩)
theorem covers_trans {a b c : S29} (h : coversB a b = true) (k : coversB b c = true) : coversB a c = true := by
  cases hc : emptyB c with
  | true => exact covers_iff.2 (.inl hc)
  | false =>
    have hc' := empty_iff.1 hc
    have k' := (covers_iff.1 k).resolve_left (by rw [hc]; decide)
    have hb : emptyB b = false := empty_iff.2 fun j hj => leA_trans (k' j hj).1 (leA_trans (hc' j hj) (k' j hj).2)
    have h' := (covers_iff.1 h).resolve_left (by rw [hb]; decide)
    exact covers_iff.2 (.inr fun j hj => ⟨leA_trans (h' j hj).1 (k' j hj).1, leA_trans (k' j hj).2 (h' j hj).2⟩)
/-- Its numbers are of their kind. -/
def okA (x : S24) : Prop := 0 ≤ x.f0 ∧ x.f0 ≤ 18446744073709551615 ∧ 0 ≤ x.f1 ∧ x.f1 ≤ 18446744073709551615
theorem bot_le {x : S24} (h : okA x) : leA ⟨0, 0⟩ x := by unfold okA leA at *; simp only; omega
theorem le_top {x : S24} (h : okA x) : leA x topA := by unfold okA leA topA at *; simp only; omega
theorem rg_full {k : Nat} (hk : k < 6) : rg fullB k = fullR := by
  match k, hk with
  | 0, _ => rfl
  | 1, _ => rfl
  | 2, _ => rfl
  | 3, _ => rfl
  | 4, _ => rfl
  | 5, _ => rfl
theorem full_covers {a : S29} (h : ∀ k, k < 6 → okA (rg a k).f0 ∧ okA (rg a k).f1) : coversB fullB a = true :=
  covers_iff.2 (.inr fun k hk => by rw [rg_full hk]; exact ⟨bot_le (h k hk).1, le_top (h k hk).2⟩)
theorem full_has {p : S54} (h : ∀ k, k < 6 → okA (nr p k)) : hasP fullB p = true :=
  hasP_iff.2 fun k hk => by rw [rg_full hk]; exact ⟨bot_le (h k hk), le_top (h k hk)⟩
theorem meetB_comm (a b : S29) : meetB a b = meetB b a := by
  have e : ∀ k, meetO (rg a k) (rg b k) = meetO (rg b k) (rg a k) := fun k => meetO_comm _ _
  have e' : ∀ k, meetR (rg a k) (rg b k) = meetR (rg b k) (rg a k) := fun k => meetR_comm _ _
  unfold meetB
  simp only [e, e']
theorem meet_covers {a b : S29} (h : (meetB a b).2 = true) : coversB a (meetB a b).1 = true := covers_iff.2 (.inr fun k hk => by
  rw [rg_meet h hk]
  exact ⟨(max_le.1 (leA_refl _)).1, (le_min.1 (leA_refl _)).1⟩)
theorem meet_full {a b : S29} (h : (meetB a b).2 = true) : emptyB (meetB a b).1 = false := empty_iff.2 fun k hk => by
  rw [rg_meet h hk]
  exact meetB_iff.1 h k hk
theorem meet_points (a b : S29) (p : S54) : ((meetB a b).2 && hasP (meetB a b).1 p) = (hasP a p && hasP b p) := by
  rw [Bool.eq_iff_iff, Bool.and_eq_true, Bool.and_eq_true]
  constructor
  · rintro ⟨hm, h⟩
    have h' := hasP_iff.1 h
    refine ⟨hasP_iff.2 fun k hk => ?_, hasP_iff.2 fun k hk => ?_⟩
    · have := h' k hk
      rw [rg_meet hm hk] at this
      exact ⟨(max_le.1 this.1).1, (le_min.1 this.2).1⟩
    · have := h' k hk
      rw [rg_meet hm hk] at this
      exact ⟨(max_le.1 this.1).2, (le_min.1 this.2).2⟩
  · rintro ⟨ha, hb⟩
    have ha' := hasP_iff.1 ha
    have hb' := hasP_iff.1 hb
    have hm : (meetB a b).2 = true := meetB_iff.2 fun k hk => leA_trans (max_le.2 ⟨(ha' k hk).1, (hb' k hk).1⟩) (le_min.2 ⟨(ha' k hk).2, (hb' k hk).2⟩)
    refine ⟨hm, hasP_iff.2 fun k hk => ?_⟩
    rw [rg_meet hm hk]
    exact ⟨max_le.2 ⟨(ha' k hk).1, (hb' k hk).1⟩, le_min.2 ⟨(ha' k hk).2, (hb' k hk).2⟩⟩
theorem covers_points {a b : S29} {p : S54} (h : coversB a b = true) (hp : hasP b p = true) : hasP a p = true := by
  have hp' := hasP_iff.1 hp
  have hb : emptyB b = false := empty_iff.2 fun k hk => leA_trans (hp' k hk).1 (hp' k hk).2
  have h' := (covers_iff.1 h).resolve_left (by rw [hb]; decide)
  exact hasP_iff.2 fun k hk => ⟨leA_trans (h' k hk).1 (hp' k hk).1, leA_trans (hp' k hk).2 (h' k hk).2⟩
end Go.Proofs.Ytcgcognejjpcmaa
