/- Two ways to a rising row of points: sorted and squeezed; each laid into its place. -/
import Derived.Test.YtcgcognejjpcmaaRefAdd
namespace Go.Proofs.Ytcgcognejjpcmaa
open Go.RowKit Go.Proofs.YtcgcognejjpcmaaW.PrintWords Go.Sort
set_option linter.unusedVariables false

def ltA (x y : S24) : Prop := ¬ leA y x
def Rising (xs : List S24) : Prop := xs.Pairwise ltA
theorem ltA_trans {x y z : S24} (h : ltA x y) (k : ltA y z) : ltA x z := by unfold ltA leA at *; omega
theorem ltA_le {x y : S24} (h : ltA x y) : leA x y := by unfold ltA leA at *; omega
theorem ltA_irr {x : S24} (h : ltA x x) : False := h (leA_refl x)
theorem ltA_of {x y : S24} (h : leA x y) (hn : x ≠ y) : ltA x y := fun k => hn (leA_anti h k)
theorem lt_of_le {x y z : S24} (h : leA x y) (k : ltA y z) : ltA x z := by unfold ltA leA at *; omega
theorem lessB_iff {x y : S24} : lessB x y = true ↔ ltA x y := by unfold lessB; rw [decide_eq_true_iff]; exact cmp_neg
theorem lessB_no {x y : S24} (h : ¬ lessB x y = true) : leA y x := by
  rw [lessB_iff] at h
  exact Classical.not_not.1 h
theorem rising_one : ∀ {xs ys : List S24}, Rising xs → Rising ys → (∀ a, a ∈ xs ↔ a ∈ ys) → xs = ys
  | [], [], _, _, _ => rfl
  | [], y :: ys, _, _, h => absurd ((h y).2 (by simp)) (by simp)
  | x :: xs, [], _, _, h => absurd ((h x).1 (by simp)) (by simp)
  | x :: xs, y :: ys, hx, hy, h => by
    obtain ⟨hx1, hx2⟩ := List.pairwise_cons.1 hx
    obtain ⟨hy1, hy2⟩ := List.pairwise_cons.1 hy
    have e : x = y := by
      rcases List.mem_cons.1 ((h x).1 (by simp)) with e | h1
      · exact e
      rcases List.mem_cons.1 ((h y).2 (by simp)) with e | h2
      · exact e.symm
      exact absurd (ltA_trans (hx1 y h2) (hy1 x h1)) ltA_irr
    subst e
    have : xs = ys := rising_one hx2 hy2 fun a => by
      constructor
      · intro ha
        rcases List.mem_cons.1 ((h a).1 (by simp [ha])) with e | h1
        · subst e
          exact absurd (hx1 a ha) ltA_irr
        · exact h1
      · intro ha
        rcases List.mem_cons.1 ((h a).2 (by simp [ha])) with e | h1
        · subst e
          exact absurd (hy1 a ha) ltA_irr
        · exact h1
    rw [this]
theorem addA_rise {a : S24} : ∀ {xs : List S24}, Rising xs → Rising (addA xs a) ∧ ∀ b, b ∈ addA xs a ↔ b = a ∨ b ∈ xs
  | [], _ => ⟨by simp [addA, Rising], by simp [addA]⟩
  | x :: t, h => by
    obtain ⟨h1, h2⟩ := List.pairwise_cons.1 h
    obtain ⟨i1, i2⟩ := addA_rise (a := a) h2
    unfold addA
    split
    · next hl =>
      refine ⟨List.pairwise_cons.2 ⟨fun b hb => ?_, i1⟩, fun b => ?_⟩
      · rcases (i2 b).1 hb with rfl | hb
        · exact lessB_iff.1 hl
        · exact h1 b hb
      · rw [List.mem_cons, i2, List.mem_cons]
        constructor
        · rintro (h | h | h)
          · exact .inr (.inl h)
          · exact .inl h
          · exact .inr (.inr h)
        · rintro (h | h | h)
          · exact .inr (.inl h)
          · exact .inl h
          · exact .inr (.inr h)
    · next hl =>
      split
      · next he =>
        have e := (eqA_iff x a).1 he
        subst e
        refine ⟨h, fun b => ?_⟩
        rw [List.mem_cons]
        constructor
        · exact fun h => .inr h
        · rintro (h | h)
          · exact .inl h
          · exact h
      · next he =>
        have hlt : ltA a x := ltA_of (lessB_no hl) fun e => he ((eqA_iff x a).2 e.symm)
        refine ⟨List.pairwise_cons.2 ⟨fun b hb => ?_, h⟩, fun b => by rw [List.mem_cons]⟩
        rcases List.mem_cons.1 hb with rfl | hb
        · exact hlt
        · exact ltA_trans hlt (h1 b hb)
theorem fold_rise : ∀ {ys xs : List S24}, Rising xs → Rising (ys.foldl addA xs) ∧ ∀ b, b ∈ ys.foldl addA xs ↔ b ∈ xs ∨ b ∈ ys
  | [], xs, h => ⟨h, by simp⟩
  | y :: ys, xs, h => by
    obtain ⟨h1, h2⟩ := addA_rise (a := y) h
    obtain ⟨i1, i2⟩ := fold_rise (ys := ys) h1
    refine ⟨i1, fun b => ?_⟩
    rw [List.foldl_cons, i2, h2, List.mem_cons]
    constructor
    · rintro ((h | h) | h)
      · exact .inr (.inl h)
      · exact .inl h
      · exact .inr (.inr h)
    · rintro (h | h | h)
      · exact .inl (.inr h)
      · exact .inl (.inl h)
      · exact .inr h
theorem comp_rise {zs : List S24} (hs : zs.Pairwise leA) : ∀ n, n ≤ zs.length → Rising (comp zs n) ∧ ∀ b, b ∈ comp zs n ↔ b ∈ zs.take n
  | 0, _ => ⟨by simp [comp, Rising], by simp [comp]⟩
  | 1, h1 => by
    have : comp zs 1 = zs.take 1 := comp_all h1 fun j hj => by obtain rfl : j = 0 := by omega
                                                               rfl
    rw [this]
    refine ⟨?_, fun b => Iff.rfl⟩
    match zs, h1 with
    | z :: t, _ => simp [Rising]
  | n + 2, h => by
    obtain ⟨h1, h2⟩ := comp_rise hs (n + 1) (by omega)
    have hg : ∀ j (hj : j < zs.length), zs.getD j z24 = zs[j] := fun j hj => by rw [List.getD_eq_getElem?_getD, List.getElem?_eq_getElem hj]; rfl
    have hle : ∀ i j, i ≤ j → (hj : j < zs.length) → leA (zs.getD i z24) (zs.getD j z24) := fun i j hij hj => by
      rw [hg i (by omega), hg j hj]
      rcases Nat.lt_or_ge i j with h | h
      · exact List.pairwise_iff_getElem.1 hs i j (by omega) hj h
      · obtain rfl : i = j := by omega
        exact leA_refl _
    have htk : zs.take (n + 2) = zs.take (n + 1) ++ [zs.getD (n + 1) z24] := take_getD (by omega)
    have hlast : zs.getD n z24 ∈ zs.take (n + 1) := by rw [take_getD (by omega)]; simp
    cases hk : keepsA zs (n + 1) with
    | false =>
      rw [comp_no hk]
      refine ⟨h1, fun b => ?_⟩
      rw [h2, htk, List.mem_append, List.mem_singleton]
      rw [keeps_succ, Bool.not_eq_false', eqA_iff] at hk
      constructor
      · exact .inl
      · rintro (h | rfl)
        · exact h
        · rw [hk]; exact hlast
    | true =>
      rw [comp_yes hk]
      rw [keeps_succ, Bool.not_eq_true', ← Bool.not_eq_true, eqA_iff] at hk
      refine ⟨List.pairwise_append.2 ⟨h1, by simp, fun a ha b hb => ?_⟩, fun b => ?_⟩
      · rw [List.mem_singleton] at hb
        subst hb
        have hlt : ltA (zs.getD n z24) (zs.getD (n + 1) z24) := ltA_of (hle _ _ (by omega) (by omega)) fun e => hk e.symm
        obtain ⟨j, hj, rfl⟩ := List.getElem_of_mem ((h2 a).1 ha)
        rw [List.length_take] at hj
        rw [List.getElem_take, ← hg j (by omega)]
        exact lt_of_le (hle j n (by omega) (by omega)) hlt
      · rw [List.mem_append, h2, htk, List.mem_append]
theorem le_iff {x y : S24} : (!(ltOf cmpA) y x) = true ↔ leA x y := by
  rw [Bool.not_eq_true', ltOf_no']
where ltOf_no' {x y : S24} : ltOf cmpA y x = false ↔ leA x y := lt_no
theorem sortL_rise (xs : List S24) : (sortL xs).Pairwise leA := by
  have := List.pairwise_mergeSort (le := fun x y => !(ltOf cmpA) y x) (fun a b c h1 h2 => le_iff.2 (leA_trans (le_iff.1 h1) (le_iff.1 h2))) (fun a b => by
    rw [Bool.or_eq_true, le_iff, le_iff]
    exact leA_total a b) xs
  exact this.imp fun h => le_iff.1 h
/-- Sorted and squeezed, or each into its place: one row. -/
theorem points_same (raw : List S24) : comp (sortL raw) raw.length = raw.foldl addA [] := by
  have hl : raw.length = (sortL raw).length := (sortL_len raw).symm
  obtain ⟨h1, h2⟩ := comp_rise (sortL_rise raw) raw.length (by omega)
  obtain ⟨h3, h4⟩ := fold_rise (ys := raw) (xs := []) (by simp [Rising])
  refine rising_one h1 h3 fun a => ?_
  rw [h2, h4, hl, List.take_length]
  unfold sortL
  rw [List.mem_mergeSort]
  simp
end Go.Proofs.Ytcgcognejjpcmaa
