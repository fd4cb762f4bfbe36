/- A row of addresses in one block, sorted in place. -/
import Derived.Test.YtcgcognejjpcmaaCompact
namespace Go.Proofs.Ytcgcognejjpcmaa
open Go.RowKit Go.Proofs.YtcgcognejjpcmaaW.PrintWords Go.Sort
set_option linter.unusedVariables false
set_option linter.unusedSimpArgs false

theorem flat_get {xs : List S24} {t : Nat} (h : t < xs.length * 2) : (xs.flatMap ea)[t]? = (ea (xs.getD (t / 2) z24))[t % 2]? := by
  have hj : t / 2 < xs.length := by omega
  have h2 := rowG_get ea_len (rest := []) hj z24
  have h3 : (ea (xs.getD (t / 2) z24))[t % 2]? = ((rowG ea xs []).extract (t / 2 * 2) (t / 2 * 2 + 2))[t % 2]? := by rw [← h2, Array.getElem?_toList]
  rw [h3, Array.getElem?_extract]
  have hsz : (rowG ea xs []).size = xs.length * 2 := by rw [rowG_size ea_len]; simp
  have e : t / 2 * 2 + t % 2 = t := by omega
  rw [if_pos (by rw [hsz]; omega), e]
  simp [rowG]
theorem ea_get (x : S24) {i : Nat} (h : i < 2) : (ea x)[i]? = some ((ea x)[i]!) := by
  have : i = 0 ∨ i = 1 := by omega
  rcases this with rfl | rfl <;> rfl
theorem getD_arr {xs : List S24} {j : Nat} (h : j < xs.length) : xs.toArray[j]! = xs.getD j z24 := by
  rw [getElem!_pos xs.toArray j (by simpa using h), List.getD_eq_getElem?_getD, List.getElem?_eq_getElem h]
  simp
theorem flatK_eq (xs : List S24) : flatK ea 2 xs.toArray = (xs.flatMap ea).toArray := by
  apply Array.ext_getElem?
  intro t
  by_cases h : t < xs.length * 2
  · have hs : t < (flatK ea 2 xs.toArray).size := by simpa using h
    have h1 : (flatK ea 2 xs.toArray)[t]? = some ((flatK ea 2 xs.toArray)[t]!) := by
      rw [Array.getElem?_eq_getElem hs, getElem!_pos _ t hs]
    rw [h1, get_flatK ea 2 xs.toArray t (by simpa using h), getD_arr (by omega), ← ea_get _ (Nat.mod_lt _ (by omega)), List.getElem?_toArray, flat_get h]
  · rw [Array.getElem?_eq_none (by simp; omega), List.getElem?_toArray, List.getElem?_eq_none (by rw [flat_len ea_len]; omega)]
theorem rowG_cell {xs : List S24} {rest : List Value} {t : Nat} (h : t < xs.length * 2) : (rowG ea xs rest)[t]? = some ((flatK ea 2 xs.toArray)[t]!) := by
  have hs : t < (flatK ea 2 xs.toArray).size := by simpa using h
  rw [show (rowG ea xs rest)[t]? = (xs.flatMap ea ++ rest)[t]? by simp [rowG], List.getElem?_append_left (by rw [flat_len ea_len]; exact h)]
  have : (flatK ea 2 xs.toArray)[t]? = some ((flatK ea 2 xs.toArray)[t]!) := by rw [Array.getElem?_eq_getElem hs, getElem!_pos _ t hs]
  rw [← this, flatK_eq]
  simp
theorem put_row {xs ys : List S24} {rest : List Value} (h : ys.length = xs.length) : putCells id 0 (flatK ea 2 ys.toArray) (rowG ea xs rest) = rowG ea ys rest := by
  apply Array.ext_getElem?
  intro t
  have hs : (rowG ea xs rest).size = xs.length * 2 + rest.length := rowG_size ea_len _ _
  unfold putCells
  rw [Array.getElem?_mapIdx]
  by_cases ht : t < xs.length * 2
  · rw [rowG_cell ht, rowG_cell (by omega)]
    simp only [Option.map_some, Nat.zero_le, true_and, Nat.zero_add, size_flatK, List.size_toArray]
    rw [if_pos (by omega)]
    simp
  · have e : ∀ zs : List S24, zs.length = xs.length → (rowG ea zs rest)[t]? = rest[t - xs.length * 2]? := by
      intro zs hz
      rw [show (rowG ea zs rest)[t]? = (zs.flatMap ea ++ rest)[t]? by simp [rowG], List.getElem?_append_right (by rw [flat_len ea_len]; omega), flat_len ea_len, hz]
    rw [e xs rfl, e ys h]
    cases hr : rest[t - xs.length * 2]? with
    | none => rfl
    | some v =>
      simp only [Option.map_some, Nat.zero_le, true_and, Nat.zero_add, size_flatK, List.size_toArray]
      rw [if_neg (by omega)]
theorem sortL_len (xs : List S24) : (sortL xs).length = xs.length := List.length_mergeSort _
/-- slices.SortFunc over a row that lies in one block. -/
theorem sort_row (xs : List S24) (rest : List Value) (g cap : Nat) (w : World) (hrow : w.heap[g]? = some (.cells (rowG ea xs rest) 24 (0, 0))) (hsz : xs.length < 4611686018427387904) :
    Calls Try.prog 66 #[.slice (some ⟨g, 0, none⟩) xs.length cap, .func (.func 46) #[] #[]] w fun e w' =>
      e = .returned (.tuple #[]) ∧ w.grownBy w' (some g) ∧ w'.heap[g]? = some (.cells (rowG ea (sortL xs) rest) 24 (0, 0)) := by
  have hH : HoldsK ea 2 w g 0 xs.toArray := by
    intro t ht
    have ht' : t < xs.length * 2 := by simpa using ht
    rw [Nat.zero_add, cell_of_row w g t _ 24 (0, 0) hrow, frozen_of_row w g t _ 24 hrow]
    exact ⟨rowG_cell ht', rfl⟩
  refine (sortFunc_any g 0 cap xs.toArray w hH (blk_lt hrow) (by simpa using hsz)).mono ?_
  rintro e w' ⟨rfl, n, os, rfl⟩
  have hgl := blk_lt hrow
  have hg : (sortWorldK ea 2 w g 0 n (sortL xs).toArray os).heap = (w.heap.modify g (onCells (putCells id 0 (flatK ea 2 (sortL xs).toArray)))) ++ os := rfl
  refine ⟨rfl, ⟨rfl, rfl, rfl, ?_, fun k hk hne => ?_⟩, ?_⟩
  · rw [hg]; simp
  · have hkg : k ≠ g := fun e => hne (by rw [e])
    rw [hg, Array.getElem?_append_left (by simpa using hk), Array.getElem?_modify, if_neg (fun e => hkg e.symm)]
  · rw [hg, Array.getElem?_append_left (by simpa using hgl), Array.getElem?_modify, if_pos rfl, hrow]
    simp only [Option.map_some, onCells]
    rw [put_row (sortL_len xs)]
end Go.Proofs.Ytcgcognejjpcmaa
