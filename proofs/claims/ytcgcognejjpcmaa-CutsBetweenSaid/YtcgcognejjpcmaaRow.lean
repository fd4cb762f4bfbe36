/- A row of things of m cells each, in one block: reading, writing. -/
import Derived.Test.YtcgcognejjpcmaaMid
namespace Go.Proofs.Ytcgcognejjpcmaa
open Go.RowKit Go.Proofs.YtcgcognejjpcmaaW.PrintWords
set_option linter.unusedVariables false

theorem addr_of (g n : Nat) : (⟨g, 0, none⟩ : Addr).add n = ⟨g, n, none⟩ := by
  unfold Addr.add
  by_cases h : n = 0
  · subst h; rfl
  · simp [h]
section
variable {α : Type} {enc : α → List Value} {m : Nat}
/-- The cells of a row, and what lies behind it. -/
def rowG (enc : α → List Value) (xs : List α) (rest : List Value) : Array Value := (xs.flatMap enc ++ rest).toArray
theorem flat_len (hm : ∀ x, (enc x).length = m) : ∀ xs : List α, (xs.flatMap enc).length = xs.length * m
  | [] => by simp
  | x :: xs => by rw [List.flatMap_cons, List.length_append, hm, flat_len hm xs, List.length_cons, Nat.succ_mul]; omega
theorem flat_drop (hm : ∀ x, (enc x).length = m) : ∀ (xs : List α) (k : Nat), k ≤ xs.length → (xs.flatMap enc).drop (k * m) = (xs.drop k).flatMap enc
  | xs, 0, _ => by simp
  | [], k + 1, h => by simp at h
  | x :: xs, k + 1, h => by
    have e : (k + 1) * m = (enc x).length + k * m := by rw [hm, Nat.succ_mul]; omega
    rw [List.flatMap_cons, e, List.drop_append, List.drop_eq_nil_of_le (by omega), List.nil_append, Nat.add_sub_cancel_left, flat_drop hm xs k (by simpa using h)]
    rfl
theorem flat_take (hm : ∀ x, (enc x).length = m) : ∀ (xs : List α) (k : Nat), k ≤ xs.length → (xs.flatMap enc).take (k * m) = (xs.take k).flatMap enc
  | xs, 0, _ => by simp
  | [], k + 1, h => by simp at h
  | x :: xs, k + 1, h => by
    have e : (k + 1) * m = (enc x).length + k * m := by rw [hm, Nat.succ_mul]; omega
    rw [List.flatMap_cons, e, List.take_length_add_append, flat_take hm xs k (by simpa using h)]
    rfl
theorem rowG_size (hm : ∀ x, (enc x).length = m) (xs : List α) (rest : List Value) : (rowG enc xs rest).size = xs.length * m + rest.length := by
  simp [rowG, flat_len hm]
theorem rowG_get (hm : ∀ x, (enc x).length = m) {xs : List α} {rest : List Value} {j : Nat} (hj : j < xs.length) (z : α) : ((rowG enc xs rest).extract (j * m) (j * m + m)).toList = enc (xs.getD j z) := by
  have hl := flat_len hm xs
  have hle : j * m + m ≤ xs.length * m := by rw [← Nat.succ_mul]; exact Nat.mul_le_mul_right _ hj
  rw [Array.toList_extract]
  simp only [rowG, List.extract]
  rw [List.drop_append, flat_drop hm xs j (by omega), show j * m + m - j * m = m by omega, show j * m - (xs.flatMap enc).length = 0 by omega, List.drop_zero]
  rw [List.drop_eq_getElem_cons hj, List.flatMap_cons, List.append_assoc, List.take_append_of_le_length (by rw [hm]; exact Nat.le_refl _), List.take_of_length_le (by rw [hm]; exact Nat.le_refl _)]
  congr 1
  rw [List.getD_eq_getElem?_getD, List.getElem?_eq_getElem hj]
  rfl
theorem putC_list {cs : Array Value} {o : Nat} {vs : List Value} (h : o + vs.length ≤ cs.size) : putC cs o vs = (cs.toList.take o ++ vs ++ cs.toList.drop (o + vs.length)).toArray := by
  apply Array.ext_getElem?
  intro j
  have e : ∀ L : List Value, (L.toArray)[j]? = L[j]? := fun L => by simp
  by_cases hj : j < cs.size
  · rw [putC_get vs cs o j hj, e (cs.toList.take o ++ vs ++ cs.toList.drop (o + vs.length))]
    have ht : (cs.toList.take o).length = o := by simp; omega
    by_cases h1 : j < o
    · rw [if_neg (by omega), List.append_assoc, List.getElem?_append_left (by omega), List.getElem?_take_of_lt h1]
      simp
    · by_cases h2 : j < o + vs.length
      · rw [if_pos ⟨by omega, h2⟩, List.append_assoc, List.getElem?_append_right (by omega), ht, List.getElem?_append_left (by omega)]
      · rw [if_neg (by omega), List.getElem?_append_right (by simp; omega), List.getElem?_drop]
        simp only [List.length_append, ht]
        rw [show o + vs.length + (j - (o + vs.length)) = j by omega]
        simp
  · rw [Array.getElem?_eq_none (by rw [putC_size]; omega), e (cs.toList.take o ++ vs ++ cs.toList.drop (o + vs.length)), List.getElem?_eq_none (by simp; omega)]
/-- Some of its things are written anew. -/
theorem rowG_put (hm : ∀ x, (enc x).length = m) {xs ys : List α} {rest : List Value} {k : Nat} (hk : k + ys.length ≤ xs.length) : putC (rowG enc xs rest) (k * m) (ys.flatMap enc) = rowG enc (xs.take k ++ ys ++ xs.drop (k + ys.length)) rest := by
  have hl := flat_len hm xs
  have hly := flat_len hm ys
  have hle : k * m + ys.length * m ≤ xs.length * m := by rw [← Nat.add_mul]; exact Nat.mul_le_mul_right _ hk
  rw [putC_list (by rw [rowG_size hm]; omega)]
  simp only [rowG]
  congr 1
  rw [List.take_append_of_le_length (by omega), flat_take hm xs k (by omega), hly, ← Nat.add_mul, List.drop_append, flat_drop hm xs _ hk, hl, show (k + ys.length) * m - xs.length * m = 0 by rw [Nat.add_mul]; omega]
  simp [List.flatMap_append]
theorem rowG_set (hm : ∀ x, (enc x).length = m) {xs : List α} {rest : List Value} {k : Nat} (hk : k < xs.length) (v : α) : putC (rowG enc xs rest) (k * m) (enc v) = rowG enc (xs.set k v) rest := by
  have := rowG_put hm (xs := xs) (ys := [v]) (rest := rest) (k := k) (by simp; omega)
  rw [List.flatMap_cons, List.flatMap_nil, List.append_nil] at this
  rw [this, List.set_eq_take_append_cons_drop, if_pos hk]
  simp
/-- A row is read. -/
theorem rowG_C {d : Kd α} {w : World} {g : Nat} {xs : List α} {rest : List Value} {t : TypeId} {fr : Nat × Nat} (hm : ∀ x, (enc x).length = m) (hd : d.sz = m) (hK : ∀ x, d.K w x (enc x)) (h : w.heap[g]? = some (.cells (rowG enc xs rest) t fr)) (k : Nat) (hk : k ≤ xs.length) (hmx : k ≤ 9223372036854775807) : d.C w (some ⟨g, 0, none⟩) k (xs.take k) := by
  refine ⟨by simp; omega, hmx, fun _ => ⟨_, rfl, fun j p hj => ?_⟩⟩
  have hjk : j < k := by
    have := (List.getElem?_eq_some_iff.1 hj).1
    simp at this; omega
  have hjx : j < xs.length := by omega
  have hp : xs.getD j p = p := by
    rw [List.getElem?_take_of_lt hjk] at hj
    rw [List.getD_eq_getElem?_getD, hj]; rfl
  refine ⟨enc p, by rw [hm, hd], hK p, fun i u hu => ?_⟩
  have hg := rowG_get hm (rest := rest) hjx p
  rw [hp] at hg
  have hi : i < m := by rw [← hm p]; exact (List.getElem?_eq_some_iff.1 hu).1
  have e : (⟨g, 0, none⟩ : Addr).add (j * d.sz + i) = ⟨g, j * m + i, none⟩ := by rw [hd, addr_of]
  rw [e, cell_of_row w g _ _ t fr h]
  rw [← hg, Array.getElem?_toList, Array.getElem?_extract] at hu
  split at hu
  · exact hu
  · cases hu
/-- What is read lies so. -/
theorem rowG_of {d : Kd α} {w : World} {g : Nat} {xs : List α} {cs : Array Value} {t : TypeId} {fr : Nat × Nat} (hm : ∀ x, (enc x).length = m) (hd : d.sz = m) (hop : ∀ x c, d.K w x c → c = enc x) (hg : w.heap[g]? = some (.cells cs t fr)) (hC : d.C w (some ⟨g, 0, none⟩) xs.length xs) (z : α) : cs = rowG enc xs (cs.toList.drop (xs.length * m)) := by
  have hcell : ∀ j i, j < xs.length → i < m → cs[j * m + i]? = (enc (xs.getD j z))[i]? := by
    intro j i hj hi
    obtain ⟨ad, c, e, hK, hc⟩ := elem_at hC z j hj
    injection e with e
    subst e
    have e := hop _ _ hK
    subst e
    have hl : i < (enc (xs.getD j z)).length := by rw [hm]; exact hi
    have := hc i _ (List.getElem?_eq_getElem hl)
    rw [hd, addr_add] at this
    have e : (⟨g, 0, none⟩ : Addr).add (j * m + i) = ⟨g, j * m + i, none⟩ := addr_of _ _
    rw [e, cell_of_row w g _ _ t fr hg] at this
    rw [this, List.getElem?_eq_getElem hl]
  have hpre : cs.toList.take (xs.length * m) = xs.flatMap enc := by
    apply List.ext_getElem?
    intro q
    by_cases hq : q < xs.length * m
    · have hm0 : 0 < m := by
        rcases Nat.eq_zero_or_pos m with h | h
        · rw [h] at hq; simp at hq
        · exact h
      have hj : q / m < xs.length := (Nat.div_lt_iff_lt_mul hm0).2 hq
      have hi : q % m < m := Nat.mod_lt _ hm0
      have hqe : q / m * m + q % m = q := by rw [Nat.mul_comm]; exact Nat.div_add_mod q m
      have h1 := hcell _ _ hj hi
      rw [hqe] at h1
      rw [List.getElem?_take_of_lt hq, Array.getElem?_toList, h1]
      have h2 := rowG_get hm (rest := []) hj z
      rw [← h2, Array.getElem?_toList, Array.getElem?_extract, hqe]
      have hsz : (rowG enc xs []).size = xs.length * m := by rw [rowG_size hm]; simp
      rw [if_pos (by rw [hsz]; omega)]
      simp [rowG]
    · rw [List.getElem?_eq_none (by simp; omega), List.getElem?_eq_none (by rw [flat_len hm]; omega)]
  unfold rowG
  rw [← hpre, List.take_append_drop]
end
/-- clear(s) of a row's end. -/
theorem run_clear_blk {P : Program} (w : World) (t e ty : TypeId) (z : Value) (ht : P.underlying t = some (.slice e)) (hv : ∀ w, (zeroValue e).run P w = .ok z w) (g o n c : Nat) (vs : List Value) (hvs : (Builtin.zeroCells z.cells n).toList = vs) (cs : Array Value) (t' : TypeId) (hn : 0 < n) (hg : w.heap[g]? = some (.cells cs t' (0, 0))) (hle : o + vs.length ≤ cs.size) (h1 : ∀ v ∈ vs, v.oneCell' = true) :
    (Builtin.clear_ #[t] ty #[.slice (some ⟨g, o, none⟩) n c]).run P w = .ok (.tuple #[]) (w.setCells g o vs) := by
  have hth := there_of (n := vs.length) hg hle
  have hst := run_storeCells_cells (P := P) g o vs 0 w (fun j hj => by simpa using (hth j (by simpa using hj)).1) (fun j hj => by simpa using (hth j (by simpa using hj)).2) (by simpa using h1)
  simp only [Nat.add_zero] at hst
  obtain ⟨m, rfl⟩ : ∃ m, n = m + 1 := ⟨n - 1, by omega⟩
  simp [Builtin.clear_, run_underlying ht, hv, hvs, hst]
end Go.Proofs.Ytcgcognejjpcmaa
