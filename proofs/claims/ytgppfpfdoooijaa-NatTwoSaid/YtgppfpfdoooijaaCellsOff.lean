/- A field within an element of a slice; a load of one cell. -/
import Derived.Test.YtgppfpfdoooijaaMid
namespace Go.Proofs.Ytgppfpfdoooijaa
open Go.RowKit Go.Proofs.YtgppfpfdoooijaaW.PrintWords
set_option linter.unusedVariables false

theorem cells_off {w : World} {ad : Addr} {m : Nat} {cs part : List Value} (i : Nat) (hi : 1 ≤ i) (h : CellsAt w (ad.add m) cs) (hp : part = (cs.drop i).take part.length) : CellsAt w ⟨(ad.add m).block, (ad.add m).off + i, none⟩ part := by
  intro j v hj
  have hj' : j < part.length := (List.getElem?_eq_some_iff.1 hj).1
  have e : cs[i + j]? = some v := by
    rw [hp, List.getElem?_take, if_pos hj', List.getElem?_drop] at hj
    exact hj
  have h1 := h (i + j) v e
  rw [addr_add, add_field ad m (i + j) (by omega)] at h1
  rw [Addr.add_mid, Nat.add_assoc]
  exact h1
theorem cell_off {w : World} {ad : Addr} {m : Nat} {cs : List Value} {v : Value} (i : Nat) (hi : 1 ≤ i) (h : CellsAt w (ad.add m) cs) (hv : cs[i]? = some v) : w.cell? ⟨(ad.add m).block, (ad.add m).off + i, none⟩ = some v := by
  have h1 := h i v hv
  rw [addr_add, add_field ad m i hi] at h1
  exact h1
theorem cell_0 {w : World} {ad : Addr} {m : Nat} {cs : List Value} {v : Value} (h : CellsAt w (ad.add m) cs) (hv : cs[0]? = some v) : w.cell? (ad.add m) = some v := by
  have h1 := h 0 v hv
  rw [addr_add, Nat.add_zero] at h1
  exact h1
section
variable {P : Program} {ops : Array Oper} {rest : List Oper} {o : Oper} {a : Act} {w : World} {Q : Exit → Act → World → Prop}
/-- One cell, that is known at its address. -/
theorem wpList_load_c (ty : TypeId) (x : Operand) (ho : o.op = .load ty x) (hw : Region.wanted o (yielded ops a.tmps) = true) (ad : Addr) (v : Value) (d : TypeDesc) (hx : a.eval x = .pointer (some ad)) (hc : w.cell? ad = some v) (hu : P.underlying ty = some d) (hd : d.isRow = false)
    (h : wpList P ops Q rest (a.put o.dst v) w) : wpList P ops Q (o :: rest) a w := by
  unfold wpList
  rw [if_pos hw]
  refine .inl ?_
  unfold Oper.wp execOp
  simp only [ho, hx, Instr.loadAt, Instr.sureAddr, Sem.run_bind, Sem.run_pure, Result.andThen_ok, run_loadVar_one w ad ty v d hc hu hd]
  exact h
end
end Go.Proofs.Ytgppfpfdoooijaa
