/- An argument that is a row of keys, opened. -/
import Derived.Test.YtgppfpfdoooijaaArgRow
namespace Go.Proofs.Ytgppfpfdoooijaa
open Go.RowKit Go.Proofs.YtgppfpfdoooijaaW.PrintWords Go.ChangeShapes Go.WideShapes Go.Deep
set_option linter.unusedVariables false

set_option maxRecDepth 100000 in
theorem arg80 {H : Type} {enc : TypeId × Value → H} {W : World} {b0 : Nat} {v : Value} {d : DataW H} {p : List MemPlace} (hw : ∀ n ∈ d.weights Try.prog 80, n ≤ reachBytes) (hv : Value.okWide Try.prog W .any b0 80 v)
    (h : DataW.Trod enc Try.prog W 0 (fun _ => true) true 80 v d p) : ∃ (l : List S51) (A : Option Addr) (c : Nat), v = .slice A l.length c ∧ l.length ≤ c ∧ k51.C W A l.length l := by
  obtain ⟨l, A, c, e, hl, hC, _⟩ := open_row Try.underlying80 opens51 (by kernel_rfl) (b := 56) (by kernel_rfl) hw hv h
  exact ⟨l, A, c, e, hl, hC⟩
end Go.Proofs.Ytgppfpfdoooijaa
