/- The arguments of the laws, opened: a config fits; an address and a key show their cells. -/
import Derived.Test.YtgppfpfdoooijaaOpen
import Derived.Test.YtgppfpfdoooijaaHeavy
namespace Go.Proofs.Ytgppfpfdoooijaa
open Go.RowKit Go.Proofs.YtgppfpfdoooijaaW.PrintWords Go.ChangeShapes Go.WideShapes Go.Deep
set_option linter.unusedVariables false

section
variable {H : Type} {enc : TypeId × Value → H} {W : World} {b0 : Nat} {v : Value} {d : DataW H} {p : List MemPlace}
theorem fits_of {c : S36} (h : Ok36 c) : Fits c := by
  obtain ⟨h0, h1, h2, h3, h4, h5, h6, _⟩ := h
  have e : reachBytes = 140737488351232 ∨ reachBytes ≤ 140737488355328 := by decide
  have e' : reachBytes ≤ 140737488355328 := by rcases e with e | e <;> omega
  clear e
  exact ⟨by have := h0.1; omega, by have := h1.1; omega, by have := h2.1; omega, by have := h3.1; omega, by have := h4.1; omega, by have := h5.1; omega, by have := h6.1; omega⟩
set_option maxRecDepth 100000 in
theorem arg36 (hw : ∀ n ∈ d.weights Try.prog 36, n ≤ reachBytes) (hv : Value.okWide Try.prog W .any b0 36 v) (h : DataW.Trod enc Try.prog W 0 (fun _ => true) true 36 v d p) :
    ∃ (a : S36) (cs : List Value), v = Value.agg (List.toArray cs) ∧ k36.K W a cs ∧ Ok36 a := open_arg Try.underlying36 opens36 hv h hw
set_option maxRecDepth 100000 in
theorem arg39 (hw : ∀ n ∈ d.weights Try.prog 39, n ≤ reachBytes) (hv : Value.okWide Try.prog W .any b0 39 v) (h : DataW.Trod enc Try.prog W 0 (fun _ => true) true 39 v d p) :
    ∃ a : S39, v = Value.agg #[.int .u64 a.f0, .int .u64 a.f1] ∧ Ok39 a := by
  obtain ⟨a, cs, rfl, hK, hok⟩ := open_arg Try.underlying39 opens39 hv h hw
  have := k39_open hK
  subst this
  exact ⟨a, rfl, hok⟩
set_option maxRecDepth 100000 in
theorem arg51 (hw : ∀ n ∈ d.weights Try.prog 51, n ≤ reachBytes) (hv : Value.okWide Try.prog W .any b0 51 v) (h : DataW.Trod enc Try.prog W 0 (fun _ => true) true 51 v d p) :
    ∃ a : S51, v = Value.agg #[.int .i64 a.f0, .int .u64 a.f1.f0, .int .u64 a.f1.f1, .int .u64 a.f2.f0, .int .u64 a.f2.f1, .int .i64 a.f3, .int .i64 a.f4] ∧ Ok51 a := by
  obtain ⟨a, cs, rfl, hK, hok⟩ := open_arg Try.underlying51 opens51 hv h hw
  have := k51_open hK
  subst this
  exact ⟨a, rfl, hok⟩
set_option maxRecDepth 100000 in
theorem arg62 (hw : ∀ n ∈ d.weights Try.prog 62, n ≤ reachBytes) (hv : Value.okWide Try.prog W .any b0 62 v) (h : DataW.Trod enc Try.prog W 0 (fun _ => true) true 62 v d p) :
    ∃ a : S62, v = Value.agg #[.int .i64 a.f0, .int .i64 a.f1, .int .i64 a.f2.f0, .int .u64 a.f2.f1.f0, .int .u64 a.f2.f1.f1, .int .u64 a.f2.f2.f0, .int .u64 a.f2.f2.f1, .int .i64 a.f2.f3, .int .i64 a.f2.f4] ∧ Ok62 a := by
  obtain ⟨a, cs, rfl, hK, hok⟩ := open_arg Try.underlying62 opens62 hv h hw
  have := k62_open hK
  subst this
  exact ⟨a, rfl, hok⟩
end
end Go.Proofs.Ytgppfpfdoooijaa
