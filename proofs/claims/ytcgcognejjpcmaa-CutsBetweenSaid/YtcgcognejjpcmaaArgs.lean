/- The arguments of the laws, opened: addresses, ranges, boxes, points. -/
import Derived.Test.YtcgcognejjpcmaaOpen
import Derived.Test.YtcgcognejjpcmaaPlain
namespace Go.Proofs.Ytcgcognejjpcmaa
open Go.RowKit Go.Proofs.YtcgcognejjpcmaaW.PrintWords Go.ChangeShapes Go.WideShapes Go.Deep
set_option linter.unusedVariables false

theorem wf_u64 {n : Int} (h : (Lit.int .u64 n).wf = true) : 0 ≤ n ∧ n ≤ 18446744073709551615 := by
  have h1 : (decide (IntKind.u64.min ≤ n) && decide (n ≤ IntKind.u64.max)) = true := h
  rw [Bool.and_eq_true, decide_eq_true_iff, decide_eq_true_iff] at h1
  exact ⟨h1.1, h1.2⟩
theorem ok24 {x : S24} (h : Ok24 x) : okA x := ⟨(wf_u64 h.1).1, (wf_u64 h.1).2, (wf_u64 h.2).1, (wf_u64 h.2).2⟩
theorem ok29 {b : S29} (h : Ok29 b) : ∀ k, k < 6 → okA (rg b k).f0 ∧ okA (rg b k).f1 := by
  obtain ⟨h0, h1, h2, h3, h4, h5⟩ := h
  intro k hk
  match k, hk with
  | 0, _ => exact ⟨ok24 h0.1, ok24 h0.2⟩
  | 1, _ => exact ⟨ok24 h1.1, ok24 h1.2⟩
  | 2, _ => exact ⟨ok24 h2.1, ok24 h2.2⟩
  | 3, _ => exact ⟨ok24 h3.1, ok24 h3.2⟩
  | 4, _ => exact ⟨ok24 h4.1, ok24 h4.2⟩
  | 5, _ => exact ⟨ok24 h5.1, ok24 h5.2⟩
theorem ok54 {p : S54} (h : Ok54 p) : ∀ k, k < 6 → okA (nr p k) := by
  obtain ⟨h0, h1, h2, h3, h4, h5⟩ := h
  intro k hk
  match k, hk with
  | 0, _ => exact ok24 h0
  | 1, _ => exact ok24 h1
  | 2, _ => exact ok24 h2
  | 3, _ => exact ok24 h3
  | 4, _ => exact ok24 h4
  | 5, _ => exact ok24 h5
section
variable {H : Type} {enc : TypeId × Value → H} {W : World} {b0 : Nat} {v : Value} {d : DataW H} {p : List MemPlace}
set_option maxRecDepth 100000 in
theorem arg24 (hw : ∀ n ∈ d.weights Try.prog 24, n ≤ reachBytes) (hv : Value.okWide Try.prog W .any b0 24 v) (h : DataW.Trod enc Try.prog W 0 (fun _ => true) true 24 v d p) :
    ∃ a : S24, v = Value.agg #[.int .u64 a.f0, .int .u64 a.f1] ∧ Ok24 a := by
  obtain ⟨a, cs, rfl, hK, hok⟩ := open_arg Try.underlying24 opens24 hv h hw
  have := k24_open hK
  subst this
  exact ⟨a, rfl, hok⟩
set_option maxRecDepth 100000 in
theorem arg29 (hw : ∀ n ∈ d.weights Try.prog 29, n ≤ reachBytes) (hv : Value.okWide Try.prog W .any b0 29 v) (h : DataW.Trod enc Try.prog W 0 (fun _ => true) true 29 v d p) :
    ∃ a : S29, v = Value.agg (bc a) ∧ Ok29 a := by
  obtain ⟨a, cs, rfl, hK, hok⟩ := open_arg Try.underlying29 opens29 hv h hw
  have := k29_open hK
  subst this
  exact ⟨a, rfl, hok⟩
set_option maxRecDepth 100000 in
theorem arg54 (hw : ∀ n ∈ d.weights Try.prog 54, n ≤ reachBytes) (hv : Value.okWide Try.prog W .any b0 54 v) (h : DataW.Trod enc Try.prog W 0 (fun _ => true) true 54 v d p) :
    ∃ a : S54, v = Value.agg (pc a) ∧ Ok54 a := by
  obtain ⟨a, cs, rfl, hK, hok⟩ := open_arg Try.underlying54 opens54 hv h hw
  have := k54_open hK
  subst this
  exact ⟨a, rfl, hok⟩
end
end Go.Proofs.Ytcgcognejjpcmaa
