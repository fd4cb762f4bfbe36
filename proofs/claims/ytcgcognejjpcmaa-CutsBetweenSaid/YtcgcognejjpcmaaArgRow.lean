/- An argument that is a slice of structs, opened. -/
import Derived.Test.YtcgcognejjpcmaaArgs
import Derived.Test.YtcgcognejjpcmaaHalves
namespace Go.Proofs.Ytcgcognejjpcmaa
open Go.RowKit Go.Proofs.YtcgcognejjpcmaaW.PrintWords Go.ChangeShapes Go.WideShapes Go.Deep
set_option linter.unusedVariables false

set_option maxRecDepth 100000 in
/-- An argument that is a slice of things. -/
theorem open_row {H α : Type} {enc : TypeId × Value → H} {W : World} {t e : TypeId} {k : Kd α} {ok : α → Prop} {b b0 : Nat} {v : Value} {d : DataW H} {p : List MemPlace} (ht : Try.prog.underlying t = some (.slice e)) (he : Opens enc W e k ok)
    (hs : Try.prog.cellsOf e = k.sz) (hb : Try.prog.bytesOf e = b) (hw : ∀ n ∈ d.weights Try.prog t, n ≤ reachBytes) (hv : Value.okWide Try.prog W .any b0 t v) (h : DataW.Trod enc Try.prog W 0 (fun _ => true) true t v d p) :
    ∃ (l : List α) (A : Option Addr) (c : Nat), v = .slice A l.length c ∧ l.length ≤ c ∧ k.C W A l.length l ∧ (l.length * b ≤ reachBytes ∧ ∀ x ∈ l, ok x) := by
  obtain ⟨a, len, cap, rfl⟩ := okWide_slice ht hv
  obtain ⟨fuel, hf⟩ := h
  obtain ⟨l, ⟨A, c, heq, hle, hC⟩, hok⟩ := opens_slice ht he hs hb fuel _ _ hf hw
  have h2 : [Value.slice a len cap] = [Value.slice A l.length c] := heq
  injection h2 with h2
  exact ⟨l, A, c, h2, hle, hC, hok⟩
theorem okA_fit {x : S24} (h : okA x) : FitA x := ⟨h.1, by have := h.2.1; omega, h.2.2.1, by have := h.2.2.2; omega⟩
theorem ok38_fit {e : S38} (h : Ok38 e) : FitB e.f0 := fun k hk => ⟨okA_fit (ok29 h.1 k hk).1, okA_fit (ok29 h.1 k hk).2⟩
set_option maxRecDepth 100000 in
theorem arg36 {H : Type} {enc : TypeId × Value → H} {W : World} {b0 : Nat} {v : Value} {d : DataW H} {p : List MemPlace} (hw : ∀ n ∈ d.weights Try.prog 36, n ≤ reachBytes) (hv : Value.okWide Try.prog W .any b0 36 v)
    (h : DataW.Trod enc Try.prog W 0 (fun _ => true) true 36 v d p) : ∃ (l : List S38) (A : Option Addr) (c : Nat), v = .slice A l.length c ∧ l.length ≤ c ∧ k38.C W A l.length l ∧ ∀ e ∈ l, FitB e.f0 := by
  obtain ⟨l, A, c, e, hl, hC, _, hok⟩ := open_row Try.underlying36 opens38 (by kernel_rfl) (b := 200) (by kernel_rfl) hw hv h
  exact ⟨l, A, c, e, hl, hC, fun x hx => ok38_fit (hok x hx)⟩
end Go.Proofs.Ytcgcognejjpcmaa
