/- Words that all of this seat's walks share: facts kept from the walk; a region that draws its order, whose callees may lay blocks of their own; the first place at which a test holds. -/
import Derived.Test.YtcgcognejjpcmaaKinds
import Derived.WalkSpells
import Derived.WalkLawsBesides
import Derived.Deep.QuietTactic
import Derived.BigQuiet
namespace Go.Proofs.Ytcgcognejjpcmaa
open Go.RowKit Go.Proofs.YtcgcognejjpcmaaW.PrintWords
set_option linter.unusedVariables false

/-- A world that comes later: what lay in w lies there still. -/
structure Later (w : World) where
  at_ : World
  below : Below w.heap.size w at_
instance (w : World) : Inhabited (Later w) := ⟨⟨w, Below.refl _ _⟩⟩

theorem Later.cell {w : World} (p : Later w) {a : Addr} {v : Value} (h : w.cell? a = some v) : p.at_.cell? a = some v := pw_cell_below p.below h
theorem Later.blk {w : World} (p : Later w) {g : Nat} {o : Obj} (h : w.heap[g]? = some o) : p.at_.heap[g]? = some o := by
  have hl : g < w.heap.size := (Array.getElem?_eq_some_iff.1 h).1
  exact (p.below.block g hl).trans h

theorem Later.cell_eq {w : World} (p : Later w) (a : Addr) (h : a.block < w.heap.size) : p.at_.cell? a = w.cell? a := p.below.cell h
theorem later_below {w w' : World} (h : ∃ p : Later w, w' = p.at_) : Below w.heap.size w w' := by
  obtain ⟨p, rfl⟩ := h
  exact p.below

/-- A region that draws its order, in the class of the later worlds. -/
theorem wp_region_later {P : Program} {id : Nat} {Q : Exit → Act → World → Prop} {a : Act} {w : World} {l : List Oper} (hm : P.follows .mixedOrders = true) (hB : Region.lexB .any l.toArray = true)
    (h : wpQuiet P l.toArray (fun w' => ∃ p : Later w, w' = p.at_) (fun a' => ∀ w', (∃ p : Later w, w' = p.at_) → Q .normal a' w') l a) : (Code.region id l.toArray true).wp P Q a w :=
  wp_region_quiet (C := fun w' => ∃ p : Later w, w' = p.at_) hm hB ⟨⟨w.drew, below_drew (Below.refl _ _)⟩, rfl⟩ (by simpa using h)

/-- A callee's contract, met in a later world. -/
theorem later_of {P : Program} {f : FuncId} {args : Array Value} {w : World} {p : Later w} {v : Value}
    (h : Calls P f args p.at_ fun e w' => e = .returned v ∧ Below p.at_.heap.size p.at_ w') : Calls P f args p.at_ fun e w'' => e = .returned v ∧ ∃ p' : Later w, w'' = p'.at_ :=
  h.mono fun _ w' ⟨he, hb⟩ => ⟨he, ⟨w', below_then p.below p.below.size hb⟩, rfl⟩

/-- What a walk wants of a later world: the old cells and marks read as they did. -/
theorem bcell {W w1 : World} (hb : Below W.heap.size W w1) : (∀ b o, b < W.heap.size → w1.cell? ⟨b, o, none⟩ = W.cell? ⟨b, o, none⟩) ∧ (∀ b o, b < W.heap.size → w1.frozen? ⟨b, o, none⟩ = W.frozen? ⟨b, o, none⟩) :=
  ⟨fun b o h => hb.cell (p := ⟨b, o, none⟩) h, fun b o h => hb.frozen (p := ⟨b, o, none⟩) h⟩

/-- A call of function g enters its body. -/
def EntersAt (g : Nat) : Prop := ∀ (args : Array Value) (w : World), (callFunc g args).run Try.prog w = .ok (.enter g args) w
theorem enters_at {g : Nat} {fn : Func} {c : Code} (hf : Try.prog.funcs[g]? = some fn) (hname : (fn.name == "runtime.NumGoroutine") = false) (hb : fn.body = some c) : EntersAt g := by
  intro args w
  have h1 : fn.name ≠ "runtime.NumGoroutine" := by simpa using hname
  simp [callFunc, hf, h1, hb, mark]

/-- The first place at which p holds; -1: none. -/
def idxF {α : Type} (p : α → Bool) (l : List α) : Int := match l.findIdx? p with
  | some i => (i : Int)
  | none => -1

theorem idxF_at {α : Type} {p : α → Bool} {l : List α} {k : Nat} {x : α} (hx : l[k]? = some x) (hp : p x = true) (hn : ∀ j, j < k → ∀ y, l[j]? = some y → p y = false) : idxF p l = k := by
  unfold idxF
  have : l.findIdx? p = some k := by
    rw [List.findIdx?_eq_some_iff_getElem]
    obtain ⟨hk, he⟩ := List.getElem?_eq_some_iff.1 hx
    refine ⟨hk, by rw [he]; exact hp, fun j hj => ?_⟩
    have := hn j hj _ (List.getElem?_eq_getElem (by omega))
    simp [this]
  rw [this]

theorem idxF_none {α : Type} {p : α → Bool} {l : List α} (hn : ∀ j, j < l.length → ∀ y, l[j]? = some y → p y = false) : idxF p l = -1 := by
  unfold idxF
  have : l.findIdx? p = none := by
    rw [List.findIdx?_eq_none_iff]
    intro x hx
    obtain ⟨j, hj, rfl⟩ := List.mem_iff_getElem.1 hx
    exact hn j hj _ (List.getElem?_eq_getElem hj)
  rw [this]

theorem getD_get {α : Type} {l : List α} {k : Nat} (z : α) (h : k < l.length) : l[k]? = some (l.getD k z) := by
  rw [List.getElem?_eq_getElem h, List.getD_eq_getElem?_getD, List.getElem?_eq_getElem h]; rfl

theorem none_succ {α : Type} {p : α → Bool} {l : List α} {k : Nat} {x : α} (hx : l[k]? = some x) (hp : p x = false) (hn : ∀ j, j < k → ∀ y, l[j]? = some y → p y = false) : ∀ j, j < k + 1 → ∀ y, l[j]? = some y → p y = false := by
  intro j hj y hy
  rcases Nat.lt_or_ge j k with h | h
  · exact hn j h y hy
  · obtain rfl : j = k := by omega
    rw [hx] at hy
    injection hy with hy
    subst hy
    exact hp
end Go.Proofs.Ytcgcognejjpcmaa
