/- Blocks that are known whole: a load, a store in their midst; the rule for regions that draw their order, in the forms that are used: nothing is made, a new block is made and filled. -/
import Derived.Test.YtcgcognejjpcmaaRg
import Derived.Deep.MidRow
import Derived.Laws.Rows
namespace Go.Proofs.Ytcgcognejjpcmaa
open Go.RowKit Go.Proofs.YtcgcognejjpcmaaW.PrintWords
set_option linter.unusedVariables false

/-- These cells set anew from place o on. -/
def putC (cs : Array Value) : Nat → List Value → Array Value
  | _, [] => cs
  | o, v :: r => putC (cs.setIfInBounds o v) (o + 1) r
theorem putC_size : ∀ (vs : List Value) (cs : Array Value) (o : Nat), (putC cs o vs).size = cs.size
  | [], _, _ => rfl
  | v :: r, cs, o => by rw [putC, putC_size r]; simp
theorem putC_get : ∀ (vs : List Value) (cs : Array Value) (o j : Nat), j < cs.size → (putC cs o vs)[j]? = if o ≤ j ∧ j < o + vs.length then vs[j - o]? else cs[j]?
  | [], cs, o, j, _ => by rw [if_neg (by simp)]; rfl
  | v :: r, cs, o, j, hj => by
    rw [putC, putC_get r _ (o + 1) j (by simpa using hj)]
    by_cases h : j = o
    · subst h
      rw [if_neg (by omega), if_pos (by simp)]
      simp [hj]
    · by_cases h2 : o + 1 ≤ j ∧ j < o + 1 + r.length
      · rw [if_pos h2, if_pos (by simp; omega), show j - o = (j - (o + 1)) + 1 by omega]
        simp
      · rw [if_neg h2, if_neg (by simp; omega), Array.getElem?_setIfInBounds_ne (fun e => h e.symm)]
theorem putC_all {cs new : Array Value} (h : cs.size = new.size) : putC cs 0 new.toList = new := by
  apply Array.ext_getElem?
  intro j
  by_cases hj : j < cs.size
  · rw [putC_get _ _ _ _ hj, if_pos ⟨Nat.zero_le _, by simp; omega⟩]
    simp
  · rw [Array.getElem?_eq_none (by rw [putC_size]; omega), Array.getElem?_eq_none (by omega)]
theorem heap_setCells {g : Nat} {t : TypeId} : ∀ (vs : List Value) (cs : Array Value) (o : Nat) (w : World), w.heap[g]? = some (.cells cs t (0, 0)) → (w.setCells g o vs).heap[g]? = some (.cells (putC cs o vs) t (0, 0))
  | [], _, _, _, h => h
  | v :: r, cs, o, w, h => heap_setCells r _ (o + 1) _ (heap_setCell_same w g o cs t v h)
theorem size_setCells {g : Nat} : ∀ (vs : List Value) (o : Nat) (w : World), (w.setCells g o vs).heap.size = w.heap.size
  | [], _, _ => rfl
  | v :: r, o, w => by rw [World.setCells, size_setCells r]; simp
theorem grown_setCells {g : Nat} : ∀ (vs : List Value) (o : Nat) (w : World), w.grownBy (w.setCells g o vs) (some g)
  | [], _, w => World.grownBy.refl w _
  | v :: r, o, w => by
    have h1 : w.grownBy (w.setCell ⟨g, o, none⟩ v) (some g) := ⟨rfl, rfl, rfl, by simp, fun k _ hk => heap_setCell_other w ⟨g, o, none⟩ k v (fun e => hk (by rw [e]))⟩
    exact h1.trans (grown_setCells r (o + 1) _)
theorem there_of {w : World} {g o n : Nat} {cs : Array Value} {t : TypeId} (hg : w.heap[g]? = some (.cells cs t (0, 0))) (h : o + n ≤ cs.size) : w.there g o n := fun j hj => by
  rw [cell_of_row w g (o + j) cs t (0, 0) hg, frozen_of_row w g (o + j) cs t hg]
  refine ⟨?_, rfl⟩
  rw [Array.getElem?_eq_getElem (by omega)]
  rfl
theorem range_of {w : World} {g o n : Nat} {cs : Array Value} {t : TypeId} {fr : Nat × Nat} {part : List Value} (hg : w.heap[g]? = some (.cells cs t fr)) (hp : (cs.extract o (o + n)).toList = part) : w.rangeAt g o part := hp ▸ World.rangeAt_of_block hg o n

section
variable {P : Program} {ops : Array Oper} {rest : List Oper} {o : Oper} {a : Act} {w : World} {Q : Exit → Act → World → Prop}
/-- A store into a block that is known whole. -/
theorem wpList_store_blk (hgd : o.guard = none) (ty : TypeId) (x y : Operand) (ho : o.op = .store ty x y) (g i : Nat) (new : Array Value) (cs : Array Value) (t : TypeId) (hx : a.eval x = .pointer (some ⟨g, i, none⟩)) (hy : a.eval y = .agg new)
    (hg : w.heap[g]? = some (.cells cs t (0, 0))) (hle : i + new.size ≤ cs.size) (hi : (P.info? ty).map (·.size) = some new.size) (h1 : new.all (·.oneCell') = true)
    (h : ∀ w1, w1.heap[g]? = some (.cells (putC cs i new.toList) t (0, 0)) → w.grownBy w1 (some g) → w1.heap.size = w.heap.size → wpList P ops Q rest (a.put o.dst undef) w1) : wpList P ops Q (o :: rest) a w :=
  wpList_store_mid hgd ty x y ho g i new hx hy (there_of hg hle) hi h1 (h _ (heap_setCells _ _ _ _ hg) (grown_setCells _ _ _) (size_setCells _ _ _))
/-- .. of all its cells. -/
theorem wpList_store_all (hgd : o.guard = none) (ty : TypeId) (x y : Operand) (ho : o.op = .store ty x y) (g : Nat) (new : Array Value) (cs : Array Value) (t : TypeId) (hx : a.eval x = .pointer (some ⟨g, 0, none⟩)) (hy : a.eval y = .agg new)
    (hg : w.heap[g]? = some (.cells cs t (0, 0))) (hle : cs.size = new.size) (hi : (P.info? ty).map (·.size) = some new.size) (h1 : new.all (·.oneCell') = true)
    (h : ∀ w1, w1.heap[g]? = some (.cells new t (0, 0)) → w.grownBy w1 (some g) → w1.heap.size = w.heap.size → wpList P ops Q rest (a.put o.dst undef) w1) : wpList P ops Q (o :: rest) a w :=
  wpList_store_blk hgd ty x y ho g 0 new cs t hx hy hg (by omega) hi h1 fun w1 hb => h w1 (by rw [hb, putC_all hle])
theorem wpList_load_blk (hgd : o.guard = none) (ty : TypeId) (x : Operand) (ho : o.op = .load ty x) (g i n : Nat) (part : List Value) (cs : Array Value) (t : TypeId) (fr : Nat × Nat) (d : TypeDesc) (hx : a.eval x = .pointer (some ⟨g, i, none⟩))
    (hg : w.heap[g]? = some (.cells cs t fr)) (hp : (cs.extract i (i + n)).toList = part) (hu : P.underlying ty = some d) (hd : d.isRow = true) (hi : (P.info? ty).map (·.size) = some part.length)
    (h : wpList P ops Q rest (a.put o.dst (.agg part.toArray)) w) : wpList P ops Q (o :: rest) a w :=
  wpList_load_mid hgd ty x ho g i hx part d (range_of hg hp) hu hd hi h
end

section
variable {P : Program} {ops : Array Oper} {C : World → Prop} {Q : Act → Prop} {a : Act} {o : Oper} {rest : List Oper}
/-- In a walk of what only reads: a block that is known whole is read at once. -/
theorem quiet_load_blk (ty : TypeId) (x : Operand) (ho : o.op = .load ty x) (hw : Region.wanted o (yielded ops a.tmps) = true) (g i n : Nat) (part : List Value) (cs : Array Value) (t : TypeId) (fr : Nat × Nat) (d : TypeDesc) (hx : a.eval x = .pointer (some ⟨g, i, none⟩))
    (hg : ∀ w, C w → w.heap[g]? = some (.cells cs t fr)) (hp : (cs.extract i (i + n)).toList = part) (hu : P.underlying ty = some d) (hd : d.isRow = true) (hi : (P.info? ty).map (·.size) = some part.length)
    (h : wpQuiet P ops C Q rest (a.put o.dst (.agg part.toArray))) : wpQuiet P ops C Q (o :: rest) a := by
  unfold wpQuiet
  rw [if_pos hw]
  refine ⟨.agg part.toArray, fun w hC => ?_, h⟩
  unfold Oper.quietAt execOp
  simp only [ho, hx, Instr.loadAt, Instr.sureAddr, Sem.run_bind, Sem.run_pure, Result.andThen_ok, run_loadVar_mid w g i ty part d (range_of (hg w hC) hp) hu hd hi]
  exact ⟨rfl, rfl⟩
theorem quiet_load_row (ty : TypeId) (x : Operand) (ho : o.op = .load ty x) (hw : Region.wanted o (yielded ops a.tmps) = true) (g : Nat) (cs : Array Value) (t : TypeId) (fr : Nat × Nat) (d : TypeDesc) (hx : a.eval x = .pointer (some ⟨g, 0, none⟩))
    (hg : ∀ w, C w → w.heap[g]? = some (.cells cs t fr)) (hu : P.underlying ty = some d) (hd : d.isRow = true) (hi : (P.info? ty).map (·.size) = some cs.size)
    (h : wpQuiet P ops C Q rest (a.put o.dst (.agg cs))) : wpQuiet P ops C Q (o :: rest) a :=
  quiet_load_blk ty x ho hw g 0 cs.size cs.toList cs t fr d hx hg (by simp) hu hd (by simpa using hi) (by simpa using h)
/-- An operation that is a run of its operands' values. -/
theorem quiet_run (v : Value) (hw : Region.wanted o (yielded ops a.tmps) = true) (hr : ∀ w, (execOp a.eval o).run P w = .ok (.value v) w) (h : wpQuiet P ops C Q rest (a.put o.dst v)) : wpQuiet P ops C Q (o :: rest) a := by
  unfold wpQuiet
  rw [if_pos hw]
  refine ⟨v, fun w hC => ?_, h⟩
  unfold Oper.quietAt
  rw [hr w]
  exact ⟨rfl, rfl⟩
end

/-- What only writes into block g, and makes new ones, leaves the others as they were. -/
theorem below_grown {w w1 : World} {B g : Nat} (h : w.grownBy w1 (some g)) (hB : B ≤ w.heap.size) (hg : B ≤ g) : Below B w w1 := ⟨h.os, h.tape, h.output, h.size, fun k hk => h.block k (by omega) (fun e => by injection e with e; omega)⟩

/-- What a walk knows: what was at the start lies still; these blocks are known. -/
structure St (w : World) (F : List (Nat × Obj)) (W : World) : Prop where
  below : Below w.heap.size w W
  has : ∀ (i g : Nat) (o : Obj), F[i]? = some (g, o) → W.heap[g]? = some o
theorem blk_lt {W : World} {g : Nat} {o : Obj} (h : W.heap[g]? = some o) : g < W.heap.size := (Array.getElem?_eq_some_iff.1 h).1
theorem blk_call {W W' : World} {g : Nat} {o : Obj} (hb : Below W.heap.size W W') (h : W.heap[g]? = some o) : W'.heap[g]? = some o := (hb.block g (blk_lt h)).trans h
theorem St.get {w W : World} {F : List (Nat × Obj)} (s : St w F W) (i : Nat) {g : Nat} {o : Obj} (h : F[i]? = some (g, o)) : W.heap[g]? = some o := s.has i g o h
theorem St.nil (w : World) : St w [] w := ⟨Below.refl _ _, fun i g o h => by cases h⟩
theorem St.add {w W : World} {F : List (Nat × Obj)} (s : St w F W) {g : Nat} {o : Obj} (h : W.heap[g]? = some o) : St w (F ++ [(g, o)]) W := ⟨s.below, fun i g' o' hi => by
  rcases Nat.lt_or_ge i F.length with hl | hl
  · rw [List.getElem?_append_left hl] at hi; exact s.has i g' o' hi
  · rw [List.getElem?_append_right hl] at hi
    cases hk : i - F.length with
    | zero => rw [hk] at hi; simp only [List.getElem?_cons_zero, Option.some.injEq, Prod.mk.injEq] at hi; obtain ⟨rfl, rfl⟩ := hi; exact h
    | succ k => rw [hk] at hi; simp at hi⟩
theorem St.call {w W W' : World} {F : List (Nat × Obj)} (s : St w F W) (hb : Below W.heap.size W W') : St w F W' := ⟨below_then s.below s.below.size hb, fun i g o hi => blk_call hb (s.has i g o hi)⟩
theorem St.drew {w W : World} {F : List (Nat × Obj)} (s : St w F W) : St w F W.drew := ⟨below_drew s.below, s.has⟩
theorem St.alloc {w W : World} {F : List (Nat × Obj)} (s : St w F W) (o : Obj) : St w (F ++ [(W.heap.size, o)]) (W.alloc o) :=
  St.add ⟨s.below.alloc s.below.size _, fun i g o' hi => (Below.heap_alloc _ _ _ (blk_lt (s.has i g o' hi))).trans (s.has i g o' hi)⟩ (heap_alloc_new _ _)
/-- A block was made and filled. -/
theorem St.made {w W W' : World} {F : List (Nat × Obj)} {o b : Obj} (s : St w F W) (hg : (W.alloc o).grownBy W' (some W.heap.size)) (hb : W'.heap[W.heap.size]? = some b) : St w (F ++ [(W.heap.size, b)]) W' :=
  St.add ⟨(s.below.alloc s.below.size _).trans (below_grown hg (by simp; have := s.below.size; omega) s.below.size), fun i g o' hi => by
    have h := s.has i g o' hi
    have hl := blk_lt h
    exact (hg.block g (by simp; omega) (by intro e; injection e with e; omega)).trans ((Below.heap_alloc _ _ _ hl).trans h)⟩ hb
/-- Block number i of those that are known was written. -/
theorem St.set_ {w W W' : World} {F : List (Nat × Obj)} {g : Nat} {b : Obj} (s : St w F W) (i : Nat) (hg : W.grownBy W' (some g)) (hb : W'.heap[g]? = some b) (hB : w.heap.size ≤ g) (hne : ∀ (j : Nat), j ≠ i → ∀ (g' : Nat) (o' : Obj), F[j]? = some (g', o') → g' ≠ g) : St w (F.set i (g, b)) W' :=
  ⟨s.below.trans (below_grown hg s.below.size hB), fun j g' o' hj => by
    by_cases h : j = i
    · subst h
      rcases Nat.lt_or_ge j F.length with hl | hl
      · rw [List.getElem?_set_self hl] at hj
        simp only [Option.some.injEq, Prod.mk.injEq] at hj
        obtain ⟨rfl, rfl⟩ := hj
        exact hb
      · rw [List.getElem?_eq_none (by simpa using hl)] at hj; cases hj
    · rw [List.getElem?_set_ne (fun e => h e.symm)] at hj
      have h1 := s.has j g' o' hj
      exact (hg.block g' (blk_lt h1) (by intro e; injection e with e; exact hne j h g' o' hj e)).trans h1⟩

namespace Rg
section
variable {P : Program}
theorem upd_ne {L : Nat → Bool} {i j : Nat} (h : j ≠ i) : upd L i j = L j := if_neg h
theorem upd_same {L : Nat → Bool} {i : Nat} : upd L i i = true := if_pos rfl
/-- The list without these places (the greatest first). -/
def cutOut (l : List Oper) : List Nat → List Oper
  | [] => l
  | i :: r => cutOut (l.eraseIdx i) r

/-- Nothing is made: the operations of 'eff' write, into a world of the class. -/
theorem plain {id : Nat} {Q : Exit → Act → World → Prop} {a0 : Act} {w : World} {l : List Oper} (eff : List Nat) (C : (Nat → Bool) → World → Prop) (hm : P.follows .mixedOrders = true) (hB : okB l.toArray eff = true) (hp : pures l.toArray eff = cutOut l eff)
    (hn : eff.all (fun i => D l.toArray i == none) = true)
    (h0 : C (fun _ => false) w.drew)
    (hbel : ∀ L w' w'', C L w' → Below w'.heap.size w' w'' → C L w'')
    (hirr : ∀ L i w', i < l.toArray.size → i ∉ eff → C L w' → C (upd L i) w')
    (H : ∃ F, (∀ L w', C L w' → wpQuiet P l.toArray (fun w'' => ∃ p : Later w', w'' = p.at_) (fun a' => a' = F) (cutOut l eff) a0) ∧
      (∀ i ∈ eff, ∀ L w', C L w' → (∀ j, Waits l.toArray i j → L j = true) → L i = false → ∃ o, l.toArray[i]? = some o ∧ wpList P l.toArray (only (fun a' w'' => a' = F ∧ C (upd L i) w'') Q) [o] F w') ∧
      (∀ L w', C L w' → (∀ i, i < l.toArray.size → L i = true) → Q .normal F w')) : (Code.region id l.toArray true).wp P Q a0 w := by
  obtain ⟨F, hq, he, hend⟩ := H
  have hno : ∀ i ∈ eff, D l.toArray i = none := fun i hi => by simpa using List.all_eq_true.1 hn i hi
  refine rule (F := F) (Γ := Unit) eff (fun _ => C) (fun _ => F) hm hB (fun _ => Alike.refl _ _) ⟨(), h0⟩ (fun _ => hbel) (fun _ => hirr) (fun _ L w' hC => by rw [hp]; exact hq L w' hC) ?_ (fun _ => hend)
  intro i hi _ L w' hC hw hL
  obtain ⟨o, ho, h⟩ := he i hi L w' hC hw hL
  refine ⟨o, ho, ?_⟩
  have e : (only (fun a' w'' => a' = F ∧ C (upd L i) w'') Q) = (only (fun a' w'' => ∃ γ' : Unit, a' = F ∧ C (upd L i) w'' ∧ ∀ t, D l.toArray i ≠ some t → F.tmps[t]? = F.tmps[t]?) Q) := by
    funext x a' w''
    cases x with
    | normal => exact propext ⟨fun h => ⟨(), h.1, h.2, fun _ _ => rfl⟩, fun ⟨_, h1, h2, _⟩ => ⟨h1, h2⟩⟩
    | _ => rfl
  rw [← e]
  exact h

/-- A block is made (operation m, slot t), and filled (operation s). -/
theorem made {id : Nat} {Q : Exit → Act → World → Prop} {a0 : Act} {w : World} {l : List Oper} (s m t : Nat) (ty : TypeId) (Z new : Array Value) (os om : Oper) (y : Operand) (hm : P.follows .mixedOrders = true) (hB : okB l.toArray [s, m] = true) (hp : pures l.toArray [s, m] = cutOut l [s, m])
    (hs : l.toArray[s]? = some os) (hmo : l.toArray[m]? = some om) (hsm : s ≠ m) (hos : os.op = .store ty (.tmp t) y ∧ os.dst = none ∧ os.guard = none) (hom : om.op = .alloc ty ∧ om.dst = some t ∧ om.guard = none) (hwt : ((masks l.toArray l.toArray.size).getD s 0).testBit m = true)
    (ht : t < a0.tmps.size)
    (hz : ∀ w : World, (execOp a0.eval om).run P w = .ok (.value (.pointer (some ⟨w.heap.size, 0, none⟩))) (w.alloc (.cells Z ty))) (hzs : Z.size = new.size) (hi : (P.info? ty).map (·.size) = some new.size) (h1 : new.all (·.oneCell') = true) (hyt : y ≠ .tmp t)
    (H : ∃ F, (∀ w', Below w.heap.size w w' → wpQuiet P l.toArray (fun w'' => ∃ p : Later w', w'' = p.at_) (fun a' => a' = F) (cutOut l [s, m]) a0) ∧ F.eval y = .agg new ∧
      (∀ g w', Below w.heap.size w w' → w.heap.size ≤ g → w'.heap[g]? = some (.cells new ty (0, 0)) → Q .normal (F.put (some t) (.pointer (some ⟨g, 0, none⟩))) w')) : (Code.region id l.toArray true).wp P Q a0 w := by
  obtain ⟨F, hq, hy, hend⟩ := H
  have hDs : D l.toArray s = none := by unfold D; rw [hs]; exact hos.2.1
  have hDm : D l.toArray m = some t := by unfold D; rw [hmo]; exact hom.2.1
  have hFs : F.tmps.size = a0.tmps.size := by
    have key : ∀ (l' : List Oper) (b : Act), wpQuiet P l.toArray (fun w'' => ∃ p : Later w, w'' = p.at_) (fun a' => a' = F) l' b → F.tmps.size = b.tmps.size := by
      intro l'
      induction l' with
      | nil => intro b hb; have : b = F := hb; rw [this]
      | cons p l' ih =>
        intro b hb
        have : ∃ u, wpQuiet P l.toArray (fun w'' => ∃ p : Later w, w'' = p.at_) (fun a' => a' = F) l' (b.put p.dst u) := by
          simp only [wpQuiet] at hb
          by_cases hw : Region.wanted p (yielded l.toArray b.tmps) = true
          · rw [if_pos hw] at hb
            obtain ⟨v, h1, h2⟩ := hb
            exact ⟨v, h2⟩
          · rw [if_neg hw] at hb
            exact ⟨undef, hb⟩
        obtain ⟨u, hu⟩ := this
        rw [ih _ hu]
        cases p.dst <;> simp [Act.put]
    exact key _ _ (hq w (Below.refl _ _))
  have hput : ∀ g g' : Nat, ((F.put (some t) (.pointer (some ⟨g, 0, none⟩))).put (some t) (.pointer (some ⟨g', 0, none⟩))) = F.put (some t) (.pointer (some ⟨g', 0, none⟩)) := by
    intro g g'
    simp [Act.put]
  have hzF : ∀ (g : Nat) (w : World), (execOp (F.put (some t) (.pointer (some ⟨g, 0, none⟩))).eval om).run P w = .ok (.value (.pointer (some ⟨w.heap.size, 0, none⟩))) (w.alloc (.cells Z ty)) := by
    intro g w
    rw [← hz w]
    congr 1
    refine execOp_congr om (fun cs b h => by rw [hom.1] at h; cases h) fun x hx => ?_
    rw [hom.1] at hx
    simp [Op.operands] at hx
  refine rule (F := F) (Γ := Nat) [s, m] (fun g L w' => Below w.heap.size w w' ∧ (L s = true → L m = true) ∧ (L m = true → w.heap.size ≤ g ∧ w'.heap[g]? = some (.cells (if L s = true then new else Z) ty (0, 0)))) (fun g => F.put (some t) (.pointer (some ⟨g, 0, none⟩))) hm hB ?_ ?_ ?_ ?_ ?_ ?_ ?_
  · intro g
    exact (Alike.refl _ F).put (fun t' ht' => ⟨m, by simp, by rw [hDm]; exact ht'⟩) _
  · exact ⟨0, below_drew (Below.refl _ _), by simp, by simp⟩
  · rintro g L w' w'' ⟨h2, h3, h4⟩ hb
    exact ⟨below_then h2 h2.size hb, h3, fun hL => ⟨(h4 hL).1, (hb.block g (Array.getElem?_eq_some_iff.1 (h4 hL).2).1).trans (h4 hL).2⟩⟩
  · rintro g L i w' hi hni ⟨h2, h3, h4⟩
    simp only [List.mem_cons, List.not_mem_nil, or_false, not_or] at hni
    rw [upd_ne (fun e => hni.1 e.symm), upd_ne (fun e => hni.2 e.symm)]
    exact ⟨h2, h3, h4⟩
  · rintro g L w' ⟨h2, _, _⟩
    rw [hp]
    exact hq w' h2
  · rintro i hi' g L w' ⟨h2, h3, h4⟩ hw hL
    simp only [List.mem_cons, List.not_mem_nil, or_false] at hi'
    rcases hi' with rfl | rfl
    · -- the store
      refine ⟨os, hs, ?_⟩
      have hLm : L m = true := hw m (masks_waits _ _ _ hwt)
      obtain ⟨h5, h6⟩ := h4 hLm
      rw [if_neg (by rw [hL]; decide)] at h6
      refine wpList_store_blk hos.2.2 ty _ y hos.1 g 0 new Z ty ?_ ?_ h6 (by omega) hi h1 ?_
      · simp [Act.eval, Act.put, hFs, ht]
      · rw [Act.eval_put (by intro d hd; injection hd with hd; subst hd; exact hyt)]; exact hy
      · intro w1 hb hg hsz
        rw [hos.2.1]
        refine ⟨g, rfl, ⟨?_, fun _ => ?_, fun _ => ⟨h5, ?_⟩⟩, fun _ _ => rfl⟩
        · exact h2.trans (below_grown hg h2.size h5)
        · rw [upd_ne (Ne.symm hsm)]; exact hLm
        · rw [upd_same, if_pos rfl, hb]
          rw [putC_all hzs]
    · -- the block
      refine ⟨om, hmo, ?_⟩
      have hLs : L s = false := by
        cases h : L s with
        | false => rfl
        | true => rw [h3 h] at hL; cases hL
      unfold wpList
      have hwn : Region.wanted om (yielded l.toArray (F.put (some t) (.pointer (some ⟨g, 0, none⟩))).tmps) = true := by simp [Region.wanted, hom.2.2]
      rw [if_pos hwn]
      refine .inl ?_
      unfold Oper.wp
      rw [hzF g w']
      simp only [Oper.upon, hom.2.1, hput]
      refine ⟨w'.heap.size, rfl, ⟨h2.alloc h2.size _, fun h => ?_, fun _ => ⟨h2.size, ?_⟩⟩, fun t' ht' => ?_⟩
      · exact upd_same
      · rw [upd_ne hsm, hLs, if_neg (by decide)]
        exact heap_alloc_new _ _
      · rw [hDm] at ht'
        have : t ≠ t' := fun e => ht' (by rw [e])
        simp [Act.put, Array.getElem?_setIfInBounds_ne this]
  · rintro g L w' ⟨h2, h3, h4⟩ hall
    have hm' : m < l.toArray.size := (Array.getElem?_eq_some_iff.1 hmo).1
    have hs' : s < l.toArray.size := (Array.getElem?_eq_some_iff.1 hs).1
    obtain ⟨h5, h6⟩ := h4 (hall m hm')
    rw [if_pos (hall s hs')] at h6
    exact hend g w' h2 h5 h6
end
end Rg
end Go.Proofs.Ytcgcognejjpcmaa
