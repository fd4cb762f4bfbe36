/- Blocks that are known whole: a load, a store in their midst; the rule for regions that draw their order, in the forms that are used: nothing is made, a new block is made and filled. -/
import Derived.Test.YtcgcognejjpcmaaRg
import Derived.Deep.MidRow
import Derived.Laws.Rows
namespace Go.Proofs.Ytcgcognejjpcmaa
open Go.RowKit Go.Proofs.YtcgcognejjpcmaaW.PrintWords
set_option linter.unusedVariables false

/-- These cells set anew from place o on. -/
def putC (cs : Array Value) : Nat → List Value → Array Value
  | _, [] => cs
  | o, v :: r => putC (cs.setIfInBounds o v) (o + 1) r
theorem putC_size : ∀ (vs : List Value) (cs : Array Value) (o : Nat), (putC cs o vs).size = cs.size
  | [], _, _ => rfl
  | v :: r, cs, o => by rw [putC, putC_size r]; simp
theorem putC_get : ∀ (vs : List Value) (cs : Array Value) (o j : Nat), j < cs.size → (putC cs o vs)[j]? = if o ≤ j ∧ j < o + vs.length then vs[j - o]? else cs[j]?
  | [], cs, o, j, _ => by rw [if_neg (by simp)]; rfl
  | v :: r, cs, o, j, hj => by
    rw [putC, putC_get r _ (o + 1) j (by simpa using hj)]
    by_cases h : j = o
    · subst h
      rw [if_neg (by omega), if_pos (by simp)]
      simp [hj]
    · by_cases h2 : o + 1 ≤ j ∧ j < o + 1 + r.length
      · rw [if_pos h2, if_pos (by simp; omega), show j - o = (j - (o + 1)) + 1 by omega]
        simp
      · rw [if_neg h2, if_neg (by simp; omega), Array.getElem?_setIfInBounds_ne (fun e => h e.symm)]
theorem putC_all {cs new : Array Value} (h : cs.size = new.size) : putC cs 0 new.toList = new := by
  apply Array.ext_getElem?
  intro j
  by_cases hj : j < cs.size
  · rw [putC_get _ _ _ _ hj, if_pos ⟨Nat.zero_le _, by simp; omega⟩]
    simp
  · rw [Array.getElem?_eq_none (by rw [putC_size]; omega), Array.getElem?_eq_none (by omega)]
theorem heap_setCells {g : Nat} {t : TypeId} : ∀ (vs : List Value) (cs : Array Value) (o : Nat) (w : World), w.heap[g]? = some (.cells cs t (0, 0)) → (w.setCells g o vs).heap[g]? = some (.cells (putC cs o vs) t (0, 0))
  | [], _, _, _, h => h
  | v :: r, cs, o, w, h => heap_setCells r _ (o + 1) _ (heap_setCell_same w g o cs t v h)
theorem size_setCells {g : Nat} : ∀ (vs : List Value) (o : Nat) (w : World), (w.setCells g o vs).heap.size = w.heap.size
  | [], _, _ => rfl
  | v :: r, o, w => by rw [World.setCells, size_setCells r]; simp
theorem grown_setCells {g : Nat} : ∀ (vs : List Value) (o : Nat) (w : World), w.grownBy (w.setCells g o vs) (some g)
  | [], _, w => World.grownBy.refl w _
  | v :: r, o, w => by
    have h1 : w.grownBy (w.setCell ⟨g, o, none⟩ v) (some g) := ⟨rfl, rfl, rfl, by simp, fun k _ hk => heap_setCell_other w ⟨g, o, none⟩ k v (fun e => hk (by rw [e]))⟩
    exact h1.trans (grown_setCells r (o + 1) _)
theorem there_of {w : World} {g o n : Nat} {cs : Array Value} {t : TypeId} (hg : w.heap[g]? = some (.cells cs t (0, 0))) (h : o + n ≤ cs.size) : w.there g o n := fun j hj => by
  rw [cell_of_row w g (o + j) cs t (0, 0) hg, frozen_of_row w g (o + j) cs t hg]
  refine ⟨?_, rfl⟩
  rw [Array.getElem?_eq_getElem (by omega)]
  rfl
theorem range_of {w : World} {g o n : Nat} {cs : Array Value} {t : TypeId} {fr : Nat × Nat} {part : List Value} (hg : w.heap[g]? = some (.cells cs t fr)) (hp : (cs.extract o (o + n)).toList = part) : w.rangeAt g o part := hp ▸ World.rangeAt_of_block hg o n

theorem run_storeVar_cells {P : Program} (w : World) (b o : Nat) (ty : TypeId) (v : Value) (cells : Array Value) (hv : v.cells = cells) (ht : w.there b o cells.size) (hi : (P.info? ty).map (·.size) = some cells.size) (h1 : cells.all (·.oneCell') = true) :
    (storeVar ty ⟨b, o, none⟩ v).run P w = .ok () (w.setCells b o cells.toList) := by
  have := run_storeCells_cells (P := P) b o cells.toList 0 w (fun j hj => by simpa using (ht j (by simpa using hj)).1) (fun j hj => by simpa using (ht j (by simpa using hj)).2)
    (fun v hv => (Array.all_eq_true_iff_forall_mem.1 h1) v (by simpa using hv))
  subst hv
  cases hq : P.info? ty with
  | none => simp [hq] at hi
  | some i =>
    have hs : i.size = v.cells.size := by simpa [hq] using hi
    simp [storeVar, sizeOf, typeInfo, hq, hs]
    simpa using this
section
variable {P : Program} {ops : Array Oper} {rest : List Oper} {o : Oper} {a : Act} {w : World} {Q : Exit → Act → World → Prop}
/-- A store into a block that is known whole. -/
theorem wpList_store_blk (hgd : o.guard = none) (ty : TypeId) (x y : Operand) (ho : o.op = .store ty x y) (g i : Nat) (new : Array Value) (cs : Array Value) (t : TypeId) (hx : a.eval x = .pointer (some ⟨g, i, none⟩)) (hy : (a.eval y).cells = new)
    (hg : w.heap[g]? = some (.cells cs t (0, 0))) (hle : i + new.size ≤ cs.size) (hi : (P.info? ty).map (·.size) = some new.size) (h1 : new.all (·.oneCell') = true)
    (h : ∀ w1, w1.heap[g]? = some (.cells (putC cs i new.toList) t (0, 0)) → w.grownBy w1 (some g) → w1.heap.size = w.heap.size → wpList P ops Q rest (a.put o.dst undef) w1) : wpList P ops Q (o :: rest) a w :=
  wpList_plain hgd fun _ hK => by
    unfold Oper.wp execOp
    simp only [ho, hx, Instr.storeAt, Instr.sureAddr, Sem.run_bind, Sem.run_pure, Result.andThen_ok, run_storeVar_cells w g i ty _ new hy (there_of hg hle) hi h1]
    exact hK _ _ (h _ (heap_setCells _ _ _ _ hg) (grown_setCells _ _ _) (size_setCells _ _ _))
/-- .. of all its cells. -/
theorem wpList_store_all (hgd : o.guard = none) (ty : TypeId) (x y : Operand) (ho : o.op = .store ty x y) (g : Nat) (new : Array Value) (cs : Array Value) (t : TypeId) (hx : a.eval x = .pointer (some ⟨g, 0, none⟩)) (hy : (a.eval y).cells = new)
    (hg : w.heap[g]? = some (.cells cs t (0, 0))) (hle : cs.size = new.size) (hi : (P.info? ty).map (·.size) = some new.size) (h1 : new.all (·.oneCell') = true)
    (h : ∀ w1, w1.heap[g]? = some (.cells new t (0, 0)) → w.grownBy w1 (some g) → w1.heap.size = w.heap.size → wpList P ops Q rest (a.put o.dst undef) w1) : wpList P ops Q (o :: rest) a w :=
  wpList_store_blk hgd ty x y ho g 0 new cs t hx hy hg (by omega) hi h1 fun w1 hb => h w1 (by rw [hb, putC_all hle])
theorem wpList_load_blk (hgd : o.guard = none) (ty : TypeId) (x : Operand) (ho : o.op = .load ty x) (g i n : Nat) (part : List Value) (cs : Array Value) (t : TypeId) (fr : Nat × Nat) (d : TypeDesc) (hx : a.eval x = .pointer (some ⟨g, i, none⟩))
    (hg : w.heap[g]? = some (.cells cs t fr)) (hp : (cs.extract i (i + n)).toList = part) (hu : P.underlying ty = some d) (hd : d.isRow = true) (hi : (P.info? ty).map (·.size) = some part.length)
    (h : wpList P ops Q rest (a.put o.dst (.agg part.toArray)) w) : wpList P ops Q (o :: rest) a w :=
  wpList_load_mid hgd ty x ho g i hx part d (range_of hg hp) hu hd hi h
end

/-- These cells lie from this address on. -/
def CellsAt (w : World) (ad : Addr) (cs : List Value) : Prop := ∀ j u, cs[j]? = some u → w.cell? (ad.add j) = some u
theorem CellsAt.below {w w' : World} {ad : Addr} {cs : List Value} (h : CellsAt w ad cs) (hb : Below w.heap.size w w') : CellsAt w' ad cs := fun j u hu => pw_cell_below hb (h j u hu)
theorem addr_add (a : Addr) (i j : Nat) : (a.add i).add j = a.add (i + j) := by
  unfold Addr.add
  by_cases h1 : i = 0 <;> by_cases h2 : j = 0 <;> simp [h1, h2, Nat.add_assoc]
/-- An element of a slice that is read. -/
theorem elem_at {α : Type} {d : Kd α} {w : World} {A : Option Addr} {n : Nat} {xs : List α} (h : d.C w A n xs) (z : α) (k : Nat) (hk : k < n) : ∃ ad c, A = some ad ∧ d.K w (xs.getD k z) c ∧ CellsAt w (ad.add (k * d.sz)) c := by
  obtain ⟨ad, c, e, _, hK, hc⟩ := Kd.C_get h z k (by omega) (by omega)
  simp only [Int.toNat_natCast] at hK hc
  exact ⟨ad, c, e, hK, fun j u hu => by rw [addr_add]; exact hc j u hu⟩
theorem cells_lt {w : World} {ad : Addr} {v : Value} {cs : List Value} (h : CellsAt w ad (v :: cs)) : ad.block < w.heap.size := by
  have h1 := World.block_lt_of_cell? w _ (h 0 v rfl)
  have h2 : (ad.add 0) = ad := by unfold Addr.add; simp
  rwa [h2] at h1
theorem run_loadVar_at {P : Program} (w : World) (ad : Addr) (ty : TypeId) (cs : List Value) (d : TypeDesc) (hc : CellsAt w ad cs) (hu : P.underlying ty = some d) (hd : d.isRow = true) (hi : (P.info? ty).map (·.size) = some cs.length) :
    (loadVar ty ad).run P w = .ok (.agg cs.toArray) w := by
  have hl : (loadCells ad cs.length).run P w = .ok cs.toArray w := run_loadCells_list (P := P) w ad cs hc
  cases hq : P.info? ty with
  | none => simp [hq] at hi
  | some i =>
    have hs : i.size = cs.length := by simpa [hq] using hi
    have hagg : (isAgg ty).run P w = .ok true w := by
      unfold isAgg
      simp only [Sem.run_bind, run_underlying hu, Result.andThen_ok]
      cases d <;> simp_all [TypeDesc.isRow]
    simp [loadVar, sizeOf, typeInfo, hq, hs, hl, hagg]
section
variable {P : Program} {ops : Array Oper} {rest : List Oper} {o : Oper} {a : Act} {w : World} {Q : Exit → Act → World → Prop}
/-- The guard, by looking: none; or one that holds. -/
theorem gate_none (hg : o.guard = none) (h : wpList P ops Q (o :: rest) a w) : wpList P ops Q (o :: rest) a w := h
theorem gate_if {g : Nat} {b : Bool} {t : Tmp} (hg : o.guard = some (g, b)) (ht : (ops[g]?).bind (·.dst) = some t) (hv : a.tmps[t]? = some (.bool b)) (h : wpList P ops Q ({ o with guard := none } :: rest) a w) : wpList P ops Q (o :: rest) a w := by
  have hw : Region.wanted o (yielded ops a.tmps) = true := by
    unfold Region.wanted yielded
    simp [hg, ht, hv]
  have h1 : Region.wanted { o with guard := none } (yielded ops a.tmps) = true := rfl
  unfold wpList at h ⊢
  rw [if_pos h1] at h
  rw [if_pos hw]
  exact h
end
theorem run_loadVar_one {P : Program} (w : World) (ad : Addr) (ty : TypeId) (v : Value) (d : TypeDesc) (hc : w.cell? ad = some v) (hu : P.underlying ty = some d) (hd : d.isRow = false) : (loadVar ty ad).run P w = .ok v w := by
  have hagg : (isAgg ty).run P w = .ok false w := by
    unfold isAgg
    simp only [Sem.run_bind, run_underlying hu, Result.andThen_ok]
    cases d <;> simp_all [TypeDesc.isRow]
  simp [loadVar, hagg, run_load, hc]
section
variable {P : Program} {ops : Array Oper} {rest : List Oper} {o : Oper} {a : Act} {w : World} {Q : Exit → Act → World → Prop}
/-- One cell of a block that is known whole. -/
theorem wpList_load_one (ty : TypeId) (x : Operand) (ho : o.op = .load ty x) (hw : Region.wanted o (yielded ops a.tmps) = true) (g i : Nat) (v : Value) (cs : Array Value) (t : TypeId) (fr : Nat × Nat) (d : TypeDesc) (hx : a.eval x = .pointer (some ⟨g, i, none⟩)) (hg : w.heap[g]? = some (.cells cs t fr)) (hv : cs[i]? = some v) (hu : P.underlying ty = some d) (hd : d.isRow = false)
    (h : wpList P ops Q rest (a.put o.dst v) w) : wpList P ops Q (o :: rest) a w := by
  unfold wpList
  rw [if_pos hw]
  refine .inl ?_
  unfold Oper.wp execOp
  simp only [ho, hx, Instr.loadAt, Instr.sureAddr, Sem.run_bind, Sem.run_pure, Result.andThen_ok, run_loadVar_one w ⟨g, i, none⟩ ty v d ((cell_of_row w g i cs t fr hg).trans hv) hu hd]
  exact h
theorem wpList_load_at (hgd : o.guard = none) (ty : TypeId) (x : Operand) (ho : o.op = .load ty x) (ad : Addr) (cs : List Value) (d : TypeDesc) (hx : a.eval x = .pointer (some ad)) (hc : CellsAt w ad cs) (hu : P.underlying ty = some d) (hd : d.isRow = true) (hi : (P.info? ty).map (·.size) = some cs.length)
    (h : wpList P ops Q rest (a.put o.dst (.agg cs.toArray)) w) : wpList P ops Q (o :: rest) a w :=
  wpList_plain hgd fun _ hK => by
    unfold Oper.wp execOp
    simp only [ho, hx, Instr.loadAt, Instr.sureAddr, Sem.run_bind, Sem.run_pure, Result.andThen_ok, run_loadVar_at w ad ty cs d hc hu hd hi]
    exact hK _ _ h
end
section
variable {P : Program} {ops : Array Oper} {C : World → Prop} {Q : Act → Prop} {a : Act} {o : Oper} {rest : List Oper}
theorem quiet_load_at (ty : TypeId) (x : Operand) (ho : o.op = .load ty x) (hw : Region.wanted o (yielded ops a.tmps) = true) (ad : Addr) (cs : List Value) (d : TypeDesc) (hx : a.eval x = .pointer (some ad)) (hc : ∀ w, C w → CellsAt w ad cs) (hu : P.underlying ty = some d) (hd : d.isRow = true) (hi : (P.info? ty).map (·.size) = some cs.length)
    (h : wpQuiet P ops C Q rest (a.put o.dst (.agg cs.toArray))) : wpQuiet P ops C Q (o :: rest) a := by
  unfold wpQuiet
  rw [if_pos hw]
  refine ⟨.agg cs.toArray, fun w hC => ?_, h⟩
  unfold Oper.quietAt execOp
  simp only [ho, hx, Instr.loadAt, Instr.sureAddr, Sem.run_bind, Sem.run_pure, Result.andThen_ok, run_loadVar_at w ad ty cs d (hc w hC) hu hd hi]
  exact ⟨rfl, rfl⟩
theorem later_blk {w : World} {g : Nat} {o : Obj} (h : w.heap[g]? = some o) : ∀ w', (∃ p : Later w, w' = p.at_) → w'.heap[g]? = some o := fun _ hw => by
  obtain ⟨p, rfl⟩ := hw
  exact p.blk h
theorem later_cells {w : World} {ad : Addr} {cs : List Value} (h : CellsAt w ad cs) : ∀ w', (∃ p : Later w, w' = p.at_) → CellsAt w' ad cs := fun _ hw => by
  obtain ⟨p, rfl⟩ := hw
  exact h.below p.below
/-- In a walk of what only reads: a block that is known whole is read at once. -/
theorem quiet_load_blk (ty : TypeId) (x : Operand) (ho : o.op = .load ty x) (hw : Region.wanted o (yielded ops a.tmps) = true) (g i n : Nat) (part : List Value) (cs : Array Value) (t : TypeId) (fr : Nat × Nat) (d : TypeDesc) (hx : a.eval x = .pointer (some ⟨g, i, none⟩))
    (hg : ∀ w, C w → w.heap[g]? = some (.cells cs t fr)) (hp : (cs.extract i (i + n)).toList = part) (hu : P.underlying ty = some d) (hd : d.isRow = true) (hi : (P.info? ty).map (·.size) = some part.length)
    (h : wpQuiet P ops C Q rest (a.put o.dst (.agg part.toArray))) : wpQuiet P ops C Q (o :: rest) a := by
  unfold wpQuiet
  rw [if_pos hw]
  refine ⟨.agg part.toArray, fun w hC => ?_, h⟩
  unfold Oper.quietAt execOp
  simp only [ho, hx, Instr.loadAt, Instr.sureAddr, Sem.run_bind, Sem.run_pure, Result.andThen_ok, run_loadVar_mid w g i ty part d (range_of (hg w hC) hp) hu hd hi]
  exact ⟨rfl, rfl⟩
theorem quiet_load_row (ty : TypeId) (x : Operand) (ho : o.op = .load ty x) (hw : Region.wanted o (yielded ops a.tmps) = true) (g : Nat) (cs : Array Value) (t : TypeId) (fr : Nat × Nat) (d : TypeDesc) (hx : a.eval x = .pointer (some ⟨g, 0, none⟩))
    (hg : ∀ w, C w → w.heap[g]? = some (.cells cs t fr)) (hu : P.underlying ty = some d) (hd : d.isRow = true) (hi : (P.info? ty).map (·.size) = some cs.size)
    (h : wpQuiet P ops C Q rest (a.put o.dst (.agg cs))) : wpQuiet P ops C Q (o :: rest) a :=
  quiet_load_blk ty x ho hw g 0 cs.size cs.toList cs t fr d hx hg (by simp) hu hd (by simpa using hi) (by simpa using h)
theorem quiet_load_one (ty : TypeId) (x : Operand) (ho : o.op = .load ty x) (hw : Region.wanted o (yielded ops a.tmps) = true) (g i : Nat) (v : Value) (cs : Array Value) (t : TypeId) (fr : Nat × Nat) (d : TypeDesc) (hx : a.eval x = .pointer (some ⟨g, i, none⟩)) (hg : ∀ w, C w → w.heap[g]? = some (.cells cs t fr)) (hv : cs[i]? = some v) (hu : P.underlying ty = some d) (hd : d.isRow = false)
    (h : wpQuiet P ops C Q rest (a.put o.dst v)) : wpQuiet P ops C Q (o :: rest) a := by
  unfold wpQuiet
  rw [if_pos hw]
  refine ⟨v, fun w hC => ?_, h⟩
  unfold Oper.quietAt execOp
  simp only [ho, hx, Instr.loadAt, Instr.sureAddr, Sem.run_bind, Sem.run_pure, Result.andThen_ok, run_loadVar_one w ⟨g, i, none⟩ ty v d ((cell_of_row w g i cs t fr (hg w hC)).trans hv) hu hd]
  exact ⟨rfl, rfl⟩
/-- An operation that is a run of its operands' values. -/
theorem quiet_run (v : Value) (hw : Region.wanted o (yielded ops a.tmps) = true) (hr : ∀ w, (execOp a.eval o).run P w = .ok (.value v) w) (h : wpQuiet P ops C Q rest (a.put o.dst v)) : wpQuiet P ops C Q (o :: rest) a := by
  unfold wpQuiet
  rw [if_pos hw]
  refine ⟨v, fun w hC => ?_, h⟩
  unfold Oper.quietAt
  rw [hr w]
  exact ⟨rfl, rfl⟩
end

/-- What only writes into block g, and makes new ones, leaves the others as they were. -/
theorem below_grown {w w1 : World} {B g : Nat} (h : w.grownBy w1 (some g)) (hB : B ≤ w.heap.size) (hg : B ≤ g) : Below B w w1 := ⟨h.os, h.tape, h.output, h.size, fun k hk => h.block k (by omega) (fun e => by injection e with e; omega)⟩

/-- What a walk knows: what was at the start lies still; these blocks are known. -/
structure St (w : World) (F : List (Nat × Obj)) (W : World) : Prop where
  below : Below w.heap.size w W
  has : ∀ (i g : Nat) (o : Obj), F[i]? = some (g, o) → W.heap[g]? = some o
theorem blk_lt {W : World} {g : Nat} {o : Obj} (h : W.heap[g]? = some o) : g < W.heap.size := (Array.getElem?_eq_some_iff.1 h).1
theorem blk_call {W W' : World} {g : Nat} {o : Obj} (hb : Below W.heap.size W W') (h : W.heap[g]? = some o) : W'.heap[g]? = some o := (hb.block g (blk_lt h)).trans h
theorem St.get {w W : World} {F : List (Nat × Obj)} (s : St w F W) (i : Nat) {g : Nat} {o : Obj} (h : F[i]? = some (g, o)) : W.heap[g]? = some o := s.has i g o h
theorem St.nil (w : World) : St w [] w := ⟨Below.refl _ _, fun i g o h => by cases h⟩
theorem St.add {w W : World} {F : List (Nat × Obj)} (s : St w F W) {g : Nat} {o : Obj} (h : W.heap[g]? = some o) : St w (F ++ [(g, o)]) W := ⟨s.below, fun i g' o' hi => by
  rcases Nat.lt_or_ge i F.length with hl | hl
  · rw [List.getElem?_append_left hl] at hi; exact s.has i g' o' hi
  · rw [List.getElem?_append_right hl] at hi
    cases hk : i - F.length with
    | zero => rw [hk] at hi; simp only [List.getElem?_cons_zero, Option.some.injEq, Prod.mk.injEq] at hi; obtain ⟨rfl, rfl⟩ := hi; exact h
    | succ k => rw [hk] at hi; simp at hi⟩
theorem St.call {w W W' : World} {F : List (Nat × Obj)} (s : St w F W) (hb : Below W.heap.size W W') : St w F W' := ⟨below_then s.below s.below.size hb, fun i g o hi => blk_call hb (s.has i g o hi)⟩
theorem St.drew {w W : World} {F : List (Nat × Obj)} (s : St w F W) : St w F W.drew := ⟨below_drew s.below, s.has⟩
theorem St.alloc {w W : World} {F : List (Nat × Obj)} (s : St w F W) (o : Obj) : St w (F ++ [(W.heap.size, o)]) (W.alloc o) :=
  St.add ⟨s.below.alloc s.below.size _, fun i g o' hi => (Below.heap_alloc _ _ _ (blk_lt (s.has i g o' hi))).trans (s.has i g o' hi)⟩ (heap_alloc_new _ _)
/-- A block was made and filled. -/
theorem St.made {w W W' : World} {F : List (Nat × Obj)} {o b : Obj} (s : St w F W) (hg : (W.alloc o).grownBy W' (some W.heap.size)) (hb : W'.heap[W.heap.size]? = some b) : St w (F ++ [(W.heap.size, b)]) W' :=
  St.add ⟨(s.below.alloc s.below.size _).trans (below_grown hg (by simp; have := s.below.size; omega) s.below.size), fun i g o' hi => by
    have h := s.has i g o' hi
    have hl := blk_lt h
    exact (hg.block g (by simp; omega) (by intro e; injection e with e; omega)).trans ((Below.heap_alloc _ _ _ hl).trans h)⟩ hb
theorem St.erase {w W : World} {F : List (Nat × Obj)} (s : St w F W) (k : Nat) : St w (F.eraseIdx k) W := ⟨s.below, fun i g o hi => by
  rw [List.getElem?_eraseIdx] at hi
  split at hi
  · exact s.has _ g o hi
  · exact s.has _ g o hi⟩
/-- Block number i of those that are known was written. -/
theorem St.set_ {w W W' : World} {F : List (Nat × Obj)} {g : Nat} {b : Obj} (s : St w F W) (i : Nat) (hg : W.grownBy W' (some g)) (hb : W'.heap[g]? = some b) (hB : w.heap.size ≤ g) (hne : ∀ (j : Nat), j ≠ i → ∀ (g' : Nat) (o' : Obj), F[j]? = some (g', o') → g' ≠ g) : St w (F.set i (g, b)) W' :=
  ⟨s.below.trans (below_grown hg s.below.size hB), fun j g' o' hj => by
    by_cases h : j = i
    · subst h
      rcases Nat.lt_or_ge j F.length with hl | hl
      · rw [List.getElem?_set_self hl] at hj
        simp only [Option.some.injEq, Prod.mk.injEq] at hj
        obtain ⟨rfl, rfl⟩ := hj
        exact hb
      · rw [List.getElem?_eq_none (by simpa using hl)] at hj; cases hj
    · rw [List.getElem?_set_ne (fun e => h e.symm)] at hj
      have h1 := s.has j g' o' hj
      exact (hg.block g' (blk_lt h1) (by intro e; injection e with e; exact hne j h g' o' hj e)).trans h1⟩

/-! #### The end of a function whose results lie in blocks -/
theorem load_whole {P : Program} {w : World} {g : Nat} {cs : Array Value} {t ty : TypeId} {fr : Nat × Nat} {d : TypeDesc} (hg : w.heap[g]? = some (.cells cs t fr)) (hu : P.underlying ty = some d) (hd : d.isRow = true) (hi : (P.info? ty).map (·.size) = some cs.size) :
    (loadVar ty ⟨g, 0, none⟩).run P w = .ok (.agg cs) w := by
  have := run_loadVar_mid (P := P) w g 0 ty cs.toList d (range_of (n := cs.size) hg (by simp)) hu hd (by simpa using hi)
  simpa using this
section
variable {P : Program} {fn : Func} {R : Ending → World → Prop} {a : Act} {w : World} {p p2 q r : Tmp} {g g2 : Nat} {ty t ty2 t2 : TypeId} {cs cs2 : Array Value} {fr fr2 : Nat × Nat} {d d2 : TypeDesc} {u v : Value}
theorem ends_c (h : fn.results = #[.cell p ty]) (hp : a.tmps.getD p undef = .pointer (some ⟨g, 0, none⟩)) (hg : w.heap[g]? = some (.cells cs t fr)) (hu : P.underlying ty = some d) (hd : d.isRow = true) (hi : (P.info? ty).map (·.size) = some cs.size) (hdf : a.defers = [])
    (hR : R (.returned (.agg cs)) w) : bodyPost P fn R .ret a w := by
  have hp' : a.tmps[p]?.getD undef = .pointer (some ⟨g, 0, none⟩) := by simpa using hp
  have hr : (results fn a.tmps).run P w = .ok (.agg cs) w := by simp [results, h, hp', asAddr, load_whole hg hu hd hi]
  exact bodyPost_ret hr hdf hR
theorem ends_ct (h : fn.results = #[.cell p ty, .tmp q]) (hp : a.tmps.getD p undef = .pointer (some ⟨g, 0, none⟩)) (hq : a.tmps.getD q undef = v) (hg : w.heap[g]? = some (.cells cs t fr)) (hu : P.underlying ty = some d) (hd : d.isRow = true) (hi : (P.info? ty).map (·.size) = some cs.size) (hdf : a.defers = [])
    (hR : R (.returned (.tuple #[.agg cs, v])) w) : bodyPost P fn R .ret a w := by
  have hp' : a.tmps[p]?.getD undef = .pointer (some ⟨g, 0, none⟩) := by simpa using hp
  have hq' : a.tmps[q]?.getD undef = v := by simpa using hq
  exact bodyPost_ret (v := .tuple #[.agg cs, v]) (by simp [results, h, hp', hq', asAddr, load_whole hg hu hd hi]) hdf hR
theorem ends_ctt (h : fn.results = #[.cell p ty, .tmp q, .tmp r]) (hp : a.tmps.getD p undef = .pointer (some ⟨g, 0, none⟩)) (hq : a.tmps.getD q undef = v) (hr : a.tmps.getD r undef = u) (hg : w.heap[g]? = some (.cells cs t fr)) (hu : P.underlying ty = some d) (hd : d.isRow = true) (hi : (P.info? ty).map (·.size) = some cs.size) (hdf : a.defers = [])
    (hR : R (.returned (.tuple #[.agg cs, v, u])) w) : bodyPost P fn R .ret a w := by
  have hp' : a.tmps[p]?.getD undef = .pointer (some ⟨g, 0, none⟩) := by simpa using hp
  have hq' : a.tmps[q]?.getD undef = v := by simpa using hq
  have hr' : a.tmps[r]?.getD undef = u := by simpa using hr
  exact bodyPost_ret (v := .tuple #[.agg cs, v, u]) (by simp [results, h, hp', hq', hr', asAddr, load_whole hg hu hd hi]) hdf hR
theorem ends_cct (h : fn.results = #[.cell p ty, .cell p2 ty2, .tmp q]) (hp : a.tmps.getD p undef = .pointer (some ⟨g, 0, none⟩)) (hp2 : a.tmps.getD p2 undef = .pointer (some ⟨g2, 0, none⟩)) (hq : a.tmps.getD q undef = v) (hg : w.heap[g]? = some (.cells cs t fr)) (hg2 : w.heap[g2]? = some (.cells cs2 t2 fr2))
    (hu : P.underlying ty = some d) (hd : d.isRow = true) (hi : (P.info? ty).map (·.size) = some cs.size) (hu2 : P.underlying ty2 = some d2) (hd2 : d2.isRow = true) (hi2 : (P.info? ty2).map (·.size) = some cs2.size) (hdf : a.defers = [])
    (hR : R (.returned (.tuple #[.agg cs, .agg cs2, v])) w) : bodyPost P fn R .ret a w := by
  have hp' : a.tmps[p]?.getD undef = .pointer (some ⟨g, 0, none⟩) := by simpa using hp
  have hp2' : a.tmps[p2]?.getD undef = .pointer (some ⟨g2, 0, none⟩) := by simpa using hp2
  have hq' : a.tmps[q]?.getD undef = v := by simpa using hq
  exact bodyPost_ret (v := .tuple #[.agg cs, .agg cs2, v]) (by simp [results, h, hp', hp2', hq', asAddr, load_whole hg hu hd hi, load_whole hg2 hu2 hd2 hi2]) hdf hR
end

namespace Rg
section
variable {P : Program}
theorem upd_ne {L : Nat → Bool} {i j : Nat} (h : j ≠ i) : upd L i j = L j := if_neg h
theorem upd_same {L : Nat → Bool} {i : Nat} : upd L i i = true := if_pos rfl
/-- The list without these places (the greatest first). -/
def cutOut (l : List Oper) : List Nat → List Oper
  | [] => l
  | i :: r => cutOut (l.eraseIdx i) r

/-- Nothing is made: the operations of 'eff' write, into a world of the class. -/
theorem plain {id : Nat} {Q : Exit → Act → World → Prop} {a0 : Act} {w : World} {l : List Oper} (eff : List Nat) (C : (Nat → Bool) → World → Prop) (hm : P.follows .mixedOrders = true) (hB : okB l.toArray eff = true) (hp : pures l.toArray eff = cutOut l eff)
    (hn : eff.all (fun i => D l.toArray i == none) = true)
    (h0 : C (fun _ => false) w.drew)
    (hbel : ∀ L w' w'', C L w' → Below w'.heap.size w' w'' → C L w'')
    (hirr : ∀ L i w', i < l.toArray.size → i ∉ eff → C L w' → C (upd L i) w')
    (H : ∃ F, (∀ L w', C L w' → wpQuiet P l.toArray (fun w'' => ∃ p : Later w', w'' = p.at_) (fun a' => a' = F) (cutOut l eff) a0) ∧
      (∀ i ∈ eff, ∀ L w', C L w' → (∀ j, Waits l.toArray i j → L j = true) → L i = false → ∃ o, l.toArray[i]? = some o ∧ wpList P l.toArray (only (fun a' w'' => a' = F ∧ C (upd L i) w'') Q) [o] F w') ∧
      (∀ L w', C L w' → (∀ i, i < l.toArray.size → L i = true) → Q .normal F w')) : (Code.region id l.toArray true).wp P Q a0 w := by
  obtain ⟨F, hq, he, hend⟩ := H
  have hno : ∀ i ∈ eff, D l.toArray i = none := fun i hi => by simpa using List.all_eq_true.1 hn i hi
  refine rule (F := F) (Γ := Unit) eff (fun _ => C) (fun _ => F) hm hB (fun _ => Alike.refl _ _) ⟨(), h0⟩ (fun _ => hbel) (fun _ => hirr) (fun _ L w' hC => by rw [hp]; exact hq L w' hC) ?_ (fun _ => hend)
  intro i hi _ L w' hC hw hL
  obtain ⟨o, ho, h⟩ := he i hi L w' hC hw hL
  refine ⟨o, ho, ?_⟩
  have e : (only (fun a' w'' => a' = F ∧ C (upd L i) w'') Q) = (only (fun a' w'' => ∃ γ' : Unit, a' = F ∧ C (upd L i) w'' ∧ ∀ t, D l.toArray i ≠ some t → F.tmps[t]? = F.tmps[t]?) Q) := by
    funext x a' w''
    cases x with
    | normal => exact propext ⟨fun h => ⟨(), h.1, h.2, fun _ _ => rfl⟩, fun ⟨_, h1, h2, _⟩ => ⟨h1, h2⟩⟩
    | _ => rfl
  rw [← e]
  exact h

/-- A block is made (operation m, slot t), and filled (operation s). -/
theorem made {id : Nat} {Q : Exit → Act → World → Prop} {a0 : Act} {w : World} {l : List Oper} (s m t : Nat) (ty : TypeId) (Z new : Array Value) (os om : Oper) (y : Operand) (hm : P.follows .mixedOrders = true) (hB : okB l.toArray [s, m] = true) (hp : pures l.toArray [s, m] = cutOut l [s, m])
    (hs : l.toArray[s]? = some os) (hmo : l.toArray[m]? = some om) (hsm : s ≠ m) (hos : os.op = .store ty (.tmp t) y ∧ os.dst = none ∧ os.guard = none) (hom : om.op = .alloc ty ∧ om.dst = some t ∧ om.guard = none) (hwt : ((masks l.toArray l.toArray.size).getD s 0).testBit m = true)
    (ht : t < a0.tmps.size)
    (hz : ∀ w : World, (execOp a0.eval om).run P w = .ok (.value (.pointer (some ⟨w.heap.size, 0, none⟩))) (w.alloc (.cells Z ty))) (hzs : Z.size = new.size) (hi : (P.info? ty).map (·.size) = some new.size) (h1 : new.all (·.oneCell') = true) (hyt : y ≠ .tmp t)
    (H : ∃ F, (∀ w', Below w.heap.size w w' → wpQuiet P l.toArray (fun w'' => ∃ p : Later w', w'' = p.at_) (fun a' => a' = F) (cutOut l [s, m]) a0) ∧ (F.eval y).cells = new ∧
      (∀ g w', Below w.heap.size w w' → w.heap.size ≤ g → w'.heap[g]? = some (.cells new ty (0, 0)) → Q .normal (F.put (some t) (.pointer (some ⟨g, 0, none⟩))) w')) : (Code.region id l.toArray true).wp P Q a0 w := by
  obtain ⟨F, hq, hy, hend⟩ := H
  have hDs : D l.toArray s = none := by unfold D; rw [hs]; exact hos.2.1
  have hDm : D l.toArray m = some t := by unfold D; rw [hmo]; exact hom.2.1
  have hFs : F.tmps.size = a0.tmps.size := by
    have key : ∀ (l' : List Oper) (b : Act), wpQuiet P l.toArray (fun w'' => ∃ p : Later w, w'' = p.at_) (fun a' => a' = F) l' b → F.tmps.size = b.tmps.size := by
      intro l'
      induction l' with
      | nil => intro b hb; have : b = F := hb; rw [this]
      | cons p l' ih =>
        intro b hb
        have : ∃ u, wpQuiet P l.toArray (fun w'' => ∃ p : Later w, w'' = p.at_) (fun a' => a' = F) l' (b.put p.dst u) := by
          simp only [wpQuiet] at hb
          by_cases hw : Region.wanted p (yielded l.toArray b.tmps) = true
          · rw [if_pos hw] at hb
            obtain ⟨v, h1, h2⟩ := hb
            exact ⟨v, h2⟩
          · rw [if_neg hw] at hb
            exact ⟨undef, hb⟩
        obtain ⟨u, hu⟩ := this
        rw [ih _ hu]
        cases p.dst <;> simp [Act.put]
    exact key _ _ (hq w (Below.refl _ _))
  have hput : ∀ g g' : Nat, ((F.put (some t) (.pointer (some ⟨g, 0, none⟩))).put (some t) (.pointer (some ⟨g', 0, none⟩))) = F.put (some t) (.pointer (some ⟨g', 0, none⟩)) := by
    intro g g'
    simp [Act.put]
  have hzF : ∀ (g : Nat) (w : World), (execOp (F.put (some t) (.pointer (some ⟨g, 0, none⟩))).eval om).run P w = .ok (.value (.pointer (some ⟨w.heap.size, 0, none⟩))) (w.alloc (.cells Z ty)) := by
    intro g w
    rw [← hz w]
    congr 1
    refine execOp_congr om (fun cs b h => by rw [hom.1] at h; cases h) fun x hx => ?_
    rw [hom.1] at hx
    simp [Op.operands] at hx
  refine rule (F := F) (Γ := Nat) [s, m] (fun g L w' => Below w.heap.size w w' ∧ (L s = true → L m = true) ∧ (L m = true → w.heap.size ≤ g ∧ w'.heap[g]? = some (.cells (if L s = true then new else Z) ty (0, 0)))) (fun g => F.put (some t) (.pointer (some ⟨g, 0, none⟩))) hm hB ?_ ?_ ?_ ?_ ?_ ?_ ?_
  · intro g
    exact (Alike.refl _ F).put (fun t' ht' => ⟨m, by simp, by rw [hDm]; exact ht'⟩) _
  · exact ⟨0, below_drew (Below.refl _ _), by simp, by simp⟩
  · rintro g L w' w'' ⟨h2, h3, h4⟩ hb
    exact ⟨below_then h2 h2.size hb, h3, fun hL => ⟨(h4 hL).1, (hb.block g (Array.getElem?_eq_some_iff.1 (h4 hL).2).1).trans (h4 hL).2⟩⟩
  · rintro g L i w' hi hni ⟨h2, h3, h4⟩
    simp only [List.mem_cons, List.not_mem_nil, or_false, not_or] at hni
    rw [upd_ne (fun e => hni.1 e.symm), upd_ne (fun e => hni.2 e.symm)]
    exact ⟨h2, h3, h4⟩
  · rintro g L w' ⟨h2, _, _⟩
    rw [hp]
    exact hq w' h2
  · rintro i hi' g L w' ⟨h2, h3, h4⟩ hw hL
    simp only [List.mem_cons, List.not_mem_nil, or_false] at hi'
    rcases hi' with rfl | rfl
    · -- the store
      refine ⟨os, hs, ?_⟩
      have hLm : L m = true := hw m (masks_waits _ _ _ hwt)
      obtain ⟨h5, h6⟩ := h4 hLm
      rw [if_neg (by rw [hL]; decide)] at h6
      refine wpList_store_blk hos.2.2 ty _ y hos.1 g 0 new Z ty ?_ ?_ h6 (by omega) hi h1 ?_
      · simp [Act.eval, Act.put, hFs, ht]
      · rw [Act.eval_put (by intro d hd; injection hd with hd; subst hd; exact hyt)]; exact hy
      · intro w1 hb hg hsz
        rw [hos.2.1]
        refine ⟨g, rfl, ⟨?_, fun _ => ?_, fun _ => ⟨h5, ?_⟩⟩, fun _ _ => rfl⟩
        · exact h2.trans (below_grown hg h2.size h5)
        · rw [upd_ne (Ne.symm hsm)]; exact hLm
        · rw [upd_same, if_pos rfl, hb]
          rw [putC_all hzs]
    · -- the block
      refine ⟨om, hmo, ?_⟩
      have hLs : L s = false := by
        cases h : L s with
        | false => rfl
        | true => rw [h3 h] at hL; cases hL
      unfold wpList
      have hwn : Region.wanted om (yielded l.toArray (F.put (some t) (.pointer (some ⟨g, 0, none⟩))).tmps) = true := by simp [Region.wanted, hom.2.2]
      rw [if_pos hwn]
      refine .inl ?_
      unfold Oper.wp
      rw [hzF g w']
      simp only [Oper.upon, hom.2.1, hput]
      refine ⟨w'.heap.size, rfl, ⟨h2.alloc h2.size _, fun h => ?_, fun _ => ⟨h2.size, ?_⟩⟩, fun t' ht' => ?_⟩
      · exact upd_same
      · rw [upd_ne hsm, hLs, if_neg (by decide)]
        exact heap_alloc_new _ _
      · rw [hDm] at ht'
        have : t ≠ t' := fun e => ht' (by rw [e])
        simp [Act.put, Array.getElem?_setIfInBounds_ne this]
  · rintro g L w' ⟨h2, h3, h4⟩ hall
    have hm' : m < l.toArray.size := (Array.getElem?_eq_some_iff.1 hmo).1
    have hs' : s < l.toArray.size := (Array.getElem?_eq_some_iff.1 hs).1
    obtain ⟨h5, h6⟩ := h4 (hall m hm')
    rw [if_pos (hall s hs')] at h6
    exact hend g w' h2 h5 h6

/-- One store, into block number k of those that are known. -/
theorem put1 {id : Nat} {Q : Exit → Act → World → Prop} {a0 : Act} {w w0 : World} {l : List Oper} {F0 : List (Nat × Obj)} (S : St w0 F0 w) (s : Nat) (os : Oper) (ty : TypeId) (x y : Operand) (k g i : Nat) (cs new : Array Value) (t : TypeId) (hm : P.follows .mixedOrders = true) (hB : okB l.toArray [s] = true) (hp : pures l.toArray [s] = cutOut l [s])
    (hs : l.toArray[s]? = some os) (hos : os.op = .store ty x y ∧ os.dst = none ∧ os.guard = none)
    (hk : F0[k]? = some (g, .cells cs t (0, 0))) (hg0 : w0.heap.size ≤ g) (hne : ∀ (j : Nat), j ≠ k → ∀ (g' : Nat) (o' : Obj), F0[j]? = some (g', o') → g' ≠ g)
    (hle : i + new.size ≤ cs.size) (hi : (P.info? ty).map (·.size) = some new.size) (h1 : new.all (·.oneCell') = true)
    (H : ∃ F, (∀ w', St w0 (F0.eraseIdx k) w' → wpQuiet P l.toArray (fun w'' => ∃ p : Later w', w'' = p.at_) (fun a' => a' = F) (cutOut l [s]) a0) ∧ F.eval x = .pointer (some ⟨g, i, none⟩) ∧ (F.eval y).cells = new ∧
      (∀ w', St w0 (F0.set k (g, .cells (putC cs i new.toList) t (0, 0))) w' → Q .normal F w')) : (Code.region id l.toArray true).wp P Q a0 w := by
  obtain ⟨F, hq, hx, hy, hend⟩ := H
  have hes : ∀ o, (F0.set k (g, o)).eraseIdx k = F0.eraseIdx k := by
    intro o
    clear hk hne S hq hend
    induction F0 generalizing k with
    | nil => rfl
    | cons f F0 ih => cases k with
      | zero => rfl
      | succ k => simp [ih]
  have hD : D l.toArray s = none := by unfold D; rw [hs]; exact hos.2.1
  refine plain [s] (fun L w' => if L s = true then St w0 (F0.set k (g, .cells (putC cs i new.toList) t (0, 0))) w' else St w0 F0 w') hm hB hp (by simp only [List.all_cons, List.all_nil, hD]; rfl) ?_ ?_ ?_ ⟨F, ?_, ?_, ?_⟩
  · rw [if_neg (by simp)]; exact S.drew
  · intro L w' w'' hC hb
    split at hC
    · rename_i h; rw [if_pos h]; exact hC.call hb
    · rename_i h; rw [if_neg h]; exact hC.call hb
  · intro L j w' hj hn hC
    rw [upd_ne (fun e => hn (by simp [e]))]
    exact hC
  · intro L w' hC
    refine hq w' ?_
    split at hC
    · rw [← hes]; exact hC.erase k
    · exact hC.erase k
  · intro j hj L w' hC hw hL
    obtain rfl : j = s := by simpa using hj
    rw [if_neg (by rw [hL]; decide)] at hC
    refine ⟨os, hs, ?_⟩
    refine wpList_store_blk hos.2.2 ty x y hos.1 g i new cs t hx hy (hC.get k hk) hle hi h1 ?_
    intro w1 hb hg hz
    rw [hos.2.1]
    refine ⟨rfl, ?_⟩
    rw [upd_same, if_pos rfl]
    exact hC.set_ k hg hb hg0 hne
  · intro L w' hC hall
    rw [if_pos (hall s (Array.getElem?_eq_some_iff.1 hs).1)] at hC
    exact hend w' hC
end
end Rg
end Go.Proofs.Ytcgcognejjpcmaa
