/- A region that draws its order and makes two blocks and fills them; and one that writes into two blocks that are known. -/
import Derived.Test.YtcgcognejjpcmaaMid
namespace Go.Proofs.Ytcgcognejjpcmaa
open Go.RowKit Go.Proofs.YtcgcognejjpcmaaW.PrintWords
set_option linter.unusedVariables false

namespace Rg
section
variable {P : Program}

theorem quiet_size {ops : Array Oper} {C : World → Prop} {F : Act} : ∀ (l' : List Oper) (b : Act), wpQuiet P ops C (fun a' => a' = F) l' b → F.tmps.size = b.tmps.size := by
  intro l'
  induction l' with
  | nil => intro b hb; have : b = F := hb; rw [this]
  | cons p l' ih =>
    intro b hb
    have : ∃ u, wpQuiet P ops C (fun a' => a' = F) l' (b.put p.dst u) := by
      simp only [wpQuiet] at hb
      by_cases hw : Region.wanted p (yielded ops b.tmps) = true
      · rw [if_pos hw] at hb
        obtain ⟨v, h1, h2⟩ := hb
        exact ⟨v, h2⟩
      · rw [if_neg hw] at hb
        exact ⟨undef, hb⟩
    obtain ⟨u, hu⟩ := this
    rw [ih _ hu]
    cases p.dst <;> simp [Act.put]

/-- One block that is made and filled: the operations' numbers, the slot, the type, the cells. -/
structure Mk where
  s : Nat
  m : Nat
  t : Nat
  ty : TypeId
  Z : Array Value
  new : Array Value
  y : Operand
/-- What is asked of it. -/
structure MkOk (P : Program) (l : List Oper) (a0 : Act) (k : Mk) : Prop where
  store : ∃ os, l.toArray[k.s]? = some os ∧ os.op = .store k.ty (.tmp k.t) k.y ∧ os.dst = none ∧ os.guard = none
  alloc : ∃ om, l.toArray[k.m]? = some om ∧ om.op = .alloc k.ty ∧ om.dst = some k.t ∧ om.guard = none
  waits : ((masks l.toArray l.toArray.size).getD k.s 0).testBit k.m = true
  slot : k.t < a0.tmps.size
  zero : ∀ om, om.op = .alloc k.ty → ∀ (a : Act) (w : World), (execOp a.eval om).run P w = .ok (.value (.pointer (some ⟨w.heap.size, 0, none⟩))) (w.alloc (.cells k.Z k.ty))
  size : k.Z.size = k.new.size
  info : (P.info? k.ty).map (·.size) = some k.new.size
  one : k.new.all (·.oneCell') = true
theorem mk_ok {l : List Oper} {a0 : Act} {k : Mk} {os om : Oper} (h1 : l.toArray[k.s]? = some os) (h2 : os.op = .store k.ty (.tmp k.t) k.y ∧ os.dst = none ∧ os.guard = none) (h3 : l.toArray[k.m]? = some om) (h4 : om.op = .alloc k.ty ∧ om.dst = some k.t ∧ om.guard = none)
    (h5 : ((masks l.toArray l.toArray.size).getD k.s 0).testBit k.m = true) (h6 : k.t < a0.tmps.size) (h7 : ∀ w : World, (execOp a0.eval om).run P w = .ok (.value (.pointer (some ⟨w.heap.size, 0, none⟩))) (w.alloc (.cells k.Z k.ty))) (h8 : k.Z.size = k.new.size) (h9 : (P.info? k.ty).map (·.size) = some k.new.size) (h10 : k.new.all (·.oneCell') = true) : MkOk P l a0 k :=
  ⟨⟨os, h1, h2⟩, ⟨om, h3, h4⟩, h5, h6, fun o ho a w => by
    have e : (execOp a.eval o).run P w = (execOp a0.eval om).run P w := by unfold execOp; rw [ho, h4.1]
    rw [e, h7], h8, h9, h10⟩

/-- Two blocks are made and filled. -/
theorem made2 {id : Nat} {Q : Exit → Act → World → Prop} {a0 : Act} {w : World} {l : List Oper} (k1 k2 : Mk) (hm : P.follows .mixedOrders = true) (hB : okB l.toArray [k1.s, k2.s, k1.m, k2.m] = true) (hp : pures l.toArray [k1.s, k2.s, k1.m, k2.m] = cutOut l [k1.s, k2.s, k1.m, k2.m])
    (h1 : MkOk P l a0 k1) (h2 : MkOk P l a0 k2) (hd : (k1.s ≠ k2.s ∧ k1.s ≠ k1.m ∧ k1.s ≠ k2.m) ∧ (k2.s ≠ k1.m ∧ k2.s ≠ k2.m) ∧ k1.m ≠ k2.m ∧ k1.t ≠ k2.t) (hy : k1.y ≠ .tmp k1.t ∧ k1.y ≠ .tmp k2.t ∧ k2.y ≠ .tmp k1.t ∧ k2.y ≠ .tmp k2.t)
    (H : ∃ F, (∀ w', Below w.heap.size w w' → wpQuiet P l.toArray (fun w'' => ∃ p : Later w', w'' = p.at_) (fun a' => a' = F) (cutOut l [k1.s, k2.s, k1.m, k2.m]) a0) ∧ (F.eval k1.y).cells = k1.new ∧ (F.eval k2.y).cells = k2.new ∧
      (∀ g1 g2 w', Below w.heap.size w w' → w.heap.size ≤ g1 → w.heap.size ≤ g2 → g1 ≠ g2 → w'.heap[g1]? = some (.cells k1.new k1.ty (0, 0)) → w'.heap[g2]? = some (.cells k2.new k2.ty (0, 0)) →
        Q .normal ((F.put (some k1.t) (.pointer (some ⟨g1, 0, none⟩))).put (some k2.t) (.pointer (some ⟨g2, 0, none⟩))) w')) : (Code.region id l.toArray true).wp P Q a0 w := by
  obtain ⟨F, hq, hy1, hy2, hend⟩ := H
  obtain ⟨⟨d1, d2, d3⟩, ⟨d4, d5⟩, d6, d7⟩ := hd
  obtain ⟨os1, hs1, ho1⟩ := h1.store
  obtain ⟨os2, hs2, ho2⟩ := h2.store
  obtain ⟨om1, hm1, hn1⟩ := h1.alloc
  obtain ⟨om2, hm2, hn2⟩ := h2.alloc
  have hDs1 : D l.toArray k1.s = none := by unfold D; rw [hs1]; exact ho1.2.1
  have hDs2 : D l.toArray k2.s = none := by unfold D; rw [hs2]; exact ho2.2.1
  have hDm1 : D l.toArray k1.m = some k1.t := by unfold D; rw [hm1]; exact hn1.2.1
  have hDm2 : D l.toArray k2.m = some k2.t := by unfold D; rw [hm2]; exact hn2.2.1
  have hFs : F.tmps.size = a0.tmps.size := quiet_size _ _ (hq w (Below.refl _ _))
  let Φ : Nat × Nat → Act := fun γ => (F.put (some k1.t) (.pointer (some ⟨γ.1, 0, none⟩))).put (some k2.t) (.pointer (some ⟨γ.2, 0, none⟩))
  have hp1 : ∀ γ g, (Φ γ).put (some k1.t) (.pointer (some ⟨g, 0, none⟩)) = Φ (g, γ.2) := by
    intro γ g
    simp only [Φ, Act.put]
    congr 1
    rw [Array.setIfInBounds_comm _ _ d7.symm, Array.setIfInBounds_setIfInBounds, Array.setIfInBounds_comm _ _ d7]
  have hp2 : ∀ γ g, (Φ γ).put (some k2.t) (.pointer (some ⟨g, 0, none⟩)) = Φ (γ.1, g) := by
    intro γ g
    simp only [Φ, Act.put]
    congr 1
    rw [Array.setIfInBounds_setIfInBounds]
  have ht1 : ∀ γ, (Φ γ).eval (.tmp k1.t) = .pointer (some ⟨γ.1, 0, none⟩) := by
    intro γ
    have := h1.slot
    simp [Φ, Act.eval, Act.put, hFs, this, d7.symm]
  have ht2 : ∀ γ, (Φ γ).eval (.tmp k2.t) = .pointer (some ⟨γ.2, 0, none⟩) := by
    intro γ
    have := h2.slot
    simp [Φ, Act.eval, Act.put, hFs, this]
  have hev : ∀ γ y, y ≠ .tmp k1.t → y ≠ .tmp k2.t → (Φ γ).eval y = F.eval y := by
    intro γ y h3 h4
    show ((F.put (some k1.t) _).put (some k2.t) _).eval y = _
    rw [Act.eval_put (by intro d hd; injection hd with hd; subst hd; exact h4), Act.eval_put (by intro d hd; injection hd with hd; subst hd; exact h3)]
  have hsl1 : ∀ γ g t, t ≠ k1.t → (Φ (g, γ.2)).tmps[t]? = (Φ γ).tmps[t]? := by
    intro γ g t ht
    rw [← hp1 γ g]
    simp [Act.put, Array.getElem?_setIfInBounds_ne (Ne.symm ht)]
  have hsl2 : ∀ γ g t, t ≠ k2.t → (Φ (γ.1, g)).tmps[t]? = (Φ γ).tmps[t]? := by
    intro γ g t ht
    rw [← hp2 γ g]
    simp [Act.put, Array.getElem?_setIfInBounds_ne (Ne.symm ht)]
  refine rule (F := F) (Γ := Nat × Nat) [k1.s, k2.s, k1.m, k2.m] (fun γ L w' => Below w.heap.size w w' ∧ ((L k1.s = true → L k1.m = true) ∧ (L k2.s = true → L k2.m = true)) ∧ (L k1.m = true → w.heap.size ≤ γ.1 ∧ w'.heap[γ.1]? = some (.cells (if L k1.s = true then k1.new else k1.Z) k1.ty (0, 0))) ∧ (L k2.m = true → w.heap.size ≤ γ.2 ∧ w'.heap[γ.2]? = some (.cells (if L k2.s = true then k2.new else k2.Z) k2.ty (0, 0))) ∧ (L k1.m = true → L k2.m = true → γ.1 ≠ γ.2)) Φ hm hB ?_ ?_ ?_ ?_ ?_ ?_ ?_
  · intro γ
    exact ((Alike.refl _ F).put (fun t' ht' => ⟨k1.m, by simp, by rw [hDm1]; exact ht'⟩) _).put (fun t' ht' => ⟨k2.m, by simp, by rw [hDm2]; exact ht'⟩) _
  · exact ⟨(0, 0), below_drew (Below.refl _ _), by simp, by simp, by simp, by simp⟩
  · rintro γ L w' w'' ⟨c1, c2, c3, c4, c5⟩ hb
    exact ⟨below_then c1 c1.size hb, c2, fun hL => ⟨(c3 hL).1, (hb.block _ (blk_lt (c3 hL).2)).trans (c3 hL).2⟩, fun hL => ⟨(c4 hL).1, (hb.block _ (blk_lt (c4 hL).2)).trans (c4 hL).2⟩, c5⟩
  · rintro γ L i w' hi hni hC
    simp only [List.mem_cons, List.not_mem_nil, or_false, not_or] at hni
    rw [upd_ne (fun e => hni.1 e.symm), upd_ne (fun e => hni.2.1 e.symm), upd_ne (fun e => hni.2.2.1 e.symm), upd_ne (fun e => hni.2.2.2 e.symm)]
    exact hC
  · rintro γ L w' ⟨c1, -⟩
    rw [hp]
    exact hq w' c1
  · rintro i hi' γ L w' ⟨c1, c2, c3, c4, c5⟩ hw hL
    simp only [List.mem_cons, List.not_mem_nil, or_false] at hi'
    rcases hi' with rfl | rfl | rfl | rfl
    · refine ⟨os1, hs1, ?_⟩
      have hLm : L k1.m = true := hw k1.m (masks_waits _ _ _ h1.waits)
      obtain ⟨h5, h6⟩ := c3 hLm
      rw [if_neg (by rw [hL]; decide)] at h6
      refine wpList_store_blk ho1.2.2 k1.ty _ k1.y ho1.1 γ.1 0 k1.new k1.Z k1.ty (ht1 γ) (by rw [hev γ _ hy.1 hy.2.1]; exact hy1) h6 (by have := h1.size; omega) h1.info h1.one ?_
      intro w1 hb hg hsz
      rw [ho1.2.1]
      have hbl : ∀ (g : Nat) (o : Obj), w'.heap[g]? = some o → g ≠ γ.1 → w1.heap[g]? = some o := fun g o h hne => (hg.block g (blk_lt h) (by intro e; injection e with e; exact hne e)).trans h
      refine ⟨γ, rfl, ⟨c1.trans (below_grown hg c1.size h5), ⟨fun _ => by rw [upd_ne (Ne.symm d2)]; exact hLm, fun hh => ?_⟩, fun _ => ⟨h5, ?_⟩, fun hh => ?_, fun a b => ?_⟩, fun _ _ => rfl⟩
      · rw [upd_ne (Ne.symm d1)] at hh; rw [upd_ne (Ne.symm d3)]; exact c2.2 hh
      · rw [upd_same, if_pos rfl, hb, putC_all h1.size]
      · rw [upd_ne (Ne.symm d3)] at hh
        rw [upd_ne (Ne.symm d1)]
        exact ⟨(c4 hh).1, hbl _ _ (c4 hh).2 (fun e => c5 hLm hh e.symm)⟩
      · rw [upd_ne (Ne.symm d3)] at b
        exact c5 hLm b
    · refine ⟨os2, hs2, ?_⟩
      have hLm : L k2.m = true := hw k2.m (masks_waits _ _ _ h2.waits)
      obtain ⟨h5, h6⟩ := c4 hLm
      rw [if_neg (by rw [hL]; decide)] at h6
      refine wpList_store_blk ho2.2.2 k2.ty _ k2.y ho2.1 γ.2 0 k2.new k2.Z k2.ty (ht2 γ) (by rw [hev γ _ hy.2.2.1 hy.2.2.2]; exact hy2) h6 (by have := h2.size; omega) h2.info h2.one ?_
      intro w1 hb hg hsz
      rw [ho2.2.1]
      have hbl : ∀ (g : Nat) (o : Obj), w'.heap[g]? = some o → g ≠ γ.2 → w1.heap[g]? = some o := fun g o h hne => (hg.block g (blk_lt h) (by intro e; injection e with e; exact hne e)).trans h
      refine ⟨γ, rfl, ⟨c1.trans (below_grown hg c1.size h5), ⟨fun hh => ?_, fun _ => by rw [upd_ne (Ne.symm d5)]; exact hLm⟩, fun hh => ?_, fun _ => ⟨h5, ?_⟩, fun a b => ?_⟩, fun _ _ => rfl⟩
      · rw [upd_ne d1] at hh; rw [upd_ne (Ne.symm d4)]; exact c2.1 hh
      · rw [upd_ne (Ne.symm d4)] at hh
        rw [upd_ne d1]
        exact ⟨(c3 hh).1, hbl _ _ (c3 hh).2 (fun e => c5 hh hLm e)⟩
      · rw [upd_same, if_pos rfl, hb, putC_all h2.size]
      · rw [upd_ne (Ne.symm d4)] at a
        exact c5 a hLm
    · refine ⟨om1, hm1, ?_⟩
      have hLs : L k1.s = false := by
        cases h : L k1.s with
        | false => rfl
        | true => rw [c2.1 h] at hL; cases hL
      unfold wpList
      rw [if_pos (by simp [Region.wanted, hn1.2.2])]
      refine .inl ?_
      unfold Oper.wp
      rw [h1.zero om1 hn1.1 _ w']
      simp only [Oper.upon, hn1.2.1, hp1]
      have hbl : ∀ (g : Nat) (o : Obj), w'.heap[g]? = some o → (w'.alloc (.cells k1.Z k1.ty)).heap[g]? = some o := fun g o h => (Below.heap_alloc _ _ _ (blk_lt h)).trans h
      refine ⟨(w'.heap.size, γ.2), rfl, ⟨c1.alloc c1.size _, ⟨fun _ => upd_same, fun hh => ?_⟩, fun _ => ⟨c1.size, ?_⟩, fun hh => ?_, fun _ b => ?_⟩, fun t' ht' => ?_⟩
      · rw [upd_ne d4] at hh; rw [upd_ne (Ne.symm d6)]; exact c2.2 hh
      · rw [upd_ne d2, hLs, if_neg (by decide)]; exact heap_alloc_new _ _
      · rw [upd_ne (Ne.symm d6)] at hh
        rw [upd_ne d4]
        exact ⟨(c4 hh).1, hbl _ _ (c4 hh).2⟩
      · rw [upd_ne (Ne.symm d6)] at b
        have := blk_lt (c4 b).2
        intro e
        simp only at e
        omega
      · rw [hDm1] at ht'
        exact hsl1 γ _ t' (fun e => ht' (by rw [e]))
    · refine ⟨om2, hm2, ?_⟩
      have hLs : L k2.s = false := by
        cases h : L k2.s with
        | false => rfl
        | true => rw [c2.2 h] at hL; cases hL
      unfold wpList
      rw [if_pos (by simp [Region.wanted, hn2.2.2])]
      refine .inl ?_
      unfold Oper.wp
      rw [h2.zero om2 hn2.1 _ w']
      simp only [Oper.upon, hn2.2.1, hp2]
      have hbl : ∀ (g : Nat) (o : Obj), w'.heap[g]? = some o → (w'.alloc (.cells k2.Z k2.ty)).heap[g]? = some o := fun g o h => (Below.heap_alloc _ _ _ (blk_lt h)).trans h
      refine ⟨(γ.1, w'.heap.size), rfl, ⟨c1.alloc c1.size _, ⟨fun hh => ?_, fun _ => upd_same⟩, fun hh => ?_, fun _ => ⟨c1.size, ?_⟩, fun a _ => ?_⟩, fun t' ht' => ?_⟩
      · rw [upd_ne d3] at hh; rw [upd_ne d6]; exact c2.1 hh
      · rw [upd_ne d6] at hh
        rw [upd_ne d3]
        exact ⟨(c3 hh).1, hbl _ _ (c3 hh).2⟩
      · rw [upd_ne d5, hLs, if_neg (by decide)]; exact heap_alloc_new _ _
      · rw [upd_ne d6] at a
        have := blk_lt (c3 a).2
        intro e
        simp only at e
        omega
      · rw [hDm2] at ht'
        exact hsl2 γ _ t' (fun e => ht' (by rw [e]))
  · rintro γ L w' ⟨c1, c2, c3, c4, c5⟩ hall
    have l1 := hall k1.m (Array.getElem?_eq_some_iff.1 hm1).1
    have l2 := hall k2.m (Array.getElem?_eq_some_iff.1 hm2).1
    have l3 := hall k1.s (Array.getElem?_eq_some_iff.1 hs1).1
    have l4 := hall k2.s (Array.getElem?_eq_some_iff.1 hs2).1
    obtain ⟨e1, e2⟩ := c3 l1
    obtain ⟨e3, e4⟩ := c4 l2
    rw [if_pos l3] at e2
    rw [if_pos l4] at e4
    exact hend γ.1 γ.2 w' c1 e1 e3 (c5 l1 l2) e2 e4

/-- One store into a block that is known: the operation, its operands, the block's number in the list. -/
structure Pt where
  s : Nat
  ty : TypeId
  x : Operand
  y : Operand
  k : Nat
  g : Nat
  i : Nat
  cs : Array Value
  new : Array Value
  t : TypeId
def Pt.obj (p : Pt) : Obj := .cells (putC p.cs p.i p.new.toList) p.t (0, 0)
/-- Two stores, into blocks number k1 < k2 of those that are known; the reading part sees the others (their cells as they were are not to be read). -/
theorem put2 {id : Nat} {Q : Exit → Act → World → Prop} {a0 : Act} {w w0 : World} {l : List Oper} {F0 : List (Nat × Obj)} (S : St w0 F0 w) (p1 p2 : Pt) (hm : P.follows .mixedOrders = true) (hB : okB l.toArray [p2.s, p1.s] = true) (hp : pures l.toArray [p2.s, p1.s] = cutOut l [p2.s, p1.s])
    (hs1 : ∃ os, l.toArray[p1.s]? = some os ∧ os.op = .store p1.ty p1.x p1.y ∧ os.dst = none ∧ os.guard = none)
    (hs2 : ∃ os, l.toArray[p2.s]? = some os ∧ os.op = .store p2.ty p2.x p2.y ∧ os.dst = none ∧ os.guard = none) (hs : p1.s ≠ p2.s)
    (hk1 : F0[p1.k]? = some (p1.g, .cells p1.cs p1.t (0, 0))) (hk2 : F0[p2.k]? = some (p2.g, .cells p2.cs p2.t (0, 0))) (hkk : p1.k ≠ p2.k) (hg1 : w0.heap.size ≤ p1.g) (hg2 : w0.heap.size ≤ p2.g)
    (hne1 : ∀ (j : Nat), j ≠ p1.k → ∀ (g' : Nat) (o' : Obj), F0[j]? = some (g', o') → g' ≠ p1.g) (hne2 : ∀ (j : Nat), j ≠ p2.k → ∀ (g' : Nat) (o' : Obj), F0[j]? = some (g', o') → g' ≠ p2.g)
    (hle1 : p1.i + p1.new.size ≤ p1.cs.size) (hi1 : (P.info? p1.ty).map (·.size) = some p1.new.size) (ho1 : p1.new.all (·.oneCell') = true)
    (hle2 : p2.i + p2.new.size ≤ p2.cs.size) (hi2 : (P.info? p2.ty).map (·.size) = some p2.new.size) (ho2 : p2.new.all (·.oneCell') = true)
    (F1 : List (Nat × Obj)) (hF1 : ∀ (j g : Nat) (o : Obj), F1[j]? = some (g, o) → ∃ j', j' ≠ p1.k ∧ j' ≠ p2.k ∧ F0[j']? = some (g, o))
    (H : ∃ F, (∀ w', St w0 F1 w' → wpQuiet P l.toArray (fun w'' => ∃ p : Later w', w'' = p.at_) (fun a' => a' = F) (cutOut l [p2.s, p1.s]) a0) ∧ (F.eval p1.x = .pointer (some ⟨p1.g, p1.i, none⟩) ∧ F.eval p2.x = .pointer (some ⟨p2.g, p2.i, none⟩)) ∧ ((F.eval p1.y).cells = p1.new ∧ (F.eval p2.y).cells = p2.new) ∧
      (∀ w', St w0 ((F0.set p1.k (p1.g, p1.obj)).set p2.k (p2.g, p2.obj)) w' → Q .normal F w')) : (Code.region id l.toArray true).wp P Q a0 w := by
  obtain ⟨F, hq, ⟨hx1, hx2⟩, ⟨hy1, hy2⟩, hend⟩ := H
  obtain ⟨os1, hs1, e1⟩ := hs1
  obtain ⟨os2, hs2, e2⟩ := hs2
  have hD1 : D l.toArray p1.s = none := by unfold D; rw [hs1]; exact e1.2.1
  have hD2 : D l.toArray p2.s = none := by unfold D; rw [hs2]; exact e2.2.1
  let G : (Nat → Bool) → List (Nat × Obj) := fun L => ((if L p1.s = true then F0.set p1.k (p1.g, p1.obj) else F0) : List (Nat × Obj)) |> fun F' => if L p2.s = true then F'.set p2.k (p2.g, p2.obj) else F'
  have hG : ∀ L j, j ≠ p1.k → j ≠ p2.k → (G L)[j]? = F0[j]? := by
    intro L j h1 h2
    simp only [G]
    repeat' split
    all_goals simp [List.getElem?_set_ne (Ne.symm h1), List.getElem?_set_ne (Ne.symm h2)]
  have hfst : ∀ (F : List (Nat × Obj)) (k g : Nat) (o : Obj), F[k]? = some (g, o) → ∀ o', (F.set k (g, o')).map Prod.fst = F.map Prod.fst := by
    intro F k g o hk o'
    apply List.ext_getElem?
    intro j
    by_cases hj : j = k
    · subst hj
      have hl : j < F.length := (List.getElem?_eq_some_iff.1 hk).1
      rw [List.getElem?_map, List.getElem?_set_self hl, List.getElem?_map, hk]; rfl
    · simp [List.getElem?_map, List.getElem?_set_ne (Ne.symm hj)]
  have hGf : ∀ L, (G L).map Prod.fst = F0.map Prod.fst := by
    intro L
    simp only [G]
    by_cases h1 : L p1.s = true
    · rw [if_pos h1]
      split
      · exact (hfst _ _ _ _ ((List.getElem?_set_ne hkk).trans hk2) _).trans (hfst _ _ _ _ hk1 _)
      · exact hfst _ _ _ _ hk1 _
    · rw [if_neg h1]
      split
      · exact hfst _ _ _ _ hk2 _
      · rfl
  have hGne : ∀ L (k g : Nat), (∀ (j : Nat), j ≠ k → ∀ (g' : Nat) (o' : Obj), F0[j]? = some (g', o') → g' ≠ g) → ∀ (j : Nat), j ≠ k → ∀ (g' : Nat) (o' : Obj), (G L)[j]? = some (g', o') → g' ≠ g := by
    intro L k g h j hj g' o' hh
    have e : (F0.map Prod.fst)[j]? = some g' := by rw [← hGf L, List.getElem?_map, hh]; rfl
    rw [List.getElem?_map] at e
    cases h0 : F0[j]? with
    | none => rw [h0] at e; cases e
    | some v =>
      rw [h0] at e
      obtain ⟨a, b⟩ := v
      simp only [Option.map_some, Option.some.injEq] at e
      subst e
      exact h j hj a b h0
  refine plain [p2.s, p1.s] (fun L w' => St w0 (G L) w') hm hB hp (by simp only [List.all_cons, List.all_nil, hD1, hD2]; rfl) ?_ ?_ ?_ ⟨F, ?_, ?_, ?_⟩
  · have : G (fun _ => false) = F0 := by simp [G]
    rw [this]; exact S.drew
  · intro L w' w'' hC hb
    exact hC.call hb
  · intro L j w' hj hn hC
    simp only [List.mem_cons, List.not_mem_nil, or_false, not_or] at hn
    have : G (upd L j) = G L := by simp only [G]; rw [upd_ne (fun e => hn.1 e.symm), upd_ne (fun e => hn.2 e.symm)]
    rw [this]; exact hC
  · intro L w' hC
    refine hq w' ⟨hC.below, fun j g o hj => ?_⟩
    obtain ⟨j', h1, h2, h3⟩ := hF1 j g o hj
    exact hC.has j' g o (by rw [hG L j' h1 h2]; exact h3)
  · intro j hj L w' hC hw hL
    simp only [List.mem_cons, List.not_mem_nil, or_false] at hj
    rcases hj with rfl | rfl
    · have hkG : (G L)[p2.k]? = some (p2.g, .cells p2.cs p2.t (0, 0)) := by
        simp only [G]
        rw [if_neg (show ¬ L p2.s = true by rw [hL]; decide)]
        split
        · rw [List.getElem?_set_ne hkk]; exact hk2
        · exact hk2
      refine ⟨os2, hs2, ?_⟩
      refine wpList_store_blk e2.2.2 p2.ty p2.x p2.y e2.1 p2.g p2.i p2.new p2.cs p2.t hx2 hy2 (hC.get p2.k hkG) hle2 hi2 ho2 ?_
      intro w1 hb hg hz
      rw [e2.2.1]
      refine ⟨rfl, ?_⟩
      have : G (upd L p2.s) = (G L).set p2.k (p2.g, p2.obj) := by
        simp only [G]
        rw [upd_same, if_pos rfl, upd_ne hs, if_neg (show ¬ L p2.s = true by rw [hL]; decide)]
      rw [this]
      exact hC.set_ p2.k hg hb hg2 (hGne L _ _ hne2)
    · have hkG : (G L)[p1.k]? = some (p1.g, .cells p1.cs p1.t (0, 0)) := by
        simp only [G]
        rw [if_neg (show ¬ L p1.s = true by rw [hL]; decide)]
        split
        · rw [List.getElem?_set_ne (Ne.symm hkk)]; exact hk1
        · exact hk1
      refine ⟨os1, hs1, ?_⟩
      refine wpList_store_blk e1.2.2 p1.ty p1.x p1.y e1.1 p1.g p1.i p1.new p1.cs p1.t hx1 hy1 (hC.get p1.k hkG) hle1 hi1 ho1 ?_
      intro w1 hb hg hz
      rw [e1.2.1]
      refine ⟨rfl, ?_⟩
      have : G (upd L p1.s) = (G L).set p1.k (p1.g, p1.obj) := by
        simp only [G]
        rw [upd_same, if_pos rfl, upd_ne (Ne.symm hs), if_neg (show ¬ L p1.s = true by rw [hL]; decide)]
        split
        · rw [List.set_comm _ _ (Ne.symm hkk)]
        · rfl
      rw [this]
      exact hC.set_ p1.k hg hb hg1 (hGne L _ _ hne1)
  · intro L w' hC hall
    have l1 := hall p1.s (Array.getElem?_eq_some_iff.1 hs1).1
    have l2 := hall p2.s (Array.getElem?_eq_some_iff.1 hs2).1
    have : G L = (F0.set p1.k (p1.g, p1.obj)).set p2.k (p2.g, p2.obj) := by simp only [G]; rw [l1, l2, if_pos rfl, if_pos rfl]
    rw [this] at hC
    exact hend w' hC
end
end Rg
/-- Two blocks are made, then both are filled. -/
theorem two_old {W : World} {o1 o2 : Obj} : ((W.alloc o1).alloc o2).heap[W.heap.size]? = some o1 := (Below.heap_alloc _ _ _ (by simp)).trans (heap_alloc_new _ _)
theorem two_new {W w1 : World} {o1 o2 : Obj} (h : ((W.alloc o1).alloc o2).grownBy w1 (some W.heap.size)) : w1.heap[W.heap.size + 1]? = some o2 := by
  have e : W.heap.size + 1 = (W.alloc o1).heap.size := by simp
  rw [e]
  exact (h.block _ (by simp) (by intro e; injection e with e; simp at e)).trans (heap_alloc_new _ _)
theorem St.made_two {w W w1 w2 : World} {F : List (Nat × Obj)} (s : St w F W) {o1 o2 b1 b2 : Obj} (hg1 : ((W.alloc o1).alloc o2).grownBy w1 (some W.heap.size)) (h1 : w1.heap[W.heap.size]? = some b1)
    (hg2 : w1.grownBy w2 (some (W.heap.size + 1))) (h2 : w2.heap[W.heap.size + 1]? = some b2) : St w (F ++ [(W.heap.size, b1), (W.heap.size + 1, b2)]) w2 := by
  have hs : W.heap.size + 2 ≤ w1.heap.size := by have := hg1.size; simp at this; omega
  have hsz := s.below.size
  have hbelow : Below w.heap.size w w2 := (((s.below.alloc hsz _).alloc (by simp; omega) _).trans (below_grown hg1 (by simp; omega) hsz)).trans (below_grown hg2 (by omega) (by omega))
  have hold : ∀ g o, W.heap[g]? = some o → w2.heap[g]? = some o := fun g o h => by
    have hl := blk_lt h
    exact (hg2.block g (by omega) (by intro e; injection e with e; omega)).trans ((hg1.block g (by simp; omega) (by intro e; injection e with e; omega)).trans ((Below.heap_alloc _ _ _ (by simp; omega)).trans ((Below.heap_alloc _ _ _ hl).trans h)))
  have S1 : St w F w2 := ⟨hbelow, fun i g o hi => hold g o (s.has i g o hi)⟩
  have e : F ++ [(W.heap.size, b1), (W.heap.size + 1, b2)] = (F ++ [(W.heap.size, b1)]) ++ [(W.heap.size + 1, b2)] := by simp
  rw [e]
  exact (S1.add ((hg2.block _ (by omega) (by intro e; injection e with e; omega)).trans h1)).add h2
end Go.Proofs.Ytcgcognejjpcmaa
