/- A region that draws its order: operations that only read (or call what only reads and lays blocks of its own) are walked once, in the order of the text; operations that write (a store, a new block) are shown one by one, in a class of worlds that tells which of them are done. One theorem serves every order. -/
import Derived.Test.YtcgcognejjpcmaaBase
import Derived.StillTail
namespace Go.Proofs.Ytcgcognejjpcmaa
open Go.RowKit
set_option linter.unusedVariables false

namespace Rg
section
variable {P : Program} {ops : Array Oper}

/-- All edges point back in the text. -/
def backB (md : Region.Mode) (ops : Array Oper) : Bool := (List.range ops.size).all fun i => ((ops[i]?).map (·.after.all fun e => !Region.binds md e || decide (e.on < i))).getD true
theorem all_listed {md : Region.Mode} (hb : backB md ops = true) {listed : Array Bool} (hs : listed.size = ops.size) (hr : Region.ready md ops listed = []) : ∀ i, i < ops.size → listed.getD i true = true := by
  intro i
  induction i using Nat.strongRecOn with
  | _ i ih =>
    intro hi
    cases hl : listed.getD i true with
    | true => rfl
    | false =>
      exfalso
      obtain ⟨o, ho⟩ : ∃ o, ops[i]? = some o := ⟨_, Array.getElem?_eq_getElem hi⟩
      have : i ∈ Region.ready md ops listed := mem_ready.2 ⟨hl, o, ho, fun e he hbe => by
        have h1 := List.all_eq_true.1 hb i (List.mem_range.2 hi)
        rw [ho] at h1
        simp only [Option.map_some, Option.getD_some] at h1
        have h2 := Array.all_eq_true_iff_forall_mem.1 h1 e he
        rw [hbe] at h2
        have h3 : e.on < i := by simpa using h2
        have h4 := ih e.on h3 (by omega)
        have h5 : e.on < listed.size := by omega
        simpa [Array.getD, h5] using h4⟩
      rw [hr] at this
      cases this

/-- How many are not yet listed. -/
def unl (listed : Array Bool) : Nat := listed.toList.countP (fun b => !b)
theorem unl_set {listed : Array Bool} {i : Nat} (h : listed.getD i true = false) : unl (listed.setIfInBounds i true) + 1 = unl listed := by
  have hi : i < listed.size := by
    rcases Nat.lt_or_ge i listed.size with h1 | h1
    · exact h1
    · simp [Array.getD, Nat.not_lt.2 h1] at h
  have hv : listed.toList[i]'(by simpa using hi) = false := by simpa [Array.getD, hi] using h
  unfold unl
  rw [Array.toList_setIfInBounds]
  have key : ∀ (l : List Bool) (i : Nat) (hi : i < l.length), l[i] = false → (l.set i true).countP (fun b => !b) + 1 = l.countP (fun b => !b) := by
    intro l
    induction l with
    | nil => intro i hi; simp at hi
    | cons b l ih =>
      intro i hi hb
      cases i with
      | zero => simp at hb; subst hb; simp
      | succ i =>
        have := ih i (by simpa using hi) (by simpa using hb)
        simp only [List.set_cons_succ, List.countP_cons]
        omega
  exact key _ _ (by simpa using hi) hv
theorem wpAny_inv' {md : Region.Mode} {Q : Exit → Act → World → Prop} {J : Array Bool → Act → World → Prop} (hb : backB md ops = true) (hsz : ∀ listed a w, J listed a w → listed.size = ops.size)
    (hstep : ∀ listed a w i o, J listed a w → ops[i]? = some o → listed.getD i true = false → (∀ e ∈ o.after, Region.binds md e = true → listed.getD e.on false = true) → wpOp P ops Q i (J (listed.setIfInBounds i true)) a w)
    (hend : ∀ listed a w, J listed a w → (∀ i, i < ops.size → listed.getD i true = true) → Q .normal a w) :
    ∀ (f : Nat) (listed : Array Bool) (a : Act) (w : World), unl listed ≤ f → J listed a w → wpAny P md ops Q f listed a w
  | 0, listed, a, w, hu, hJ => by
    have hr : Region.ready md ops listed = [] := by
      rw [List.eq_nil_iff_forall_not_mem]
      intro i hi
      have := unl_set (mem_ready.1 hi).1
      omega
    exact ⟨hr, hend _ _ _ hJ (all_listed hb (hsz _ _ _ hJ) hr)⟩
  | f + 1, listed, a, w, hu, hJ => by
    refine ⟨fun hr => hend _ _ _ hJ (all_listed hb (hsz _ _ _ hJ) hr), fun i hi => ?_⟩
    obtain ⟨hl, o, ho, hd⟩ := mem_ready.1 hi
    have h1 := unl_set hl
    exact wpOp_mono (fun a' w' h => wpAny_inv' hb hsz hstep hend f _ a' w' (by omega) h) (hstep listed a w i o hJ ho hl hd)

/-- The slot that operation j writes. -/
def D (ops : Array Oper) (j : Nat) : Option Tmp := (ops[j]?).bind (·.dst)
/-- Operation i waits for operation j, it may be through others. -/
inductive Waits (ops : Array Oper) : Nat → Nat → Prop
  | one {i j : Nat} {o : Oper} {e : Edge} (ho : ops[i]? = some o) (he : e ∈ o.after) (hb : Region.binds .any e = true) (hj : e.on = j) : Waits ops i j
  | more {i k j : Nat} {o : Oper} {e : Edge} (ho : ops[i]? = some o) (he : e ∈ o.after) (hb : Region.binds .any e = true) (hk : e.on = k) (h : Waits ops k j) : Waits ops i j
/-- For whom operation i waits, as the bits of a number. -/
def row (M : List Nat) (o : Option Oper) : Nat := match o with
  | none => 0
  | some o => o.after.toList.foldl (fun s e => if Region.binds .any e then s ||| (2 ^ e.on ||| M.getD e.on 0) else s) 0
def masks (ops : Array Oper) : Nat → List Nat
  | 0 => []
  | n + 1 => let M := masks ops n; M ++ [row M ops[n]?]
theorem masks_length (n : Nat) : (masks ops n).length = n := by
  induction n with
  | zero => rfl
  | succ n ih => simp [masks, ih]
theorem fold_bit {M : List Nat} {j : Nat} : ∀ (l : List Edge) (s : Nat), (l.foldl (fun s e => if Region.binds .any e then s ||| (2 ^ e.on ||| M.getD e.on 0) else s) s).testBit j = true →
    s.testBit j = true ∨ ∃ e ∈ l, Region.binds .any e = true ∧ (e.on = j ∨ (M.getD e.on 0).testBit j = true)
  | [], s, h => .inl h
  | e :: l, s, h => by
    rw [List.foldl_cons] at h
    rcases fold_bit l _ h with h1 | ⟨e', he, hb, hj⟩
    · by_cases hb : Region.binds .any e = true
      · rw [if_pos hb, Nat.testBit_or, Nat.testBit_or, Bool.or_eq_true, Bool.or_eq_true, Nat.testBit_two_pow] at h1
        rcases h1 with h1 | h1 | h1
        · exact .inl h1
        · exact .inr ⟨e, List.mem_cons_self, hb, .inl (by simpa using h1)⟩
        · exact .inr ⟨e, List.mem_cons_self, hb, .inr h1⟩
      · rw [if_neg hb] at h1
        exact .inl h1
    · exact .inr ⟨e', List.mem_cons_of_mem _ he, hb, hj⟩
theorem masks_waits : ∀ (n i j : Nat), ((masks ops n).getD i 0).testBit j = true → Waits ops i j
  | 0, i, j, h => by simp [masks] at h
  | n + 1, i, j, h => by
    simp only [masks] at h
    rcases Nat.lt_trichotomy i n with hi | hi | hi
    · rw [List.getD_eq_getElem?_getD, List.getElem?_append_left (by rw [masks_length]; exact hi), ← List.getD_eq_getElem?_getD] at h
      exact masks_waits n i j h
    · subst hi
      rw [List.getD_eq_getElem?_getD, List.getElem?_append_right (by rw [masks_length]; omega), masks_length, Nat.sub_self] at h
      simp only [List.getElem?_cons_zero, Option.getD_some] at h
      unfold row at h
      split at h
      · simp at h
      · rename_i o ho
        rcases fold_bit _ _ h with h1 | ⟨e, he, hb, hj⟩
        · simp at h1
        · have he' : e ∈ o.after := by simpa using he
          rcases hj with hj | hj
          · exact .one ho he' hb hj
          · exact .more ho he' hb rfl (masks_waits i e.on j hj)
    · rw [List.getD_eq_getElem?_getD, List.getElem?_eq_none (by simp [masks_length]; omega)] at h
      simp at h

/-- What must hold of a region's text. -/
def looksOk (dst : List (Option Tmp)) (M : List Nat) (eff : List Nat) (n i : Nat) (t : Tmp) : Bool :=
  (List.range n).all fun j => dst.getD j none != some t || (if eff.contains i then (M.getD i 0).testBit j else (decide (j < i) && !eff.contains j && (M.getD i 0).testBit j) || (decide (i < j) && (M.getD j 0).testBit i))
def okB (ops : Array Oper) (eff : List Nat) : Bool :=
  let n := ops.size
  let M := masks ops n
  let dst := (List.range n).map (D ops)
  Region.noSelect ops && backB .any ops && (List.range n).all (fun i => match D ops i with
    | none => true
    | some t => (List.range n).all fun j => i == j || dst.getD j none != some t) &&
  (List.range n).all fun i => match ops[i]? with
    | none => true
    | some o => (o.looksAt ops).all fun t => looksOk dst M eff n i t

structure Ok (ops : Array Oper) (eff : List Nat) : Prop where
  sel : Region.noSelect ops = true
  back : backB .any ops = true
  dist : ∀ i j t, i < ops.size → j < ops.size → D ops i = some t → D ops j = some t → i = j
  pure_ : ∀ i o t j, ops[i]? = some o → i ∉ eff → t ∈ o.looksAt ops → j < ops.size → D ops j = some t → (j < i ∧ j ∉ eff ∧ Waits ops i j) ∨ (i < j ∧ Waits ops j i)
  eff_ : ∀ i o t j, ops[i]? = some o → i ∈ eff → t ∈ o.looksAt ops → j < ops.size → D ops j = some t → Waits ops i j

theorem ok_of {eff : List Nat} (h : okB ops eff = true) : Ok ops eff := by
  simp only [okB, Bool.and_eq_true] at h
  obtain ⟨⟨⟨h1, h2⟩, h3⟩, h4⟩ := h
  have hd : ∀ j, j < ops.size → ((List.range ops.size).map (D ops)).getD j none = D ops j := fun j hj => by
    rw [List.getD_eq_getElem?_getD, List.getElem?_map, List.getElem?_range hj]; rfl
  have h5 : ∀ i o t j, ops[i]? = some o → t ∈ o.looksAt ops → j < ops.size → D ops j = some t →
      (if eff.contains i then ((masks ops ops.size).getD i 0).testBit j else (decide (j < i) && !eff.contains j && ((masks ops ops.size).getD i 0).testBit j) || (decide (i < j) && ((masks ops ops.size).getD j 0).testBit i)) = true := by
    intro i o t j hi ht hj hD
    have := List.all_eq_true.1 h4 i (List.mem_range.2 (Array.getElem?_eq_some_iff.1 hi).1)
    simp only [hi] at this
    have := List.all_eq_true.1 this t ht
    have := List.all_eq_true.1 this j (List.mem_range.2 hj)
    rw [hd j hj, hD, Bool.or_eq_true] at this
    rcases this with this | this
    · simp at this
    · exact this
  refine ⟨h1, h2, fun i j t hi hj hDi hDj => ?_, fun i o t j hi hn ht hj hD => ?_, fun i o t j hi hn ht hj hD => ?_⟩
  · have := List.all_eq_true.1 h3 i (List.mem_range.2 hi)
    simp only [hDi] at this
    have := List.all_eq_true.1 this j (List.mem_range.2 hj)
    rw [hd j hj, hDj, Bool.or_eq_true] at this
    rcases this with this | this
    · simpa using this
    · simp at this
  · have := h5 i o t j hi ht hj hD
    rw [if_neg (by simpa using hn), Bool.or_eq_true, Bool.and_eq_true, Bool.and_eq_true, Bool.and_eq_true] at this
    rcases this with ⟨⟨ha, hb⟩, hc⟩ | ⟨ha, hb⟩
    · exact .inl ⟨by simpa using ha, by simpa using hb, masks_waits _ _ _ hc⟩
    · exact .inr ⟨by simpa using ha, masks_waits _ _ _ hb⟩
  · have := h5 i o t j hi ht hj hD
    rw [if_pos (by simpa using hn)] at this
    exact masks_waits _ _ _ this

/-- Two acts that differ at most in these slots. -/
structure Alike (S : Tmp → Prop) (a b : Act) : Prop where
  defers : b.defers = a.defers
  size : b.tmps.size = a.tmps.size
  slot : ∀ t, ¬ S t → b.tmps[t]? = a.tmps[t]?
theorem Alike.refl (S : Tmp → Prop) (a : Act) : Alike S a a := ⟨rfl, rfl, fun _ _ => rfl⟩
theorem Alike.put {S : Tmp → Prop} {a b : Act} (h : Alike S a b) {o : Option Tmp} (ho : ∀ t, o = some t → S t) (v : Value) : Alike S a (b.put o v) := by
  cases o with
  | none => exact h
  | some t =>
    refine ⟨h.defers, by simpa [Act.put] using h.size, fun t' ht' => ?_⟩
    have : t ≠ t' := fun e => ht' (e ▸ ho t rfl)
    simp only [Act.put]
    rw [Array.getElem?_setIfInBounds_ne this]
    exact h.slot t' ht'
theorem Alike.mono {S T : Tmp → Prop} {a b : Act} (h : Alike S a b) (hS : ∀ t, S t → T t) : Alike T a b := ⟨h.defers, h.size, fun t ht => h.slot t fun hs => ht (hS t hs)⟩
theorem put_same {a : Act} {t : Tmp} {v : Value} (ht : t < a.tmps.size) : (a.put (some t) v).tmps[t]? = some v := by simp [Act.put, ht]

variable {C : World → Prop}
/-- What the walk shows at each of its places. -/
theorem walk_at {Q : Act → Prop} : ∀ (l1 : List Oper) (o : Oper) (l2 : List Oper) (a : Act), wpQuiet P ops C Q (l1 ++ o :: l2) a →
    ∃ a1 v a2, Alike (fun t => ∃ o' ∈ l1, o'.dst = some t) a a1 ∧ YieldsIn P ops C o v a1 ∧ Alike (fun t => ∃ o' ∈ l2, o'.dst = some t) (a1.put o.dst v) a2 ∧ Q a2
  | [], o, l2, a, h => by
    have hst : ∃ v, YieldsIn P ops C o v a ∧ wpQuiet P ops C Q l2 (a.put o.dst v) := by
      simp only [List.nil_append, wpQuiet] at h
      by_cases hw : Region.wanted o (yielded ops a.tmps) = true
      · rw [if_pos hw] at h
        obtain ⟨v, h1, h2⟩ := h
        exact ⟨v, .inl ⟨hw, h1⟩, h2⟩
      · rw [if_neg hw] at h
        exact ⟨undef, .inr ⟨by simpa using hw, rfl⟩, h⟩
    obtain ⟨v, hy, hr⟩ := hst
    suffices H : ∀ (l : List Oper) (b : Act), wpQuiet P ops C Q l b → ∃ b2, Alike (fun t => ∃ o' ∈ l, o'.dst = some t) b b2 ∧ Q b2 by
      obtain ⟨b2, h1, h2⟩ := H l2 _ hr
      exact ⟨a, v, b2, Alike.refl _ _, hy, h1, h2⟩
    intro l
    induction l with
    | nil => intro b hb; exact ⟨b, Alike.refl _ _, hb⟩
    | cons p l ih =>
      intro b hb
      have : ∃ u, wpQuiet P ops C Q l (b.put p.dst u) := by
        simp only [wpQuiet] at hb
        by_cases hw : Region.wanted p (yielded ops b.tmps) = true
        · rw [if_pos hw] at hb
          obtain ⟨v, h1, h2⟩ := hb
          exact ⟨v, h2⟩
        · rw [if_neg hw] at hb
          exact ⟨undef, hb⟩
      obtain ⟨u, hu⟩ := this
      obtain ⟨b2, hA, hQ⟩ := ih _ hu
      have hB := (Alike.refl (fun t => ∃ o' ∈ p :: l, o'.dst = some t) b).put (o := p.dst) (fun t ht => ⟨p, List.mem_cons_self, ht⟩) u
      exact ⟨b2, ⟨hA.defers.trans hB.defers, hA.size.trans hB.size, fun t ht => (hA.slot t fun ⟨o', ho, hd⟩ => ht ⟨o', List.mem_cons_of_mem _ ho, hd⟩).trans (hB.slot t ht)⟩, hQ⟩
  | p :: l1, o, l2, a, h => by
    have : ∃ u, wpQuiet P ops C Q (l1 ++ o :: l2) (a.put p.dst u) := by
      simp only [List.cons_append, wpQuiet] at h
      by_cases hw : Region.wanted p (yielded ops a.tmps) = true
      · rw [if_pos hw] at h
        obtain ⟨v, h1, h2⟩ := h
        exact ⟨v, h2⟩
      · rw [if_neg hw] at h
        exact ⟨undef, h⟩
    obtain ⟨u, hu⟩ := this
    obtain ⟨a1, v, a2, hA, hy, hA2, hQ⟩ := walk_at l1 o l2 _ hu
    have hB := (Alike.refl (fun t => ∃ o' ∈ p :: l1, o'.dst = some t) a).put (o := p.dst) (fun t ht => ⟨p, List.mem_cons_self, ht⟩) u
    exact ⟨a1, v, a2, ⟨hA.defers.trans hB.defers, hA.size.trans hB.size, fun t ht => (hA.slot t fun ⟨o', ho, hd⟩ => ht ⟨o', List.mem_cons_of_mem _ ho, hd⟩).trans (hB.slot t ht)⟩, hy, hA2, hQ⟩

/-- Operations that look at slots that agree do the same. -/
theorem eval_agree {a b : Act} {o : Oper} (h : ∀ t ∈ o.looksAt ops, a.tmps[t]? = b.tmps[t]?) (hs : ∀ cs b, o.op ≠ .select cs b) : execOp a.eval o = execOp b.eval o ∧ Region.wanted o (yielded ops a.tmps) = Region.wanted o (yielded ops b.tmps) := by
  constructor
  · refine execOp_congr o hs fun x hx => ?_
    cases x with
    | tmp t =>
      have : t ∈ o.looksAt ops := List.mem_append_left _ (List.mem_filterMap.2 ⟨.tmp t, by simpa using hx, rfl⟩)
      have h1 := h t this
      simp only [Act.eval, Array.getD_eq_getD_getElem?, h1]
    | _ => rfl
  · unfold Region.wanted
    cases hg : o.guard with
    | none => rfl
    | some gw =>
      obtain ⟨g, want⟩ := gw
      have hy : yielded ops a.tmps g = yielded ops b.tmps g := by
        unfold yielded
        cases ht : (ops[g]?).bind (·.dst) with
        | none => rfl
        | some t =>
          have : t ∈ o.looksAt ops := by simp [Oper.looksAt, hg, ht]
          simp only [Option.bind_some, h t this]
      simp only [hy]

/-- The post K at the normal end; nothing else may happen. -/
def only (K : Act → World → Prop) (Q : Exit → Act → World → Prop) : Exit → Act → World → Prop
  | .normal, a, w => K a w
  | .outgrown, a, w => Q .outgrown a w
  | _, _, _ => False
theorem wp_agree {Q : Exit → Act → World → Prop} {o : Oper} {a b : Act} {w : World} {K K' : Act → World → Prop} (he : execOp a.eval o = execOp b.eval o) (hd : a.defers = b.defers)
    (hK : ∀ c v w', (c = b.put o.dst v → K c w' → K' (a.put o.dst v) w')) (hnd : ∀ d, ∀ w', K ({ b with defers := d :: b.defers }.put o.dst undef) w' → False)
    (h : o.wp P b w K (only K Q)) : o.wp P a w K' Q := by
  unfold Oper.wp at *
  rw [he]
  generalize (execOp b.eval o).run P w = r at *
  cases r with
  | ok n w' =>
    cases n <;> simp only [Oper.upon] at h ⊢
    case value v => exact hK _ v _ rfl h
    case skip => exact hK _ undef _ rfl h
    case defer d => exact (hnd d w' h).elim
    case enter f args =>
      refine Calls.mono h fun e w'' he => ?_
      cases e with
      | returned u => exact hK _ u _ rfl he
      | panicked c => exact he.elim
      | outgrown => exact he
    case row row args => exact Rows.mono h fun u w'' he => hK _ u _ rfl he
  | halt x w' =>
    cases x <;> simp only [Oper.upon, only] at h ⊢

/-- L, with i done. -/
def upd (L : Nat → Bool) (i : Nat) : Nat → Bool := fun j => if j = i then true else L j
def of_ (listed : Array Bool) : Nat → Bool := fun i => listed.getD i false
theorem of_set {listed : Array Bool} {i : Nat} (hi : i < listed.size) : of_ (listed.setIfInBounds i true) = upd (of_ listed) i := by
  funext j
  unfold of_ upd
  by_cases h : j = i
  · subst h; simp [hi]
  · rw [if_neg h, getD_set_ne false (fun e => h e.symm)]
theorem waits_listed {listed : Array Bool} (hcl : ∀ j o, ops[j]? = some o → listed.getD j false = true → ∀ e ∈ o.after, Region.binds .any e = true → listed.getD e.on false = true) :
    ∀ {i j : Nat}, Waits ops i j → (∀ o, ops[i]? = some o → ∀ e ∈ o.after, Region.binds .any e = true → listed.getD e.on false = true) → listed.getD j false = true := by
  intro i j h
  induction h with
  | one ho he hb hj => intro h1; rw [← hj]; exact h1 _ ho _ he hb
  | more ho he hb hk h ih => intro h1; exact ih fun o ho' => hcl _ o ho' (by rw [← hk]; exact h1 _ ho _ he hb)

structure Inv (ops : Array Oper) (eff : List Nat) {Γ : Type} (C : Γ → (Nat → Bool) → World → Prop) (Φ : Γ → Act) (a0 : Act) (listed : Array Bool) (a : Act) (w : World) : Prop where
  size : listed.size = ops.size
  closed : ∀ j o, ops[j]? = some o → listed.getD j false = true → ∀ e ∈ o.after, Region.binds .any e = true → listed.getD e.on false = true
  at_ : ∃ γ, C γ (of_ listed) w ∧ a.defers = a0.defers ∧ a.tmps.size = a0.tmps.size ∧ (∀ j t, j < ops.size → D ops j = some t → listed.getD j false = true → a.tmps[t]? = (Φ γ).tmps[t]?) ∧ (∀ t, (∀ j, j < ops.size → listed.getD j false = true → D ops j ≠ some t) → a.tmps[t]? = a0.tmps[t]?)

theorem filter_split {n : Nat} {p : Nat → Bool} {i : Nat} (hi : i < n) (hp : p i = true) : ∃ l2, (List.range n).filter p = (List.range i).filter p ++ i :: l2 ∧ ∀ j ∈ l2, i < j ∧ j < n := by
  induction n with
  | zero => omega
  | succ n ih =>
    rw [List.range_succ, List.filter_append]
    rcases Nat.lt_or_ge i n with h | h
    · obtain ⟨l2, h1, h2⟩ := ih h
      rw [h1]
      refine ⟨l2 ++ List.filter p [n], by simp, fun j hj => ?_⟩
      rcases List.mem_append.1 hj with hj | hj
      · have := h2 j hj; omega
      · have := (List.mem_filter.1 hj).1
        simp at this; omega
    · obtain rfl : i = n := by omega
      exact ⟨[], by simp [hp], fun j hj => by cases hj⟩

/-- The operations that only read, in the order of the text. -/
def pures (ops : Array Oper) (eff : List Nat) : List Oper := ((List.range ops.size).filter fun i => !eff.contains i).filterMap fun i => ops[i]?

/-- THE RULE. -/
theorem rule {id : Nat} {Q : Exit → Act → World → Prop} {a0 F : Act} {w : World} {l : List Oper} {Γ : Type} (eff : List Nat) (C : Γ → (Nat → Bool) → World → Prop) (Φ : Γ → Act) (hm : P.follows .mixedOrders = true) (hB : okB l.toArray eff = true)
    (hsame : ∀ γ, Alike (fun t => ∃ i ∈ eff, D l.toArray i = some t) F (Φ γ))
    (h0 : ∃ γ, C γ (fun _ => false) { w with drawn := w.drawn + 1 })
    (hbel : ∀ γ L w' w'', C γ L w' → Below w'.heap.size w' w'' → C γ L w'')
    (hirr : ∀ γ L i w', i < l.toArray.size → i ∉ eff → C γ L w' → C γ (upd L i) w')
    (hq : ∀ γ L w', C γ L w' → wpQuiet P l.toArray (fun w'' => ∃ p : Later w', w'' = p.at_) (fun a' => a' = F) (pures l.toArray eff) a0)
    (he : ∀ i ∈ eff, ∀ γ L w', C γ L w' → (∀ j, Waits l.toArray i j → L j = true) → L i = false → ∃ o, l.toArray[i]? = some o ∧ wpList P l.toArray (only (fun a' w'' => ∃ γ', a' = Φ γ' ∧ C γ' (upd L i) w'' ∧ ∀ t, D l.toArray i ≠ some t → (Φ γ').tmps[t]? = (Φ γ).tmps[t]?) Q) [o] (Φ γ) w')
    (hend : ∀ γ L w', C γ L w' → (∀ i, i < l.toArray.size → L i = true) → Q .normal (Φ γ) w') : (Code.region id l.toArray true).wp P Q a0 w := by
  have hok := ok_of hB
  generalize hops : l.toArray = ops at *
  clear hops
  -- what the walk of the reading operations tells of F
  have hF : ∀ γ L w', C γ L w' → ∀ i o, ops[i]? = some o → i ∉ eff → ∃ a1 v, YieldsIn P ops (fun w'' => ∃ p : Later w', w'' = p.at_) o v a1 ∧
      (∀ t, (∀ j, j < i → j ∉ eff → D ops j ≠ some t) → a1.tmps[t]? = a0.tmps[t]?) ∧ (∀ j t, j < i → j ∉ eff → D ops j = some t → a1.tmps[t]? = F.tmps[t]?) ∧ (∀ t, o.dst = some t → t < a0.tmps.size → F.tmps[t]? = some v) := by
    intro γ L w' hC i o ho hn
    have hil : i < ops.size := (Array.getElem?_eq_some_iff.1 ho).1
    have H := hq γ L w' hC
    unfold pures at H
    obtain ⟨l2, hl, hl2⟩ := filter_split (p := fun i => !eff.contains i) hil (by simpa using hn)
    rw [hl, List.filterMap_append, List.filterMap_cons, ho] at H
    obtain ⟨a1, v, a2, hA, hy, hA2, rfl⟩ := walk_at _ _ _ _ H
    have hdst : D ops i = o.dst := by unfold D; rw [ho]; rfl
    refine ⟨a1, v, hy, fun t ht => hA.slot t ?_, fun j t hj hne hD => ?_, fun t ht hsz => ?_⟩
    · rintro ⟨o', ho', hd'⟩
      obtain ⟨j, hj, hj'⟩ := List.mem_filterMap.1 ho'
      have h1 := List.mem_filter.1 hj
      exact ht j (List.mem_range.1 h1.1) (by simpa using h1.2) (by unfold D; rw [hj']; exact hd')
    · have hjl : j < ops.size := by omega
      rw [hA2.slot t ?_]
      · cases hdo : o.dst with
        | none => rfl
        | some t' =>
          have : t' ≠ t := by
            rintro rfl
            have := hok.dist i j t' hil hjl (hdst.trans hdo) hD
            omega
          simp [Act.put, Array.getElem?_setIfInBounds_ne this]
      · rintro ⟨o', ho', hd'⟩
        obtain ⟨k, hk, hk'⟩ := List.mem_filterMap.1 ho'
        have h1 := hl2 k hk
        have := hok.dist k j t h1.2 hjl (by unfold D; rw [hk']; exact hd') hD
        omega
    · rw [hA2.slot t ?_, ht]
      · exact put_same (by rw [hA.size]; exact hsz)
      · rintro ⟨o', ho', hd'⟩
        obtain ⟨k, hk, hk'⟩ := List.mem_filterMap.1 ho'
        have h1 := hl2 k hk
        have := hok.dist k i t h1.2 hil (by unfold D; rw [hk']; exact hd') (hdst.trans ht)
        omega
  have hFa : ∀ γ L w', C γ L w' → Alike (fun t => ∃ j, j < ops.size ∧ j ∉ eff ∧ D ops j = some t) a0 F := by
    intro γ L w' hC
    have H := hq γ L w' hC
    have key : ∀ (l : List Oper) (b : Act), wpQuiet P ops (fun w'' => ∃ p : Later w', w'' = p.at_) (fun a' => a' = F) l b → Alike (fun t => ∃ o' ∈ l, o'.dst = some t) b F := by
      intro l
      induction l with
      | nil => intro b hb; have : b = F := hb; rw [this]; exact Alike.refl _ _
      | cons p l ih =>
        intro b hb
        obtain ⟨a1, v, a2, hA, hy, hA2, rfl⟩ := walk_at [] p l b hb
        have hB := (hA.mono (T := fun t => ∃ o' ∈ p :: l, o'.dst = some t) (fun t ⟨o', h, _⟩ => by cases h)).put (o := p.dst) (fun t ht => ⟨p, List.mem_cons_self, ht⟩) v
        exact ⟨hA2.defers.trans hB.defers, hA2.size.trans hB.size, fun t ht => (hA2.slot t fun ⟨o', ho, hd⟩ => ht ⟨o', List.mem_cons_of_mem _ ho, hd⟩).trans (hB.slot t ht)⟩
    refine (key _ _ H).mono fun t ⟨o', ho', hd'⟩ => ?_
    obtain ⟨j, hj, hj'⟩ := List.mem_filterMap.1 ho'
    have h1 := List.mem_filter.1 hj
    exact ⟨j, List.mem_range.1 h1.1, by simpa using h1.2, by unfold D; rw [hj']; exact hd'⟩
  refine wp_region_any hm ?_
  refine wpAny_inv' (J := Inv ops eff C Φ a0) hok.back (fun listed a w h => h.size) ?_ ?_ _ _ _ _ (by unfold unl; exact Nat.le_trans List.countP_le_length (by simp)) ?_
  · -- a step
    intro listed a w' i o hJ ho hun hd
    obtain ⟨hsz, hcl, γ, hC, hdef, hasz, hsl, hother⟩ := hJ
    have hil : i < ops.size := (Array.getElem?_eq_some_iff.1 ho).1
    have hdst : D ops i = o.dst := by unfold D; rw [ho]; rfl
    have hunf : listed.getD i false = false := getD_both hun
    have hw : ∀ j, Waits ops i j → listed.getD j false = true := fun j h => waits_listed hcl h fun o' ho' e hee hb => by
      have : o' = o := Option.some.inj (ho'.symm.trans ho)
      subst this
      exact hd e hee hb
    have hcl' : ∀ j o', ops[j]? = some o' → (listed.setIfInBounds i true).getD j false = true → ∀ e ∈ o'.after, Region.binds .any e = true → (listed.setIfInBounds i true).getD e.on false = true := by
      intro j o' hj hl e hee hb
      by_cases hij : i = j
      · subst hij
        have : o' = o := Option.some.inj (hj.symm.trans ho)
        subst this
        exact getD_set_true (hd e hee hb)
      · rw [getD_set_ne false hij] at hl
        exact getD_set_true (hcl j o' hj hl e hee hb)
    -- slots that a new value at i's own leaves alone
    have hnew : ∀ (b : Act) (γ' : Γ) (v : Value), b = a.put o.dst v → (∀ t, o.dst = some t → t < a0.tmps.size → (Φ γ').tmps[t]? = some v) → (∀ t, o.dst = some t → ¬ t < a0.tmps.size → (Φ γ').tmps[t]? = none) → (∀ j t, j < ops.size → D ops j = some t → listed.getD j false = true → (Φ γ').tmps[t]? = (Φ γ).tmps[t]?) →
        b.defers = a0.defers ∧ b.tmps.size = a0.tmps.size ∧ (∀ j t, j < ops.size → D ops j = some t → (listed.setIfInBounds i true).getD j false = true → b.tmps[t]? = (Φ γ').tmps[t]?) ∧ (∀ t, (∀ j, j < ops.size → (listed.setIfInBounds i true).getD j false = true → D ops j ≠ some t) → b.tmps[t]? = a0.tmps[t]?) := by
      rintro b γ' v rfl hv hv' hg
      have hA : Alike (fun t => o.dst = some t) a (a.put o.dst v) := (Alike.refl _ a).put (fun t ht => ht) v
      refine ⟨hA.defers.trans hdef, hA.size.trans hasz, fun j t hj hD hl => ?_, fun t ht => ?_⟩
      · by_cases hij : i = j
        · subst hij
          have hD' : o.dst = some t := hdst.symm.trans hD
          by_cases hlt : t < a0.tmps.size
          · rw [hD', hv t hD' hlt]
            exact put_same (by rw [hasz]; exact hlt)
          · rw [hv' t hD' hlt]
            exact Array.getElem?_eq_none (by rw [hA.size, hasz]; exact Nat.le_of_not_lt hlt)
        · rw [getD_set_ne false hij] at hl
          rw [hg j t hj hD hl, ← hsl j t hj hD hl]
          refine hA.slot t fun h => ?_
          exact hij (hok.dist i j t hil hj (hdst.trans h) hD)
      · have h1 : ∀ j, j < ops.size → listed.getD j false = true → D ops j ≠ some t := fun j hj hl => ht j hj (getD_set_true hl)
        rw [← hother t h1]
        refine hA.slot t fun h => ?_
        refine ht i hil ?_ (hdst.trans h)
        have : i < listed.size := by rw [hsz]; exact hil
        simp [this]
    by_cases hie : i ∈ eff
    · -- it writes
      obtain ⟨o', ho', H⟩ := he i hie γ (of_ listed) w' hC hw hunf
      have : o' = o := Option.some.inj (ho'.symm.trans ho)
      subst this
      have hag : ∀ t ∈ o'.looksAt ops, a.tmps[t]? = (Φ γ).tmps[t]? := by
        intro t ht
        by_cases hj : ∃ j, j < ops.size ∧ D ops j = some t
        · obtain ⟨j, hj, hD⟩ := hj
          exact hsl j t hj hD (hw j (hok.eff_ i o' t j ho hie ht hj hD))
        · have h1 : ∀ j, j < ops.size → D ops j ≠ some t := fun j hjl h => hj ⟨j, hjl, h⟩
          rw [hother t fun j hjl _ => h1 j hjl, (hsame γ).slot t (fun ⟨k, _, hk⟩ => by
            have hkl : k < ops.size := by
              rcases Nat.lt_or_ge k ops.size with h | h
              · exact h
              · unfold D at hk; rw [Array.getElem?_eq_none h] at hk; cases hk
            exact h1 k hkl hk), (hFa γ _ w' hC).slot t (fun ⟨k, hk, _, hD⟩ => h1 k hk hD)]
      obtain ⟨e1, e2⟩ := eval_agree hag (Region.noSelect_spec hok.sel i o' · · ho)
      have hdΦ : a.defers = (Φ γ).defers := by rw [hdef, (hsame γ).defers, (hFa γ _ w' hC).defers]
      have hszΦ : ∀ γ', (Φ γ').tmps.size = a0.tmps.size := fun γ' => by rw [(hsame γ').size, (hFa γ _ w' hC).size]
      have hgo : ∀ (c : Act) (v : Value) (w'' : World), c = (Φ γ).put o'.dst v → (∃ γ', c = Φ γ' ∧ C γ' (upd (of_ listed) i) w'' ∧ ∀ t, D ops i ≠ some t → (Φ γ').tmps[t]? = (Φ γ).tmps[t]?) → Inv ops eff C Φ a0 (listed.setIfInBounds i true) (a.put o'.dst v) w'' := by
        rintro c v w'' rfl ⟨γ', h1, h2, h3⟩
        refine ⟨by simpa using hsz, hcl', γ', by rw [of_set (by rw [hsz]; exact hil)]; exact h2, hnew _ γ' v rfl (fun t ht hlt => ?_) (fun t ht hlt => ?_) (fun j t hj hD hl => h3 t fun h => ?_)⟩
        · rw [← h1, ht]
          exact put_same (by rw [hszΦ]; exact hlt)
        · exact Array.getElem?_eq_none (by rw [hszΦ]; exact Nat.le_of_not_lt hlt)
        · have := hok.dist i j t hil hj h hD
          subst this
          rw [hunf] at hl
          cases hl
      unfold wpOp
      simp only [ho]
      unfold wpList at H
      rw [← e2] at H
      split at H
      · rename_i hw1
        rw [if_pos hw1]
        rcases H with H | ⟨H1, H2⟩
        · refine .inl (wp_agree e1 hdΦ (K := fun a' w'' => ∃ γ', a' = Φ γ' ∧ C γ' (upd (of_ listed) i) w'' ∧ ∀ t, D ops i ≠ some t → (Φ γ').tmps[t]? = (Φ γ).tmps[t]?) (fun c v w'' hc hK => hgo c v w'' hc hK) ?_ (Oper.wp_mono (fun _ _ h => h) H))
          rintro d w'' ⟨γ', h1, _⟩
          have h2 := congrArg Act.defers h1
          have h3 : ({ Φ γ with defers := d :: (Φ γ).defers }.put o'.dst undef).defers = d :: (Φ γ).defers := by cases o'.dst <;> rfl
          rw [h3, (hsame γ').defers, (hsame γ).defers] at h2
          have := congrArg List.length h2
          simp at this
        · refine .inr ⟨?_, ?_⟩
          · unfold Oper.asks at *
            rw [e1]
            exact H1
          · obtain ⟨b, w1, h⟩ := H2
            exact ⟨b, w1, h⟩
      · rename_i hw1
        rw [if_neg hw1]
        exact hgo _ undef _ rfl H
    · -- it reads
      obtain ⟨a1, v, hy, hA0, hAF, hv⟩ := hF γ _ w' hC i o ho hie
      have hag : ∀ t ∈ o.looksAt ops, a.tmps[t]? = a1.tmps[t]? := by
        intro t ht
        by_cases hj : ∃ j, j < ops.size ∧ D ops j = some t
        · obtain ⟨j, hj, hD⟩ := hj
          rcases hok.pure_ i o t j ho hie ht hj hD with ⟨h1, h2, h3⟩ | ⟨h1, h3⟩
          · rw [hsl j t hj hD (hw j h3), hAF j t h1 h2 hD, (hsame γ).slot t]
            rintro ⟨k, hk, hDk⟩
            have hkl : k < ops.size := by
              rcases Nat.lt_or_ge k ops.size with h | h
              · exact h
              · unfold D at hDk; rw [Array.getElem?_eq_none h] at hDk; cases hDk
            have := hok.dist k j t hkl hj hDk hD
            subst this
            exact h2 hk
          · have hjn : listed.getD j false ≠ true := fun hl => by
              have := waits_listed hcl h3 fun o' ho' e hee hb => hcl j o' ho' hl e hee hb
              rw [hunf] at this
              cases this
            rw [hother t fun k hk hl hDk => by
              have := hok.dist k j t hk hj hDk hD
              subst this
              exact hjn hl, hA0 t fun k hk hke hDk => by
              have := hok.dist k j t (by omega) hj hDk hD
              omega]
        · have h1 : ∀ j, j < ops.size → D ops j ≠ some t := fun j hjl h => hj ⟨j, hjl, h⟩
          rw [hother t fun j hjl _ => h1 j hjl, hA0 t fun k hk _ => h1 k (by omega)]
      obtain ⟨e1, e2⟩ := eval_agree hag (Region.noSelect_spec hok.sel i o · · ho)
      have hy' := hy.of_same e1 e2
      have hndst : ∀ t, o.dst = some t → ¬ ∃ k ∈ eff, D ops k = some t := fun t ht ⟨k, hk, hDk⟩ => by
        have hkl : k < ops.size := by
          rcases Nat.lt_or_ge k ops.size with h | h
          · exact h
          · unfold D at hDk; rw [Array.getElem?_eq_none h] at hDk; cases hDk
        have := hok.dist k i t hkl hil hDk (hdst.trans ht)
        subst this
        exact hie hk
      refine wpOp_of_qOp (C := fun w'' => ∃ p : Later w', w'' = p.at_) (K := fun b => b = a.put o.dst v) ⟨default, rfl⟩ ?_ (hy'.qOp ho rfl)
      rintro b w'' ⟨p, rfl⟩ hb
      refine ⟨by simpa using hsz, hcl', γ, by rw [of_set (by rw [hsz]; exact hil)]; exact hirr _ _ _ _ hil hie (hbel _ _ _ _ hC p.below), hnew _ γ v hb (fun t ht hlt => ?_) (fun t ht hlt => ?_) (fun _ _ _ _ _ => rfl)⟩
      · rw [(hsame γ).slot t (hndst t ht), hv t ht hlt]
      · exact Array.getElem?_eq_none (by rw [(hsame γ).size, (hFa γ _ w' hC).size]; exact Nat.le_of_not_lt hlt)
  · -- the end
    intro listed a w' hJ hall
    obtain ⟨hsz, hcl, γ, hC, hdef, hasz, hsl, hother⟩ := hJ
    have hall' : ∀ i, i < ops.size → listed.getD i false = true := fun i hi => by
      have h1 := hall i hi
      have : i < listed.size := by rw [hsz]; exact hi
      simpa [this] using h1
    have : a = Φ γ := by
      have h1 : a.tmps = (Φ γ).tmps := by
        apply Array.ext_getElem?
        intro t
        by_cases hj : ∃ j, j < ops.size ∧ D ops j = some t
        · obtain ⟨j, hj, hD⟩ := hj
          exact hsl j t hj hD (hall' j hj)
        · have h1 : ∀ j, j < ops.size → D ops j ≠ some t := fun j hjl h => hj ⟨j, hjl, h⟩
          rw [hother t fun j hjl _ => h1 j hjl, (hsame γ).slot t (fun ⟨k, _, hk⟩ => by
            have hkl : k < ops.size := by
              rcases Nat.lt_or_ge k ops.size with h | h
              · exact h
              · unfold D at hk; rw [Array.getElem?_eq_none h] at hk; cases hk
            exact h1 k hkl hk), (hFa γ _ w' hC).slot t (fun ⟨k, hk, _, hD⟩ => h1 k hk hD)]
      have h2 : a.defers = (Φ γ).defers := by rw [hdef, (hsame γ).defers, (hFa γ _ w' hC).defers]
      cases a
      cases hΦ : Φ γ
      rw [hΦ] at h1 h2
      simp only at h1 h2
      rw [h1, h2]
    rw [this]
    exact hend γ _ w' hC fun i hi => hall' i hi
  · -- the start
    obtain ⟨γ, hγ⟩ := h0
    refine ⟨by simp, fun j o _ hl => (by rw [getD_replicate_false] at hl; cases hl), γ, ?_, rfl, rfl, fun j t _ _ hl => (by rw [getD_replicate_false] at hl; cases hl), fun t _ => rfl⟩
    have : of_ (Array.replicate ops.size false) = fun _ => false := by funext j; unfold of_; exact getD_replicate_false _ _
    rw [this]
    exact hγ
end
end Rg
end Go.Proofs.Ytcgcognejjpcmaa
