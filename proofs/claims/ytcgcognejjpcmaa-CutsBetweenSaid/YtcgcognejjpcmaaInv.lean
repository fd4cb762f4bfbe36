/- A region that draws its order, by an invariant: each operation is walked ONCE, whatever has been listed before it. -/
import Derived.Test.YtcgcognejjpcmaaBase
import Derived.StillTail
namespace Go.Proofs.Ytcgcognejjpcmaa
open Go.RowKit
set_option linter.unusedVariables false

section
variable {P : Program} {ops : Array Oper} {md : Region.Mode} {Q : Exit → Act → World → Prop}

/-- The post Q, but K at the normal end. -/
def onN (K : Act → World → Prop) (Q : Exit → Act → World → Prop) : Exit → Act → World → Prop
  | .normal, a, w => K a w
  | e, a, w => Q e a w
theorem wp_onN {o : Oper} {a : Act} {w : World} {K K' : Act → World → Prop} (h : o.wp P a w K' (onN K Q)) : o.wp P a w K' Q := by
  unfold Oper.wp at *
  generalize (execOp a.eval o).run P w = r at *
  cases r with
  | ok n w' =>
    cases n <;> simp only [Oper.upon] at h ⊢ <;>
      first
        | exact h
        | exact Calls.mono h (fun e w'' he => by cases e <;> exact he)
  | halt x w' => cases x <;> simp only [Oper.upon] at h ⊢ <;> exact h
theorem wpOp_of_list {i : Nat} {o : Oper} {a : Act} {w : World} {K : Act → World → Prop} (ho : ops[i]? = some o) (h : wpList P ops (onN K Q) [o] a w) : wpOp P ops Q i K a w := by
  unfold wpOp
  simp only [ho]
  unfold wpList at h
  split at h
  · rename_i hw
    rw [if_pos hw]
    rcases h with h | ⟨h1, h2⟩
    · exact .inl (wp_onN (K := K) (Oper.wp_mono (fun _ _ h => h) h))
    · exact .inr ⟨h1, h2⟩
  · rename_i hw
    rw [if_neg hw]
    exact h

/-- All edges point back in the text. -/
def backB (md : Region.Mode) (ops : Array Oper) : Bool := (List.range ops.size).all fun i => ((ops[i]?).map (·.after.all fun e => !Region.binds md e || decide (e.on < i))).getD true
theorem all_listed (hb : backB md ops = true) {listed : Array Bool} (hs : listed.size = ops.size) (hr : Region.ready md ops listed = []) : ∀ i, i < ops.size → listed.getD i true = true := by
  intro i
  induction i using Nat.strongRecOn with
  | _ i ih =>
    intro hi
    cases hl : listed.getD i true with
    | true => rfl
    | false =>
      exfalso
      obtain ⟨o, ho⟩ : ∃ o, ops[i]? = some o := ⟨_, Array.getElem?_eq_getElem hi⟩
      have : i ∈ Region.ready md ops listed := mem_ready.2 ⟨hl, o, ho, fun e he hbe => by
        have h1 := List.all_eq_true.1 hb i (List.mem_range.2 hi)
        rw [ho] at h1
        simp only [Option.map_some, Option.getD_some] at h1
        have h2 := Array.all_eq_true_iff_forall_mem.1 h1 e he
        rw [hbe] at h2
        have h3 : e.on < i := by simpa using h2
        have h4 := ih e.on h3 (by omega)
        have h5 : e.on < listed.size := by omega
        simpa [Array.getD, h5] using h4⟩
      rw [hr] at this
      cases this

/-- How many are not yet listed. -/
def unl (listed : Array Bool) : Nat := listed.toList.countP (fun b => !b)
theorem unl_set {listed : Array Bool} {i : Nat} (h : listed.getD i true = false) : unl (listed.setIfInBounds i true) + 1 = unl listed := by
  have hi : i < listed.size := by
    rcases Nat.lt_or_ge i listed.size with h1 | h1
    · exact h1
    · simp [Array.getD, Nat.not_lt.2 h1] at h
  have hv : listed.toList[i]'(by simpa using hi) = false := by simpa [Array.getD, hi] using h
  unfold unl
  rw [Array.toList_setIfInBounds]
  have key : ∀ (l : List Bool) (i : Nat) (hi : i < l.length), l[i] = false → (l.set i true).countP (fun b => !b) + 1 = l.countP (fun b => !b) := by
    intro l
    induction l with
    | nil => intro i hi; simp at hi
    | cons b l ih =>
      intro i hi hb
      cases i with
      | zero => simp at hb; subst hb; simp
      | succ i =>
        have := ih i (by simpa using hi) (by simpa using hb)
        simp only [List.set_cons_succ, List.countP_cons]
        omega
  exact key _ _ (by simpa using hi) hv
theorem wpAny_inv {J : Array Bool → Act → World → Prop} (hb : backB md ops = true) (hsz : ∀ listed a w, J listed a w → listed.size = ops.size)
    (hstep : ∀ listed a w i o, J listed a w → ops[i]? = some o → listed.getD i true = false → (∀ e ∈ o.after, Region.binds md e = true → listed.getD e.on true = true) → wpList P ops (onN (J (listed.setIfInBounds i true)) Q) [o] a w)
    (hend : ∀ listed a w, J listed a w → (∀ i, i < ops.size → listed.getD i true = true) → Q .normal a w) :
    ∀ (f : Nat) (listed : Array Bool) (a : Act) (w : World), unl listed ≤ f → J listed a w → wpAny P md ops Q f listed a w
  | 0, listed, a, w, hu, hJ => by
    have hr : Region.ready md ops listed = [] := by
      rw [List.eq_nil_iff_forall_not_mem]
      intro i hi
      have := unl_set (mem_ready.1 hi).1
      omega
    exact ⟨hr, hend _ _ _ hJ (all_listed hb (hsz _ _ _ hJ) hr)⟩
  | f + 1, listed, a, w, hu, hJ => by
    refine ⟨fun hr => hend _ _ _ hJ (all_listed hb (hsz _ _ _ hJ) hr), fun i hi => ?_⟩
    obtain ⟨hl, o, ho, hd⟩ := mem_ready.1 hi
    have h1 := unl_set hl
    refine wpOp_mono (fun a' w' h => wpAny_inv hb hsz hstep hend f _ a' w' (by omega) h) (wpOp_of_list ho (hstep listed a w i o hJ ho hl (fun e he hbe => ?_)))
    have h2 := hd e he hbe
    have h3 : e.on < listed.size := by
      rcases Nat.lt_or_ge e.on listed.size with h3 | h3
      · exact h3
      · simp [Array.getD, Nat.not_lt.2 h3] at h2
    simpa [Array.getD, h3] using h2
/-- The rule: a region that draws its order, by an invariant. -/
theorem wp_region_inv {id : Nat} {a : Act} {w : World} {l : List Oper} (J : Array Bool → Act → World → Prop) (hm : P.follows .mixedOrders = true) (hb : backB .any l.toArray = true)
    (h0 : J (Array.replicate l.toArray.size false) a { w with drawn := w.drawn + 1 }) (hsz : ∀ listed a w, J listed a w → listed.size = l.toArray.size)
    (hstep : ∀ listed a w i o, J listed a w → l.toArray[i]? = some o → listed.getD i true = false → (∀ e ∈ o.after, Region.binds .any e = true → listed.getD e.on true = true) → wpList P l.toArray (onN (J (listed.setIfInBounds i true)) Q) [o] a w)
    (hend : ∀ listed a w, J listed a w → (∀ i, i < l.toArray.size → listed.getD i true = true) → Q .normal a w) : (Code.region id l.toArray true).wp P Q a w :=
  wp_region_any hm (wpAny_inv hb hsz hstep hend _ _ _ _ (by unfold unl; exact Nat.le_trans List.countP_le_length (by simp)) h0)
end
end Go.Proofs.Ytcgcognejjpcmaa
