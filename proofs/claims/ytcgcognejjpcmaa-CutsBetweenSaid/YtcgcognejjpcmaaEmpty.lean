/- Is a box empty: the program's Empty and the document's. -/
import Derived.Test.YtcgcognejjpcmaaBox
import Derived.Test.YtcgcognejjpcmaaIdx
namespace Go.Proofs.Ytcgcognejjpcmaa
open Go.RowKit Go.Proofs.YtcgcognejjpcmaaW.PrintWords
set_option linter.unusedVariables false
set_option linter.unusedSimpArgs false
attribute [local go_sem] Later.cell_eq

theorem idxF_range {α : Type} (p : α → Bool) (l : List α) : -1 ≤ idxF p l ∧ idxF p l < l.length := by
  unfold idxF
  cases h : l.findIdx? p with
  | none => simp only; omega
  | some i =>
    obtain ⟨hi, _⟩ := List.findIdx?_eq_some_iff_getElem.1 h
    simp only; omega
theorem idxF_any {α : Type} (p : α → Bool) (l : List α) : decide (0 ≤ idxF p l) = l.any p := by
  unfold idxF
  cases h : l.findIdx? p with
  | none =>
    rw [List.findIdx?_eq_none_iff] at h
    have : l.any p = false := by rw [List.any_eq_false]; intro x hx; simp [h x hx]
    rw [this]; simp
  | some i =>
    obtain ⟨hi, h1, _⟩ := List.findIdx?_eq_some_iff_getElem.1 h
    have : l.any p = true := List.any_eq_true.2 ⟨_, List.getElem_mem hi, h1⟩
    rw [this]; simp

/-- Has a range no number? -/
def noneR (r : S26) : Bool := decide (0 < cmpA r.f0 r.f1)
def emptyB (b : S29) : Bool := (List.range 6).any fun k => noneR (rg b k)
set_option maxHeartbeats 1000000 in
theorem none_any (r0 r1 r2 r3 : Int) (w : World) : Calls Try.prog 49 #[.agg #[.int .u64 r0, .int .u64 r1, .int .u64 r2, .int .u64 r3]] w fun e w' => e = .returned (.bool (noneR ⟨⟨r0, r1⟩, ⟨r2, r3⟩⟩)) ∧ Below w.heap.size w w' := by
  go_enter Try.func49, Try.ntmps49
  go_wp2_with (go_at_call 46; refine (cmpA_any _ _ _ _ _).mono ?_; rintro e w1 ⟨rfl, hb1⟩)
  go_ret
  exact ⟨rfl, later_alloc (Below.refl _ _) hb1⟩
theorem enters49 : EntersAt 49 := enters_at Try.func49 (by kernel_rfl) rfl
set_option maxHeartbeats 1000000 in
theorem containsR_any (l : List S26) (A : Option Addr) (c : Nat) (g : Nat) (p : S26 → Bool) (w : World) (eg : EntersAt g) (hC : k26.C w A l.length l)
    (hp : ∀ (x : S26) (cs : List Value) (W : World), Below w.heap.size w W → k26.K W x cs → Calls Try.prog g #[.agg cs.toArray] W fun e W' => e = .returned (.bool (p x)) ∧ Below W.heap.size W W') :
    Calls Try.prog 48 #[.slice A l.length c, .func (.func g) #[] #[]] w fun e w' => e = .returned (.bool (l.any p)) ∧ Below w.heap.size w w' := by
  have HI := Aside0.mk (fun (n : Int) (hn : n = idxF p l) => by have h := idx26 l A c g p w eg hC hp; rw [← hn] at h; exact h)
  have HA := Aside0.mk (idxF_any p l)
  generalize idxF p l = n at *
  have HJ := Aside0.mk (HI.out n rfl)
  clear HI hC hp eg
  go_enter Try.func48, Try.ntmps48
  go_wp2_with (go_at_call 72; refine (HJ.out).mono ?_; rintro e w' ⟨rfl, hb⟩)
  go_ret
  exact ⟨by rw [← HA.out]; rfl, hb⟩
/-- A box's ranges, in a row. -/
def rgs (b : S29) : List S26 := [b.f0, b.f1, b.f2, b.f3, b.f4, b.f5]
theorem rgs_any (b : S29) (p : S26 → Bool) : (rgs b).any p = (List.range 6).any fun k => p (rg b k) := by
  simp [rgs, rg, List.range, List.range.loop]
theorem rgs_C (b : S29) {W : World} {B : Nat} {t : TypeId} {z : Nat × Nat} (h : W.heap[B]? = some (.cells (bc b) t z)) : k26.C W (some ⟨B, 0, none⟩) 6 (rgs b) := by
  refine ⟨rfl, by decide, fun _ => ⟨_, rfl, fun j p hj => ?_⟩⟩
  have hjl : j < 6 := (List.getElem?_eq_some_iff.1 hj).1
  have hp : p = rg b j := by
    match j, hjl, hj with
    | 0, _, hj => exact (Option.some.inj hj).symm
    | 1, _, hj => exact (Option.some.inj hj).symm
    | 2, _, hj => exact (Option.some.inj hj).symm
    | 3, _, hj => exact (Option.some.inj hj).symm
    | 4, _, hj => exact (Option.some.inj hj).symm
    | 5, _, hj => exact (Option.some.inj hj).symm
  subst hp
  refine ⟨_, rfl, k26_mk W (rg b j), fun i u hu => ?_⟩
  have hi : i < 4 := (List.getElem?_eq_some_iff.1 hu).1
  obtain ⟨a0, a1, a2, a3⟩ := bc_at b j hjl
  have hadd : (⟨B, 0, none⟩ : Addr).add (j * 4 + i) = ⟨B, j * 4 + i, none⟩ := by unfold Addr.add; split <;> simp_all
  show W.cell? ((⟨B, 0, none⟩ : Addr).add (j * 4 + i)) = some u
  rw [hadd]
  simp only [World.cell?, h]
  match i, hi, hu with
  | 0, _, hu => cases hu; exact a0
  | 1, _, hu => cases hu; exact a1
  | 2, _, hu => cases hu; exact a2
  | 3, _, hu => cases hu; exact a3
set_option maxHeartbeats 1000000 in
theorem empty_any (b : S29) (w : World) : Calls Try.prog 21 #[.agg (bc b)] w fun e w' => e = .returned (.bool (emptyB b)) ∧ Below w.heap.size w w' := by
  have HC := Aside0.mk (fun W (h : W.heap[w.heap.size]? = some (.cells (bc b) 29 (0, 0))) => containsR_any (rgs b) (some ⟨w.heap.size, 0, none⟩) 6 49 noneR W enters49 (rgs_C b h) (fun x cs W' _ hk => by rw [k26_open hk]; exact none_any _ _ _ _ W'))
  go_enter Try.func21, Try.ntmps21
  go_wp2_with (go_at_call 48; refine (HC.out _ (heap_alloc_new _ _)).mono ?_; rintro e w1 ⟨rfl, hb1⟩)
  go_ret
  exact ⟨by unfold emptyB; rw [rgs_any]; rfl, later_alloc (Below.refl _ _) hb1⟩
end Go.Proofs.Ytcgcognejjpcmaa
