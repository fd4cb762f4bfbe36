/- May a key be a flow's: the library's Contains, the document's free. -/
import Derived.Test.YtgppfpfdoooijaaKey
namespace Go.Proofs.Ytgppfpfdoooijaa
open Go.RowKit Go.Proofs.YtgppfpfdoooijaaW.PrintWords
set_option linter.unusedVariables false
set_option linter.unusedSimpArgs false
attribute [local go_sem] Later.cell_eq

/-- Is a key among those? -/
def contK (l : List S51) (x : S51) : Bool := l.any fun y => eqK x y
set_option maxRecDepth 100000 in
theorem contK_any (l : List S51) (A : Option Addr) (c : Nat) (x : S51) (w : World) (hC : k51.C w A l.length l) :
    Calls Try.prog 84 #[.slice A l.length c, .agg #[.int .i64 x.f0, .int .u64 x.f1.f0, .int .u64 x.f1.f1, .int .u64 x.f2.f0, .int .u64 x.f2.f1, .int .i64 x.f3, .int .i64 x.f4]] w fun e w' => e = .returned (.bool (contK l x)) ∧ Below w.heap.size w w' := by
  have HI := Aside0.mk (fun (n : Int) (hn : n = idxF (fun y => eqK x y) l) W (hW : k51.C W A l.length l) => by have h := indexK_any l A c x W hW; rw [← hn] at h; exact h)
  have HA := Aside0.mk (idxF_any (fun y => eqK x y) l)
  generalize idxF (fun y => eqK x y) l = n at *
  have HC := Aside0.mk hC
  clear hC
  go_enter Try.func84, Try.ntmps84
  go_wp2_with (go_at_call 86; refine (HI.out _ rfl _ (Kd.C_below HC.out ((Below.refl _ _).alloc (Nat.le_refl _) _))).mono ?_; rintro e w1 ⟨rfl, hb⟩)
  go_ret
  exact ⟨by unfold contK; rw [← HA.out]; rfl, later_alloc (Below.refl _ _) hb⟩

/-- May a key be a flow's? -/
def freeK (k o : S51) (taken : List S51) : Bool := !eqK k o && !contK taken k
theorem any_yes {α : Type} {p : α → Bool} {l : List α} {k : Nat} {x : α} (hx : l[k]? = some x) (hp : p x = true) : l.any p = true := List.any_eq_true.2 ⟨x, List.mem_of_getElem? hx, hp⟩
theorem any_no {α : Type} {p : α → Bool} {l : List α} (h : ∀ j, j < l.length → ∀ y, l[j]? = some y → p y = false) : l.any p = false := by
  rw [List.any_eq_false]
  intro x hx
  obtain ⟨j, hj, rfl⟩ := List.mem_iff_getElem.1 hx
  simp [h j hj _ (List.getElem?_eq_getElem hj)]
set_option maxRecDepth 100000 in
set_option maxHeartbeats 2000000 in
theorem reffree_any (x o : S51) (l : List S51) (A : Option Addr) (c : Nat) (w : World) (hC : k51.C w A l.length l) :
    Calls Try.prog 59 #[.agg #[.int .i64 x.f0, .int .u64 x.f1.f0, .int .u64 x.f1.f1, .int .u64 x.f2.f0, .int .u64 x.f2.f1, .int .i64 x.f3, .int .i64 x.f4], .agg #[.int .i64 o.f0, .int .u64 o.f1.f0, .int .u64 o.f1.f1, .int .u64 o.f2.f0, .int .u64 o.f2.f1, .int .i64 o.f3, .int .i64 o.f4], .slice A l.length c] w fun e w' => e = .returned (.bool (freeK x o l)) ∧ Below w.heap.size w w' := by
  have hmax : l.length ≤ 9223372036854775807 := Kd.C_max hC
  have HC := Aside0.mk hC
  clear hC
  go_enter Try.func59, Try.ntmps59
  go_wp2
  have S := Aside0.mk (((St.nil w).alloc (.cells #[.int .i64 x.f0, .int .u64 x.f1.f0, .int .u64 x.f1.f1, .int .u64 x.f2.f0, .int .u64 x.f2.f1, .int .i64 x.f3, .int .i64 x.f4] 51)).alloc (.cells #[.int .i64 o.f0, .int .u64 o.f1.f0, .int .u64 o.f1.f1, .int .u64 o.f2.f0, .int .u64 o.f2.f1, .int .i64 o.f3, .int .i64 o.f4] 51))
  simp only [World.size_alloc, List.nil_append, List.cons_append] at S
  generalize World.alloc _ _ = W0 at *
  go_loopw [7] (fun v wr => ∃ k : Nat, k ≤ l.length ∧ v = .int .i64 k ∧ Aside0 (∀ j, j < k → ∀ y, l[j]? = some y → (fun y => eqK x y) y = false) ∧ Aside0 (Below W0.heap.size W0 wr)) (fun v _ => l.length - (intOf v).toNat)
  case atStart => exact ⟨0, Nat.zero_le _, rfl, ⟨fun j hj => by omega⟩, ⟨Below.refl _ _⟩⟩
  case round =>
    obtain ⟨k, hk, rfl, HN, HB⟩ := hrel
    have HBW := Aside0.mk (S.out.call HB.out)
    by_cases hlt : k < l.length
    · obtain ⟨ad, cs, rfl, hK, hc⟩ := elem_at HC.out z51 k hlt
      have HX := Aside0.mk (getD_get z51 hlt)
      obtain ⟨y, hy⟩ : ∃ y, y = l.getD k z51 := ⟨_, rfl⟩
      rw [← hy] at HX hK
      obtain rfl := k51_open hK
      have HCA := Aside0.mk hc
      have hlb : ad.block < w.heap.size := by have := cells_lt hc; rwa [add_block] at this
      clear hK hc hy
      go_wp2
      refine wp_region_later (by kernel_rfl) (by kernel_rfl) ?_
      repeat (first
        | (refine quiet_load_row 51 (.tmp 3) rfl rfl _ #[.int .i64 x.f0, .int .u64 x.f1.f0, .int .u64 x.f1.f1, .int .u64 x.f2.f0, .int .u64 x.f2.f1, .int .i64 x.f3, .int .i64 x.f4] 51 (0, 0) _ rfl (later_blk (HBW.out.get 0 rfl)) Try.underlying51 rfl (by kernel_rfl) ?_; go_frame)
        | (refine quiet_load_at 51 (.tmp 16) rfl rfl (ad.add (k * 7)) (kc y) _ rfl (later_cells (HCA.out.below HBW.out.below)) Try.underlying51 rfl (by kernel_rfl) ?_; go_frame)
        | (refine quiet_eql51 rfl _ _ _ rfl y x rfl rfl ?_; go_frame)
        | go_big_quiet_step (fail)
        | quiet_step (fail))
      refine wpQuiet_nil ?_
      intro w5 hw5
      have HB5 := Aside0.mk (later_below hw5)
      clear hw5
      cases hb : eqK y x with
      | true =>
        have HQ := Aside0.mk (show eqK x y = true by rw [eqK_comm]; exact hb)
        go_wp2
        go_ret
        exact ⟨by unfold freeK contK; rw [any_yes (p := fun y => eqK x y) HX.out HQ.out, Bool.not_true, Bool.and_false]; rfl, (HBW.out.call HB5.out).below⟩
      | false =>
        have HQ := Aside0.mk (show eqK x y = false by rw [eqK_comm]; exact hb)
        go_wp2
        go_roundw
        case rel => exact ⟨k + 1, by omega, by go_num, ⟨none_succ HX.out HQ.out HN.out⟩, ⟨below_then HB.out HB.out.size HB5.out⟩⟩
        case measure => simp [intOf]; omega
    · have H := Aside0.mk (show freeK x o l = !eqK x o by unfold freeK contK; rw [any_no (fun j hj => HN.out j (by omega)), Bool.not_false, Bool.and_true])
      go_wp2_with (first
        | (refine gate_ (.load 51 (.tmp 3)) rfl ?_; refine wpList_load_row rfl 51 _ rfl _ rfl 51 #[.int .i64 x.f0, .int .u64 x.f1.f0, .int .u64 x.f1.f1, .int .u64 x.f2.f0, .int .u64 x.f2.f1, .int .i64 x.f3, .int .i64 x.f4] (0, 0) _ (HBW.out.get 0 rfl) Try.underlying51 rfl (by kernel_rfl) ?_)
        | (refine gate_ (.load 51 (.tmp 4)) rfl ?_; refine wpList_load_row rfl 51 _ rfl _ rfl 51 #[.int .i64 o.f0, .int .u64 o.f1.f0, .int .u64 o.f1.f1, .int .u64 o.f2.f0, .int .u64 o.f2.f1, .int .i64 o.f3, .int .i64 o.f4] (0, 0) _ (HBW.out.get 1 rfl) Try.underlying51 rfl (by kernel_rfl) ?_)
        | (refine gate_dst (N := 22) rfl ?_; refine wpList_neq51 rfl _ _ _ rfl x o rfl rfl ?_))
      go_ret
      exact ⟨by rw [H.out]; rfl, HBW.out.below⟩
end Go.Proofs.Ytgppfpfdoooijaa
