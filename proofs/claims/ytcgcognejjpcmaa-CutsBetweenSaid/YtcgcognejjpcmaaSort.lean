/- A row of addresses, sorted: the library's SortFunc with the program's Compare. (The laying's text was printed by the kit's lay-plain.mjs.) -/
import Derived.Shelf.SlSortCmp.NoneTotal
import Derived.Test.YtcgcognejjpcmaaRefPrev
import Derived.Test.YtcgcognejjpcmaaPlain
namespace Go.Proofs.Ytcgcognejjpcmaa
open Go.RowKit Go.Proofs.YtcgcognejjpcmaaW.PrintWords Go.Shelf Go.Lib Go.Sort
set_option linter.unusedVariables false
set_option linter.unusedSimpArgs false
attribute [local go_sem] Later.cell_eq

def sortA_ren : Go.Shelf.Ren := ⟨fun | 6 => 66 | 15 => 81 | 14 => 80 | 28 => 92 | 29 => 93 | 20 => 84 | 21 => 85 | 22 => 86 | 23 => 87 | 24 => 88 | 25 => 89 | 26 => 90 | 27 => 91 | 46 => 95 | 47 => 96 | 48 => 97 | 49 => 98 | 50 => 99 | 57 => 100 | n => n, fun | 22 => 68 | 24 => 24 | 25 => 78 | 3 => 3 | 39 => 125 | 0 => 0 | 53 => 137 | 55 => 22 | 4 => 4 | 46 => 130 | 45 => 129 | 50 => 134 | 5 => 5 | 9 => 9 | 66 => 140 | 70 => 144 | 76 => 146 | 77 => 147 | n => n, fun | n => n⟩
theorem sortA : Go.Proofs.SlLaysF0.n6 Try.prog sortA_ren := {
  mixed := by kernel_rfl
  f6 := ⟨Try.f66.name, by decide, Try.func66.trans (congrArg some (by kernel_rfl))⟩
  f14 := ⟨Try.f80.name, by decide, Try.func80.trans (congrArg some (by kernel_rfl))⟩
  f15 := Try.func81.trans (congrArg some (by kernel_rfl))
  f20 := ⟨Try.f84.name, by decide, Try.func84.trans (congrArg some (by kernel_rfl))⟩
  f21 := ⟨Try.f85.name, by decide, Try.func85.trans (congrArg some (by kernel_rfl))⟩
  f22 := ⟨Try.f86.name, by decide, Try.func86.trans (congrArg some (by kernel_rfl))⟩
  f23 := ⟨Try.f87.name, by decide, Try.func87.trans (congrArg some (by kernel_rfl))⟩
  f24 := ⟨Try.f88.name, by decide, Try.func88.trans (congrArg some (by kernel_rfl))⟩
  f25 := ⟨Try.f89.name, by decide, Try.func89.trans (congrArg some (by kernel_rfl))⟩
  f26 := ⟨Try.f90.name, by decide, Try.func90.trans (congrArg some (by kernel_rfl))⟩
  f27 := ⟨Try.f91.name, by decide, Try.func91.trans (congrArg some (by kernel_rfl))⟩
  f28 := Try.func92.trans (congrArg some (by kernel_rfl))
  f29 := Try.func93.trans (congrArg some (by kernel_rfl))
  f46 := ⟨Try.f95.name, by decide, Try.func95.trans (congrArg some (by kernel_rfl))⟩
  f47 := Try.func96.trans (congrArg some (by kernel_rfl))
  f48 := Try.func97.trans (congrArg some (by kernel_rfl))
  f49 := ⟨Try.f98.name, by decide, Try.func98.trans (congrArg some (by kernel_rfl))⟩
  f50 := ⟨Try.f99.name, by decide, Try.func99.trans (congrArg some (by kernel_rfl))⟩
  f57 := ⟨Try.f100.name, by decide, Try.func100.trans (congrArg some (by kernel_rfl))⟩
  t0 := Try.underlying0
  a0 := Try.isAgg0
  z0 := Try.sizeOf0
  v0 := Try.zeroValue0
  t3 := Try.underlying3
  a3 := Try.isAgg3
  z3 := Try.sizeOf3
  v3 := Try.zeroValue3
  t4 := Try.underlying4
  a4 := Try.isAgg4
  z4 := Try.sizeOf4
  v4 := Try.zeroValue4
  t5 := Try.underlying5
  a5 := Try.isAgg5
  z5 := Try.sizeOf5
  v5 := Try.zeroValue5
  t9 := Try.underlying9
  a9 := Try.isAgg9
  z9 := Try.sizeOf9
  v9 := Try.zeroValue9
  t22 := Try.underlying68
  a22 := Try.isAgg68
  z22 := Try.sizeOf68
  v22 := Try.zeroValue68
  t25 := Try.underlying78
  a25 := Try.isAgg78
  z25 := Try.sizeOf78
  v25 := Try.zeroValue78
  t39 := Try.underlying125
  a39 := Try.isAgg125
  z39 := Try.sizeOf125
  v39 := Try.zeroValue125
  t45 := Try.underlying129
  a45 := Try.isAgg129
  z45 := Try.sizeOf129
  v45 := Try.zeroValue129
  t46 := Try.underlying130
  a46 := Try.isAgg130
  z46 := Try.sizeOf130
  v46 := Try.zeroValue130
  t50 := Try.underlying134
  a50 := Try.isAgg134
  z50 := Try.sizeOf134
  v50 := Try.zeroValue134
  t53 := Try.underlying137
  a53 := Try.isAgg137
  z53 := Try.sizeOf137
  v53 := Try.zeroValue137
  t55 := Try.underlying22
  a55 := Try.isAgg22
  z55 := Try.sizeOf22
  v55 := Try.zeroValue22
  t66 := Try.underlying140
  a66 := Try.isAgg140
  z66 := Try.sizeOf140
  v66 := Try.zeroValue140
  t70 := Try.underlying144
  a70 := Try.isAgg144
  z70 := Try.sizeOf144
  v70 := Try.zeroValue144
  t76 := Try.underlying146
  a76 := Try.isAgg146
  z76 := Try.sizeOf146
  v76 := Try.zeroValue146
  t77 := Try.underlying147
  a77 := Try.isAgg147
  z77 := Try.sizeOf147
  v77 := Try.zeroValue147 }

instance : Inhabited S24 := ⟨⟨0, 0⟩⟩
/-- An address' cells. -/
def ea (x : S24) : List Value := [.int .u64 x.f0, .int .u64 x.f1]
set_option maxHeartbeats 1000000 in
/-- Compare lays blocks of its own, and draws: no more. -/
theorem cmp_lays (a b : S24) (w : World) : Calls Try.prog 46 #[.agg #[.int .u64 a.f0, .int .u64 a.f1], .agg #[.int .u64 b.f0, .int .u64 b.f1]] w fun e w' =>
    e = .returned (.int .i64 (cmpA a b)) ∧ ∃ q os', w' = grow (w.drewN q) os' := by
  go_enter Try.func46, Try.ntmps46
  go_wp2
  refine wp_region_quiet_tail (C := fun w' => ∃ q : Nat, w' = ((w.alloc (.cells #[.int .u64 a.f0, .int .u64 a.f1] 24)).alloc (.cells #[.int .u64 b.f0, .int .u64 b.f1] 24)).drewN q) 10 (by kernel_rfl) (by kernel_rfl) ⟨1, rfl⟩ ?_
  simp only [List.take_succ_cons, List.take_zero, List.drop_succ_cons, List.drop_zero]
  repeat (first | go_big_quiet_step ((go_at_call 71; exact (cmpI_any _ _ _).mono fun _ _ ⟨he, hw⟩ => ⟨he, _, hw.symm⟩)) | quiet_step ((go_at_call 71; exact (cmpI_any _ _ _).mono fun _ _ ⟨he, hw⟩ => ⟨he, _, hw.symm⟩)))
  refine wpQuiet_nil ?_
  rintro w1 ⟨q, hw1⟩
  have HOR := Aside0.mk (fun (W : World) => or_any (cmpI a.f0 b.f0) (cmpI a.f1 b.f1) W.heap.size 3 (W.alloc (.cells #[.int .i64 (cmpI a.f0 b.f0), .int .i64 (cmpI a.f1 b.f1)] 3)) (heap_alloc_new W _))
  have HW := Aside0.mk hw1
  clear hw1
  go_wp2_with (go_at_call 70; refine (HOR.out _).mono ?_; rintro e w' ⟨rfl, rfl⟩)
  go_ret
  refine ⟨by rw [← cmpA_or]; rfl, q, #[.cells #[.int .u64 a.f0, .int .u64 a.f1] 24, .cells #[.int .u64 b.f0, .int .u64 b.f1] 24, .cells #[.int .i64 (cmpI a.f0 b.f0), .int .i64 (cmpI a.f1 b.f1)] 3], ?_⟩
  rw [HW.out]
  simp only [alloc_eq_grow]
  rfl
theorem cmp_at (blk off size : Nat) (w : World) : CmpLays Try.prog 46 #[] ea 2 cmpA blk off size w := fun _ _ _ _ x y => cmp_lays x y _
theorem enters46 : ∀ args w, (callFunc 46 args).run Try.prog w = .ok (.enter 46 args) w := enters_of Try.func46 (by kernel_rfl) rfl
theorem lt_cmp (x y : S24) : ltOf cmpA x y = decide (cmpA x y < 0) := rfl
theorem lt_yes {x y : S24} : ltOf cmpA x y = true ↔ ¬ leA y x := by rw [lt_cmp, decide_eq_true_eq, cmp_neg]
theorem lt_no {x y : S24} : ltOf cmpA x y = false ↔ leA y x := by rw [lt_cmp, decide_eq_false_iff_not, cmp_neg, Classical.not_not]
theorem swoA : SWO (ltOf cmpA) where
  irrefl x := lt_no.2 (leA_refl x)
  trans x y z h1 h2 := lt_yes.2 fun h => lt_yes.1 h1 (leA_trans ((leA_total y z).resolve_right (lt_yes.1 h2)) h)
  ntrans x y z h1 h2 := lt_no.2 (leA_trans (lt_no.1 h2) (lt_no.1 h1))
theorem ltA_eq (x y : S24) (h1 : ltOf cmpA x y = false) (h2 : ltOf cmpA y x = false) : x = y := leA_anti (lt_no.1 h2) (lt_no.1 h1)
/-- A row of addresses, sorted. -/
def sortL (l : List S24) : List S24 := l.mergeSort fun x y => !(ltOf cmpA) y x
theorem sortFunc_any (blk off cap : Nat) (d : Array S24) (w : World) (hH : HoldsK ea 2 w blk off d) (hblk : blk < w.heap.size) (hsz : d.size < 4611686018427387904) :
    Calls Try.prog 66 #[.slice (some ⟨blk, off, none⟩) d.size cap, .func (.func 46) #[] #[]] w fun e w' =>
      e = .returned (.tuple #[]) ∧ ∃ n os, w' = sortWorldK ea 2 w blk off n (sortL d.toList).toArray os :=
  AnyQ.slices_SortFunc_total sortA 2 Try.isAgg24 Try.sizeOf24 ea (fun _ => rfl) (fun x v hv => by simp [ea] at hv; rcases hv with rfl | rfl <;> rfl) cmpA swoA 46 #[] blk off cap d w enters46 (cmp_at blk off d.size w) hH hblk hsz ltA_eq
theorem sortFunc_none (p : Option Addr) (cap : Nat) (fv : Value) (w : World) : Calls Try.prog 66 #[.slice p 0 cap, fv] w fun e w' => e = .returned (.tuple #[]) ∧ w' = w := AnyF.slices_SortFunc_none sortA p cap fv w
end Go.Proofs.Ytcgcognejjpcmaa
