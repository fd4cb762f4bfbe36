/- Which translation turns a source: the program's Source and the document's. -/
import Derived.Test.YtgppfpfdoooijaaDest
namespace Go.Proofs.Ytgppfpfdoooijaa
open Go.RowKit Go.Proofs.YtgppfpfdoooijaaW.PrintWords
set_option linter.unusedVariables false
set_option linter.unusedSimpArgs false
attribute [local go_sem] Later.cell_eq

/-- Does a translation turn this key's source, that leaves by a zone? -/
def srcB (c : S36) (out : Int) (k : S51) (n : S56) : Bool := calledF c out n.f1 && ((n.f0 == 3 && eqA n.f5 k.f1) || (n.f0 == 1 && (withinF c n.f2 k.f1 && (is4F n.f4 == is4F k.f1))))
/-- The program's Source. -/
def sourceF (c : S36) (out : Int) (k : S51) : Int := idxF (srcB c out k) c.f5
theorem src_ways (c : S36) (out : Int) (k : S51) (n : S56) :
    (calledF c out n.f1 = false ∧ srcB c out k n = false) ∨ (calledF c out n.f1 = true ∧
      (((n.f0 == 3) = true ∧ (n.f0 == 1) = false ∧ (n.f5.f0 == k.f1.f0) = true ∧ (n.f5.f1 == k.f1.f1) = true ∧ srcB c out k n = true) ∨
       ((n.f0 == 3) = true ∧ (n.f0 == 1) = false ∧ (n.f5.f0 == k.f1.f0) = true ∧ (n.f5.f1 == k.f1.f1) = false ∧ srcB c out k n = false) ∨
       ((n.f0 == 3) = true ∧ (n.f0 == 1) = false ∧ (n.f5.f0 == k.f1.f0) = false ∧ srcB c out k n = false) ∨
       ((n.f0 == 3) = false ∧ (n.f0 == 1) = false ∧ srcB c out k n = false) ∨
       ((n.f0 == 3) = false ∧ (n.f0 == 1) = true ∧ withinF c n.f2 k.f1 = false ∧ srcB c out k n = false) ∨
       ((n.f0 == 3) = false ∧ (n.f0 == 1) = true ∧ withinF c n.f2 k.f1 = true ∧ srcB c out k n = (is4F n.f4 == is4F k.f1)))) := by
  have hx : (n.f0 == 3) = true → (n.f0 == 1) = false := by intro h; simp at h ⊢; omega
  unfold srcB eqA
  cases h1 : calledF c out n.f1 <;> cases h2 : n.f0 == 3 <;> cases h3 : n.f0 == 1 <;> cases h4 : n.f5.f0 == k.f1.f0 <;> cases h5 : n.f5.f1 == k.f1.f1 <;> cases h6 : withinF c n.f2 k.f1 <;> simp_all

theorem enters38 : EntersAt 38 := enters_at Try.func38 (by kernel_rfl) rfl
set_option maxHeartbeats 8000000 in
theorem source1_any (c : S36) (cs : List Value) (out : Int) (k : S51) (n : S56) (ns : List Value) (B : Nat) (w : World) (hz : k56.K w n ns) (hc : k36.K w c cs) (hb : w.heap[B]? = some (.cells cs.toArray 36 (0, 0)))
    (ho : w.cell? ⟨B + 1, 0, none⟩ = some (.int .i64 out)) (hk1 : w.cell? ⟨B + 1 + 1, 1, none⟩ = some (.int .u64 k.f1.f0)) (hk2 : w.cell? ⟨B + 1 + 1, 2, none⟩ = some (.int .u64 k.f1.f1)) :
    Calls Try.prog 38 #[.agg ns.toArray, .pointer (some ⟨B, 0, none⟩), .pointer (some ⟨B + 1, 0, none⟩), .pointer (some ⟨B + 1 + 1, 0, none⟩)] w fun e w' => e = .returned (.bool (srcB c out k n)) ∧ Below w.heap.size w w' := by
  obtain rfl := k56_open hz
  have HK := Aside0.mk hc
  obtain ⟨A0, c0, A1, c1, A2, c2, A3, c3, A4, c4, A5, c5, A6, c6, rfl, l0, g0, l1, g1, l2, g2, l3, g3, l4, g4, l5, g5, l6, g6⟩ := k36_open hc
  clear hz hc g0 g1 g2 g3 g4 g5 g6
  have hc0 : w.cell? ⟨B, 0, none⟩ = some (.slice A0 c.f0.length c0) := by simp [World.cell?, hb]
  have hc1 : w.cell? ⟨B, 1, none⟩ = some (.slice A1 c.f1.length c1) := by simp [World.cell?, hb]
  have hc2 : w.cell? ⟨B, 2, none⟩ = some (.slice A2 c.f2.length c2) := by simp [World.cell?, hb]
  have hc3 : w.cell? ⟨B, 3, none⟩ = some (.slice A3 c.f3.length c3) := by simp [World.cell?, hb]
  have hc4 : w.cell? ⟨B, 4, none⟩ = some (.slice A4 c.f4.length c4) := by simp [World.cell?, hb]
  have hc5 : w.cell? ⟨B, 5, none⟩ = some (.slice A5 c.f5.length c5) := by simp [World.cell?, hb]
  have hc6 : w.cell? ⟨B, 6, none⟩ = some (.slice A6 c.f6.length c6) := by simp [World.cell?, hb]
  have hc7 : w.cell? ⟨B, 7, none⟩ = some (.int .i64 c.f7) := by simp [World.cell?, hb]
  clear hb
  have hl2 : B + 1 + 1 < w.heap.size := World.block_lt_of_cell? w _ hk1
  have hl1 : B + 1 < w.heap.size := by omega
  have hl0 : B < w.heap.size := by omega
  have HCA := Aside0.mk (fun (b : Bool) (hb : b = calledF c out n.f1) (cs : List Value) (W : World) (hW : k36.K W c cs) => show Calls Try.prog 39 #[.agg cs.toArray, .int .i64 out, .string n.f1] W (fun e w' => e = .returned (.bool b) ∧ Below W.heap.size W w') by rw [hb]; exact called_any c cs out n.f1 W hW)
  have HWI := Aside0.mk (fun (b : Bool) (hb : b = withinF c n.f2 k.f1) (cs : List Value) (W : World) (hW : k36.K W c cs) => show Calls Try.prog 40 #[.agg cs.toArray, .string n.f2, .agg #[.int .u64 k.f1.f0, .int .u64 k.f1.f1]] W (fun e w' => e = .returned (.bool b) ∧ Below W.heap.size W w') by rw [hb]; exact within_any c cs n.f2 k.f1 W hW)
  go_enter Try.func38, Try.ntmps38
  go_wp2_with fail
  refine (HCA.out _ rfl _ _ (k36.K_below ((Below.refl _ _).alloc (Nat.le_refl _) _) HK.out)).mono ?_
  rintro e w1 ⟨rfl, hb1⟩
  have HB1 := Aside0.mk (show Below w.heap.size w w1 from later_alloc (Below.refl _ _) hb1)
  have HKW := Aside0.mk (k36.K_below HB1.out HK.out)
  obtain ⟨hcc, hff⟩ := bcell HB1.out
  have hs1 : w.heap.size < w1.heap.size := by have := hb1.size; simp at this; omega
  have q0 : w1.cell? ⟨w.heap.size, 0, none⟩ = some (.int .i64 n.f0) := pw_cell_below hb1 (by simp [go_sem])
  have q2 : w1.cell? ⟨w.heap.size, 2, none⟩ = some (.string n.f2) := pw_cell_below hb1 (by simp [go_sem])
  have q4 : w1.cell? ⟨w.heap.size, 4, none⟩ = some (.int .u64 n.f4.f0) := pw_cell_below hb1 (by simp [go_sem])
  have q5 : w1.cell? ⟨w.heap.size, 5, none⟩ = some (.int .u64 n.f4.f1) := pw_cell_below hb1 (by simp [go_sem])
  have q6 : w1.cell? ⟨w.heap.size, 6, none⟩ = some (.int .u64 n.f5.f0) := pw_cell_below hb1 (by simp [go_sem])
  have q7 : w1.cell? ⟨w.heap.size, 7, none⟩ = some (.int .u64 n.f5.f1) := pw_cell_below hb1 (by simp [go_sem])
  replace hc0 := pw_cell_below HB1.out hc0
  replace hc1 := pw_cell_below HB1.out hc1
  replace hc2 := pw_cell_below HB1.out hc2
  replace hc3 := pw_cell_below HB1.out hc3
  replace hc4 := pw_cell_below HB1.out hc4
  replace hc5 := pw_cell_below HB1.out hc5
  replace hc6 := pw_cell_below HB1.out hc6
  replace hc7 := pw_cell_below HB1.out hc7
  replace hk1 := pw_cell_below HB1.out hk1
  replace hk2 := pw_cell_below HB1.out hk2
  have hl20 : B + 1 + 1 < w1.heap.size := by omega
  have hl10 : B + 1 < w1.heap.size := by omega
  have hl00 : B < w1.heap.size := by omega
  clear hb1 HCA hcc hff ho
  rcases src_ways c out k n with ⟨u0, hs⟩ | ⟨u0, ⟨u1, u2, u3, u4, hs⟩ | ⟨u1, u2, u3, u4, hs⟩ | ⟨u1, u2, u3, hs⟩ | ⟨u1, u2, hs⟩ | ⟨u1, u2, u4, hs⟩ | ⟨u1, u2, u4, hs⟩⟩
  · have HS := Aside0.mk hs
    clear hs
    go_wp2
    go_ret
    exact ⟨by rw [HS.out]; rfl, HB1.out⟩
  · have HS := Aside0.mk hs
    clear hs
    have HWI2 := Aside0.mk (HWI.out _ rfl)
    try rw [u7] at HWI2
    clear HWI
    try clear u7
    go_wp2
    refine wp_region_later (by kernel_rfl) (by kernel_rfl) ?_
    repeat (first
      | go_big_quiet_step ((first | (go_at_call 40; exact later_of (HWI2.out _ _ (k36.K_below (Later.below _) HKW.out))) | (go_at_call 41; exact later_of (is4_any _ _ _))))
      | quiet_step ((first | (go_at_call 40; exact later_of (HWI2.out _ _ (k36.K_below (Later.below _) HKW.out))) | (go_at_call 41; exact later_of (is4_any _ _ _)))))
    refine wpQuiet_nil ?_
    intro w4 hw4
    have HB4 := Aside0.mk (later_below hw4)
    clear hw4
    go_wp2
    go_ret
    exact ⟨by rw [HS.out]; rfl, below_then HB1.out HB1.out.size HB4.out⟩
  · have HS := Aside0.mk hs
    clear hs
    have HWI2 := Aside0.mk (HWI.out _ rfl)
    try rw [u7] at HWI2
    clear HWI
    try clear u7
    go_wp2
    refine wp_region_later (by kernel_rfl) (by kernel_rfl) ?_
    repeat (first
      | go_big_quiet_step ((first | (go_at_call 40; exact later_of (HWI2.out _ _ (k36.K_below (Later.below _) HKW.out))) | (go_at_call 41; exact later_of (is4_any _ _ _))))
      | quiet_step ((first | (go_at_call 40; exact later_of (HWI2.out _ _ (k36.K_below (Later.below _) HKW.out))) | (go_at_call 41; exact later_of (is4_any _ _ _)))))
    refine wpQuiet_nil ?_
    intro w4 hw4
    have HB4 := Aside0.mk (later_below hw4)
    clear hw4
    go_wp2
    go_ret
    exact ⟨by rw [HS.out]; rfl, below_then HB1.out HB1.out.size HB4.out⟩
  · have HS := Aside0.mk hs
    clear hs
    have HWI2 := Aside0.mk (HWI.out _ rfl)
    try rw [u7] at HWI2
    clear HWI
    try clear u7
    go_wp2
    refine wp_region_later (by kernel_rfl) (by kernel_rfl) ?_
    repeat (first
      | go_big_quiet_step ((first | (go_at_call 40; exact later_of (HWI2.out _ _ (k36.K_below (Later.below _) HKW.out))) | (go_at_call 41; exact later_of (is4_any _ _ _))))
      | quiet_step ((first | (go_at_call 40; exact later_of (HWI2.out _ _ (k36.K_below (Later.below _) HKW.out))) | (go_at_call 41; exact later_of (is4_any _ _ _)))))
    refine wpQuiet_nil ?_
    intro w4 hw4
    have HB4 := Aside0.mk (later_below hw4)
    clear hw4
    go_wp2
    go_ret
    exact ⟨by rw [HS.out]; rfl, below_then HB1.out HB1.out.size HB4.out⟩
  · have HS := Aside0.mk hs
    clear hs
    have HWI2 := Aside0.mk (HWI.out _ rfl)
    try rw [u7] at HWI2
    clear HWI
    try clear u7
    go_wp2
    refine wp_region_later (by kernel_rfl) (by kernel_rfl) ?_
    repeat (first
      | go_big_quiet_step ((first | (go_at_call 40; exact later_of (HWI2.out _ _ (k36.K_below (Later.below _) HKW.out))) | (go_at_call 41; exact later_of (is4_any _ _ _))))
      | quiet_step ((first | (go_at_call 40; exact later_of (HWI2.out _ _ (k36.K_below (Later.below _) HKW.out))) | (go_at_call 41; exact later_of (is4_any _ _ _)))))
    refine wpQuiet_nil ?_
    intro w4 hw4
    have HB4 := Aside0.mk (later_below hw4)
    clear hw4
    go_wp2
    go_ret
    exact ⟨by rw [HS.out]; rfl, below_then HB1.out HB1.out.size HB4.out⟩
  · have HS := Aside0.mk hs
    clear hs
    have HWI2 := Aside0.mk (HWI.out _ rfl)
    try rw [u7] at HWI2
    clear HWI
    try clear u7
    go_wp2
    refine wp_region_later (by kernel_rfl) (by kernel_rfl) ?_
    repeat (first
      | go_big_quiet_step ((first | (go_at_call 40; exact later_of (HWI2.out _ _ (k36.K_below (Later.below _) HKW.out))) | (go_at_call 41; exact later_of (is4_any _ _ _))))
      | quiet_step ((first | (go_at_call 40; exact later_of (HWI2.out _ _ (k36.K_below (Later.below _) HKW.out))) | (go_at_call 41; exact later_of (is4_any _ _ _)))))
    refine wpQuiet_nil ?_
    intro w4 hw4
    have HB4 := Aside0.mk (later_below hw4)
    clear hw4
    go_wp2
    go_ret
    exact ⟨by rw [HS.out]; rfl, below_then HB1.out HB1.out.size HB4.out⟩
  · have HS := Aside0.mk hs
    clear hs
    have HWI2 := Aside0.mk (HWI.out _ rfl)
    try rw [u7] at HWI2
    clear HWI
    try clear u7
    go_wp2
    refine wp_region_later (by kernel_rfl) (by kernel_rfl) ?_
    repeat (first
      | go_big_quiet_step ((first | (go_at_call 40; exact later_of (HWI2.out _ _ (k36.K_below (Later.below _) HKW.out))) | (go_at_call 41; exact later_of (is4_any _ _ _))))
      | quiet_step ((first | (go_at_call 40; exact later_of (HWI2.out _ _ (k36.K_below (Later.below _) HKW.out))) | (go_at_call 41; exact later_of (is4_any _ _ _)))))
    refine wpQuiet_nil ?_
    intro w4 hw4
    have HB4 := Aside0.mk (later_below hw4)
    clear hw4
    go_wp2
    go_ret
    exact ⟨by rw [HS.out]; rfl, below_then HB1.out HB1.out.size HB4.out⟩

set_option maxHeartbeats 4000000 in
theorem source_any (c : S36) (cs : List Value) (out : Int) (k : S51) (w : World) (hc : k36.K w c cs) :
    Calls Try.prog 23 #[.agg cs.toArray, .int .i64 out, .agg #[.int .i64 k.f0, .int .u64 k.f1.f0, .int .u64 k.f1.f1, .int .u64 k.f2.f0, .int .u64 k.f2.f1, .int .i64 k.f3, .int .i64 k.f4]] w fun e w' =>
      e = .returned (.int .i64 (sourceF c out k)) ∧ Below w.heap.size w w' := by
  have HK := Aside0.mk hc
  obtain ⟨A0, c0, A1, c1, A2, c2, A3, c3, A4, c4, A5, c5, A6, c6, rfl, l0, g0, l1, g1, l2, g2, l3, g3, l4, g4, l5, g5, l6, g6⟩ := k36_open hc
  have HG := Aside0.mk g5
  clear hc g0 g1 g2 g3 g4 g5 g6
  go_enter Try.func23, Try.ntmps23
  go_wp2_with fail
  have HB0 := Aside0.mk (show Below w.heap.size w (((w.alloc (.cells #[.slice A0 c.f0.length c0, .slice A1 c.f1.length c1, .slice A2 c.f2.length c2, .slice A3 c.f3.length c3, .slice A4 c.f4.length c4, .slice A5 c.f5.length c5, .slice A6 c.f6.length c6, .int .i64 c.f7] 36)).alloc (.cells #[.int .i64 out] 3)).alloc (.cells #[.int .i64 k.f0, .int .u64 k.f1.f0, .int .u64 k.f1.f1, .int .u64 k.f2.f0, .int .u64 k.f2.f1, .int .i64 k.f3, .int .i64 k.f4] 51)) by go_grown)
  refine (idx56 c.f5 A5 c5 38 _ _ _ (srcB c out k) _ enters38 (Kd.C_below HG.out HB0.out) (fun x xs W hb hx => source1_any c _ out k x xs w.heap.size W hx (k36.K_below hb (k36.K_below HB0.out HK.out)) ((hb.block _ (by simp; omega)).trans ((Below.heap_alloc _ _ _ (by simp; omega)).trans ((Below.heap_alloc _ _ _ (by simp)).trans (heap_alloc_new w _)))) (pw_cell_below hb (by simp [go_sem])) (pw_cell_below hb (by simp [go_sem])) (pw_cell_below hb (by simp [go_sem])))).mono ?_
  rintro e w1 ⟨rfl, hb⟩
  go_wp2
  go_ret
  exact ⟨rfl, HB0.out.trans (hb.mono (by simp; omega))⟩
end Go.Proofs.Ytgppfpfdoooijaa
