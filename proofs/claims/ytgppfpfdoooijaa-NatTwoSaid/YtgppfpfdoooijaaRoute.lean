/- Whither a destination goes: the program's Route and the document's, both the first of the best routes. -/
import Derived.Test.YtgppfpfdoooijaaZone
namespace Go.Proofs.Ytgppfpfdoooijaa
open Go.RowKit Go.Proofs.YtgppfpfdoooijaaW.PrintWords
set_option linter.unusedVariables false
set_option linter.unusedSimpArgs false
attribute [local go_sem] Later.cell_eq

/-- One route more. -/
def bestS (d : S39) (b : Option S46) (r : S46) : Option S46 := if hasR r.f0 d && (match b with | none => true | some q => decide (q.f1 < r.f1)) then some r else b
/-- The best of the routes that have d; of equal ones the first. -/
def bestR (d : S39) (rs : List S46) : Option S46 := rs.foldl (bestS d) none
def stI : Option S46 → Int | none => -1 | some r => r.f2
def stB : Option S46 → Int | none => 0 | some r => r.f1
def stF : Option S46 → Bool | none => false | some r => true
def routeF (c : S36) (d : S39) : Int × Int := match bestR d c.f4 with | none => (-1, -1) | some r => (r.f2, zoneF c r.f2)

theorem bestR_succ {d : S39} {l : List S46} {k : Nat} {x : S46} (h : l[k]? = some x) : bestR d (l.take (k + 1)) = bestS d (bestR d (l.take k)) x := by
  unfold bestR
  rw [List.take_add_one, h, List.foldl_append]
  rfl
theorem bestR_all (d : S39) (l : List S46) : bestR d (l.take l.length) = bestR d l := by rw [List.take_length]
theorem best_no {d : S39} {b : Option S46} {x : S46} (h : hasR x.f0 d = false) : bestS d b x = b := by unfold bestS; simp [h]
theorem best_first {d : S39} {b : Option S46} {x : S46} (h : hasR x.f0 d = true) (hb : stF b = false) : bestS d b x = some x := by
  unfold bestS
  cases b with
  | none => simp [h]
  | some q => simp [stF] at hb
theorem best_more {d : S39} {b : Option S46} {x : S46} (h : hasR x.f0 d = true) (hb : stF b = true) (hl : stB b < x.f1) : bestS d b x = some x := by
  unfold bestS
  cases b with
  | none => simp [h]
  | some q => simp [h]; exact fun hh => absurd hl (by simp [stB]; omega)
theorem best_less {d : S39} {b : Option S46} {x : S46} (hb : stF b = true) (hl : x.f1 ≤ stB b) : bestS d b x = b := by
  unfold bestS
  cases b with
  | none => simp [stF] at hb
  | some q => simp [stB] at hl ⊢; omega
theorem routeF_no {c : S36} {d : S39} {b : Option S46} (h : b = bestR d c.f4) (hb : stF b = false) : routeF c d = (-1, -1) := by
  unfold routeF; rw [← h]
  cases b with
  | none => rfl
  | some q => simp [stF] at hb
theorem routeF_yes {c : S36} {d : S39} {b : Option S46} (h : b = bestR d c.f4) (hb : stF b = true) : routeF c d = (stI b, zoneF c (stI b)) := by
  unfold routeF; rw [← h]
  cases b with
  | none => simp [stF] at hb
  | some q => rfl

set_option maxHeartbeats 4000000 in
theorem route_any (c : S36) (cs : List Value) (d : S39) (w : World) (hc : k36.K w c cs) :
    Calls Try.prog 18 #[.agg cs.toArray, .agg #[.int .u64 d.f0, .int .u64 d.f1]] w fun e w' => e = .returned (.tuple #[.int .i64 (routeF c d).1, .int .i64 (routeF c d).2]) ∧ Below w.heap.size w w' := by
  have HK := Aside0.mk hc
  obtain ⟨A0, c0, A1, c1, A2, c2, A3, c3, A4, c4, A5, c5, A6, c6, rfl, l0, g0, l1, g1, l2, g2, l3, g3, l4, g4, l5, g5, l6, g6⟩ := k36_open hc
  have hmax : c.f4.length ≤ 9223372036854775807 := Kd.C_max g4
  have HG := Aside0.mk g4
  clear hc g0 g1 g2 g3 g4 g5 g6
  go_enter Try.func18, Try.ntmps18
  go_wp2
  obtain ⟨W0, hW0⟩ : ∃ W0, W0 = (w.alloc (.cells #[.slice A0 c.f0.length c0, .slice A1 c.f1.length c1, .slice A2 c.f2.length c2, .slice A3 c.f3.length c3, .slice A4 c.f4.length c4, .slice A5 c.f5.length c5, .slice A6 c.f6.length c6, .int .i64 c.f7] 36)).alloc (.cells #[.int .u64 d.f0, .int .u64 d.f1] 39) := ⟨_, rfl⟩
  have hb0 : Below w.heap.size w W0 := by rw [hW0]; exact ((Below.refl _ _).alloc (Nat.le_refl _) _).alloc (by simp) _
  have hsz : W0.heap.size = w.heap.size + 1 + 1 := by rw [hW0]; simp
  have hblk : W0.heap[w.heap.size]? = some (.cells #[.slice A0 c.f0.length c0, .slice A1 c.f1.length c1, .slice A2 c.f2.length c2, .slice A3 c.f3.length c3, .slice A4 c.f4.length c4, .slice A5 c.f5.length c5, .slice A6 c.f6.length c6, .int .i64 c.f7] 36 (0, 0)) := by rw [hW0]; exact (Below.heap_alloc _ _ _ (by simp)).trans (heap_alloc_new w _)
  have hd0 : W0.cell? ⟨w.heap.size + 1, 0, none⟩ = some (.int .u64 d.f0) := by rw [hW0]; simp [go_sem]
  have hd1 : W0.cell? ⟨w.heap.size + 1, 1, none⟩ = some (.int .u64 d.f1) := by rw [hW0]; simp [go_sem]
  rw [← hW0]
  clear hW0
  have HB0 := Aside0.mk hb0
  have HS := Aside0.mk hsz
  have HBLK := Aside0.mk hblk
  have HD0 := Aside0.mk hd0
  have HD1 := Aside0.mk hd1
  clear hb0 hsz hblk hd0 hd1
  go_loopw [6, 7, 8, 14] (fun v6 v7 v8 v14 wr => ∃ (k : Nat) (b : Option S46), k ≤ c.f4.length ∧ v14 = .int .i64 k ∧ v6 = .int .i64 (stI b) ∧ v7 = .int .i64 (stB b) ∧ v8 = .bool (stF b) ∧ Aside0 (b = bestR d (c.f4.take k)) ∧ Aside0 (Below W0.heap.size W0 wr)) (fun _ _ _ v _ => c.f4.length - (intOf v).toNat)
  case atStart => exact ⟨0, none, Nat.zero_le _, rfl, rfl, rfl, rfl, ⟨rfl⟩, ⟨Below.refl _ _⟩⟩
  case round =>
    obtain ⟨k, b, hk, rfl, rfl, rfl, rfl, HE, HB⟩ := hrel
    have hBw : Below w.heap.size w wr := below_then HB0.out HB0.out.size HB.out
    have HBW := Aside0.mk hBw
    clear hBw
    by_cases hlt : k < c.f4.length
    · obtain ⟨ad, rfl, h0, h1, h2, h3, h4, h5⟩ := at_T46 (Kd.C_below HG.out HBW.out) (k : Int) (by omega) (by omega)
      have HX := Aside0.mk (getD_get z46 hlt)
      unfold rd_T46 at h0 h1 h2 h3 h4 h5
      simp only [Int.toNat_natCast] at h0 h1 h2 h3 h4 h5
      generalize c.f4.getD k z46 = x at *
      have hd0 := pw_cell_below HB.out HD0.out
      have hd1 := pw_cell_below HB.out HD1.out
      have hlt2 : w.heap.size + 1 < wr.heap.size := by have := HB.out.size; have := HS.out; omega
      have HH : ∀ W, Calls Try.prog 30 #[.agg #[.int .u64 x.f0.f0.f0, .int .u64 x.f0.f0.f1, .int .u64 x.f0.f1.f0, .int .u64 x.f0.f1.f1], .agg #[.int .u64 d.f0, .int .u64 d.f1]] W fun e w' => e = .returned (.bool (hasR x.f0 d)) ∧ Below W.heap.size W w' := fun W => has_any _ _ _ _ _ _ W
      have HHA := Aside0.mk HH
      clear HH
      have hways : (hasR x.f0 d = false ∧ bestS d b x = b) ∨ (hasR x.f0 d = true ∧ stF b = false ∧ bestS d b x = some x) ∨ (hasR x.f0 d = true ∧ stF b = true ∧ stB b < x.f1 ∧ bestS d b x = some x) ∨ (hasR x.f0 d = true ∧ stF b = true ∧ x.f1 ≤ stB b ∧ bestS d b x = b) := by
        cases h : hasR x.f0 d with
        | false => exact .inl ⟨rfl, best_no h⟩
        | true =>
          cases hb : stF b with
          | false => exact .inr (.inl ⟨rfl, rfl, best_first h hb⟩)
          | true =>
            rcases Int.lt_or_le (stB b) x.f1 with hl | hl
            · exact .inr (.inr (.inl ⟨rfl, rfl, hl, best_more h hb hl⟩))
            · exact .inr (.inr (.inr ⟨rfl, rfl, hl, best_less hb hl⟩))
      generalize hasR x.f0 d = bh at *
      have HN := Aside0.mk (show bestR d (c.f4.take (k + 1)) = bestS d b x by rw [bestR_succ HX.out, HE.out])
      rcases hways with ⟨rfl, hn⟩ | ⟨rfl, hf, hn⟩ | ⟨rfl, hf, hl, hn⟩ | ⟨rfl, hf, hl, hn⟩
      · have HN2 := Aside0.mk (HN.out.trans hn)
        clear hn
        go_wp2_with fail
        refine (HHA.out _).mono ?_
        rintro e w1 ⟨rfl, hb1⟩
        have HB1 := Aside0.mk hb1
        clear hb1
        go_wp2
        go_roundw
        case rel => exact ⟨k + 1, b, by omega, by go_num, rfl, rfl, rfl, ⟨HN2.out.symm⟩, ⟨later_alloc HB.out HB1.out⟩⟩
        case measure => simp [intOf]; omega
      · have HN2 := Aside0.mk (HN.out.trans hn)
        clear hn
        go_wp2_with fail
        refine (HHA.out _).mono ?_
        rintro e w1 ⟨rfl, hb1⟩
        obtain ⟨hcc, hff⟩ := bcell hb1
        have HB1 := Aside0.mk hb1
        clear hb1
        go_wp2
        go_quiet (fail)
        go_wp2
        go_roundw
        case rel => exact ⟨k + 1, some x, by omega, by go_num, rfl, rfl, rfl, ⟨HN2.out.symm⟩, ⟨pw_below_drewN (later_alloc HB.out HB1.out) _⟩⟩
        case measure => simp [intOf]; omega
      · have HN2 := Aside0.mk (HN.out.trans hn)
        clear hn
        go_wp2_with fail
        refine (HHA.out _).mono ?_
        rintro e w1 ⟨rfl, hb1⟩
        obtain ⟨hcc, hff⟩ := bcell hb1
        have HB1 := Aside0.mk hb1
        clear hb1
        go_wp2
        go_quiet (fail)
        go_wp2
        go_roundw
        case rel => exact ⟨k + 1, some x, by omega, by go_num, rfl, rfl, rfl, ⟨HN2.out.symm⟩, ⟨pw_below_drewN (later_alloc HB.out HB1.out) _⟩⟩
        case measure => simp [intOf]; omega
      · have HN2 := Aside0.mk (HN.out.trans hn)
        clear hn
        go_wp2_with fail
        refine (HHA.out _).mono ?_
        rintro e w1 ⟨rfl, hb1⟩
        obtain ⟨hcc, hff⟩ := bcell hb1
        have HB1 := Aside0.mk hb1
        clear hb1
        go_wp2
        go_roundw
        case rel => exact ⟨k + 1, b, by omega, by go_num, rfl, rfl, by rw [hf], ⟨HN2.out.symm⟩, ⟨later_alloc HB.out HB1.out⟩⟩
        case measure => simp [intOf]; omega
    · have hkl : k = c.f4.length := by omega
      have HR := Aside0.mk (show b = bestR d c.f4 by rw [HE.out, hkl, bestR_all])
      clear hkl
      cases hb : stF b with
      | false =>
        have HF := Aside0.mk (routeF_no HR.out hb)
        go_wp2
        go_ret2
        exact ⟨by rw [HF.out]; rfl, HBW.out⟩
      | true =>
        have HF := Aside0.mk (routeF_yes HR.out hb)
        have hblk := (HB.out.block _ (by rw [HS.out]; omega)).trans HBLK.out
        have HZ := Aside0.mk (zone_any c _ (stI b) wr (k36.K_below HBW.out HK.out))
        go_wp2_with (first | (refine gate_ (.load 36 (.tmp 2)) rfl ?_; refine wpList_load_row rfl 36 _ rfl w.heap.size rfl 36 _ (0, 0) _ hblk Try.underlying36 rfl (by kernel_rfl) ?_) | (go_at_call 20; refine (HZ.out).mono ?_; rintro e w1 ⟨rfl, hb1⟩))
        go_ret2
        exact ⟨by rw [HF.out]; rfl, below_then HBW.out HBW.out.size hb1⟩

/-- What the document's loop knows behind k routes: none has it yet, or the best so far stands at t. -/
def RefAt (d : S39) (l : List S46) (k : Nat) (t : Int) : Prop := (t = -1 ∧ bestR d (l.take k) = none) ∨ ∃ (m : Nat) (q : S46), t = m ∧ m < k ∧ l[m]? = some q ∧ bestR d (l.take k) = some q

set_option maxHeartbeats 4000000 in
theorem refroute_any (c : S36) (cs : List Value) (d : S39) (w : World) (hc : k36.K w c cs) :
    Calls Try.prog 19 #[.agg cs.toArray, .agg #[.int .u64 d.f0, .int .u64 d.f1]] w fun e w' => e = .returned (.tuple #[.int .i64 (routeF c d).1, .int .i64 (routeF c d).2]) ∧ Below w.heap.size w w' := by
  have HK := Aside0.mk hc
  obtain ⟨A0, c0, A1, c1, A2, c2, A3, c3, A4, c4, A5, c5, A6, c6, rfl, l0, g0, l1, g1, l2, g2, l3, g3, l4, g4, l5, g5, l6, g6⟩ := k36_open hc
  have hmax : c.f4.length ≤ 9223372036854775807 := Kd.C_max g4
  have HG := Aside0.mk g4
  clear hc g0 g1 g2 g3 g4 g5 g6
  go_enter Try.func19, Try.ntmps19
  go_wp2
  obtain ⟨W0, hW0⟩ : ∃ W0, W0 = (w.alloc (.cells #[.slice A0 c.f0.length c0, .slice A1 c.f1.length c1, .slice A2 c.f2.length c2, .slice A3 c.f3.length c3, .slice A4 c.f4.length c4, .slice A5 c.f5.length c5, .slice A6 c.f6.length c6, .int .i64 c.f7] 36)).alloc (.cells #[.int .u64 d.f0, .int .u64 d.f1] 39) := ⟨_, rfl⟩
  have hb0 : Below w.heap.size w W0 := by rw [hW0]; exact ((Below.refl _ _).alloc (Nat.le_refl _) _).alloc (by simp) _
  have hsz : W0.heap.size = w.heap.size + 1 + 1 := by rw [hW0]; simp
  have hblk : W0.heap[w.heap.size]? = some (.cells #[.slice A0 c.f0.length c0, .slice A1 c.f1.length c1, .slice A2 c.f2.length c2, .slice A3 c.f3.length c3, .slice A4 c.f4.length c4, .slice A5 c.f5.length c5, .slice A6 c.f6.length c6, .int .i64 c.f7] 36 (0, 0)) := by rw [hW0]; exact (Below.heap_alloc _ _ _ (by simp)).trans (heap_alloc_new w _)
  have hd0 : W0.cell? ⟨w.heap.size + 1, 0, none⟩ = some (.int .u64 d.f0) := by rw [hW0]; simp [go_sem]
  have hd1 : W0.cell? ⟨w.heap.size + 1, 1, none⟩ = some (.int .u64 d.f1) := by rw [hW0]; simp [go_sem]
  rw [← hW0]
  clear hW0
  have HB0 := Aside0.mk hb0
  have HS := Aside0.mk hsz
  have HBLK := Aside0.mk hblk
  have HD0 := Aside0.mk hd0
  have HD1 := Aside0.mk hd1
  clear hb0 hsz hblk hd0 hd1
  go_loopw [6, 7] (fun v6 v7 wr => ∃ (k : Nat) (t : Int), k ≤ c.f4.length ∧ v7 = .int .i64 k ∧ v6 = .int .i64 t ∧ Aside0 (RefAt d c.f4 k t) ∧ Aside0 (Below W0.heap.size W0 wr)) (fun _ v _ => c.f4.length - (intOf v).toNat)
  case atStart => exact ⟨0, -1, Nat.zero_le _, rfl, rfl, ⟨.inl ⟨rfl, rfl⟩⟩, ⟨Below.refl _ _⟩⟩
  case round =>
    obtain ⟨k, t, hk, rfl, rfl, HE, HB⟩ := hrel
    have HBW := Aside0.mk (below_then HB0.out HB0.out.size HB.out)
    have hblk := (HB.out.block _ (by rw [HS.out]; omega)).trans HBLK.out
    have hz0 := (blk_cell hblk 0).trans rfl
    have hz1 := (blk_cell hblk 1).trans rfl
    have hz2 := (blk_cell hblk 2).trans rfl
    have hz3 := (blk_cell hblk 3).trans rfl
    have hz4 := (blk_cell hblk 4).trans rfl
    have hz5 := (blk_cell hblk 5).trans rfl
    have hz6 := (blk_cell hblk 6).trans rfl
    have hz7 := (blk_cell hblk 7).trans rfl
    clear hblk
    have hd0 := pw_cell_below HB.out HD0.out
    have hd1 := pw_cell_below HB.out HD1.out
    have hlt2 : w.heap.size + 1 < wr.heap.size := by have := HB.out.size; have := HS.out; omega
    have hlt1 : w.heap.size < wr.heap.size := by omega
    by_cases hlt : k < c.f4.length
    · obtain ⟨ad, rfl, h0, h1, h2, h3, h4, h5⟩ := at_T46 (Kd.C_below HG.out HBW.out) (k : Int) (by omega) (by omega)
      have HX := Aside0.mk (getD_get z46 hlt)
      unfold rd_T46 at h0 h1 h2 h3 h4 h5
      simp only [Int.toNat_natCast] at h0 h1 h2 h3 h4 h5
      generalize c.f4.getD k z46 = x at *
      have hbl : (ad.add (k * 6)).block < wr.heap.size := World.block_lt_of_cell? _ _ h0
      have HH : ∀ W, Calls Try.prog 31 #[.agg #[.int .u64 x.f0.f0.f0, .int .u64 x.f0.f0.f1, .int .u64 x.f0.f1.f0, .int .u64 x.f0.f1.f1], .agg #[.int .u64 d.f0, .int .u64 d.f1]] W fun e w' => e = .returned (.bool (hasR x.f0 d)) ∧ Below W.heap.size W w' := fun W => refhas_any _ _ _ _ _ _ W
      have HHA := Aside0.mk HH
      clear HH
      rcases HE.out with ⟨rfl, hn⟩ | ⟨m, q, rfl, hm, hq, hn⟩
      · cases hh : hasR x.f0 d with
        | false =>
          have HN2 := Aside0.mk (show RefAt d c.f4 (k + 1) (-1) from .inl ⟨rfl, by rw [bestR_succ HX.out, hn, best_no hh]⟩)
          rw [hh] at HHA
          clear hn hh
          go_wp2
          refine wp_region_later (by kernel_rfl) (by kernel_rfl) ?_
          repeat (first | go_big_quiet_step ((go_at_call 31; exact later_of (HHA.out _))) | quiet_step ((go_at_call 31; exact later_of (HHA.out _))))
          refine wpQuiet_nil ?_
          intro w1 hw1
          have HB1 := Aside0.mk (later_below hw1)
          clear hw1
          go_wp2
          go_roundw
          case rel => exact ⟨k + 1, _, by omega, by go_num, rfl, HN2, ⟨below_then HB.out HB.out.size HB1.out⟩⟩
          case measure => simp [intOf]; omega
        | true =>
          have HN2 := Aside0.mk (show RefAt d c.f4 (k + 1) (k : Int) from .inr ⟨k, x, rfl, by omega, HX.out, by rw [bestR_succ HX.out, hn, best_first (b := none) hh rfl]⟩)
          rw [hh] at HHA
          clear hn hh
          go_wp2
          refine wp_region_later (by kernel_rfl) (by kernel_rfl) ?_
          repeat (first | go_big_quiet_step ((go_at_call 31; exact later_of (HHA.out _))) | quiet_step ((go_at_call 31; exact later_of (HHA.out _))))
          refine wpQuiet_nil ?_
          intro w1 hw1
          have HB1 := Aside0.mk (later_below hw1)
          clear hw1
          go_wp2
          go_roundw
          case rel => exact ⟨k + 1, _, by omega, by go_num, rfl, HN2, ⟨below_then HB.out HB.out.size HB1.out⟩⟩
          case measure => simp [intOf]; omega
      · obtain ⟨ad', e', g0, g1, g2, g3, g4, g5⟩ := at_T46 (Kd.C_below HG.out HBW.out) (m : Int) (by omega) (by omega)
        injection e' with e'
        subst e'
        unfold rd_T46 at g4
        simp only [Int.toNat_natCast] at g4
        rw [List.getD_eq_getElem?_getD, hq, Option.getD_some] at g4
        have hml : m < c.f4.length := by omega
        have hbm : (ad.add (m * 6)).block < wr.heap.size := World.block_lt_of_cell? _ ⟨(ad.add (m * 6)).block, (ad.add (m * 6)).off + 4, none⟩ g4
        clear g0 g1 g2 g3 g5
        cases hh : hasR x.f0 d with
        | false =>
          have HN2 := Aside0.mk (show RefAt d c.f4 (k + 1) (m : Int) from .inr ⟨m, q, rfl, by omega, hq, by rw [bestR_succ HX.out, hn, best_no hh]⟩)
          rw [hh] at HHA
          clear hn hh hq
          go_wp2
          refine wp_region_later (by kernel_rfl) (by kernel_rfl) ?_
          repeat (first | go_big_quiet_step ((go_at_call 31; exact later_of (HHA.out _))) | quiet_step ((go_at_call 31; exact later_of (HHA.out _))))
          refine wpQuiet_nil ?_
          intro w1 hw1
          have HB1 := Aside0.mk (later_below hw1)
          clear hw1
          go_wp2
          go_roundw
          case rel => exact ⟨k + 1, _, by omega, by go_num, rfl, HN2, ⟨below_then HB.out HB.out.size HB1.out⟩⟩
          case measure => simp [intOf]; omega
        | true =>
          rcases Int.lt_or_le q.f1 x.f1 with hl | hl
          · have HN2 := Aside0.mk (show RefAt d c.f4 (k + 1) (k : Int) from .inr ⟨k, x, rfl, by omega, HX.out, by rw [bestR_succ HX.out, hn, best_more (b := some q) hh rfl hl]⟩)
            rw [hh] at HHA
            clear hn hh hq
            go_wp2
            refine wp_region_later (by kernel_rfl) (by kernel_rfl) ?_
            repeat (first | go_big_quiet_step ((go_at_call 31; exact later_of (HHA.out _))) | quiet_step ((go_at_call 31; exact later_of (HHA.out _))))
            refine wpQuiet_nil ?_
            intro w1 hw1
            have HB1 := Aside0.mk (later_below hw1)
            clear hw1
            go_wp2
            go_roundw
            case rel => exact ⟨k + 1, _, by omega, by go_num, rfl, HN2, ⟨below_then HB.out HB.out.size HB1.out⟩⟩
            case measure => simp [intOf]; omega
          · have HN2 := Aside0.mk (show RefAt d c.f4 (k + 1) (m : Int) from .inr ⟨m, q, rfl, by omega, hq, by rw [bestR_succ HX.out, hn, best_less (b := some q) rfl hl]⟩)
            rw [hh] at HHA
            clear hn hh hq
            go_wp2
            refine wp_region_later (by kernel_rfl) (by kernel_rfl) ?_
            repeat (first | go_big_quiet_step ((go_at_call 31; exact later_of (HHA.out _))) | quiet_step ((go_at_call 31; exact later_of (HHA.out _))))
            refine wpQuiet_nil ?_
            intro w1 hw1
            have HB1 := Aside0.mk (later_below hw1)
            clear hw1
            go_wp2
            go_roundw
            case rel => exact ⟨k + 1, _, by omega, by go_num, rfl, HN2, ⟨below_then HB.out HB.out.size HB1.out⟩⟩
            case measure => simp [intOf]; omega
    · have hkl : k = c.f4.length := by omega
      rcases HE.out with ⟨rfl, hn⟩ | ⟨m, q, rfl, hm, hq, hn⟩
      · have HF := Aside0.mk (show routeF c d = (-1, -1) from routeF_no (b := none) (by rw [← bestR_all, ← hkl, hn]) rfl)
        clear hn hkl
        go_wp2
        go_ret2
        exact ⟨by rw [HF.out]; rfl, HBW.out⟩
      · obtain ⟨ad, rfl, g0, g1, g2, g3, g4, g5⟩ := at_T46 (Kd.C_below HG.out HBW.out) (m : Int) (by omega) (by omega)
        unfold rd_T46 at g5
        simp only [Int.toNat_natCast] at g5
        rw [List.getD_eq_getElem?_getD, hq, Option.getD_some] at g5
        have hml : m < c.f4.length := by omega
        have hbm : (ad.add (m * 6)).block < wr.heap.size := World.block_lt_of_cell? _ ⟨(ad.add (m * 6)).block, (ad.add (m * 6)).off + 5, none⟩ g5
        have HF := Aside0.mk (show routeF c d = (q.f2, zoneF c q.f2) from routeF_yes (b := some q) (by rw [← bestR_all, ← hkl, hn]) rfl)
        clear g0 g1 g2 g3 g4 hn hq hkl
        have HKW := Aside0.mk (k36.K_below HBW.out HK.out)
        go_wp2
        refine wp_region_later (by kernel_rfl) (by kernel_rfl) ?_
        repeat (first | go_big_quiet_step ((go_at_call 21; exact later_of (refzone_any c _ _ _ (k36.K_below (Later.below _) HKW.out)))) | quiet_step ((go_at_call 21; exact later_of (refzone_any c _ _ _ (k36.K_below (Later.below _) HKW.out)))))
        refine wpQuiet_nil ?_
        intro w1 hw1
        have HB1 := Aside0.mk (later_below hw1)
        clear hw1
        go_wp2
        go_ret2
        exact ⟨by rw [HF.out]; rfl, below_then HBW.out HBW.out.size HB1.out⟩
end Go.Proofs.Ytgppfpfdoooijaa

