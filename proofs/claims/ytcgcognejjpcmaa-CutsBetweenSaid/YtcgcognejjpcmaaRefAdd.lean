/- The reference's add: a point is laid into a rising row. -/
import Derived.Test.YtcgcognejjpcmaaPoints
import Derived.Test.YtcgcognejjpcmaaRefPrev
namespace Go.Proofs.Ytcgcognejjpcmaa
open Go.RowKit Go.Proofs.YtcgcognejjpcmaaW.PrintWords
set_option linter.unusedVariables false
set_option linter.unusedSimpArgs false
attribute [local go_sem] Later.cell_eq

def lessB (a b : S24) : Bool := decide (cmpA a b < 0)
/-- The row with the point in its place. -/
def addA : List S24 → S24 → List S24
  | [], a => [a]
  | x :: t, a => if lessB x a = true then x :: addA t a else if eqA x a = true then x :: t else a :: x :: t
theorem addA_less {a : S24} : ∀ {xs : List S24} {i : Nat}, (∀ j, j < i → lessB (xs.getD j z24) a = true) → i ≤ xs.length → addA xs a = xs.take i ++ addA (xs.drop i) a
  | xs, 0, _, _ => by simp
  | [], i + 1, _, h => by simp at h
  | x :: t, i + 1, h, hi => by
    have h0 : lessB x a = true := h 0 (by omega)
    have h1 : addA t a = t.take i ++ addA (t.drop i) a := addA_less (fun j hj => h (j + 1) (by omega)) (by simpa using hi)
    rw [addA, if_pos h0, h1]
    simp
theorem addA_end {xs : List S24} {a : S24} (h : ∀ j, j < xs.length → lessB (xs.getD j z24) a = true) : addA xs a = xs ++ [a] := by
  rw [addA_less h (Nat.le_refl _), List.take_length, List.drop_length, addA]
theorem drop_getD {xs : List S24} {i : Nat} (h : i < xs.length) : xs.drop i = xs.getD i z24 :: xs.drop (i + 1) := by
  rw [List.drop_eq_getElem_cons h, List.getD_eq_getElem?_getD, List.getElem?_eq_getElem h]
  rfl
theorem take_getD {xs : List S24} {i : Nat} (h : i < xs.length) : xs.take (i + 1) = xs.take i ++ [xs.getD i z24] := by
  rw [List.take_add_one, List.getElem?_eq_getElem h, List.getD_eq_getElem?_getD, List.getElem?_eq_getElem h]
  rfl
theorem addA_eq {xs : List S24} {a : S24} {i : Nat} (h : ∀ j, j < i → lessB (xs.getD j z24) a = true) (hi : i < xs.length) (h1 : lessB (xs.getD i z24) a = false) (h2 : eqA (xs.getD i z24) a = true) : addA xs a = xs := by
  rw [addA_less h (by omega), drop_getD hi, addA, if_neg (by rw [h1]; decide), if_pos h2, ← drop_getD hi, List.take_append_drop]
theorem addA_ne {xs : List S24} {a : S24} {i : Nat} (h : ∀ j, j < i → lessB (xs.getD j z24) a = true) (hi : i < xs.length) (h1 : lessB (xs.getD i z24) a = false) (h2 : eqA (xs.getD i z24) a = false) : addA xs a = xs.take i ++ [a] ++ xs.drop i := by
  rw [addA_less h (by omega), drop_getD hi, addA, if_neg (by rw [h1]; decide), if_neg (by rw [h2]; decide), List.append_assoc]
  rfl
theorem less_succ {xs : List S24} {a : S24} {i : Nat} (h : ∀ j, j < i → lessB (xs.getD j z24) a = true) (h1 : lessB (xs.getD i z24) a = true) : ∀ j, j < i + 1 → lessB (xs.getD j z24) a = true := fun j hj => by
  rcases Nat.lt_or_ge j i with h' | h'
  · exact h j h'
  · obtain rfl : j = i := by omega
    exact h1

set_option maxRecDepth 100000 in
set_option maxHeartbeats 4000000 in
theorem add_any (xs : List S24) (A : Option Addr) (cap : Nat) (a : S24) (w : World) (hC : k24.C w A xs.length xs) (hcap : xs.length ≤ cap) (hl : xs.length ≤ 1000000) : Calls Try.prog 68 #[.slice A xs.length cap, .agg #[.int .u64 a.f0, .int .u64 a.f1]] w (RowPost (addA xs a) w) := by
  have HC := Aside0.mk hC
  clear hC
  obtain ⟨n, hn⟩ : ∃ n, xs.length = n := ⟨_, rfl⟩
  have HN := Aside0.mk hn
  rw [hn] at HC hcap hl
  rw [hn]
  clear hn
  go_enter Try.func68, Try.ntmps68
  go_upto_region 1 with fail
  have S0 := Aside0.mk ((St.nil w).alloc (.cells #[.int .u64 a.f0, .int .u64 a.f1] 24))
  simp only [List.nil_append] at S0
  obtain ⟨W0, hW0⟩ : ∃ W0, W0 = w.alloc (.cells #[.int .u64 a.f0, .int .u64 a.f1] 24) := ⟨_, rfl⟩
  rw [← hW0] at S0 ⊢
  clear hW0
  go_upto_region 2 with fail
  have HR0 := Aside0.mk (R_empty k24 24 W0 (base := W0.heap.size) (ok := fun _ => True) (Nat.le_refl _) trivial)
  have HB0 := Aside0.mk ((Below.refl W0.heap.size W0).alloc (Nat.le_refl _) (.cells #[] 24))
  generalize W0.alloc (.cells #[] 24) = W1 at *
  obtain ⟨A2, hA2⟩ : ∃ A2, A2 = (some ⟨W0.heap.size, 0, none⟩ : Option Addr) := ⟨_, rfl⟩
  rw [← hA2] at HR0 ⊢
  clear hA2
  go_wp2
  go_loopw [5, 6] (fun v5 v6 wr => ∃ (i : Nat) (A' : Option Addr) (c' : Nat), i ≤ n ∧ v6 = .int .i64 i ∧ v5 = .slice A' i c' ∧ Aside0 (k24.R 24 wr W0.heap.size (fun _ => True) (.slice A' i c') (xs.take i)) ∧ Aside0 (Below W0.heap.size W0 wr) ∧ Aside0 (∀ j, j < i → lessB (xs.getD j z24) a = true)) (fun _ v _ => n - (intOf v).toNat)
  case atStart => exact ⟨0, A2, 0, Nat.zero_le _, rfl, rfl, HR0, HB0, ⟨fun _ h => absurd h (Nat.not_lt_zero _)⟩⟩
  case round =>
    clear HR0 HB0
    obtain ⟨i, A', c', hi, rfl, rfl, HR, HB, HA⟩ := hrel
    have S := Aside0.mk (S0.out.call HB.out)
    by_cases hlt : i < n
    · obtain ⟨x, hx⟩ : ∃ x, x = xs.getD i z24 := ⟨_, rfl⟩
      have HX := Aside0.mk hx
      obtain ⟨ad, cx, rfl, hK, hcx⟩ := elem_at (Kd.C_below HC.out S.out.below) z24 i hlt
      rw [← hx] at hK
      have e2 := k24_open hK
      subst e2
      rw [show k24.sz = 2 from rfl] at hcx
      have HCX := Aside0.mk hcx
      obtain ⟨b, hb⟩ : ∃ b, lessB x a = b := ⟨_, rfl⟩
      have HBB := Aside0.mk hb
      have CL := Aside0.mk (fun W => show Calls Try.prog 38 #[.agg #[.int .u64 x.f0, .int .u64 x.f1], .agg #[.int .u64 a.f0, .int .u64 a.f1]] W (fun e w' => e = .returned (.bool b) ∧ Below W.heap.size W w') by have := less_any x.f0 x.f1 a.f0 a.f1 W; unfold lessB at hb; rw [← hb]; exact this)
      clear hx hK hcx hb
      go_upto_region 3 with fail
      refine wp_region_later (by kernel_rfl) (by kernel_rfl) ?_
      repeat (first
        | go_big_quiet_skip
        | (refine quiet_load_at 24 (.tmp 15) rfl rfl (ad.add (i * 2)) [.int .u64 x.f0, .int .u64 x.f1] _ rfl (later_cells HCX.out) Try.underlying24 rfl (by kernel_rfl) ?_; go_frame)
        | (refine quiet_load_row 24 (.tmp 3) rfl rfl _ #[.int .u64 a.f0, .int .u64 a.f1] 24 (0, 0) _ rfl (later_blk (S.out.get 0 rfl)) Try.underlying24 rfl (by kernel_rfl) ?_; go_frame)
        | go_big_quiet_step ((go_at_call 38; with_reducible exact later_of (CL.out _)))
        | fail)
      refine wpQuiet_nil ?_
      intro w5 hw5
      have HR5 := Aside0.mk (Kd.R_below HR.out (later_below hw5))
      have HB5 := Aside0.mk (below_then HB.out HB.out.size (later_below hw5))
      replace S := Aside0.mk (S.out.call (later_below hw5))
      replace HCX := Aside0.mk (HCX.out.below (later_below hw5))
      clear hw5
      cases b with
      | true =>
        go_wp2_with (first
          | (refine gate_ (.load 24 (.tmp 23)) rfl ?_; refine wpList_load_at rfl 24 _ rfl (ad.add (i * 2)) [.int .u64 x.f0, .int .u64 x.f1] _ rfl HCX.out Try.underlying24 rfl (by kernel_rfl) ?_)
          | (at_builtin; refine Aside0.out ?_)
          | fail)
        refine Aside0.mk ?_
        refine Kd.R_append k24 (w0 := W0) W0.heap.size rfl (.tmp 20) (.tmp 25) 68 24 (.agg #[.int .u64 0, .int .u64 0]) 16 rfl Try.underlying68 info24 rfl (by decide) (by omega) (.slice A' i c') (xs.take i) x [.int .u64 x.f0, .int .u64 x.f1] (fun _ => True) (fun _ => False) rfl rfl (k24_mkM _ _ _ x) (fun _ hk => hk.elim) (fun k hk => trivial) HR5.out HB5.out HB5.out.size (by rw [List.length_take]; omega) ?_
        intro v1 w1 hR1 hb1 hg1 hat1
        rw [HX.out, ← take_getD (by rw [HN.out]; exact hlt)] at hR1
        obtain ⟨A1, c1, rfl, -, -⟩ := Kd.R_reads hR1
        rw [show (xs.take (i + 1)).length = i + 1 by rw [List.length_take, HN.out]; omega] at hR1 ⊢
        have HR1 := Aside0.mk hR1
        have HB1 := Aside0.mk hb1
        clear hR1 hb1 hg1 hat1
        go_wp2
        go_roundw
        case rel => exact ⟨i + 1, A1, c1, by omega, by go_num, rfl, HR1, HB1, ⟨less_succ HA.out (by rw [← HX.out]; exact HBB.out)⟩⟩
        case measure => simp [intOf]; omega
      | false =>
        obtain ⟨b2, hb2⟩ : ∃ b2, eqA x a = b2 := ⟨_, rfl⟩
        have HB2 := Aside0.mk hb2
        clear hb2
        go_upto_region 6 with fail
        refine wp_region_later (by kernel_rfl) (by kernel_rfl) ?_
        repeat (first
          | go_big_quiet_skip
          | (refine quiet_load_at 24 (.tmp 36) rfl rfl (ad.add (i * 2)) [.int .u64 x.f0, .int .u64 x.f1] _ rfl (later_cells HCX.out) Try.underlying24 rfl (by kernel_rfl) ?_; go_frame)
          | (refine quiet_load_row 24 (.tmp 3) rfl rfl _ #[.int .u64 a.f0, .int .u64 a.f1] 24 (0, 0) _ rfl (later_blk (S.out.get 0 rfl)) Try.underlying24 rfl (by kernel_rfl) ?_; go_frame)
          | (refine q_eql24 rfl _ _ _ rfl x a rfl rfl ?_; rw [HB2.out]; go_frame)
          | go_big_quiet_step (fail)
          | fail)
        refine wpQuiet_nil ?_
        intro w6 hw6
        replace HR5 := Aside0.mk (Kd.R_below HR5.out (later_below hw6))
        replace HB5 := Aside0.mk (below_then HB5.out HB5.out.size (later_below hw6))
        replace S := Aside0.mk (S.out.call (later_below hw6))
        clear hw6
        cases b2 with
        | true =>
          go_wp2
          go_ret
          rw [addA_eq HA.out (by rw [HN.out]; exact hlt) (by rw [← HX.out]; exact HBB.out) (by rw [← HX.out]; exact HB2.out)]
          exact ⟨some ad, cap, by rw [HN.out]; rfl, by rw [HN.out]; exact hcap, by rw [HN.out]; exact Kd.C_below HC.out S.out.below, S.out.below⟩
        | false =>
          have HADD := Aside0.mk (addA_ne HA.out (by rw [HN.out]; exact hlt) (by rw [← HX.out]; exact HBB.out) (by rw [← HX.out]; exact HB2.out))
          clear HCX
          go_wp2_with (first
            | (refine gate_ (.load 24 (.tmp 3)) rfl ?_; refine wpList_load_row rfl 24 _ rfl _ rfl 24 #[.int .u64 a.f0, .int .u64 a.f1] (0, 0) _ (S.out.get 0 rfl) Try.underlying24 rfl (by kernel_rfl) ?_)
            | (at_builtin; refine Aside0.out ?_)
            | fail)
          refine Aside0.mk ?_
          refine Kd.R_append k24 (w0 := W0) W0.heap.size rfl (.tmp 42) (.tmp 44) 68 24 (.agg #[.int .u64 0, .int .u64 0]) 16 rfl Try.underlying68 info24 rfl (by decide) (by omega) (.slice A' i c') (xs.take i) a [.int .u64 a.f0, .int .u64 a.f1] (fun _ => True) (fun _ => False) rfl rfl (k24_mkM _ _ _ a) (fun _ hk => hk.elim) (fun k hk => trivial) HR5.out HB5.out HB5.out.size (by rw [List.length_take]; omega) ?_
          intro v1 w1 hR1 hb1 hg1 hat1
          obtain ⟨A1, c1, rfl, -, -⟩ := Kd.R_reads hR1
          have hl1 : (xs.take i ++ [a]).length = i + 1 := by rw [List.length_append, List.length_take, HN.out, Nat.min_eq_left (by omega)]; rfl
          rw [hl1] at hR1 ⊢
          have HR1 := Aside0.mk hR1
          have HB1 := Aside0.mk hb1
          have HL1 := Aside0.mk hl1
          replace S := Aside0.mk (S0.out.call hb1)
          clear hR1 hb1 hg1 hat1 hl1
          have HCD := Aside0.mk (Kd.C_drop (c := cap) (m := i) (by rw [HN.out]; exact Kd.C_below HC.out S.out.below) (by rw [HN.out]; omega) (by rw [HN.out]; exact hcap))
          go_wp2_with (first
            | (at_builtin; refine mark_ ?_)
            | fail)
          all_goals try (go_wp2_with (first
            | (at_builtin; refine mark_ ?_)
            | fail))
          all_goals unfold Marked
          all_goals refine Kd.R_append_rows k24 (w0 := W0) (Rr := k24.K w1) W0.heap.size rfl (.tmp 46) (.tmp 49) 68 24 (.agg #[.int .u64 0, .int .u64 0]) 16 rfl Try.underlying68 info24 rfl (by decide) (by omega) (.slice A1 (i + 1) c1) (xs.take i ++ [a]) (xs.drop i) _ _ _ (fun _ => True) (fun _ => False) rfl rfl HR1.out (by
            have h9 := HCD.out
            rw [List.length_drop, HN.out] at h9
            try rw [Nat.sub_self] at h9
            first
              | (rw [if_pos (by assumption)] at h9; exact h9)
              | (rw [if_neg (by omega)] at h9; exact h9)
              | (trace_state; fail)) (fun x cs hk => by rw [k24_open hk]; exact k24_mkM _ _ _ x) (fun _ hk => hk.elim) (fun k hk => trivial) HB1.out HB1.out.size (by rw [HL1.out]; omega) ?_
          all_goals intro v2 w2 hR2 hb2 hg2 hat2
          all_goals rw [← HADD.out] at hR2
          all_goals obtain ⟨A3, c3, rfl, hc3, hC3⟩ := Kd.R_reads hR2
          all_goals replace S := Aside0.mk (S0.out.call hb2)
          all_goals have HC3 := Aside0.mk hC3
          all_goals clear hR2 hb2 hg2 hat2 hC3
          all_goals go_wp2
          all_goals go_ret
          all_goals exact ⟨A3, c3, rfl, hc3, HC3.out, S.out.below⟩
    · obtain rfl : i = n := by omega
      have HADD := Aside0.mk (show addA xs a = xs.take i ++ [a] ++ xs.drop i by rw [addA_end (by rw [HN.out]; exact HA.out), ← HN.out, List.take_length, List.drop_length, List.append_nil])
      go_upto_region 3 with fail
      refine wp_region_later (by kernel_rfl) (by kernel_rfl) ?_
      repeat (first
        | go_big_quiet_skip
        | go_big_quiet_step (fail)
        | fail)
      refine wpQuiet_nil ?_
      intro w3 hw3
      have HR5 := Aside0.mk (Kd.R_below HR.out (later_below hw3))
      have HB5 := Aside0.mk (below_then HB.out HB.out.size (later_below hw3))
      replace S := Aside0.mk (S.out.call (later_below hw3))
      clear hw3
      go_upto_region 6 with fail
      refine wp_region_later (by kernel_rfl) (by kernel_rfl) ?_
      repeat (first
        | go_big_quiet_skip
        | go_big_quiet_step (fail)
        | fail)
      refine wpQuiet_nil ?_
      intro w6 hw6
      replace HR5 := Aside0.mk (Kd.R_below HR5.out (later_below hw6))
      replace HB5 := Aside0.mk (below_then HB5.out HB5.out.size (later_below hw6))
      replace S := Aside0.mk (S.out.call (later_below hw6))
      clear hw6
      go_wp2_with (first
        | (refine gate_ (.load 24 (.tmp 3)) rfl ?_; refine wpList_load_row rfl 24 _ rfl _ rfl 24 #[.int .u64 a.f0, .int .u64 a.f1] (0, 0) _ (S.out.get 0 rfl) Try.underlying24 rfl (by kernel_rfl) ?_)
        | (at_builtin; refine Aside0.out ?_)
        | fail)
      refine Aside0.mk ?_
      refine Kd.R_append k24 (w0 := W0) W0.heap.size rfl (.tmp 42) (.tmp 44) 68 24 (.agg #[.int .u64 0, .int .u64 0]) 16 rfl Try.underlying68 info24 rfl (by decide) (by omega) (.slice A' i c') (xs.take i) a [.int .u64 a.f0, .int .u64 a.f1] (fun _ => True) (fun _ => False) rfl rfl (k24_mkM _ _ _ a) (fun _ hk => hk.elim) (fun k hk => trivial) HR5.out HB5.out HB5.out.size (by rw [List.length_take]; omega) ?_
      intro v1 w1 hR1 hb1 hg1 hat1
      obtain ⟨A1, c1, rfl, -, -⟩ := Kd.R_reads hR1
      have hl1 : (xs.take i ++ [a]).length = i + 1 := by rw [List.length_append, List.length_take, HN.out, Nat.min_eq_left (by omega)]; rfl
      rw [hl1] at hR1 ⊢
      have HR1 := Aside0.mk hR1
      have HB1 := Aside0.mk hb1
      have HL1 := Aside0.mk hl1
      replace S := Aside0.mk (S0.out.call hb1)
      clear hR1 hb1 hg1 hat1 hl1
      have HCD := Aside0.mk (Kd.C_drop (c := cap) (m := i) (by rw [HN.out]; exact Kd.C_below HC.out S.out.below) (by rw [HN.out]; omega) (by rw [HN.out]; exact hcap))
      go_wp2_with (first
        | (at_builtin; refine mark_ ?_)
        | fail)
      all_goals try (go_wp2_with (first
        | (at_builtin; refine mark_ ?_)
        | fail))
      all_goals unfold Marked
      all_goals refine Kd.R_append_rows k24 (w0 := W0) (Rr := k24.K w1) W0.heap.size rfl (.tmp 46) (.tmp 49) 68 24 (.agg #[.int .u64 0, .int .u64 0]) 16 rfl Try.underlying68 info24 rfl (by decide) (by omega) (.slice A1 (i + 1) c1) (xs.take i ++ [a]) (xs.drop i) _ _ _ (fun _ => True) (fun _ => False) rfl rfl HR1.out (by
        have h9 := HCD.out
        rw [List.length_drop, HN.out] at h9
        try rw [Nat.sub_self] at h9
        first
          | (rw [if_pos (by assumption)] at h9; exact h9)
          | (rw [if_neg (by omega)] at h9; exact h9)
          | (trace_state; fail)) (fun x cs hk => by rw [k24_open hk]; exact k24_mkM _ _ _ x) (fun _ hk => hk.elim) (fun k hk => trivial) HB1.out HB1.out.size (by rw [HL1.out]; omega) ?_
      all_goals intro v2 w2 hR2 hb2 hg2 hat2
      all_goals rw [← HADD.out] at hR2
      all_goals obtain ⟨A3, c3, rfl, hc3, hC3⟩ := Kd.R_reads hR2
      all_goals replace S := Aside0.mk (S0.out.call hb2)
      all_goals have HC3 := Aside0.mk hC3
      all_goals clear hR2 hb2 hg2 hat2 hC3
      all_goals go_wp2
      all_goals go_ret
      all_goals exact ⟨A3, c3, rfl, hc3, HC3.out, S.out.below⟩
end Go.Proofs.Ytcgcognejjpcmaa
