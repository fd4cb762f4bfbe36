/- The maker of a plan: the source. -/
import Derived.Test.YtgppfpfdoooijaaMaker2
namespace Go.Proofs.Ytgppfpfdoooijaa
open Go.RowKit Go.Proofs.YtgppfpfdoooijaaW.PrintWords
set_option linter.unusedVariables false
set_option linter.unusedSimpArgs false
attribute [local go_sem] Later.cell_eq


theorem ported16_6 {p : Int} (h : (p == 6) = true) : ported16 p = true := by unfold ported16; rw [h]; rfl
theorem ported16_17 {p : Int} (h : (p == 17) = true) : ported16 p = true := by unfold ported16; rw [h, Bool.or_true]; rfl
theorem ported16_ic {p : Int} (h : (p == 6) = false) (k : (p == 17) = false) : ported16 p = icmpB p := by unfold ported16; rw [h, k]; rfl
theorem lk_same {m : MS} {u : S51} (h : m.lk = false) : { m with U := u, lk := false } = { m with U := u } := by
  cases m
  simp only at h
  subst h
  rfl
theorem cells_field {w : World} {ad : Addr} {k : Nat} {x y z u : Value} (h : CellsAt w (ad.add (k * k54.sz)) [x, y, z, u]) : CellsAt w ⟨(ad.add (k * 4)).block, (ad.add (k * 4)).off + 1, none⟩ [y, z] := by
  have h' : CellsAt w (ad.add (k * 4)) [x, y, z, u] := h
  intro j v hj
  have h1 := h' (j + 1) v (by
    rcases j with _ | _ | j
    · exact hj
    · exact hj
    · cases hj)
  rw [addr_add, add_field ad (k * 4) (j + 1) (by omega)] at h1
  rw [Addr.add_mid, Nat.add_assoc, Nat.add_comm 1 j]
  exact h1
/-- Behind source. -/
def sourceM (c : S36) (m : MS) : MS :=
  if 0 ≤ sourceF c m.zn m.J then
    { m with U := ⟨m.J.f0, (c.f5.getD (sourceF c m.zn m.J).toNat z56).f4, m.J.f2, m.J.f3, m.J.f4⟩, lk := (c.f5.getD (sourceF c m.zn m.J).toNat z56).f0 == 1 && ported16 m.O.f0, fr := (c.f5.getD (sourceF c m.zn m.J).toNat z56).f6, tt := (c.f5.getD (sourceF c m.zn m.J).toNat z56).f7 }
  else if (m.cl && m.zn == m.inn && is4F (c.f0.getD m.zn.toNat z54).f1 == is4F m.O.f1) = true then
    { m with U := ⟨m.J.f0, (c.f0.getD m.zn.toNat z54).f1, m.J.f2, m.J.f3, m.J.f4⟩, lk := ported16 m.O.f0, fr := 1024, tt := 65535 }
  else { m with U := m.J }
theorem sourceF_lt (c : S36) (z : Int) (k : S51) {i : Nat} (h : (i : Int) = sourceF c z k) : i < c.f5.length := by
  have := (idxF_range (srcB c z k) c.f5).2
  unfold sourceF at h
  omega
set_option maxRecDepth 100000 in
set_option maxHeartbeats 8000000 in
theorem msource_any (c : S36) (m : MS) (B : Nat) (W0 w : World) (hK : k36.K W0 c [m.v0, m.v1, m.v2, m.v3, m.v4, m.v5, m.v6, m.v7]) (hS : St W0 [(B, .cells (mkA m) 107 (0, 0))] w) (hB0 : W0.heap.size ≤ B) (hlk : m.lk = false) (hz0 : 0 ≤ m.zn) (hz1 : m.zn < c.f0.length) :
    Calls Try.prog 52 #[.pointer (some ⟨B, 0, none⟩)] w fun e w' => e = .returned (.int .i64 0) ∧ St W0 [(B, .cells (mkA (sourceM c m)) 107 (0, 0))] w' := by
  have S := Aside0.mk hS
  have hB := Aside0.mk hB0
  have hBl : B < w.heap.size := blk_lt (hS.get 0 rfl)
  have HLK := Aside0.mk hlk
  obtain ⟨i, hi⟩ : ∃ i, i = sourceF c m.zn m.J := ⟨_, rfl⟩
  obtain ⟨ic, hic⟩ : ∃ ic, icmpB m.O.f0 = ic := ⟨_, rfl⟩
  have HIC := Aside0.mk hic
  have HI := Aside0.mk (fun W => show Calls Try.prog 77 #[.int .i64 m.O.f0] W (fun e w' => e = .returned (.bool ic) ∧ W = w') by rw [← hic]; exact icmp_any m.O.f0 W)
  have HD := Aside0.mk (fun W (hW : Below W0.heap.size W0 W) => show Calls Try.prog 23 #[.agg #[m.v0, m.v1, m.v2, m.v3, m.v4, m.v5, m.v6, m.v7], .int .i64 m.zn, .agg #[.int .i64 m.J.f0, .int .u64 m.J.f1.f0, .int .u64 m.J.f1.f1, .int .u64 m.J.f2.f0, .int .u64 m.J.f2.f1, .int .i64 m.J.f3, .int .i64 m.J.f4]] W (fun e w' => e = .returned (.int .i64 i) ∧ Below W.heap.size W w') by rw [hi]; exact source_any c _ m.zn m.J W (k36.K_below hW hK))
  obtain ⟨A0, c0, A1, c1, A2, c2, A3, c3, A4, c4, A5, c5, A6, c6, hcs, l0, g0, l1, g1, l2, g2, l3, g3, l4, g4, l5, g5, l6, g6⟩ := k36_open hK
  have HV0 := Aside0.mk (show m.v0 = .slice A0 c.f0.length c0 by injection hcs)
  have HV5 := Aside0.mk (show m.v5 = .slice A5 c.f5.length c5 by injection hcs with _ h; injection h with _ h; injection h with _ h; injection h with _ h; injection h with _ h; injection h)
  have hmax0 : c.f0.length ≤ 9223372036854775807 := Kd.C_max g0
  have hmax5 : c.f5.length ≤ 9223372036854775807 := Kd.C_max g5
  have HG0 := Aside0.mk g0
  have HG5 := Aside0.mk g5
  have HID := Aside0.mk hi
  clear hS hi hic hK hB0 hlk hcs g0 g1 g2 g3 g4 g5 g6 l0 l1 l2 l3 l4 l5 l6
  go_enter Try.func52, Try.ntmps52
  go_upto_region 2 with (first
    | (refine gate_ (.load 51 (.tmp 10)) rfl ?_; (first | refine gate_none rfl ?_ | refine gate_if rfl rfl rfl ?_); refine wpList_load_blk rfl 51 _ rfl _ _ 7 [.int .i64 m.J.f0, .int .u64 m.J.f1.f0, .int .u64 m.J.f1.f1, .int .u64 m.J.f2.f0, .int .u64 m.J.f2.f1, .int .i64 m.J.f3, .int .i64 m.J.f4] (mkA m) 107 (0, 0) _ rfl (S.out.get 0 rfl) rfl Try.underlying51 rfl (by kernel_rfl) ?_)
    | (refine gate_ (.store 51 (.tmp 14) (.tmp 11)) rfl ?_; refine wpList_store_blk rfl 51 _ _ rfl B 24 #[.int .i64 m.J.f0, .int .u64 m.J.f1.f0, .int .u64 m.J.f1.f1, .int .u64 m.J.f2.f0, .int .u64 m.J.f2.f1, .int .i64 m.J.f3, .int .i64 m.J.f4] _ 107 rfl rfl (S.out.get 0 rfl) (Nat.le_of_ble_eq_true rfl) (by kernel_rfl) (by simp [Value.oneCell']) ?_; intro w3 hb3 hg3 hz3; replace S := Aside0.mk (S.out.set_ 0 hg3 (blk_eq (b := mkA ({ m with U := m.J })) hb3 (by kernel_rfl)) hB.out (hne1)); clear hb3 hg3 hz3)
    | fail)
  go_frame
  refine wp_region_later (by kernel_rfl) (by kernel_rfl) ?_
  have S2 := S
  repeat (first
    | go_big_quiet_skip
    | (refine quiet_load_blk 36 (.tmp 17) rfl rfl _ _ 8 [m.v0, m.v1, m.v2, m.v3, m.v4, m.v5, m.v6, m.v7] (mkA ({ m with U := m.J })) 107 (0, 0) _ rfl (later_blk (S2.out.get 0 rfl)) rfl Try.underlying36 rfl (by kernel_rfl) ?_; go_frame)
    | (refine quiet_load_one 3 (.tmp 22) rfl rfl _ _ (.int .i64 m.zn) (mkA ({ m with U := m.J })) 107 (0, 0) _ rfl (later_blk (S2.out.get 0 rfl)) rfl Try.underlying3 rfl ?_; go_frame)
    | (refine quiet_load_blk 51 (.tmp 27) rfl rfl _ _ 7 [.int .i64 m.J.f0, .int .u64 m.J.f1.f0, .int .u64 m.J.f1.f1, .int .u64 m.J.f2.f0, .int .u64 m.J.f2.f1, .int .i64 m.J.f3, .int .i64 m.J.f4] (mkA ({ m with U := m.J })) 107 (0, 0) _ rfl (later_blk (S2.out.get 0 rfl)) rfl Try.underlying51 rfl (by kernel_rfl) ?_; go_frame)
    | go_big_quiet_step ((go_at_call 23; with_reducible exact later_of (HD.out _ (below_then S2.out.below S2.out.below.size (Later.below _)))))
    | fail)
  refine wpQuiet_nil ?_
  intro w7 hw7
  replace S := Aside0.mk (S.out.call (later_below hw7))
  clear hw7 S2
  by_cases h0 : 0 ≤ i
  · obtain ⟨k, rfl⟩ := Int.eq_ofNat_of_zero_le h0
    have hk : k < c.f5.length := sourceF_lt c _ _ HID.out
    obtain ⟨ad, ncs, rfl, hKn, hcc⟩ := elem_at HG5.out z56 k hk
    obtain ⟨n, hn⟩ : ∃ n, n = c.f5.getD k z56 := ⟨_, rfl⟩
    rw [← hn] at hKn
    obtain rfl := k56_open hKn
    have HCE := Aside0.mk hcc
    have HM := Aside0.mk (show sourceM c m = { m with U := ⟨m.J.f0, n.f4, m.J.f2, m.J.f3, m.J.f4⟩, lk := n.f0 == 1 && ported16 m.O.f0, fr := n.f6, tt := n.f7 } by unfold sourceM; rw [← HID.out, if_pos h0, Int.toNat_natCast, ← hn])
    have HT := Aside0.mk (show (mkA { m with U := m.J })[5]? = some (.slice (some ad) c.f5.length c5) from (show (mkA { m with U := m.J })[5]? = some m.v5 from rfl).trans (by rw [HV5.out]))
    clear hKn hcc hn
    go_upto_region 6 with (first
      | (refine gate_ (.load 33 (.tmp 36)) rfl ?_; refine wpList_load_one 33 _ rfl rfl _ _ (.slice (some ad) c.f5.length c5) (mkA { m with U := m.J }) 107 (0, 0) _ rfl (S.out.get 0 rfl) HT.out Try.underlying33 rfl ?_)
      | (refine gate_ (.load 56 (.tmp 39)) rfl ?_; refine wpList_load_at rfl 56 _ rfl (ad.add (k * 10)) [.int .i64 n.f0, .string n.f1, .string n.f2, .string n.f3, .int .u64 n.f4.f0, .int .u64 n.f4.f1, .int .u64 n.f5.f0, .int .u64 n.f5.f1, .int .i64 n.f6, .int .i64 n.f7] _ rfl (HCE.out.below S.out.below) Try.underlying56 rfl (by kernel_rfl) ?_)
      | (refine gate_ (.store 56 (.tmp 4) (.tmp 40)) rfl ?_; refine wpList_store_all rfl 56 _ _ rfl _ #[.int .i64 n.f0, .string n.f1, .string n.f2, .string n.f3, .int .u64 n.f4.f0, .int .u64 n.f4.f1, .int .u64 n.f5.f0, .int .u64 n.f5.f1, .int .i64 n.f6, .int .i64 n.f7] _ _ rfl rfl (heap_alloc_new _ _) rfl (by kernel_rfl) (by simp [Value.oneCell']) ?_; intro w3 hb3 hg3 hz3; have hgB := Aside0.mk (show w7.heap.size ≠ B from fun e => Nat.lt_irrefl _ (e ▸ blk_lt (S.out.get 0 rfl))); replace S := Aside0.mk (S.out.made hg3 hb3); clear hb3 hg3 hz3)
      | (refine gate_ (.load 39 (.tmp 42)) rfl ?_; refine wpList_load_blk rfl 39 _ rfl _ _ 2 [.int .u64 n.f4.f0, .int .u64 n.f4.f1] _ _ _ _ rfl (S.out.get 1 rfl) rfl Try.underlying39 rfl (by kernel_rfl) ?_)
      | (refine gate_ (.store 39 (.tmp 47) (.tmp 43)) rfl ?_; refine wpList_store_blk rfl 39 _ _ rfl B 25 #[.int .u64 n.f4.f0, .int .u64 n.f4.f1] _ 107 rfl rfl (S.out.get 0 rfl) (Nat.le_of_ble_eq_true rfl) (by kernel_rfl) (by simp [Value.oneCell']) ?_; intro w3 hb3 hg3 hz3; replace S := Aside0.mk (S.out.set_ 0 hg3 (blk_eq (b := mkA ({ m with U := ⟨m.J.f0, n.f4, m.J.f2, m.J.f3, m.J.f4⟩ })) hb3 (by kernel_rfl)) hB.out (hne2 hgB.out)); clear hb3 hg3 hz3)
      | fail)
    go_frame
    refine Rg.plain [18, 15, 12] (fun L w' => St W0 [(B, .cells (mkA { m with U := ⟨m.J.f0, n.f4, m.J.f2, m.J.f3, m.J.f4⟩, lk := if L 12 = true then n.f0 == 1 else m.lk, fr := if L 15 = true then n.f6 else m.fr, tt := if L 18 = true then n.f7 else m.tt }) 107 (0, 0)), (w7.heap.size, .cells #[.int .i64 n.f0, .string n.f1, .string n.f2, .string n.f3, .int .u64 n.f4.f0, .int .u64 n.f4.f1, .int .u64 n.f5.f0, .int .u64 n.f5.f1, .int .i64 n.f6, .int .i64 n.f7] 56 (0, 0))] w') (by kernel_rfl) (by kernel_rfl) (by kernel_rfl) (by kernel_rfl) ?_ ?_ ?_ ?_
    · exact S.out.drew
    · intro L w' w'' h hb
      exact h.call hb
    · intro L j w' hj hn h
      simp only [List.mem_cons, List.not_mem_nil, or_false, not_or] at hn
      rw [Rg.upd_ne (fun e => hn.1 e.symm), Rg.upd_ne (fun e => hn.2.1 e.symm), Rg.upd_ne (fun e => hn.2.2 e.symm)]
      exact h
    · apply Exists.intro
      refine ⟨?_, ?_, ?_⟩
      · intro L w' h
        have S2 := Aside0.mk h
        clear h
        simp only [Rg.cutOut, List.eraseIdx_cons_succ, List.eraseIdx_cons_zero]
        repeat (first
          | go_big_quiet_skip
          | (refine quiet_load_one 3 (.tmp 51) rfl rfl _ _ (.int .i64 n.f0) _ 56 (0, 0) _ rfl (later_blk (S2.out.get 1 rfl)) rfl Try.underlying3 rfl ?_; go_frame)
          | (refine quiet_load_one 3 (.tmp 54) rfl rfl _ _ (.int .i64 n.f6) _ 56 (0, 0) _ rfl (later_blk (S2.out.get 1 rfl)) rfl Try.underlying3 rfl ?_; go_frame)
          | (refine quiet_load_one 3 (.tmp 56) rfl rfl _ _ (.int .i64 n.f7) _ 56 (0, 0) _ rfl (later_blk (S2.out.get 1 rfl)) rfl Try.underlying3 rfl ?_; go_frame)
          | go_big_quiet_step (fail)
          | fail)
        exact wpQuiet_nil rfl
      · intro j hj L w' h hw hL
        simp only [List.mem_cons, List.not_mem_nil, or_false] at hj
        rcases hj with rfl | rfl | rfl
        · refine ⟨_, rfl, ?_⟩
          refine wpList_store_blk rfl 3 _ _ rfl B 50 #[.int .i64 n.f7] _ 107 rfl rfl (h.get 0 rfl) (Nat.le_of_ble_eq_true rfl) (by kernel_rfl) (by simp [Value.oneCell']) ?_
          intro w1 hb hg hz
          exact ⟨rfl, h.set_ 0 hg hb hB.out (hne2 hgB.out)⟩
        · refine ⟨_, rfl, ?_⟩
          refine wpList_store_blk rfl 3 _ _ rfl B 49 #[.int .i64 n.f6] _ 107 rfl rfl (h.get 0 rfl) (Nat.le_of_ble_eq_true rfl) (by kernel_rfl) (by simp [Value.oneCell']) ?_
          intro w1 hb hg hz
          exact ⟨rfl, h.set_ 0 hg hb hB.out (hne2 hgB.out)⟩
        · refine ⟨_, rfl, ?_⟩
          refine wpList_store_blk rfl 4 _ _ rfl B 48 #[.bool (n.f0 == 1)] _ 107 rfl rfl (h.get 0 rfl) (Nat.le_of_ble_eq_true rfl) (by kernel_rfl) (by simp [Value.oneCell']) ?_
          intro w1 hb hg hz
          exact ⟨rfl, h.set_ 0 hg hb hB.out (hne2 hgB.out)⟩
      · intro L w5 h hall
        rw [if_pos (hall 12 (by decide)), if_pos (hall 15 (by decide)), if_pos (hall 18 (by decide))] at h
        replace S := Aside0.mk h
        clear h hall
        cases h1 : n.f0 == 1 with
        | false =>
          have H1 := Aside0.mk h1
          rw [h1] at S
          go_wp2_with (first
            | (refine gate_ (.load 3 (.tmp 134)) rfl ?_; refine wpList_load_one 3 _ rfl rfl _ _ (.int .i64 m.O.f0) (mkA ({ m with U := ⟨m.J.f0, n.f4, m.J.f2, m.J.f3, m.J.f4⟩, lk := false, fr := n.f6, tt := n.f7 })) 107 (0, 0) _ rfl (S.out.get 0 rfl) rfl Try.underlying3 rfl ?_)
            | (refine gate_ (.load 4 (.tmp 139)) rfl ?_; refine wpList_load_one 4 _ rfl rfl _ _ (.bool false) (mkA ({ m with U := ⟨m.J.f0, n.f4, m.J.f2, m.J.f3, m.J.f4⟩, lk := false, fr := n.f6, tt := n.f7 })) 107 (0, 0) _ rfl (S.out.get 0 rfl) rfl Try.underlying4 rfl ?_)
            | (go_at_call 77; (with_reducible refine (HI.out _).mono ?_); rintro e w9 ⟨rfl, rfl⟩)
            | (refine gate_ (.store 4 (.tmp 154) (.tmp 152)) rfl ?_; refine wpList_store_blk rfl 4 _ _ rfl B 48 #[.bool false] _ 107 rfl rfl (S.out.get 0 rfl) (Nat.le_of_ble_eq_true rfl) (by kernel_rfl) (by simp [Value.oneCell']) ?_; intro w3 hb3 hg3 hz3; replace S := Aside0.mk (S.out.set_ 0 hg3 (blk_eq (b := mkA ({ m with U := ⟨m.J.f0, n.f4, m.J.f2, m.J.f3, m.J.f4⟩, lk := false, fr := n.f6, tt := n.f7 })) hb3 (by kernel_rfl)) hB.out (hne2 hgB.out)); clear hb3 hg3 hz3)
            | fail)
          go_ret
          exact ⟨rfl, by rw [HM.out, H1.out]; exact S.out.erase 1⟩
        | true =>
          have H1 := Aside0.mk h1
          rw [h1] at S
          cases h6 : m.O.f0 == 6 with
          | true =>
            have H6 := Aside0.mk h6
            go_wp2_with (first
              | (refine gate_ (.load 3 (.tmp 134)) rfl ?_; refine wpList_load_one 3 _ rfl rfl _ _ (.int .i64 m.O.f0) (mkA ({ m with U := ⟨m.J.f0, n.f4, m.J.f2, m.J.f3, m.J.f4⟩, lk := true, fr := n.f6, tt := n.f7 })) 107 (0, 0) _ rfl (S.out.get 0 rfl) rfl Try.underlying3 rfl ?_)
              | (refine gate_ (.load 4 (.tmp 139)) rfl ?_; refine wpList_load_one 4 _ rfl rfl _ _ (.bool true) (mkA ({ m with U := ⟨m.J.f0, n.f4, m.J.f2, m.J.f3, m.J.f4⟩, lk := true, fr := n.f6, tt := n.f7 })) 107 (0, 0) _ rfl (S.out.get 0 rfl) rfl Try.underlying4 rfl ?_)
              | (go_at_call 77; (with_reducible refine (HI.out _).mono ?_); rintro e w9 ⟨rfl, rfl⟩)
              | (refine gate_ (.store 4 (.tmp 154) (.tmp 152)) rfl ?_; refine wpList_store_blk rfl 4 _ _ rfl B 48 #[.bool true] _ 107 rfl rfl (S.out.get 0 rfl) (Nat.le_of_ble_eq_true rfl) (by kernel_rfl) (by simp [Value.oneCell']) ?_; intro w3 hb3 hg3 hz3; replace S := Aside0.mk (S.out.set_ 0 hg3 (blk_eq (b := mkA ({ m with U := ⟨m.J.f0, n.f4, m.J.f2, m.J.f3, m.J.f4⟩, lk := true, fr := n.f6, tt := n.f7 })) hb3 (by kernel_rfl)) hB.out (hne2 hgB.out)); clear hb3 hg3 hz3)
              | fail)
            go_ret
            exact ⟨rfl, by rw [HM.out, H1.out, Bool.true_and, ported16_6 H6.out]; exact S.out.erase 1⟩
          | false =>
            have H6 := Aside0.mk h6
            cases h17 : m.O.f0 == 17 with
            | true =>
              have H17 := Aside0.mk h17
              go_wp2_with (first
                | (refine gate_ (.load 3 (.tmp 134)) rfl ?_; refine wpList_load_one 3 _ rfl rfl _ _ (.int .i64 m.O.f0) (mkA ({ m with U := ⟨m.J.f0, n.f4, m.J.f2, m.J.f3, m.J.f4⟩, lk := true, fr := n.f6, tt := n.f7 })) 107 (0, 0) _ rfl (S.out.get 0 rfl) rfl Try.underlying3 rfl ?_)
                | (refine gate_ (.load 4 (.tmp 139)) rfl ?_; refine wpList_load_one 4 _ rfl rfl _ _ (.bool true) (mkA ({ m with U := ⟨m.J.f0, n.f4, m.J.f2, m.J.f3, m.J.f4⟩, lk := true, fr := n.f6, tt := n.f7 })) 107 (0, 0) _ rfl (S.out.get 0 rfl) rfl Try.underlying4 rfl ?_)
                | (go_at_call 77; (with_reducible refine (HI.out _).mono ?_); rintro e w9 ⟨rfl, rfl⟩)
                | (refine gate_ (.store 4 (.tmp 154) (.tmp 152)) rfl ?_; refine wpList_store_blk rfl 4 _ _ rfl B 48 #[.bool true] _ 107 rfl rfl (S.out.get 0 rfl) (Nat.le_of_ble_eq_true rfl) (by kernel_rfl) (by simp [Value.oneCell']) ?_; intro w3 hb3 hg3 hz3; replace S := Aside0.mk (S.out.set_ 0 hg3 (blk_eq (b := mkA ({ m with U := ⟨m.J.f0, n.f4, m.J.f2, m.J.f3, m.J.f4⟩, lk := true, fr := n.f6, tt := n.f7 })) hb3 (by kernel_rfl)) hB.out (hne2 hgB.out)); clear hb3 hg3 hz3)
                | fail)
              go_ret
              exact ⟨rfl, by rw [HM.out, H1.out, Bool.true_and, ported16_17 H17.out]; exact S.out.erase 1⟩
            | false =>
              have H17 := Aside0.mk h17
              go_wp2_with (first
                | (refine gate_ (.load 3 (.tmp 134)) rfl ?_; refine wpList_load_one 3 _ rfl rfl _ _ (.int .i64 m.O.f0) (mkA ({ m with U := ⟨m.J.f0, n.f4, m.J.f2, m.J.f3, m.J.f4⟩, lk := true, fr := n.f6, tt := n.f7 })) 107 (0, 0) _ rfl (S.out.get 0 rfl) rfl Try.underlying3 rfl ?_)
                | (refine gate_ (.load 4 (.tmp 139)) rfl ?_; refine wpList_load_one 4 _ rfl rfl _ _ (.bool true) (mkA ({ m with U := ⟨m.J.f0, n.f4, m.J.f2, m.J.f3, m.J.f4⟩, lk := true, fr := n.f6, tt := n.f7 })) 107 (0, 0) _ rfl (S.out.get 0 rfl) rfl Try.underlying4 rfl ?_)
                | (go_at_call 77; (with_reducible refine (HI.out _).mono ?_); rintro e w9 ⟨rfl, rfl⟩)
                | (refine gate_ (.store 4 (.tmp 154) (.tmp 152)) rfl ?_; refine wpList_store_blk rfl 4 _ _ rfl B 48 #[.bool ic] _ 107 rfl rfl (S.out.get 0 rfl) (Nat.le_of_ble_eq_true rfl) (by kernel_rfl) (by simp [Value.oneCell']) ?_; intro w3 hb3 hg3 hz3; replace S := Aside0.mk (S.out.set_ 0 hg3 (blk_eq (b := mkA ({ m with U := ⟨m.J.f0, n.f4, m.J.f2, m.J.f3, m.J.f4⟩, lk := ic, fr := n.f6, tt := n.f7 })) hb3 (by kernel_rfl)) hB.out (hne2 hgB.out)); clear hb3 hg3 hz3)
                | fail)
              go_ret
              exact ⟨rfl, by rw [HM.out, H1.out, Bool.true_and, (ported16_ic H6.out H17.out).trans HIC.out]; exact S.out.erase 1⟩
  · have hdf : decide (0 ≤ i) = false := by simpa using h0
    have HLT := Aside0.mk (show (mkA { m with U := m.J })[48]? = some (.bool false) from (show (mkA { m with U := m.J })[48]? = some (.bool m.lk) from rfl).trans (by rw [HLK.out]))
    have HLS := Aside0.mk (show { m with U := m.J, lk := false } = { m with U := m.J } from lk_same HLK.out)
    obtain ⟨b4, hb4⟩ : ∃ b4, is4F (c.f0.getD m.zn.toNat z54).f1 = b4 := ⟨_, rfl⟩
    obtain ⟨b5, hb5⟩ : ∃ b5, is4F m.O.f1 = b5 := ⟨_, rfl⟩
    have H5 := Aside0.mk (fun W => show Calls Try.prog 41 #[.agg #[.int .u64 m.O.f1.f0, .int .u64 m.O.f1.f1]] W (fun e w' => e = .returned (.bool b5) ∧ Below W.heap.size W w') by rw [← hb5]; exact is4_any _ _ W)
    have HM := Aside0.mk (show sourceM c m = if (m.cl && m.zn == m.inn && b4 == b5) = true then { m with U := ⟨m.J.f0, (c.f0.getD m.zn.toNat z54).f1, m.J.f2, m.J.f3, m.J.f4⟩, lk := ported16 m.O.f0, fr := 1024, tt := 65535 } else { m with U := m.J } by unfold sourceM; rw [← HID.out, if_neg h0, hb4, hb5])
    have HB4 := Aside0.mk hb4
    clear hb4 hb5
    cases hcl : m.cl with
    | false =>
      have HCL := Aside0.mk (show (mkA { m with U := m.J })[47]? = some (.bool false) from (show (mkA { m with U := m.J })[47]? = some (.bool m.cl) from rfl).trans (by rw [hcl]))
      have HX := Aside0.mk (show sourceM c m = { m with U := m.J } by rw [HM.out, hcl]; rfl)
      clear hcl
      go_wp2
      refine wp_region_later (by kernel_rfl) (by kernel_rfl) ?_
      have S2 := S
      repeat (first
        | go_big_quiet_skip
        | (refine quiet_load_one 4 (.tmp 67) rfl rfl _ _ (.bool false) (mkA { m with U := m.J }) 107 (0, 0) _ rfl (later_blk (S2.out.get 0 rfl)) HCL.out Try.underlying4 rfl ?_; go_frame)
        | go_big_quiet_step (fail)
        | fail)
      refine wpQuiet_nil ?_
      intro w8 hw8
      replace S := Aside0.mk (S.out.call (later_below hw8))
      clear hw8 S2

      go_wp2_with (first
        | (refine gate_ (.load 3 (.tmp 134)) rfl ?_; refine wpList_load_one 3 _ rfl rfl _ _ (.int .i64 m.O.f0) (mkA { m with U := m.J }) 107 (0, 0) _ rfl (S.out.get 0 rfl) rfl Try.underlying3 rfl ?_)
        | (refine gate_ (.load 4 (.tmp 139)) rfl ?_; refine wpList_load_one 4 _ rfl rfl _ _ (.bool false) (mkA { m with U := m.J }) 107 (0, 0) _ rfl (S.out.get 0 rfl) HLT.out Try.underlying4 rfl ?_)
        | (refine gate_ (.store 4 (.tmp 154) (.tmp 152)) rfl ?_; refine wpList_store_blk rfl 4 _ _ rfl B 48 #[.bool false] _ 107 rfl rfl (S.out.get 0 rfl) (Nat.le_of_ble_eq_true rfl) (by kernel_rfl) (by simp [Value.oneCell']) ?_; intro w3 hb3 hg3 hz3; replace S := Aside0.mk (S.out.set_ 0 hg3 (blk_eq (b := mkA ({ m with U := m.J, lk := false })) hb3 (by kernel_rfl)) hB.out (hne1)); clear hb3 hg3 hz3)
        | fail)
      go_ret
      exact ⟨rfl, by rw [HX.out, ← HLS.out]; exact S.out⟩
    | true =>
      have HCL := Aside0.mk (show (mkA { m with U := m.J })[47]? = some (.bool true) from (show (mkA { m with U := m.J })[47]? = some (.bool m.cl) from rfl).trans (by rw [hcl]))
      cases hzi : m.zn == m.inn with
      | false =>
        have HX := Aside0.mk (show sourceM c m = { m with U := m.J } by rw [HM.out, hcl, hzi]; rfl)
        clear hcl
        go_wp2
        refine wp_region_later (by kernel_rfl) (by kernel_rfl) ?_
        have S2 := S
        repeat (first
          | go_big_quiet_skip
          | (refine quiet_load_one 4 (.tmp 67) rfl rfl _ _ (.bool true) (mkA { m with U := m.J }) 107 (0, 0) _ rfl (later_blk (S2.out.get 0 rfl)) HCL.out Try.underlying4 rfl ?_; go_frame)
          | (refine quiet_load_one 3 (.tmp 73) rfl rfl _ _ (.int .i64 m.zn) (mkA { m with U := m.J }) 107 (0, 0) _ rfl (later_blk (S2.out.get 0 rfl)) rfl Try.underlying3 rfl ?_; go_frame)
          | (refine quiet_load_one 3 (.tmp 77) rfl rfl _ _ (.int .i64 m.inn) (mkA { m with U := m.J }) 107 (0, 0) _ rfl (later_blk (S2.out.get 0 rfl)) rfl Try.underlying3 rfl ?_; go_frame)
          | go_big_quiet_step (fail)
          | fail)
        refine wpQuiet_nil ?_
        intro w8 hw8
        replace S := Aside0.mk (S.out.call (later_below hw8))
        clear hw8 S2

        go_wp2_with (first
          | (refine gate_ (.load 3 (.tmp 134)) rfl ?_; refine wpList_load_one 3 _ rfl rfl _ _ (.int .i64 m.O.f0) (mkA { m with U := m.J }) 107 (0, 0) _ rfl (S.out.get 0 rfl) rfl Try.underlying3 rfl ?_)
          | (refine gate_ (.load 4 (.tmp 139)) rfl ?_; refine wpList_load_one 4 _ rfl rfl _ _ (.bool false) (mkA { m with U := m.J }) 107 (0, 0) _ rfl (S.out.get 0 rfl) HLT.out Try.underlying4 rfl ?_)
          | (refine gate_ (.store 4 (.tmp 154) (.tmp 152)) rfl ?_; refine wpList_store_blk rfl 4 _ _ rfl B 48 #[.bool false] _ 107 rfl rfl (S.out.get 0 rfl) (Nat.le_of_ble_eq_true rfl) (by kernel_rfl) (by simp [Value.oneCell']) ?_; intro w3 hb3 hg3 hz3; replace S := Aside0.mk (S.out.set_ 0 hg3 (blk_eq (b := mkA ({ m with U := m.J, lk := false })) hb3 (by kernel_rfl)) hB.out (hne1)); clear hb3 hg3 hz3)
          | fail)
        go_ret
        exact ⟨rfl, by rw [HX.out, ← HLS.out]; exact S.out⟩
      | true =>
        obtain ⟨k, hk⟩ := Int.eq_ofNat_of_zero_le hz0
        have hzn : m.zn = m.inn := by simpa using hzi
        have hki : m.inn = (k : Int) := by rw [← hzn]; exact hk
        have hk0 : k < c.f0.length := by omega
        obtain ⟨ad, ncs, rfl, hKn, hcc⟩ := elem_at HG0.out z54 k hk0
        obtain ⟨n, hn⟩ : ∃ n, n = c.f0.getD k z54 := ⟨_, rfl⟩
        rw [← hn] at hKn
        obtain ⟨A3, c3, rfl, _, _⟩ := k54_open hKn
        have HCE := Aside0.mk (cells_field hcc)
        have HNZ := Aside0.mk (show c.f0.getD m.zn.toNat z54 = n by rw [hk, Int.toNat_natCast, hn])
        have H4 := Aside0.mk (fun W => show Calls Try.prog 41 #[.agg #[.int .u64 n.f1.f0, .int .u64 n.f1.f1]] W (fun e w' => e = .returned (.bool b4) ∧ Below W.heap.size W w') by rw [← HB4.out, HNZ.out]; exact is4_any _ _ W)
        have HT0 := Aside0.mk (show (mkA { m with U := m.J })[0]? = some (.slice (some ad) c.f0.length c0) from (show (mkA { m with U := m.J })[0]? = some m.v0 from rfl).trans (by rw [HV0.out]))
        have HTZ := Aside0.mk (show (mkA { m with U := m.J })[46]? = some (.int .i64 (k : Int)) from (show (mkA { m with U := m.J })[46]? = some (.int .i64 m.zn) from rfl).trans (by rw [hk]))
        have HTI := Aside0.mk (show (mkA { m with U := m.J })[8]? = some (.int .i64 (k : Int)) from (show (mkA { m with U := m.J })[8]? = some (.int .i64 m.inn) from rfl).trans (by rw [hki]))
        have HX := Aside0.mk (show sourceM c m = if (b4 == b5) = true then { m with U := ⟨m.J.f0, n.f1, m.J.f2, m.J.f3, m.J.f4⟩, lk := ported16 m.O.f0, fr := 1024, tt := 65535 } else { m with U := m.J } by rw [HM.out, hcl, hzi, HNZ.out]; rfl)
        have HKI := Aside0.mk hki
        clear hKn hcc hn hcl hzi hzn hki hk hz0 hz1
        go_wp2
        refine wp_region_later (by kernel_rfl) (by kernel_rfl) ?_
        have S2 := S
        repeat (first
          | go_big_quiet_skip
          | (refine quiet_load_one 4 (.tmp 67) rfl rfl _ _ (.bool true) (mkA { m with U := m.J }) 107 (0, 0) _ rfl (later_blk (S2.out.get 0 rfl)) HCL.out Try.underlying4 rfl ?_; go_frame)
          | (refine quiet_load_one 3 (.tmp 73) rfl rfl _ _ (.int .i64 (k : Int)) (mkA { m with U := m.J }) 107 (0, 0) _ rfl (later_blk (S2.out.get 0 rfl)) HTZ.out Try.underlying3 rfl ?_; go_frame)
          | (refine quiet_load_one 3 (.tmp 77) rfl rfl _ _ (.int .i64 (k : Int)) (mkA { m with U := m.J }) 107 (0, 0) _ rfl (later_blk (S2.out.get 0 rfl)) HTI.out Try.underlying3 rfl ?_; go_frame)
          | (refine quiet_load_one 3 (.tmp 89) rfl rfl _ _ (.int .i64 (k : Int)) (mkA { m with U := m.J }) 107 (0, 0) _ rfl (later_blk (S2.out.get 0 rfl)) HTI.out Try.underlying3 rfl ?_; go_frame)
          | (refine quiet_load_one 28 (.tmp 85) rfl rfl _ _ (.slice (some ad) c.f0.length c0) (mkA { m with U := m.J }) 107 (0, 0) _ rfl (later_blk (S2.out.get 0 rfl)) HT0.out Try.underlying28 rfl ?_; go_frame)
          | (refine quiet_load_at 39 (.tmp 92) rfl rfl ⟨(ad.add (k * 4)).block, (ad.add (k * 4)).off + 1, none⟩ [.int .u64 n.f1.f0, .int .u64 n.f1.f1] _ rfl (later_cells (HCE.out.below S2.out.below)) Try.underlying39 rfl (by kernel_rfl) ?_; go_frame)
          | (refine quiet_load_blk 39 (.tmp 99) rfl rfl _ _ 2 [.int .u64 m.O.f1.f0, .int .u64 m.O.f1.f1] (mkA { m with U := m.J }) 107 (0, 0) _ rfl (later_blk (S2.out.get 0 rfl)) rfl Try.underlying39 rfl (by kernel_rfl) ?_; go_frame)
          | go_big_quiet_step ((first | (go_at_call 41; with_reducible exact later_of (H4.out _)) | (go_at_call 41; with_reducible exact later_of (H5.out _))))
          | fail)
        refine wpQuiet_nil ?_
        intro w8 hw8
        replace S := Aside0.mk (S.out.call (later_below hw8))
        clear hw8 S2

        cases b4 <;> cases b5
        · go_upto_region 8 with fail
          have HG0 := Aside0.mk (fun u : S51 => show (mkA { m with U := u })[0]? = some (.slice (some ad) c.f0.length c0) from (show (mkA { m with U := u })[0]? = some m.v0 from rfl).trans (by rw [HV0.out]))
          have HG8 := Aside0.mk (fun u : S51 => show (mkA { m with U := u })[8]? = some (.int .i64 (k : Int)) from (show (mkA { m with U := u })[8]? = some (.int .i64 m.inn) from rfl).trans (by rw [HKI.out]))
          refine Rg.plain [17] (fun L w' => St W0 [(B, .cells (mkA { m with U := if L 17 = true then ⟨m.J.f0, n.f1, m.J.f2, m.J.f3, m.J.f4⟩ else m.J }) 107 (0, 0))] w') (by kernel_rfl) (by kernel_rfl) (by kernel_rfl) (by kernel_rfl) ?_ ?_ ?_ ?_
          · exact S.out.drew
          · intro L w' w'' h hb
            exact h.call hb
          · intro L j w' hj hn h
            rw [Rg.upd_ne (fun e => hn (by simp [e]))]
            exact h
          · apply Exists.intro
            refine ⟨?_, ?_, ?_⟩
            · intro L w' h
              have S2 := Aside0.mk h
              clear h
              simp only [Rg.cutOut, List.eraseIdx_cons_succ, List.eraseIdx_cons_zero]
              repeat (first
                | go_big_quiet_skip
                | (refine quiet_load_one 28 (.tmp 108) rfl rfl _ _ (.slice (some ad) c.f0.length c0) _ 107 (0, 0) _ rfl (later_blk (S2.out.get 0 rfl)) (HG0.out _) Try.underlying28 rfl ?_; go_frame)
                | (refine quiet_load_one 3 (.tmp 112) rfl rfl _ _ (.int .i64 (k : Int)) _ 107 (0, 0) _ rfl (later_blk (S2.out.get 0 rfl)) (HG8.out _) Try.underlying3 rfl ?_; go_frame)
                | (refine quiet_load_at 39 (.tmp 115) rfl rfl ⟨(ad.add (k * 4)).block, (ad.add (k * 4)).off + 1, none⟩ [.int .u64 n.f1.f0, .int .u64 n.f1.f1] _ rfl (later_cells (HCE.out.below S2.out.below)) Try.underlying39 rfl (by kernel_rfl) ?_; go_frame)
                | go_big_quiet_step (fail)
                | fail)
              exact wpQuiet_nil rfl
            · intro j hj L w' h hw hL
              obtain rfl : j = 17 := by simpa using hj
              rw [if_neg (by rw [hL]; decide)] at h
              refine ⟨_, rfl, ?_⟩
              refine wpList_store_blk rfl 39 _ _ rfl B 25 #[.int .u64 n.f1.f0, .int .u64 n.f1.f1] _ 107 rfl rfl (h.get 0 rfl) (Nat.le_of_ble_eq_true rfl) (by kernel_rfl) (by simp [Value.oneCell']) ?_
              intro w1 hb hg hz
              refine ⟨rfl, ?_⟩
              rw [Rg.upd_same, if_pos rfl]
              exact h.set_ 0 hg (blk_eq (b := mkA { m with U := ⟨m.J.f0, n.f1, m.J.f2, m.J.f3, m.J.f4⟩ }) hb (by kernel_rfl)) hB.out hne1
            · intro L w5 h hall
              rw [if_pos (hall 17 (by decide))] at h
              replace S := Aside0.mk h
              clear h hall
              go_upto_region 10 with (first
                | (refine gate_ (.store 4 (.tmp 125) (.const (.bool true))) rfl ?_; refine wpList_store_blk rfl 4 _ _ rfl B 48 #[.bool true] _ 107 rfl rfl (S.out.get 0 rfl) (Nat.le_of_ble_eq_true rfl) (by kernel_rfl) (by simp [Value.oneCell']) ?_; intro w3 hb3 hg3 hz3; replace S := Aside0.mk (S.out.set_ 0 hg3 (blk_eq (b := mkA ({ m with U := ⟨m.J.f0, n.f1, m.J.f2, m.J.f3, m.J.f4⟩, lk := true })) hb3 (by kernel_rfl)) hB.out (hne1)); clear hb3 hg3 hz3)
                | (refine gate_ (.store 3 (.tmp 127) (.const (.int .i64 1024))) rfl ?_; refine wpList_store_blk rfl 3 _ _ rfl B 49 #[.int .i64 1024] _ 107 rfl rfl (S.out.get 0 rfl) (Nat.le_of_ble_eq_true rfl) (by kernel_rfl) (by simp [Value.oneCell']) ?_; intro w3 hb3 hg3 hz3; replace S := Aside0.mk (S.out.set_ 0 hg3 (blk_eq (b := mkA ({ m with U := ⟨m.J.f0, n.f1, m.J.f2, m.J.f3, m.J.f4⟩, lk := true, fr := 1024 })) hb3 (by kernel_rfl)) hB.out (hne1)); clear hb3 hg3 hz3)
                | (refine gate_ (.store 3 (.tmp 129) (.const (.int .i64 65535))) rfl ?_; refine wpList_store_blk rfl 3 _ _ rfl B 50 #[.int .i64 65535] _ 107 rfl rfl (S.out.get 0 rfl) (Nat.le_of_ble_eq_true rfl) (by kernel_rfl) (by simp [Value.oneCell']) ?_; intro w3 hb3 hg3 hz3; replace S := Aside0.mk (S.out.set_ 0 hg3 (blk_eq (b := mkA ({ m with U := ⟨m.J.f0, n.f1, m.J.f2, m.J.f3, m.J.f4⟩, lk := true, fr := 1024, tt := 65535 })) hb3 (by kernel_rfl)) hB.out (hne1)); clear hb3 hg3 hz3)
                | fail)
              go_frame
              cases h6 : m.O.f0 == 6 with
              | true =>
                have H6 := Aside0.mk h6
                go_wp2_with (first
                  | (refine gate_ (.load 3 (.tmp 134)) rfl ?_; refine wpList_load_one 3 _ rfl rfl _ _ (.int .i64 m.O.f0) (mkA ({ m with U := ⟨m.J.f0, n.f1, m.J.f2, m.J.f3, m.J.f4⟩, lk := true, fr := 1024, tt := 65535 })) 107 (0, 0) _ rfl (S.out.get 0 rfl) rfl Try.underlying3 rfl ?_)
                  | (refine gate_ (.load 4 (.tmp 139)) rfl ?_; refine wpList_load_one 4 _ rfl rfl _ _ (.bool true) (mkA ({ m with U := ⟨m.J.f0, n.f1, m.J.f2, m.J.f3, m.J.f4⟩, lk := true, fr := 1024, tt := 65535 })) 107 (0, 0) _ rfl (S.out.get 0 rfl) rfl Try.underlying4 rfl ?_)
                  | (go_at_call 77; (with_reducible refine (HI.out _).mono ?_); rintro e w9 ⟨rfl, rfl⟩)
                  | (refine gate_ (.store 4 (.tmp 154) (.tmp 152)) rfl ?_; refine wpList_store_blk rfl 4 _ _ rfl B 48 #[.bool true] _ 107 rfl rfl (S.out.get 0 rfl) (Nat.le_of_ble_eq_true rfl) (by kernel_rfl) (by simp [Value.oneCell']) ?_; intro w3 hb3 hg3 hz3; replace S := Aside0.mk (S.out.set_ 0 hg3 (blk_eq (b := mkA ({ m with U := ⟨m.J.f0, n.f1, m.J.f2, m.J.f3, m.J.f4⟩, lk := true, fr := 1024, tt := 65535 })) hb3 (by kernel_rfl)) hB.out (hne1)); clear hb3 hg3 hz3)
                  | fail)
                go_ret
                exact ⟨rfl, by rw [HX.out, if_pos (by decide), ported16_6 H6.out]; exact S.out⟩
              | false =>
                have H6 := Aside0.mk h6
                cases h17 : m.O.f0 == 17 with
                | true =>
                  have H17 := Aside0.mk h17
                  go_wp2_with (first
                    | (refine gate_ (.load 3 (.tmp 134)) rfl ?_; refine wpList_load_one 3 _ rfl rfl _ _ (.int .i64 m.O.f0) (mkA ({ m with U := ⟨m.J.f0, n.f1, m.J.f2, m.J.f3, m.J.f4⟩, lk := true, fr := 1024, tt := 65535 })) 107 (0, 0) _ rfl (S.out.get 0 rfl) rfl Try.underlying3 rfl ?_)
                    | (refine gate_ (.load 4 (.tmp 139)) rfl ?_; refine wpList_load_one 4 _ rfl rfl _ _ (.bool true) (mkA ({ m with U := ⟨m.J.f0, n.f1, m.J.f2, m.J.f3, m.J.f4⟩, lk := true, fr := 1024, tt := 65535 })) 107 (0, 0) _ rfl (S.out.get 0 rfl) rfl Try.underlying4 rfl ?_)
                    | (go_at_call 77; (with_reducible refine (HI.out _).mono ?_); rintro e w9 ⟨rfl, rfl⟩)
                    | (refine gate_ (.store 4 (.tmp 154) (.tmp 152)) rfl ?_; refine wpList_store_blk rfl 4 _ _ rfl B 48 #[.bool true] _ 107 rfl rfl (S.out.get 0 rfl) (Nat.le_of_ble_eq_true rfl) (by kernel_rfl) (by simp [Value.oneCell']) ?_; intro w3 hb3 hg3 hz3; replace S := Aside0.mk (S.out.set_ 0 hg3 (blk_eq (b := mkA ({ m with U := ⟨m.J.f0, n.f1, m.J.f2, m.J.f3, m.J.f4⟩, lk := true, fr := 1024, tt := 65535 })) hb3 (by kernel_rfl)) hB.out (hne1)); clear hb3 hg3 hz3)
                    | fail)
                  go_ret
                  exact ⟨rfl, by rw [HX.out, if_pos (by decide), ported16_17 H17.out]; exact S.out⟩
                | false =>
                  have H17 := Aside0.mk h17
                  go_wp2_with (first
                    | (refine gate_ (.load 3 (.tmp 134)) rfl ?_; refine wpList_load_one 3 _ rfl rfl _ _ (.int .i64 m.O.f0) (mkA ({ m with U := ⟨m.J.f0, n.f1, m.J.f2, m.J.f3, m.J.f4⟩, lk := true, fr := 1024, tt := 65535 })) 107 (0, 0) _ rfl (S.out.get 0 rfl) rfl Try.underlying3 rfl ?_)
                    | (refine gate_ (.load 4 (.tmp 139)) rfl ?_; refine wpList_load_one 4 _ rfl rfl _ _ (.bool true) (mkA ({ m with U := ⟨m.J.f0, n.f1, m.J.f2, m.J.f3, m.J.f4⟩, lk := true, fr := 1024, tt := 65535 })) 107 (0, 0) _ rfl (S.out.get 0 rfl) rfl Try.underlying4 rfl ?_)
                    | (go_at_call 77; (with_reducible refine (HI.out _).mono ?_); rintro e w9 ⟨rfl, rfl⟩)
                    | (refine gate_ (.store 4 (.tmp 154) (.tmp 152)) rfl ?_; refine wpList_store_blk rfl 4 _ _ rfl B 48 #[.bool ic] _ 107 rfl rfl (S.out.get 0 rfl) (Nat.le_of_ble_eq_true rfl) (by kernel_rfl) (by simp [Value.oneCell']) ?_; intro w3 hb3 hg3 hz3; replace S := Aside0.mk (S.out.set_ 0 hg3 (blk_eq (b := mkA ({ m with U := ⟨m.J.f0, n.f1, m.J.f2, m.J.f3, m.J.f4⟩, lk := ic, fr := 1024, tt := 65535 })) hb3 (by kernel_rfl)) hB.out (hne1)); clear hb3 hg3 hz3)
                    | fail)
                  go_ret
                  exact ⟨rfl, by rw [HX.out, if_pos (by decide), (ported16_ic H6.out H17.out).trans HIC.out]; exact S.out⟩

        · skip
          go_wp2_with (first
            | (refine gate_ (.load 3 (.tmp 134)) rfl ?_; refine wpList_load_one 3 _ rfl rfl _ _ (.int .i64 m.O.f0) (mkA { m with U := m.J }) 107 (0, 0) _ rfl (S.out.get 0 rfl) rfl Try.underlying3 rfl ?_)
            | (refine gate_ (.load 4 (.tmp 139)) rfl ?_; refine wpList_load_one 4 _ rfl rfl _ _ (.bool false) (mkA { m with U := m.J }) 107 (0, 0) _ rfl (S.out.get 0 rfl) HLT.out Try.underlying4 rfl ?_)
            | (refine gate_ (.store 4 (.tmp 154) (.tmp 152)) rfl ?_; refine wpList_store_blk rfl 4 _ _ rfl B 48 #[.bool false] _ 107 rfl rfl (S.out.get 0 rfl) (Nat.le_of_ble_eq_true rfl) (by kernel_rfl) (by simp [Value.oneCell']) ?_; intro w3 hb3 hg3 hz3; replace S := Aside0.mk (S.out.set_ 0 hg3 (blk_eq (b := mkA ({ m with U := m.J, lk := false })) hb3 (by kernel_rfl)) hB.out (hne1)); clear hb3 hg3 hz3)
            | fail)
          go_ret
          exact ⟨rfl, by rw [HX.out, if_neg (by decide), ← HLS.out]; exact S.out⟩
        · skip
          go_wp2_with (first
            | (refine gate_ (.load 3 (.tmp 134)) rfl ?_; refine wpList_load_one 3 _ rfl rfl _ _ (.int .i64 m.O.f0) (mkA { m with U := m.J }) 107 (0, 0) _ rfl (S.out.get 0 rfl) rfl Try.underlying3 rfl ?_)
            | (refine gate_ (.load 4 (.tmp 139)) rfl ?_; refine wpList_load_one 4 _ rfl rfl _ _ (.bool false) (mkA { m with U := m.J }) 107 (0, 0) _ rfl (S.out.get 0 rfl) HLT.out Try.underlying4 rfl ?_)
            | (refine gate_ (.store 4 (.tmp 154) (.tmp 152)) rfl ?_; refine wpList_store_blk rfl 4 _ _ rfl B 48 #[.bool false] _ 107 rfl rfl (S.out.get 0 rfl) (Nat.le_of_ble_eq_true rfl) (by kernel_rfl) (by simp [Value.oneCell']) ?_; intro w3 hb3 hg3 hz3; replace S := Aside0.mk (S.out.set_ 0 hg3 (blk_eq (b := mkA ({ m with U := m.J, lk := false })) hb3 (by kernel_rfl)) hB.out (hne1)); clear hb3 hg3 hz3)
            | fail)
          go_ret
          exact ⟨rfl, by rw [HX.out, if_neg (by decide), ← HLS.out]; exact S.out⟩
        · go_upto_region 8 with fail
          have HG0 := Aside0.mk (fun u : S51 => show (mkA { m with U := u })[0]? = some (.slice (some ad) c.f0.length c0) from (show (mkA { m with U := u })[0]? = some m.v0 from rfl).trans (by rw [HV0.out]))
          have HG8 := Aside0.mk (fun u : S51 => show (mkA { m with U := u })[8]? = some (.int .i64 (k : Int)) from (show (mkA { m with U := u })[8]? = some (.int .i64 m.inn) from rfl).trans (by rw [HKI.out]))
          refine Rg.plain [17] (fun L w' => St W0 [(B, .cells (mkA { m with U := if L 17 = true then ⟨m.J.f0, n.f1, m.J.f2, m.J.f3, m.J.f4⟩ else m.J }) 107 (0, 0))] w') (by kernel_rfl) (by kernel_rfl) (by kernel_rfl) (by kernel_rfl) ?_ ?_ ?_ ?_
          · exact S.out.drew
          · intro L w' w'' h hb
            exact h.call hb
          · intro L j w' hj hn h
            rw [Rg.upd_ne (fun e => hn (by simp [e]))]
            exact h
          · apply Exists.intro
            refine ⟨?_, ?_, ?_⟩
            · intro L w' h
              have S2 := Aside0.mk h
              clear h
              simp only [Rg.cutOut, List.eraseIdx_cons_succ, List.eraseIdx_cons_zero]
              repeat (first
                | go_big_quiet_skip
                | (refine quiet_load_one 28 (.tmp 108) rfl rfl _ _ (.slice (some ad) c.f0.length c0) _ 107 (0, 0) _ rfl (later_blk (S2.out.get 0 rfl)) (HG0.out _) Try.underlying28 rfl ?_; go_frame)
                | (refine quiet_load_one 3 (.tmp 112) rfl rfl _ _ (.int .i64 (k : Int)) _ 107 (0, 0) _ rfl (later_blk (S2.out.get 0 rfl)) (HG8.out _) Try.underlying3 rfl ?_; go_frame)
                | (refine quiet_load_at 39 (.tmp 115) rfl rfl ⟨(ad.add (k * 4)).block, (ad.add (k * 4)).off + 1, none⟩ [.int .u64 n.f1.f0, .int .u64 n.f1.f1] _ rfl (later_cells (HCE.out.below S2.out.below)) Try.underlying39 rfl (by kernel_rfl) ?_; go_frame)
                | go_big_quiet_step (fail)
                | fail)
              exact wpQuiet_nil rfl
            · intro j hj L w' h hw hL
              obtain rfl : j = 17 := by simpa using hj
              rw [if_neg (by rw [hL]; decide)] at h
              refine ⟨_, rfl, ?_⟩
              refine wpList_store_blk rfl 39 _ _ rfl B 25 #[.int .u64 n.f1.f0, .int .u64 n.f1.f1] _ 107 rfl rfl (h.get 0 rfl) (Nat.le_of_ble_eq_true rfl) (by kernel_rfl) (by simp [Value.oneCell']) ?_
              intro w1 hb hg hz
              refine ⟨rfl, ?_⟩
              rw [Rg.upd_same, if_pos rfl]
              exact h.set_ 0 hg (blk_eq (b := mkA { m with U := ⟨m.J.f0, n.f1, m.J.f2, m.J.f3, m.J.f4⟩ }) hb (by kernel_rfl)) hB.out hne1
            · intro L w5 h hall
              rw [if_pos (hall 17 (by decide))] at h
              replace S := Aside0.mk h
              clear h hall
              go_upto_region 10 with (first
                | (refine gate_ (.store 4 (.tmp 125) (.const (.bool true))) rfl ?_; refine wpList_store_blk rfl 4 _ _ rfl B 48 #[.bool true] _ 107 rfl rfl (S.out.get 0 rfl) (Nat.le_of_ble_eq_true rfl) (by kernel_rfl) (by simp [Value.oneCell']) ?_; intro w3 hb3 hg3 hz3; replace S := Aside0.mk (S.out.set_ 0 hg3 (blk_eq (b := mkA ({ m with U := ⟨m.J.f0, n.f1, m.J.f2, m.J.f3, m.J.f4⟩, lk := true })) hb3 (by kernel_rfl)) hB.out (hne1)); clear hb3 hg3 hz3)
                | (refine gate_ (.store 3 (.tmp 127) (.const (.int .i64 1024))) rfl ?_; refine wpList_store_blk rfl 3 _ _ rfl B 49 #[.int .i64 1024] _ 107 rfl rfl (S.out.get 0 rfl) (Nat.le_of_ble_eq_true rfl) (by kernel_rfl) (by simp [Value.oneCell']) ?_; intro w3 hb3 hg3 hz3; replace S := Aside0.mk (S.out.set_ 0 hg3 (blk_eq (b := mkA ({ m with U := ⟨m.J.f0, n.f1, m.J.f2, m.J.f3, m.J.f4⟩, lk := true, fr := 1024 })) hb3 (by kernel_rfl)) hB.out (hne1)); clear hb3 hg3 hz3)
                | (refine gate_ (.store 3 (.tmp 129) (.const (.int .i64 65535))) rfl ?_; refine wpList_store_blk rfl 3 _ _ rfl B 50 #[.int .i64 65535] _ 107 rfl rfl (S.out.get 0 rfl) (Nat.le_of_ble_eq_true rfl) (by kernel_rfl) (by simp [Value.oneCell']) ?_; intro w3 hb3 hg3 hz3; replace S := Aside0.mk (S.out.set_ 0 hg3 (blk_eq (b := mkA ({ m with U := ⟨m.J.f0, n.f1, m.J.f2, m.J.f3, m.J.f4⟩, lk := true, fr := 1024, tt := 65535 })) hb3 (by kernel_rfl)) hB.out (hne1)); clear hb3 hg3 hz3)
                | fail)
              go_frame
              cases h6 : m.O.f0 == 6 with
              | true =>
                have H6 := Aside0.mk h6
                go_wp2_with (first
                  | (refine gate_ (.load 3 (.tmp 134)) rfl ?_; refine wpList_load_one 3 _ rfl rfl _ _ (.int .i64 m.O.f0) (mkA ({ m with U := ⟨m.J.f0, n.f1, m.J.f2, m.J.f3, m.J.f4⟩, lk := true, fr := 1024, tt := 65535 })) 107 (0, 0) _ rfl (S.out.get 0 rfl) rfl Try.underlying3 rfl ?_)
                  | (refine gate_ (.load 4 (.tmp 139)) rfl ?_; refine wpList_load_one 4 _ rfl rfl _ _ (.bool true) (mkA ({ m with U := ⟨m.J.f0, n.f1, m.J.f2, m.J.f3, m.J.f4⟩, lk := true, fr := 1024, tt := 65535 })) 107 (0, 0) _ rfl (S.out.get 0 rfl) rfl Try.underlying4 rfl ?_)
                  | (go_at_call 77; (with_reducible refine (HI.out _).mono ?_); rintro e w9 ⟨rfl, rfl⟩)
                  | (refine gate_ (.store 4 (.tmp 154) (.tmp 152)) rfl ?_; refine wpList_store_blk rfl 4 _ _ rfl B 48 #[.bool true] _ 107 rfl rfl (S.out.get 0 rfl) (Nat.le_of_ble_eq_true rfl) (by kernel_rfl) (by simp [Value.oneCell']) ?_; intro w3 hb3 hg3 hz3; replace S := Aside0.mk (S.out.set_ 0 hg3 (blk_eq (b := mkA ({ m with U := ⟨m.J.f0, n.f1, m.J.f2, m.J.f3, m.J.f4⟩, lk := true, fr := 1024, tt := 65535 })) hb3 (by kernel_rfl)) hB.out (hne1)); clear hb3 hg3 hz3)
                  | fail)
                go_ret
                exact ⟨rfl, by rw [HX.out, if_pos (by decide), ported16_6 H6.out]; exact S.out⟩
              | false =>
                have H6 := Aside0.mk h6
                cases h17 : m.O.f0 == 17 with
                | true =>
                  have H17 := Aside0.mk h17
                  go_wp2_with (first
                    | (refine gate_ (.load 3 (.tmp 134)) rfl ?_; refine wpList_load_one 3 _ rfl rfl _ _ (.int .i64 m.O.f0) (mkA ({ m with U := ⟨m.J.f0, n.f1, m.J.f2, m.J.f3, m.J.f4⟩, lk := true, fr := 1024, tt := 65535 })) 107 (0, 0) _ rfl (S.out.get 0 rfl) rfl Try.underlying3 rfl ?_)
                    | (refine gate_ (.load 4 (.tmp 139)) rfl ?_; refine wpList_load_one 4 _ rfl rfl _ _ (.bool true) (mkA ({ m with U := ⟨m.J.f0, n.f1, m.J.f2, m.J.f3, m.J.f4⟩, lk := true, fr := 1024, tt := 65535 })) 107 (0, 0) _ rfl (S.out.get 0 rfl) rfl Try.underlying4 rfl ?_)
                    | (go_at_call 77; (with_reducible refine (HI.out _).mono ?_); rintro e w9 ⟨rfl, rfl⟩)
                    | (refine gate_ (.store 4 (.tmp 154) (.tmp 152)) rfl ?_; refine wpList_store_blk rfl 4 _ _ rfl B 48 #[.bool true] _ 107 rfl rfl (S.out.get 0 rfl) (Nat.le_of_ble_eq_true rfl) (by kernel_rfl) (by simp [Value.oneCell']) ?_; intro w3 hb3 hg3 hz3; replace S := Aside0.mk (S.out.set_ 0 hg3 (blk_eq (b := mkA ({ m with U := ⟨m.J.f0, n.f1, m.J.f2, m.J.f3, m.J.f4⟩, lk := true, fr := 1024, tt := 65535 })) hb3 (by kernel_rfl)) hB.out (hne1)); clear hb3 hg3 hz3)
                    | fail)
                  go_ret
                  exact ⟨rfl, by rw [HX.out, if_pos (by decide), ported16_17 H17.out]; exact S.out⟩
                | false =>
                  have H17 := Aside0.mk h17
                  go_wp2_with (first
                    | (refine gate_ (.load 3 (.tmp 134)) rfl ?_; refine wpList_load_one 3 _ rfl rfl _ _ (.int .i64 m.O.f0) (mkA ({ m with U := ⟨m.J.f0, n.f1, m.J.f2, m.J.f3, m.J.f4⟩, lk := true, fr := 1024, tt := 65535 })) 107 (0, 0) _ rfl (S.out.get 0 rfl) rfl Try.underlying3 rfl ?_)
                    | (refine gate_ (.load 4 (.tmp 139)) rfl ?_; refine wpList_load_one 4 _ rfl rfl _ _ (.bool true) (mkA ({ m with U := ⟨m.J.f0, n.f1, m.J.f2, m.J.f3, m.J.f4⟩, lk := true, fr := 1024, tt := 65535 })) 107 (0, 0) _ rfl (S.out.get 0 rfl) rfl Try.underlying4 rfl ?_)
                    | (go_at_call 77; (with_reducible refine (HI.out _).mono ?_); rintro e w9 ⟨rfl, rfl⟩)
                    | (refine gate_ (.store 4 (.tmp 154) (.tmp 152)) rfl ?_; refine wpList_store_blk rfl 4 _ _ rfl B 48 #[.bool ic] _ 107 rfl rfl (S.out.get 0 rfl) (Nat.le_of_ble_eq_true rfl) (by kernel_rfl) (by simp [Value.oneCell']) ?_; intro w3 hb3 hg3 hz3; replace S := Aside0.mk (S.out.set_ 0 hg3 (blk_eq (b := mkA ({ m with U := ⟨m.J.f0, n.f1, m.J.f2, m.J.f3, m.J.f4⟩, lk := ic, fr := 1024, tt := 65535 })) hb3 (by kernel_rfl)) hB.out (hne1)); clear hb3 hg3 hz3)
                    | fail)
                  go_ret
                  exact ⟨rfl, by rw [HX.out, if_pos (by decide), (ported16_ic H6.out H17.out).trans HIC.out]; exact S.out⟩

end Go.Proofs.Ytgppfpfdoooijaa
