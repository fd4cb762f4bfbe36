/- The law CutsSplits, walked: it answers true. -/
import Derived.Test.YtcgcognejjpcmaaRefPoints
import Derived.Test.YtcgcognejjpcmaaRefSplit
import Derived.Test.YtcgcognejjpcmaaRise
import Derived.Test.YtcgcognejjpcmaaWGuard
namespace Go.Proofs.Ytcgcognejjpcmaa
open Go.RowKit Go.Proofs.YtcgcognejjpcmaaW.PrintWords
set_option linter.unusedVariables false
set_option linter.unusedSimpArgs false
attribute [local go_sem] Later.cell_eq

theorem info38 : (Try.prog.info? 38).map (fun i => (i.zero, i.size, i.bytes)) = some (some (.agg (ec z38)), k38.sz, 200) := by kernel_rfl
/-- The entry that stands behind. -/
def e77 : S38 := ⟨z29, 77⟩
/-- Both Points say this. -/
theorem ref_pts (l : List S38) (b : S29) (f : Int) : refF l b f = ptsF l b f := by
  unfold refF ptsF
  split
  · exact (points_same _).symm
  · rfl
theorem still_of_quiet {P : Program} {ops : Array Oper} {w : World} {Q : Act → Prop} : ∀ {l : List Oper} {a : Act}, wpQuiet P ops (fun w' => w' = w) Q l a → wpStill P ops w Q l a
  | [], _, h => h
  | o :: rest, a, h => by
    unfold wpQuiet at h
    unfold wpStill
    split
    · next hw =>
      rw [if_pos hw] at h
      obtain ⟨v, hv, hn⟩ := h
      have h1 := hv w rfl
      have h2 := still_of_quiet hn
      unfold Oper.quietAt at h1
      unfold Oper.still
      generalize (execOp a.eval o).run P w = r at *
      cases r with
      | halt _ _ => exact h1.elim
      | ok n w' =>
        cases n with
        | value u => exact ⟨h1.1, by rw [h1.2]; exact h2⟩
        | skip => exact ⟨h1.1, by rw [← h1.2]; exact h2⟩
        | enter f args => exact ⟨h1.1, v, h1.2, h2⟩
        | _ => exact h1.elim
    · next hw =>
      rw [if_neg hw] at h
      exact still_of_quiet h



set_option maxRecDepth 100000 in
set_option maxHeartbeats 8000000 in
theorem cutsSplits_any (l : List S38) (A : Option Addr) (cap : Nat) (b : S29) (f : Int) (a : S24) (ha : FitA a) (hfit : ∀ e ∈ l, FitB e.f0) (w : World) (hC : k38.C w A l.length l) : Calls Try.prog 11 #[.slice A l.length cap, .agg (bc b), .int .i64 f, .agg #[.int .u64 a.f0, .int .u64 a.f1]] w fun e w' =>
    e = .returned (.bool true) ∧ Below w.heap.size w w' := by
  have HC := Aside0.mk hC
  have HFT := Aside0.mk hfit
  have hmax : l.length ≤ 9223372036854775807 := Kd.C_max hC
  obtain ⟨⟨lo, hi, ok⟩, hs⟩ : ∃ r, splitB b f a = r := ⟨_, rfl⟩
  have C28 := Aside0.mk (fun W => show Calls Try.prog 28 #[.agg (bc b), .int .i64 f, .agg #[.int .u64 a.f0, .int .u64 a.f1]] W (fun e w' => e = .returned (.tuple #[.agg (bc lo), .agg (bc hi), .bool ok]) ∧ Below W.heap.size W w') by have := split_any b f a ha W; rw [hs] at this; exact this)
  have C29 := Aside0.mk (fun W => show Calls Try.prog 29 #[.agg (bc b), .int .i64 f, .agg #[.int .u64 a.f0, .int .u64 a.f1]] W (fun e w' => e = .returned (.tuple #[.agg (bc lo), .agg (bc hi), .bool ok]) ∧ Below W.heap.size W w') by have := refsplit_any b f a ha W; rw [hs] at this; exact this)
  clear hs ha hC hfit
  go_enter Try.func11, Try.ntmps11
  go_upto_region 1 with fail
  have S := Aside0.mk (((St.nil w).alloc (.cells (bc b) 29)).alloc (.cells #[.int .u64 a.f0, .int .u64 a.f1] 24))
  simp only [World.size_alloc, List.nil_append, List.cons_append] at S
  generalize World.alloc _ _ = W0 at *
  by_cases hmore : (512 : Int) < l.length
  · have hd : decide ((512 : Int) < l.length) = true := by simpa using hmore
    go_wp2_with fail
    go_ret
    exact ⟨rfl, S.out.below⟩
  have hd : decide ((512 : Int) < l.length) = false := by simpa using hmore
  have HL := Aside0.mk (show l.length ≤ 512 by omega)
  clear hmore
  go_upto_region 4 with (first
    | (refine gate_ (.load 29 (.tmp 5)) rfl ?_; (first | refine gate_none rfl ?_ | refine gate_if rfl rfl rfl ?_); refine wpList_load_row rfl 29 _ rfl _ rfl 29 (bc b) (0, 0) _ (S.out.get 0 rfl) Try.underlying29 rfl (bc_info _) ?_)
    | (refine gate_ (.load 24 (.tmp 7)) rfl ?_; (first | refine gate_none rfl ?_ | refine gate_if rfl rfl rfl ?_); refine wpList_load_row rfl 24 _ rfl _ rfl 24 (#[.int .u64 a.f0, .int .u64 a.f1]) (0, 0) _ (S.out.get 1 rfl) Try.underlying24 rfl (by kernel_rfl) ?_)
    | (go_at_call 28; (with_reducible refine (C28.out _).mono ?_); rintro e w9 ⟨rfl, hb9⟩; replace S := Aside0.mk (S.out.call hb9); clear hb9)
    | (refine gate_ (.store 29 (.tmp 9) (.tmp 28)) rfl ?_; refine wpList_store_all rfl 29 _ _ rfl _ (bc lo) _ _ rfl rfl two_old rfl (bc_info _) (bc_one _) ?_; intro w6 hb6 hg6 hz6; have H6 := Aside0.mk (And.intro hg6 hb6); clear hb6 hg6 hz6)
    | (refine gate_ (.store 29 (.tmp 10) (.tmp 29)) rfl ?_; refine wpList_store_all rfl 29 _ _ rfl _ (bc hi) _ _ rfl rfl (two_new H6.out.1) rfl (bc_info _) (bc_one _) ?_; intro w7 hb7 hg7 hz7; replace S := Aside0.mk (S.out.made_two H6.out.1 H6.out.2 hg7 hb7); clear hb7 hg7 hz7 H6)
    | fail)
  simp only [List.cons_append, List.nil_append] at S
  go_upto_region 5 with (first
    | (refine gate_ (.load 29 (.tmp 5)) rfl ?_; (first | refine gate_none rfl ?_ | refine gate_if rfl rfl rfl ?_); refine wpList_load_row rfl 29 _ rfl _ rfl 29 (bc b) (0, 0) _ (S.out.get 0 rfl) Try.underlying29 rfl (bc_info _) ?_)
    | (refine gate_ (.load 24 (.tmp 7)) rfl ?_; (first | refine gate_none rfl ?_ | refine gate_if rfl rfl rfl ?_); refine wpList_load_row rfl 24 _ rfl _ rfl 24 (#[.int .u64 a.f0, .int .u64 a.f1]) (0, 0) _ (S.out.get 1 rfl) Try.underlying24 rfl (by kernel_rfl) ?_)
    | (go_at_call 29; (with_reducible refine (C29.out _).mono ?_); rintro e w9 ⟨rfl, hb9⟩; replace S := Aside0.mk (S.out.call hb9); clear hb9)
    | (refine gate_ (.store 29 (.tmp 12) (.tmp 36)) rfl ?_; refine wpList_store_all rfl 29 _ _ rfl _ (bc lo) _ _ rfl rfl two_old rfl (bc_info _) (bc_one _) ?_; intro w6 hb6 hg6 hz6; have H6 := Aside0.mk (And.intro hg6 hb6); clear hb6 hg6 hz6)
    | (refine gate_ (.store 29 (.tmp 13) (.tmp 37)) rfl ?_; refine wpList_store_all rfl 29 _ _ rfl _ (bc hi) _ _ rfl rfl (two_new H6.out.1) rfl (bc_info _) (bc_one _) ?_; intro w7 hb7 hg7 hz7; replace S := Aside0.mk (S.out.made_two H6.out.1 H6.out.2 hg7 hb7); clear hb7 hg7 hz7 H6)
    | fail)
  simp only [List.cons_append, List.nil_append] at S
  have H1 := Aside0.mk (eqB_self lo)
  have H2 := Aside0.mk (eqB_self hi)
  have hoo : (ok == ok) = true := by simp
  have hon : (ok != ok) = false := by simp
  obtain ⟨T, hT⟩ : ∃ T, ptsF l b f = T := ⟨_, rfl⟩
  have CP := Aside0.mk (fun W A' c' (hC : k38.C W A' l.length l) => show Calls Try.prog 40 #[.slice A' l.length c', .agg (bc b), .int .i64 f] W (RowPost T W) by rw [← hT]; exact points_any l A' c' b f W hC HFT.out (by have := HL.out; omega))
  have CR := Aside0.mk (fun W (hC : k38.C W A l.length l) => show Calls Try.prog 41 #[.slice A l.length cap, .agg (bc b), .int .i64 f] W (RowPost T W) by rw [← hT, ← ref_pts]; exact refpoints_any l A cap b f W hC HFT.out (by have := HL.out; omega))
  clear hT HFT C28 C29
  have HCC := Aside0.mk (Kd.C_below HC.out S.out.below)
  obtain ⟨w1, hw1⟩ : ∃ w1, w1 = w7 := ⟨_, rfl⟩
  rw [← hw1] at S HCC ⊢
  clear hw1
  go_upto_region 7 with (first
    | (refine gate_ (.load 29 (.tmp 9)) rfl ?_; (first | refine gate_none rfl ?_ | refine gate_if rfl rfl rfl ?_); refine wpList_load_row rfl 29 _ rfl _ rfl 29 (bc lo) (0, 0) _ (S.out.get 2 rfl) Try.underlying29 rfl (bc_info _) ?_)
    | (refine gate_ (.load 29 (.tmp 12)) rfl ?_; (first | refine gate_none rfl ?_ | refine gate_if rfl rfl rfl ?_); refine wpList_load_row rfl 29 _ rfl _ rfl 29 (bc lo) (0, 0) _ (S.out.get 4 rfl) Try.underlying29 rfl (bc_info _) ?_)
    | (refine gate_ (.load 29 (.tmp 10)) rfl ?_; (first | refine gate_none rfl ?_ | refine gate_if rfl rfl rfl ?_); refine wpList_load_row rfl 29 _ rfl _ rfl 29 (bc hi) (0, 0) _ (S.out.get 3 rfl) Try.underlying29 rfl (bc_info _) ?_)
    | (refine gate_ (.load 29 (.tmp 13)) rfl ?_; (first | refine gate_none rfl ?_ | refine gate_if rfl rfl rfl ?_); refine wpList_load_row rfl 29 _ rfl _ rfl 29 (bc hi) (0, 0) _ (S.out.get 5 rfl) Try.underlying29 rfl (bc_info _) ?_)
    | (refine gate_dst (N := 41) rfl ?_; refine wpList_neq29 rfl _ _ _ lo lo rfl rfl rfl ?_; rw [H1.out])
    | (refine gate_dst (N := 45) rfl ?_; refine wpList_neq29 rfl _ _ _ hi hi rfl rfl rfl ?_; rw [H2.out])
    | fail)
  go_upto_region 8 with fail
  have hw1 : w1.heap.size ≤ w1.heap.size + 1 := Nat.le_succ _
  have HE := Aside0.mk (R_empty k38 38 w1 (base := w1.heap.size) (ok := fun _ => True) (Nat.le_refl _) trivial)
  have HB := Aside0.mk ((Below.refl w1.heap.size w1).alloc (Nat.le_refl _) (.cells #[] 38))
  generalize hW1 : w1.alloc (.cells #[] 38) = wa at *
  clear hW1 hw1
  go_upto_region 9 with (first
    | (at_builtin; refine Kd.R_append_rows k38 (w0 := w1) (Rr := k38.K wa) w1.heap.size rfl (.tmp 53) (.tmp 54) 36 38 (.agg (ec z38)) 200 rfl Try.underlying36 info38 rfl (by decide) (by omega) (.slice (some ⟨w1.heap.size, 0, none⟩) 0 0) [] l A l.length cap (fun _ => True) (fun _ => False) rfl rfl HE.out (Kd.C_below HCC.out HB.out) (fun x cs hk => by rw [ec_K hk]; exact ec_mkM _ _ _ x) (fun _ hk => hk.elim) (fun k hk => trivial) HB.out HB.out.size (by have := HL.out; simp; omega) ?_; intro v2 w2 hR2 hb2 hg2 hat2)
    | fail)
  have HR2 := Aside0.mk (show k38.R 38 w2 w1.heap.size (fun _ => True) v2 l from hR2)
  have HB2 := Aside0.mk hb2
  clear hR2 hb2 hg2 hat2 HE HB
  go_upto_region 10 with (first
    | (refine gate_dst (N := 57) rfl ?_; refine wpList_buildTo rfl 38 _ rfl (some 57) rfl (ec e77) rfl ?_)
    | (at_builtin; refine Kd.R_append k38 (w0 := w1) w1.heap.size rfl (.tmp 56) (.tmp 58) 36 38 (.agg (ec z38)) 200 rfl Try.underlying36 info38 rfl (by decide) (by omega) v2 l e77 (ec e77).toList (fun _ => True) (fun _ => False) rfl rfl (ec_mkM _ _ _ e77) (fun _ hk => hk.elim) (fun k hk => trivial) HR2.out HB2.out HB2.out.size (by have := HL.out; omega) ?_; intro v3 w3 hR3 hb3 hg3 hat3)
    | fail)
  obtain ⟨g, cv, rfl, hg, -⟩ := Kd.R_form hR3 (by simp)
  rw [show (l ++ [e77]).length = l.length + 1 by simp] at hR3 ⊢
  have hcv : l.length + 1 ≤ cv := (Kd.R_reads' hR3).2.1
  have HR3 := Aside0.mk hR3
  replace S := Aside0.mk (S.out.call hb3)
  have HR2b := Aside0.mk (Kd.R_take hR3 (m := l.length) (by simp))
  clear hR3 hb3 hg3 hat3 HR2 HB2 hg
  have HCX := Aside0.mk (show k38.C w3 (some ⟨g, 0, none⟩) l.length l by have := (Kd.R_reads' HR2b.out).2.2; simpa using this)
  clear HR2b
  refine wp_region_still_tail 6 (by kernel_rfl) (by kernel_rfl) ?_
  have hbd : Below w3.heap.size w3 { w3 with drawn := w3.drawn + 1 } := below_drew (Below.refl _ _)
  replace S := Aside0.mk (S.out.call hbd)
  replace HCX := Aside0.mk (Kd.C_below HCX.out hbd)
  replace HR3 := Aside0.mk (Kd.R_below HR3.out hbd)
  clear hbd
  generalize ({ w3 with drawn := w3.drawn + 1 } : World) = w4 at *
  simp only [List.take_succ_cons, List.take_zero, List.drop_succ_cons, List.drop_zero]
  refine still_of_quiet ?_
  have hSb := Aside0.mk (show ∀ w', w' = w4 → w'.heap[w.heap.size]? = some (.cells (bc b) 29 (0, 0)) from fun w' e => by rw [e]; exact S.out.get 0 rfl)
  repeat (first
    | go_big_quiet_skip
    | (refine quiet_load_row 29 (.tmp 5) rfl rfl _ (bc b) 29 (0, 0) _ rfl hSb.out Try.underlying29 rfl (bc_info _) ?_; go_frame)
    | go_big_quiet_step (fail)
    | fail)
  refine wpQuiet_nil ?_
  go_wp2_with (first
    | (go_at_call 40; refine Aside0.out ?_)
    | fail)
  refine Aside0.mk ?_
  refine (CP.out _ _ _ HCX.out).mono ?_
  rintro e5 w5 ⟨A1, c1, rfl, hc1, hC1, hb5⟩
  replace S := Aside0.mk (S.out.call hb5)
  replace HR3 := Aside0.mk (Kd.R_below HR3.out hb5)
  have HT1 := Aside0.mk hC1
  clear hc1 hC1 hb5 HCX
  go_upto_region 12 with (first
    | (refine gate_ (.load 29 (.tmp 5)) rfl ?_; (first | refine gate_none rfl ?_ | refine gate_if rfl rfl rfl ?_); refine wpList_load_row rfl 29 _ rfl _ rfl 29 (bc b) (0, 0) _ (S.out.get 0 rfl) Try.underlying29 rfl (bc_info _) ?_)
    | (go_at_call 41; refine (CR.out _ (Kd.C_below HC.out S.out.below)).mono ?_; rintro e6 w6 ⟨A2, c2, rfl, hc2, hC2, hb6⟩)
    | fail)
  replace S := Aside0.mk (S.out.call hb6)
  replace HR3 := Aside0.mk (Kd.R_below HR3.out hb6)
  replace HT1 := Aside0.mk (Kd.C_below HT1.out hb6)
  have HT2 := Aside0.mk hC2
  have htmax : T.length ≤ 9223372036854775807 := Kd.C_max hC2
  clear hc2 hC2 hb6
  have htt : ((T.length : Int) == T.length) = true := by simp
  have htn : ((T.length : Int) != T.length) = false := by simp
  have h77 : w6.cell? ⟨g, l.length * 25 + 24, none⟩ = some (.int .i64 77) := by
    obtain ⟨ad, c', e, hK, hc'⟩ := R_elem_at HR3.out z38 l.length (by omega)
    injection e with e
    subst e
    rw [show (l ++ [e77]).getD l.length z38 = e77 by simp] at hK
    have e := ec_K hK
    subst e
    have := hc' 24 _ rfl
    rw [show k38.sz = 25 from rfl, addr_add, addr_of] at this
    exact this
  go_wp2_with fail
  go_loopw [18] (fun v wr => ∃ i : Nat, i ≤ T.length ∧ v = .int .i64 i ∧ Aside0 (Below w6.heap.size w6 wr)) (fun v _ => T.length - (intOf v).toNat)
  case atStart => exact ⟨0, Nat.zero_le _, rfl, ⟨Below.refl _ _⟩⟩
  case round =>
    obtain ⟨i, hi, rfl, HBR⟩ := hrel
    replace S := Aside0.mk (S.out.call HBR.out)
    by_cases hlt : i < T.length
    · obtain ⟨q, hq⟩ : ∃ q, q = T.getD i z24 := ⟨_, rfl⟩
      obtain ⟨ad1, cx1, rfl, hK1, hc1'⟩ := elem_at (Kd.C_below HT1.out HBR.out) z24 i hlt
      obtain ⟨ad2, cx2, rfl, hK2, hc2'⟩ := elem_at (Kd.C_below HT2.out HBR.out) z24 i hlt
      rw [← hq] at hK1 hK2
      have e1 := k24_open hK1
      subst e1
      have e2 := k24_open hK2
      subst e2
      rw [show k24.sz = 2 from rfl] at hc1' hc2'
      have HX := Aside0.mk hc1'
      have HY := Aside0.mk hc2'
      have HQ := Aside0.mk (eqA_self q)
      clear hq hK1 hc1' hK2 hc2'
      go_upto_region 17 with fail
      refine wp_region_later (by kernel_rfl) (by kernel_rfl) ?_
      repeat (first
        | go_big_quiet_skip
        | (refine quiet_load_at 24 (.tmp 93) rfl rfl (ad1.add (i * 2)) [.int .u64 q.f0, .int .u64 q.f1] _ rfl (later_cells HX.out) Try.underlying24 rfl (by kernel_rfl) ?_; go_frame)
        | (refine quiet_load_at 24 (.tmp 97) rfl rfl (ad2.add (i * 2)) [.int .u64 q.f0, .int .u64 q.f1] _ rfl (later_cells HY.out) Try.underlying24 rfl (by kernel_rfl) ?_; go_frame)
        | (refine q_neq24 rfl _ _ _ rfl q q rfl rfl ?_; rw [HQ.out]; go_frame)
        | go_big_quiet_step (fail)
        | fail)
      refine wpQuiet_nil ?_
      intro w8 hw8
      have HB8 := Aside0.mk (below_then HBR.out HBR.out.size (later_below hw8))
      clear hw8
      go_wp2_with fail
      go_roundw
      case rel => exact ⟨i + 1, by omega, by go_num, HB8⟩
      case measure => simp [intOf]; omega
    · obtain rfl : i = T.length := by omega
      replace HR3 := Aside0.mk (Kd.R_below HR3.out HBR.out)
      clear HBR HT1 HT2
      go_wp2_with fail
      go_loopw [19] (fun v wj => ∃ i : Nat, i ≤ l.length ∧ v = .int .i64 i ∧ Aside0 (Below wr.heap.size wr wj)) (fun v _ => l.length - (intOf v).toNat)
      case atStart => exact ⟨0, Nat.zero_le _, rfl, ⟨Below.refl _ _⟩⟩
      case round =>
        obtain ⟨i, hi2, rfl, HBR⟩ := hrel
        replace S := Aside0.mk (S.out.call HBR.out)
        by_cases hlt2 : i < l.length
        · obtain ⟨q, hq⟩ : ∃ q, q = l.getD i z38 := ⟨_, rfl⟩
          obtain ⟨ad, c1', e1, hK1, hc1'⟩ := R_elem_at (Kd.R_below HR3.out HBR.out) z38 i (by omega)
          injection e1 with e1
          subst e1
          rw [show (l ++ [e77]).getD i z38 = q by rw [hq, List.getD_eq_getElem?_getD, List.getD_eq_getElem?_getD, List.getElem?_append_left hlt2]] at hK1
          have e1 := ec_K hK1
          subst e1
          rw [show k38.sz = 25 from rfl, addr_of] at hc1'
          have HX := Aside0.mk hc1'
          obtain ⟨ad, c2', rfl, hK2, hc2'⟩ := elem_at (Kd.C_below HC.out S.out.below) z38 i hlt2
          rw [← hq] at hK2
          have e2 := ec_K hK2
          subst e2
          rw [show k38.sz = 25 from rfl] at hc2'
          have HY := Aside0.mk hc2'
          have HQ := Aside0.mk (eqE_self q)
          clear hq hK1 hc1' hK2 hc2'
          go_upto_region 22 with fail
          refine wp_region_later (by kernel_rfl) (by kernel_rfl) ?_
          repeat (first
            | go_big_quiet_skip
            | (refine quiet_load_at 38 (.tmp 108) rfl rfl ⟨g, i * 25, none⟩ (ec q).toList _ rfl (later_cells HX.out) Try.underlying38 rfl (ec_info _) ?_; go_frame)
            | (refine quiet_load_at 38 (.tmp 112) rfl rfl (ad.add (i * 25)) (ec q).toList _ rfl (later_cells HY.out) Try.underlying38 rfl (ec_info _) ?_; go_frame)
            | (refine q_neq38 rfl _ _ _ rfl q q rfl rfl ?_; rw [HQ.out]; go_frame)
            | go_big_quiet_step (fail)
            | fail)
          refine wpQuiet_nil ?_
          intro w8 hw8
          have HB8 := Aside0.mk (below_then HBR.out HBR.out.size (later_below hw8))
          clear hw8
          go_wp2_with fail
          go_roundw
          case rel => exact ⟨i + 1, by omega, by go_num, HB8⟩
          case measure => simp [intOf]; omega
        · obtain rfl : i = l.length := by omega
          go_wp2_with fail
          go_ret
          exact ⟨rfl, S.out.below⟩
end Go.Proofs.Ytcgcognejjpcmaa
