/- The law NatMakes, walked: it answers true. -/
import Derived.Test.YtgppfpfdoooijaaRefMake
import Derived.Test.YtgppfpfdoooijaaEqP
import Derived.Test.YtgppfpfdoooijaaHeavy
import Derived.Test.YtgppfpfdoooijaaSlc
namespace Go.Proofs.Ytgppfpfdoooijaa
open Go.RowKit Go.Proofs.YtgppfpfdoooijaaW.PrintWords
set_option linter.unusedVariables false
set_option linter.unusedSimpArgs false
attribute [local go_sem] Later.cell_eq

theorem Aside0.mark {p : Prop} (h : Aside0 p) : p := h.out
theorem info51 : (Try.prog.info? 51).map (fun i => (i.zero, i.size, i.bytes)) = some (some (.agg #[.int .i64 0, .int .u64 0, .int .u64 0, .int .u64 0, .int .u64 0, .int .i64 0, .int .i64 0]), k51.sz, 56) := by kernel_rfl
theorem addr_of (g n : Nat) : (⟨g, 0, none⟩ : Addr).add n = ⟨g, n, none⟩ := by
  unfold Addr.add
  by_cases h : n = 0
  · subst h; rfl
  · simp [h]
/-- The key that stands behind. -/
def k77 : S51 := ⟨77, ⟨0, 0⟩, ⟨0, 0⟩, 0, 0⟩

set_option maxRecDepth 100000 in
set_option maxHeartbeats 8000000 in
theorem natMakes_any (c : S36) (cs : List Value) (inn : Int) (k : S51) (l : List S51) (A : Option Addr) (cap : Nat) (w : World) (hc : k36.K w c cs) (hf : Fits c) (hC : k51.C w A l.length l) :
    Calls Try.prog 12 #[.agg cs.toArray, .int .i64 inn, .agg #[.int .i64 k.f0, .int .u64 k.f1.f0, .int .u64 k.f1.f1, .int .u64 k.f2.f0, .int .u64 k.f2.f1, .int .i64 k.f3, .int .i64 k.f4], .slice A l.length cap] w fun e w' => e = .returned (.bool true) ∧ Below w.heap.size w w' := by
  have HK := Aside0.mk hc
  have HF := Aside0.mk hf
  have HCC := Aside0.mk hC
  have hmax : l.length ≤ 9223372036854775807 := Kd.C_max hC
  obtain ⟨A0, c0, A1, c1, A2, c2, A3, c3, A4, c4, A5, c5, A6, c6, rfl, l0, g0, l1, g1, l2, g2, l3, g3, l4, g4, l5, g5, l6, g6⟩ := k36_open hc
  clear hc hf hC l0 g0 l1 g1 l2 g2 l3 g3 l4 g4 l5 g5 l6 g6
  obtain ⟨pl, hpl⟩ : ∃ pl, pl = makeF c inn k l := ⟨_, rfl⟩
  have HM := Aside0.mk (fun W A' cap' (hW : Below w.heap.size w W) (hC : k51.C W A' l.length l) => show Calls Try.prog 27 #[.agg #[.slice A0 c.f0.length c0, .slice A1 c.f1.length c1, .slice A2 c.f2.length c2, .slice A3 c.f3.length c3, .slice A4 c.f4.length c4, .slice A5 c.f5.length c5, .slice A6 c.f6.length c6, .int .i64 c.f7], .int .i64 inn, .agg #[.int .i64 k.f0, .int .u64 k.f1.f0, .int .u64 k.f1.f1, .int .u64 k.f2.f0, .int .u64 k.f2.f1, .int .i64 k.f3, .int .i64 k.f4], .slice A' l.length cap'] W (fun e w' => e = .returned (.tuple #[.agg (plA pl.1), .int .i64 pl.2]) ∧ Below W.heap.size W w') by
    rw [hpl]; exact make_any c _ inn k l A' cap' W (k36.K_below hW HK.out) hC)
  have HR := Aside0.mk (fun W (hW : Below w.heap.size w W) => show Calls Try.prog 29 #[.agg #[.slice A0 c.f0.length c0, .slice A1 c.f1.length c1, .slice A2 c.f2.length c2, .slice A3 c.f3.length c3, .slice A4 c.f4.length c4, .slice A5 c.f5.length c5, .slice A6 c.f6.length c6, .int .i64 c.f7], .int .i64 inn, .agg #[.int .i64 k.f0, .int .u64 k.f1.f0, .int .u64 k.f1.f1, .int .u64 k.f2.f0, .int .u64 k.f2.f1, .int .i64 k.f3, .int .i64 k.f4], .slice A l.length cap] W (fun e w' => e = .returned (.tuple #[.agg (plA pl.1), .int .i64 pl.2]) ∧ Below W.heap.size W w') by
    rw [hpl]; exact refmake_any c _ inn k l A cap W (k36.K_below hW HK.out) (Kd.C_below HCC.out hW))
  clear hpl
  go_enter Try.func12, Try.ntmps12
  go_upto_region 1 with fail
  have S := Aside0.mk (((St.nil w).alloc (.cells #[.slice A0 c.f0.length c0, .slice A1 c.f1.length c1, .slice A2 c.f2.length c2, .slice A3 c.f3.length c3, .slice A4 c.f4.length c4, .slice A5 c.f5.length c5, .slice A6 c.f6.length c6, .int .i64 c.f7] 36)).alloc (.cells #[.int .i64 k.f0, .int .u64 k.f1.f0, .int .u64 k.f1.f1, .int .u64 k.f2.f0, .int .u64 k.f2.f1, .int .i64 k.f3, .int .i64 k.f4] 51))
  simp only [World.size_alloc, List.nil_append, List.cons_append] at S
  generalize World.alloc _ _ = W0 at *
  go_wp2_with (first
    | (refine gate_ (.load 36 (.tmp 4)) rfl ?_; refine wpList_load_row rfl 36 _ rfl _ rfl 36 #[.slice A0 c.f0.length c0, .slice A1 c.f1.length c1, .slice A2 c.f2.length c2, .slice A3 c.f3.length c3, .slice A4 c.f4.length c4, .slice A5 c.f5.length c5, .slice A6 c.f6.length c6, .int .i64 c.f7] (0, 0) _ (S.out.get 0 rfl) Try.underlying36 rfl (by kernel_rfl) ?_)
    | (go_at_call 26; refine Aside0.out ?_)
    | fail)
  refine Aside0.mk ?_
  refine (heavy26_any c _ _ (k36.K_below S.out.below HK.out) HF.out).mono ?_
  rintro e w1 ⟨b, rfl, hle, hb1⟩
  replace S := Aside0.mk (S.out.call hb1)
  clear hle hb1
  cases b with
  | true =>
    go_wp2_with fail
    go_ret
    exact ⟨rfl, S.out.below⟩
  | false =>
    by_cases hmore : (256 : Int) < l.length
    · have hd : decide ((256 : Int) < l.length) = true := by simpa using hmore
      go_wp2_with fail
      go_ret
      exact ⟨rfl, S.out.below⟩
    have hd : decide ((256 : Int) < l.length) = false := by simpa using hmore
    have HL := Aside0.mk (show l.length ≤ 256 by omega)
    clear hmore
    go_upto_region 4 with fail
    have hw1 : w1.heap.size ≤ w1.heap.size + 1 := Nat.le_succ _
    have HE := Aside0.mk (R_empty k51 51 w1 (base := w1.heap.size) (ok := fun _ => True) (Nat.le_refl _) trivial)
    have HB := Aside0.mk ((Below.refl w1.heap.size w1).alloc (Nat.le_refl _) (.cells #[] 51))
    generalize hW1 : w1.alloc (.cells #[] 51) = wa at *
    have HS := Aside0.mk (show w1.heap.size ≤ wa.heap.size by rw [← hW1]; simp)
    clear hW1 hw1
    go_upto_region 5 with (first
      | (at_builtin; refine Kd.R_append_rows k51 (w0 := w1) (Rr := k51.K wa) w1.heap.size rfl (.tmp 23) (.tmp 24) 80 51 (.agg #[.int .i64 0, .int .u64 0, .int .u64 0, .int .u64 0, .int .u64 0, .int .i64 0, .int .i64 0]) 56 rfl Try.underlying80 info51 rfl (by decide) (by omega) (.slice (some ⟨w1.heap.size, 0, none⟩) 0 0) [] l A l.length cap (fun _ => True) (fun _ => False) rfl rfl HE.out (Kd.C_below HCC.out (below_then S.out.below S.out.below.size HB.out)) (fun x cs hk => by rw [k51_open hk]; exact k51_mkM _ _ _ x) (fun _ hk => hk.elim) (fun k hk => trivial) HB.out HS.out (by have := HL.out; simp; omega) ?_; intro v2 w2 hR2 hb2 hg2 hat2)
      | fail)
    have HR2 := Aside0.mk (show k51.R 51 w2 w1.heap.size (fun _ => True) v2 l from hR2)
    have HB2 := Aside0.mk hb2
    clear hR2 hb2 hg2 hat2 HE HB HS
    go_upto_region 6 with (first
      | (at_builtin; refine Kd.R_append k51 (w0 := w1) w1.heap.size rfl (.tmp 26) (.tmp 28) 80 51 (.agg #[.int .i64 0, .int .u64 0, .int .u64 0, .int .u64 0, .int .u64 0, .int .i64 0, .int .i64 0]) 56 rfl Try.underlying80 info51 rfl (by decide) (by omega) v2 l k77 [.int .i64 77, .int .u64 0, .int .u64 0, .int .u64 0, .int .u64 0, .int .i64 0, .int .i64 0] (fun _ => True) (fun _ => False) rfl rfl (k51_mkM _ _ _ k77) (fun _ hk => hk.elim) (fun k hk => trivial) HR2.out HB2.out HB2.out.size (by have := HL.out; omega) ?_; intro v3 w3 hR3 hb3 hg3 hat3)
      | fail)
    obtain ⟨g, cv, rfl, hg, -⟩ := Kd.R_form hR3 (by simp)
    rw [show (l ++ [k77]).length = l.length + 1 by simp] at hR3 ⊢
    have hcv : l.length + 1 ≤ cv := (Kd.R_reads' hR3).2.1
    have HR3 := Aside0.mk hR3
    replace S := Aside0.mk (S.out.call hb3)
    have HR2b := Aside0.mk (Kd.R_take hR3 (m := l.length) (by simp))
    clear hR3 hb3 hg3 hat3 HR2 HB2 hg
    have HCX := Aside0.mk (show k51.C w3 (some ⟨g, 0, none⟩) l.length l by have := (Kd.R_reads' HR2b.out).2.2; simpa using this)
    have hnn : (pl.2 == pl.2) = true := by simp
    have HEQ := Aside0.mk (eqP_self pl.1)
    refine Rg.made 12 11 10 71 (plA zPL) (plA pl.1) _ _ _ (by kernel_rfl) (by kernel_rfl) (by kernel_rfl) rfl rfl (by decide) ⟨rfl, rfl, rfl⟩ ⟨rfl, rfl, rfl⟩ (by kernel_rfl) (by simp) (fun W => by kernel_rfl) rfl (plA_info _) (plA_one _) (by simp) ?_
    apply Exists.intro
    refine ⟨?_, ?_, ?_⟩
    · intro w' hw'
      have S2 := Aside0.mk (S.out.call hw')
      have HC2 := Aside0.mk (Kd.C_below HCX.out hw')
      clear hw'
      simp only [Rg.cutOut, List.eraseIdx_cons_succ, List.eraseIdx_cons_zero]
      repeat (first
        | go_big_quiet_skip
        | (refine quiet_load_row 36 (.tmp 4) rfl rfl _ #[.slice A0 c.f0.length c0, .slice A1 c.f1.length c1, .slice A2 c.f2.length c2, .slice A3 c.f3.length c3, .slice A4 c.f4.length c4, .slice A5 c.f5.length c5, .slice A6 c.f6.length c6, .int .i64 c.f7] 36 (0, 0) _ rfl (later_blk (S2.out.get 0 rfl)) Try.underlying36 rfl (by kernel_rfl) ?_; go_frame)
        | (refine quiet_load_row 51 (.tmp 6) rfl rfl _ #[.int .i64 k.f0, .int .u64 k.f1.f0, .int .u64 k.f1.f1, .int .u64 k.f2.f0, .int .u64 k.f2.f1, .int .i64 k.f3, .int .i64 k.f4] 51 (0, 0) _ rfl (later_blk (S2.out.get 1 rfl)) Try.underlying51 rfl (by kernel_rfl) ?_; go_frame)
        | go_big_quiet_step ((go_at_call 27; with_reducible exact later_of (HM.out _ _ _ (below_then S2.out.below S2.out.below.size (Later.below _)) (Kd.C_below HC2.out (Later.below _)))))
        | fail)
      exact wpQuiet_nil rfl
    · rfl
    · intro p10 w5 hB5 hg10 hb10
      replace S := Aside0.mk ((S.out.call hB5).add hb10)
      simp only [List.cons_append, List.nil_append] at S
      replace HR3 := Aside0.mk (Kd.R_below HR3.out hB5)
      clear hB5 hg10 hb10 HR2b HCX
      simp only [Act.put]
      go_upto_region 8 with (first
        | (refine gate_ (.load 36 (.tmp 4)) rfl ?_; refine wpList_load_row rfl 36 _ rfl _ rfl 36 #[.slice A0 c.f0.length c0, .slice A1 c.f1.length c1, .slice A2 c.f2.length c2, .slice A3 c.f3.length c3, .slice A4 c.f4.length c4, .slice A5 c.f5.length c5, .slice A6 c.f6.length c6, .int .i64 c.f7] (0, 0) _ (S.out.get 0 rfl) Try.underlying36 rfl (by kernel_rfl) ?_)
        | (refine gate_ (.load 51 (.tmp 6)) rfl ?_; refine wpList_load_row rfl 51 _ rfl _ rfl 51 #[.int .i64 k.f0, .int .u64 k.f1.f0, .int .u64 k.f1.f1, .int .u64 k.f2.f0, .int .u64 k.f2.f1, .int .i64 k.f3, .int .i64 k.f4] (0, 0) _ (S.out.get 1 rfl) Try.underlying51 rfl (by kernel_rfl) ?_)
        | (go_at_call 29; (with_reducible refine (HR.out _ S.out.below).mono ?_); rintro e w9 ⟨rfl, hb9⟩; replace S := Aside0.mk (S.out.call hb9); replace HR3 := Aside0.mk (Kd.R_below HR3.out hb9); clear hb9)
        | (refine gate_ (.store 76 (.tmp 12) (.tmp 47)) rfl ?_; refine wpList_store_all rfl 76 _ _ rfl _ (plA pl.1) _ _ rfl rfl (heap_alloc_new _ _) rfl (plA_info76 _) (plA_one _) ?_; intro w7 hb7 hg7 hz7)
        | fail)
      have hb9 := (Below.refl w9.heap.size w9).alloc (Nat.le_refl _) (.cells (plA zPL) 76)
      have hb97 : Below w9.heap.size w9 w7 := hb9.trans (below_grown hg7 (by simp) (Nat.le_refl _))
      replace HR3 := Aside0.mk (Kd.R_below HR3.out hb97)
      replace S := Aside0.mk (S.out.made hg7 hb7)
      simp only [List.cons_append, List.nil_append] at S
      generalize w9.heap.size = p12 at *
      clear hb7 hg7 hz7 hb9 hb97
      have h77 : w7.cell? ⟨g, l.length * 7, none⟩ = some (.int .i64 77) := by
        obtain ⟨ad, c', e, hK, hc'⟩ := R_elem_at HR3.out z51 l.length (by omega)
        injection e with e
        subst e
        rw [show (l ++ [k77]).getD l.length z51 = k77 by simp] at hK
        have e := k51_open hK
        subst e
        have := hc' 0 _ rfl
        rw [show k51.sz = 7 from rfl, addr_add, Nat.add_zero, addr_of] at this
        exact this
      go_wp2_with (first
        | (refine gate_ (.load 71 (.tmp 10)) rfl ?_; (first | refine gate_none rfl ?_ | refine gate_if rfl rfl rfl ?_); refine wpList_load_row rfl 71 _ rfl _ rfl 71 (plA pl.1) (0, 0) _ (S.out.get 2 rfl) Try.underlying71 rfl (plA_info _) ?_)
        | (refine gate_ (.load 76 (.tmp 12)) rfl ?_; (first | refine gate_none rfl ?_ | refine gate_if rfl rfl rfl ?_); refine wpList_load_row rfl 76 _ rfl _ rfl 76 (plA pl.1) (0, 0) _ (S.out.get 3 rfl) Try.underlying76 rfl (plA_info76 _) ?_)
        | (refine gate_dst (N := 55) rfl ?_; refine wpList_neq76 rfl _ _ _ rfl pl.1 pl.1 rfl rfl ?_; rw [HEQ.out])
        | fail)
      go_loopw [14] (fun v wr => ∃ i : Nat, i ≤ l.length ∧ v = .int .i64 i ∧ Aside0 (Below w7.heap.size w7 wr)) (fun v _ => l.length - (intOf v).toNat)
      case atStart => exact ⟨0, Nat.zero_le _, rfl, ⟨Below.refl _ _⟩⟩
      case round =>
        obtain ⟨i, hi, rfl, HBR⟩ := hrel
        replace S := Aside0.mk (S.out.call HBR.out)
        by_cases hlt : i < l.length
        · obtain ⟨q, hq⟩ : ∃ q, q = l.getD i z51 := ⟨_, rfl⟩
          obtain ⟨ad, c1', e1, hK1, hc1'⟩ := R_elem_at (Kd.R_below HR3.out HBR.out) z51 i (by omega)
          injection e1 with e1
          subst e1
          rw [show (l ++ [k77]).getD i z51 = q by rw [hq, List.getD_eq_getElem?_getD, List.getD_eq_getElem?_getD, List.getElem?_append_left hlt]] at hK1
          have e1 := k51_open hK1
          subst e1
          rw [show k51.sz = 7 from rfl, addr_of] at hc1'
          have HX := Aside0.mk hc1'
          obtain ⟨ad, c2', rfl, hK2, hc2'⟩ := elem_at (Kd.C_below HCC.out S.out.below) z51 i hlt
          rw [← hq] at hK2
          have e2 := k51_open hK2
          subst e2
          rw [show k51.sz = 7 from rfl] at hc2'
          have HY := Aside0.mk hc2'
          have HQ := Aside0.mk (eqK_self q)
          clear hq hK1 hc1' hK2 hc2'
          go_upto_region 13 with fail
          refine wp_region_later (by kernel_rfl) (by kernel_rfl) ?_
          repeat (first
            | go_big_quiet_skip
            | (refine quiet_load_at 51 (.tmp 74) rfl rfl ⟨g, i * 7, none⟩ [.int .i64 q.f0, .int .u64 q.f1.f0, .int .u64 q.f1.f1, .int .u64 q.f2.f0, .int .u64 q.f2.f1, .int .i64 q.f3, .int .i64 q.f4] _ rfl (later_cells HX.out) Try.underlying51 rfl (by kernel_rfl) ?_; go_frame)
            | (refine quiet_load_at 51 (.tmp 78) rfl rfl (ad.add (i * 7)) [.int .i64 q.f0, .int .u64 q.f1.f0, .int .u64 q.f1.f1, .int .u64 q.f2.f0, .int .u64 q.f2.f1, .int .i64 q.f3, .int .i64 q.f4] _ rfl (later_cells HY.out) Try.underlying51 rfl (by kernel_rfl) ?_; go_frame)
            | (refine quiet_neq51 rfl _ _ _ rfl q q rfl rfl ?_; rw [HQ.out]; go_frame)
            | go_big_quiet_step (fail)
            | fail)
          refine wpQuiet_nil ?_
          intro w8 hw8
          have HB8 := Aside0.mk (below_then HBR.out HBR.out.size (later_below hw8))
          clear hw8
          go_wp2_with fail
          go_roundw
          case rel => exact ⟨i + 1, by omega, by go_num, HB8⟩
          case measure => simp [intOf]; omega
        · obtain rfl : i = l.length := by omega
          go_wp2_with fail
          go_ret
          exact ⟨rfl, S.out.below⟩
end Go.Proofs.Ytgppfpfdoooijaa
