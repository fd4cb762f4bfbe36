/- How a flow is translated: the program's Make. -/
import Derived.Test.YtgppfpfdoooijaaMaker4
import Derived.Great.BuildSlice
namespace Go.Proofs.Ytgppfpfdoooijaa
open Go.RowKit Go.Proofs.YtgppfpfdoooijaaW.PrintWords
set_option linter.unusedVariables false
set_option linter.unusedSimpArgs false
attribute [local go_sem] Later.cell_eq


/-- A plan. -/
structure PL where
  J : S51
  O : S51
  U : S51
  B : S51
  H : S51
  ifc : Int
  zn : Int
def zPL : PL := ⟨z51, z51, z51, z51, z51, 0, 0⟩
/-- A plan's cells. -/
def plA (m : PL) : Array Value := #[.int .i64 m.J.f0, .int .u64 m.J.f1.f0, .int .u64 m.J.f1.f1, .int .u64 m.J.f2.f0, .int .u64 m.J.f2.f1, .int .i64 m.J.f3, .int .i64 m.J.f4, .int .i64 m.O.f0, .int .u64 m.O.f1.f0, .int .u64 m.O.f1.f1, .int .u64 m.O.f2.f0, .int .u64 m.O.f2.f1, .int .i64 m.O.f3, .int .i64 m.O.f4, .int .i64 m.U.f0, .int .u64 m.U.f1.f0, .int .u64 m.U.f1.f1, .int .u64 m.U.f2.f0, .int .u64 m.U.f2.f1, .int .i64 m.U.f3, .int .i64 m.U.f4, .int .i64 m.B.f0, .int .u64 m.B.f1.f0, .int .u64 m.B.f1.f1, .int .u64 m.B.f2.f0, .int .u64 m.B.f2.f1, .int .i64 m.B.f3, .int .i64 m.B.f4, .int .i64 m.H.f0, .int .u64 m.H.f1.f0, .int .u64 m.H.f1.f1, .int .u64 m.H.f2.f0, .int .u64 m.H.f2.f1, .int .i64 m.H.f3, .int .i64 m.H.f4, .int .i64 m.ifc, .int .i64 m.zn]
theorem plA_one (m : PL) : (plA m).all (·.oneCell') = true := by simp [plA, Value.oneCell']
theorem plA_info (m : PL) : (Try.prog.info? 71).map (·.size) = some (plA m).size := by rw [show (plA m).size = 37 from rfl]; kernel_rfl
theorem plA_info76 (m : PL) : (Try.prog.info? 76).map (·.size) = some (plA m).size := by rw [show (plA m).size = 37 from rfl]; kernel_rfl
/-- The key that the rules are asked about. -/
def judgeK (c : S36) (k : S51) : S51 := ⟨k.f0, k.f1, (destF c k).1, k.f3, if icmpB k.f0 then k.f4 else (destF c k).2.1⟩
/-- The source's part: the key as it goes out, whether a port is looked for, and where. -/
def srcU (c : S36) (zn inn : Int) (J O : S51) (cl : Bool) : S51 × Bool × Int × Int :=
  if 0 ≤ sourceF c zn J then
    (⟨J.f0, (c.f5.getD (sourceF c zn J).toNat z56).f4, J.f2, J.f3, J.f4⟩, (c.f5.getD (sourceF c zn J).toNat z56).f0 == 1 && ported16 O.f0, (c.f5.getD (sourceF c zn J).toNat z56).f6, (c.f5.getD (sourceF c zn J).toNat z56).f7)
  else if (cl && zn == inn && is4F (c.f0.getD zn.toNat z54).f1 == is4F O.f1) = true then
    (⟨J.f0, (c.f0.getD zn.toNat z54).f1, J.f2, J.f3, J.f4⟩, ported16 O.f0, 1024, 65535)
  else (J, false, 0, 0)
/-- The plan, the reason. -/
def makeF (c : S36) (inn : Int) (k : S51) (l : List S51) : PL × Int :=
  if routeR (routeF c (destF c k).1) = 0 then
    match portR (srcU c (routeF c (destF c k).1).2 inn (judgeK c k) k (decide (0 ≤ (destF c k).2.2))).1 k (srcU c (routeF c (destF c k).1).2 inn (judgeK c k) k (decide (0 ≤ (destF c k).2.2))).2.1 (srcU c (routeF c (destF c k).1).2 inn (judgeK c k) k (decide (0 ≤ (destF c k).2.2))).2.2.1 (srcU c (routeF c (destF c k).1).2 inn (judgeK c k) k (decide (0 ≤ (destF c k).2.2))).2.2.2 l with
    | some u => (⟨judgeK c k, k, u, turnK u, turnK k, (routeF c (destF c k).1).1, (routeF c (destF c k).1).2⟩, 0)
    | none => (zPL, 15)
  else (zPL, routeR (routeF c (destF c k).1))
theorem sourceM_eq (c : S36) (m : MS) (h : m.lk = false) (h1 : m.fr = 0) (h2 : m.tt = 0) : sourceM c m = { m with U := (srcU c m.zn m.inn m.J m.O m.cl).1, lk := (srcU c m.zn m.inn m.J m.O m.cl).2.1, fr := (srcU c m.zn m.inn m.J m.O m.cl).2.2.1, tt := (srcU c m.zn m.inn m.J m.O m.cl).2.2.2 } := by
  unfold sourceM srcU
  by_cases hp : 0 ≤ sourceF c m.zn m.J
  · rw [if_pos hp, if_pos hp]
  · rw [if_neg hp, if_neg hp]
    by_cases hq : (m.cl && m.zn == m.inn && is4F (c.f0.getD m.zn.toNat z54).f1 == is4F m.O.f1) = true
    · rw [if_pos hq, if_pos hq]
    · rw [if_neg hq, if_neg hq]
      clear hp hq
      cases m
      simp only at h h1 h2
      subst h
      subst h1
      subst h2
      rfl
theorem routeR_range {c : S36} {d : S39} (h : routeR (routeF c d) = 0) : 0 ≤ (routeF c d).2 ∧ (routeF c d).2 < c.f0.length := by
  cases hb : bestR d c.f4 with
  | none =>
    have e : routeF c d = (-1, -1) := by unfold routeF; rw [hb]
    rw [e] at h
    cases h
  | some r =>
    have e : routeF c d = (r.f2, zoneF c r.f2) := by unfold routeF; rw [hb]
    rw [e] at h ⊢
    have hr := idxF_range (fun z => contI z.f2 r.f2) c.f0
    have hz : zoneF c r.f2 = idxF (fun z => contI z.f2 r.f2) c.f0 := rfl
    rw [← hz] at hr
    refine ⟨?_, hr.2⟩
    by_cases hm : zoneF c r.f2 = -1
    · exfalso
      unfold routeR at h
      rw [hm] at h
      simp only at h
      split at h <;> simp at h
    · show 0 ≤ zoneF c r.f2
      omega

set_option maxRecDepth 100000 in
set_option maxHeartbeats 8000000 in
theorem make_any (c : S36) (cs : List Value) (inn : Int) (k : S51) (l : List S51) (A : Option Addr) (cap : Nat) (w : World) (hc : k36.K w c cs) (hC : k51.C w A l.length l) :
    Calls Try.prog 27 #[.agg cs.toArray, .int .i64 inn, .agg #[.int .i64 k.f0, .int .u64 k.f1.f0, .int .u64 k.f1.f1, .int .u64 k.f2.f0, .int .u64 k.f2.f1, .int .i64 k.f3, .int .i64 k.f4], .slice A l.length cap] w fun e w' =>
      e = .returned (.tuple #[.agg (plA (makeF c inn k l).1), .int .i64 (makeF c inn k l).2]) ∧ Below w.heap.size w w' := by
  obtain ⟨A0, c0, A1, c1, A2, c2, A3, c3, A4, c4, A5, c5, A6, c6, rfl, l0, g0, l1, g1, l2, g2, l3, g3, l4, g4, l5, g5, l6, g6⟩ := k36_open hc
  have HK := Aside0.mk hc
  have HCC := Aside0.mk hC
  clear hc hC l0 g0 l1 g1 l2 g2 l3 g3 l4 g4 l5 g5 l6 g6
  obtain ⟨m0, hm0⟩ : ∃ m0 : MS, m0 = (⟨.slice A0 c.f0.length c0, .slice A1 c.f1.length c1, .slice A2 c.f2.length c2, .slice A3 c.f3.length c3, .slice A4 c.f4.length c4, .slice A5 c.f5.length c5, .slice A6 c.f6.length c6, .int .i64 c.f7, inn, .slice A l.length cap, k, k, z51, z51, turnK k, 0, 0, false, false, 0, 0⟩ : MS) := ⟨_, rfl⟩
  have HM0 := Aside0.mk hm0
  have HA := Aside0.mk (show mkA m0 = mkA (⟨.slice A0 c.f0.length c0, .slice A1 c.f1.length c1, .slice A2 c.f2.length c2, .slice A3 c.f3.length c3, .slice A4 c.f4.length c4, .slice A5 c.f5.length c5, .slice A6 c.f6.length c6, .int .i64 c.f7, inn, .slice A l.length cap, k, k, z51, z51, turnK k, 0, 0, false, false, 0, 0⟩ : MS) by rw [hm0])
  clear hm0
  go_enter Try.func27, Try.ntmps27
  go_upto_region 1 with fail
  have S := Aside0.mk ((((St.nil w).alloc (.cells #[.slice A0 c.f0.length c0, .slice A1 c.f1.length c1, .slice A2 c.f2.length c2, .slice A3 c.f3.length c3, .slice A4 c.f4.length c4, .slice A5 c.f5.length c5, .slice A6 c.f6.length c6, .int .i64 c.f7] 36)).alloc (.cells #[.int .i64 k.f0, .int .u64 k.f1.f0, .int .u64 k.f1.f1, .int .u64 k.f2.f0, .int .u64 k.f2.f1, .int .i64 k.f3, .int .i64 k.f4] 51)).alloc (.cells #[.int .i64 0, .int .u64 0, .int .u64 0, .int .u64 0, .int .u64 0, .int .i64 0, .int .i64 0, .int .i64 0, .int .u64 0, .int .u64 0, .int .u64 0, .int .u64 0, .int .i64 0, .int .i64 0, .int .i64 0, .int .u64 0, .int .u64 0, .int .u64 0, .int .u64 0, .int .i64 0, .int .i64 0, .int .i64 0, .int .u64 0, .int .u64 0, .int .u64 0, .int .u64 0, .int .i64 0, .int .i64 0, .int .i64 0, .int .u64 0, .int .u64 0, .int .u64 0, .int .u64 0, .int .i64 0, .int .i64 0, .int .i64 0, .int .i64 0] 71))
  simp only [World.size_alloc, List.nil_append, List.cons_append] at S
  generalize World.alloc _ _ = W0 at *
  refine wp_region_later_tail 9 (by kernel_rfl) (by kernel_rfl) ?_
  simp only [List.take_succ_cons, List.take_zero, List.drop_succ_cons, List.drop_zero]
  repeat (first
    | go_big_quiet_skip
    | (refine quiet_load_row 36 (.tmp 4) rfl rfl _ #[.slice A0 c.f0.length c0, .slice A1 c.f1.length c1, .slice A2 c.f2.length c2, .slice A3 c.f3.length c3, .slice A4 c.f4.length c4, .slice A5 c.f5.length c5, .slice A6 c.f6.length c6, .int .i64 c.f7] 36 (0, 0) _ rfl (later_blk (S.out.get 0 rfl)) Try.underlying36 rfl (by kernel_rfl) ?_; go_frame)
    | (refine quiet_load_row 51 (.tmp 6) rfl rfl _ #[.int .i64 k.f0, .int .u64 k.f1.f0, .int .u64 k.f1.f1, .int .u64 k.f2.f0, .int .u64 k.f2.f1, .int .i64 k.f3, .int .i64 k.f4] 51 (0, 0) _ rfl (later_blk (S.out.get 1 rfl)) Try.underlying51 rfl (by kernel_rfl) ?_; go_frame)
    | (refine quiet_run (o := ⟨some 21, _, _, _, _, _⟩) (.agg (plA ⟨k, k, z51, z51, turnK k, 0, 0⟩)) rfl (fun w => by kernel_rfl) ?_; go_frame)
    | (refine quiet_run (o := ⟨some 22, _, _, _, _, _⟩) (.agg (mkA (⟨.slice A0 c.f0.length c0, .slice A1 c.f1.length c1, .slice A2 c.f2.length c2, .slice A3 c.f3.length c3, .slice A4 c.f4.length c4, .slice A5 c.f5.length c5, .slice A6 c.f6.length c6, .int .i64 c.f7, inn, .slice A l.length cap, k, k, z51, z51, turnK k, 0, 0, false, false, 0, 0⟩ : MS))) rfl (fun w => by kernel_rfl) ?_; rw [← HA.out]; go_frame)
    | go_big_quiet_step ((go_at_call 49; with_reducible exact later_of (turned_any k _)))
    | fail)
  refine wpQuiet_nil ?_
  intro w1 hw1
  replace S := Aside0.mk (S.out.call (later_below hw1))
  clear hw1
  obtain ⟨B, hBe⟩ : ∃ B, B = w1.heap.size := ⟨_, rfl⟩
  have HBE := Aside0.mk hBe
  have T := Aside0.mk ((St.nil w1).alloc (.cells (mkA m0) 107))
  simp only [List.nil_append] at T
  rw [← hBe] at T
  have hB1 : w1.heap.size ≤ B := by omega
  clear hBe
  have HK1 := Aside0.mk (k36.K_below S.out.below HK.out)
  have HC1 := Aside0.mk (Kd.C_below HCC.out S.out.below)
  have f0 : ∀ w, (Instr.index 109 (.agg #[.func (.func 50) #[.pointer (some ⟨B, 0, none⟩)] #[], .func (.func 51) #[.pointer (some ⟨B, 0, none⟩)] #[], .func (.func 52) #[.pointer (some ⟨B, 0, none⟩)] #[], .func (.func 53) #[.pointer (some ⟨B, 0, none⟩)] #[]]) (.int .i64 0)).run Try.prog w = .ok (.func (.func 50) #[.pointer (some ⟨B, 0, none⟩)] #[]) w := fun w => by kernel_rfl
  have f1 : ∀ w, (Instr.index 109 (.agg #[.func (.func 50) #[.pointer (some ⟨B, 0, none⟩)] #[], .func (.func 51) #[.pointer (some ⟨B, 0, none⟩)] #[], .func (.func 52) #[.pointer (some ⟨B, 0, none⟩)] #[], .func (.func 53) #[.pointer (some ⟨B, 0, none⟩)] #[]]) (.int .i64 1)).run Try.prog w = .ok (.func (.func 51) #[.pointer (some ⟨B, 0, none⟩)] #[]) w := fun w => by kernel_rfl
  have f2 : ∀ w, (Instr.index 109 (.agg #[.func (.func 50) #[.pointer (some ⟨B, 0, none⟩)] #[], .func (.func 51) #[.pointer (some ⟨B, 0, none⟩)] #[], .func (.func 52) #[.pointer (some ⟨B, 0, none⟩)] #[], .func (.func 53) #[.pointer (some ⟨B, 0, none⟩)] #[]]) (.int .i64 2)).run Try.prog w = .ok (.func (.func 52) #[.pointer (some ⟨B, 0, none⟩)] #[]) w := fun w => by kernel_rfl
  have f3 : ∀ w, (Instr.index 109 (.agg #[.func (.func 50) #[.pointer (some ⟨B, 0, none⟩)] #[], .func (.func 51) #[.pointer (some ⟨B, 0, none⟩)] #[], .func (.func 52) #[.pointer (some ⟨B, 0, none⟩)] #[], .func (.func 53) #[.pointer (some ⟨B, 0, none⟩)] #[]]) (.int .i64 3)).run Try.prog w = .ok (.func (.func 53) #[.pointer (some ⟨B, 0, none⟩)] #[]) w := fun w => by kernel_rfl
  go_wp2_with fail
  rw [← HBE.out]
  generalize World.alloc _ _ = w2 at *
  refine wp_loop_rounds 5 ?_
  rw [rounds_succ]
  go_wp2_with (go_at_call 50; refine Aside0.out ?_)
  refine Aside0.mk ?_
  have K0 := Aside0.mk (show k36.K w1 c [(m0).v0, (m0).v1, (m0).v2, (m0).v3, (m0).v4, (m0).v5, (m0).v6, (m0).v7] by rw [HM0.out]; exact HK1.out)
  have K1 := Aside0.mk (show k36.K w1 c [(destM c m0).v0, (destM c m0).v1, (destM c m0).v2, (destM c m0).v3, (destM c m0).v4, (destM c m0).v5, (destM c m0).v6, (destM c m0).v7] from K0.out)
  have K2 := Aside0.mk (show k36.K w1 c [(routeM c (destM c m0)).v0, (routeM c (destM c m0)).v1, (routeM c (destM c m0)).v2, (routeM c (destM c m0)).v3, (routeM c (destM c m0)).v4, (routeM c (destM c m0)).v5, (routeM c (destM c m0)).v6, (routeM c (destM c m0)).v7] from K0.out)
  refine (mdest_any c m0 B w1 w2 K0.out T.out hB1).mono ?_
  rintro e w3 ⟨rfl, T3⟩
  replace T := Aside0.mk T3
  clear T3
  go_wp2
  rw [rounds_succ]
  go_wp2_with (go_at_call 51; refine Aside0.out ?_)
  refine Aside0.mk ?_
  obtain ⟨rr, hrr⟩ : ∃ rr, rr = routeR (routeF c (destM c m0).J.f2) := ⟨_, rfl⟩
  have HRR := Aside0.mk hrr
  have H51 := mroute_any c (destM c m0) B w1 w3 K1.out T.out hB1
  rw [← hrr] at H51
  clear hrr
  refine H51.mono ?_
  clear H51
  rintro e w4 ⟨rfl, T4⟩
  replace T := Aside0.mk T4
  clear T4
  have HD0 := Aside0.mk (show (destM c m0).J.f2 = (destF c k).1 by rw [HM0.out]; rfl)
  by_cases hr : rr = 0
  · subst hr
    have HR0 := Aside0.mk (show routeR (routeF c (destF c k).1) = 0 by rw [← HD0.out]; exact HRR.out.symm)
    go_wp2
    rw [rounds_succ]
    go_wp2_with (go_at_call 52; refine Aside0.out ?_)
    refine Aside0.mk ?_
    have hz := routeR_range HRR.out.symm
    refine (msource_any c (routeM c (destM c m0)) B w1 w4 K2.out T.out hB1 (by show m0.lk = false; rw [HM0.out]) hz.1 hz.2).mono ?_
    clear hz
    rintro e w5 ⟨rfl, T5⟩
    replace T := Aside0.mk T5
    clear T5
    go_wp2
    rw [rounds_succ]
    go_wp2_with (go_at_call 53; refine Aside0.out ?_)
    refine Aside0.mk ?_
    obtain ⟨m3, hm3⟩ : ∃ m3, m3 = sourceM c (routeM c (destM c m0)) := ⟨_, rfl⟩
    have HE3 := Aside0.mk (hm3.trans (sourceM_eq c (routeM c (destM c m0)) (by show m0.lk = false; rw [HM0.out]) (by show m0.fr = 0; rw [HM0.out]) (by show m0.tt = 0; rw [HM0.out])))
    rw [← hm3] at T
    have HTK := Aside0.mk (show m3.tk = .slice A l.length cap by rw [HE3.out]; show m0.tk = _; rw [HM0.out])
    have HMF := Aside0.mk (show makeF c inn k l = (match portR m3.U m3.O m3.lk m3.fr m3.tt l with | some u => ((⟨m3.J, m3.O, u, turnK u, m3.H, m3.ifc, m3.zn⟩ : PL), (0 : Int)) | none => (zPL, 15)) by
      unfold makeF
      rw [if_pos HR0.out, HE3.out, HM0.out]
      rfl)
    clear hm3
    refine (mport_any m3 B l A cap w1 w5 HTK.out HC1.out T.out hB1).mono ?_
    rintro e w6 (⟨u, hu, rfl, T6⟩ | ⟨hu, rfl, T6⟩)
    · have HF := Aside0.mk (show makeF c inn k l = (⟨m3.J, m3.O, u, turnK u, m3.H, m3.ifc, m3.zn⟩, 0) by rw [HMF.out, hu])
      replace S := Aside0.mk (S.out.call T6.below)
      replace T := Aside0.mk T6
      clear T6 hu
      go_wp2
      rw [rounds_succ]
      go_wp2_with (first
        | (refine gate_ (.load 71 (.tmp 45)) rfl ?_; refine wpList_load_blk rfl 71 _ rfl _ _ 37 (plA ⟨m3.J, m3.O, u, turnK u, m3.H, m3.ifc, m3.zn⟩).toList _ _ _ _ rfl (T.out.get 0 rfl) (by kernel_rfl) Try.underlying71 rfl (by kernel_rfl) ?_)
        | (refine gate_ (.store 71 (.tmp 8) (.tmp 46)) rfl ?_; refine wpList_store_all rfl 71 _ _ rfl _ (plA ⟨m3.J, m3.O, u, turnK u, m3.H, m3.ifc, m3.zn⟩) _ _ rfl rfl (S.out.get 2 rfl) rfl (plA_info _) (plA_one _) ?_; intro w7 hb7 hg7 hz7)
        | fail)
      refine ends_ct rfl rfl rfl hb7 Try.underlying71 rfl (plA_info _) rfl ?_
      exact ⟨by rw [HF.out]; rfl, S.out.below.trans (below_grown hg7 S.out.below.size (by omega))⟩
    · have HF := Aside0.mk (show makeF c inn k l = (zPL, 15) by rw [HMF.out, hu])
      replace S := Aside0.mk (S.out.call T6)
      clear T6 hu
      go_wp2_with (first
        | (refine gate_dst (N := 40) rfl ?_; refine wpList_buildTo rfl 71 _ rfl (some 40) rfl (plA zPL) rfl ?_)
        | (refine gate_ (.store 71 (.tmp 8) (.tmp 40)) rfl ?_; refine wpList_store_all rfl 71 _ _ rfl _ (plA zPL) _ _ rfl rfl (S.out.get 2 rfl) rfl (plA_info _) (plA_one _) ?_; intro w7 hb7 hg7 hz7)
        | fail)
      refine ends_ct rfl rfl rfl hb7 Try.underlying71 rfl (plA_info _) rfl ?_
      exact ⟨by rw [HF.out]; rfl, S.out.below.trans (below_grown hg7 S.out.below.size (by omega))⟩
  · have HF := Aside0.mk (show makeF c inn k l = (zPL, rr) by unfold makeF; rw [← HD0.out, ← HRR.out, if_neg hr])
    have h1 : (rr != 0) = true := by simpa using hr
    have h2 : (rr == 0) = false := by simpa using hr
    replace S := Aside0.mk (S.out.call T.out.below)
    clear hr
    go_wp2_with (first
      | (refine gate_dst (N := 40) rfl ?_; refine wpList_buildTo rfl 71 _ rfl (some 40) rfl (plA zPL) rfl ?_)
      | (refine gate_ (.store 71 (.tmp 8) (.tmp 40)) rfl ?_; refine wpList_store_all rfl 71 _ _ rfl _ (plA zPL) _ _ rfl rfl (S.out.get 2 rfl) rfl (plA_info _) (plA_one _) ?_; intro w7 hb7 hg7 hz7)
      | fail)
    refine ends_ct rfl rfl rfl hb7 Try.underlying71 rfl (plA_info _) rfl ?_
    exact ⟨by rw [HF.out]; rfl, S.out.below.trans (below_grown hg7 S.out.below.size (by omega))⟩
end Go.Proofs.Ytgppfpfdoooijaa
