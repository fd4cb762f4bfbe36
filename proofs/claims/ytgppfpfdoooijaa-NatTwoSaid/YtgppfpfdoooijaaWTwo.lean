/- The law NatTwo, walked: it answers true. -/
import Derived.Test.YtgppfpfdoooijaaRefMake
import Derived.Test.YtgppfpfdoooijaaEqP
import Derived.Test.YtgppfpfdoooijaaHeavy
import Derived.Test.YtgppfpfdoooijaaSlc
import Derived.Test.YtgppfpfdoooijaaPlanLaw
namespace Go.Proofs.Ytgppfpfdoooijaa
open Go.RowKit Go.Proofs.YtgppfpfdoooijaaW.PrintWords
set_option linter.unusedVariables false
set_option linter.unusedSimpArgs false
attribute [local go_sem] Later.cell_eq

/-- The walk halts at what is marked. -/
def Marked (p : Prop) : Prop := p
theorem mark_ {p : Prop} (h : Marked p) : p := h
theorem info51 : (Try.prog.info? 51).map (fun i => (i.zero, i.size, i.bytes)) = some (some (.agg #[.int .i64 0, .int .u64 0, .int .u64 0, .int .u64 0, .int .u64 0, .int .i64 0, .int .i64 0]), k51.sz, 56) := by kernel_rfl
theorem addr_of (g n : Nat) : (⟨g, 0, none⟩ : Addr).add n = ⟨g, n, none⟩ := by
  unfold Addr.add
  by_cases h : n = 0
  · subst h; rfl
  · simp [h]
theorem C_two {W : World} {b : Nat} {x y : S51} {t : TypeId} (h : W.heap[b]? = some (.cells #[.int .i64 x.f0, .int .u64 x.f1.f0, .int .u64 x.f1.f1, .int .u64 x.f2.f0, .int .u64 x.f2.f1, .int .i64 x.f3, .int .i64 x.f4, .int .i64 y.f0, .int .u64 y.f1.f0, .int .u64 y.f1.f1, .int .u64 y.f2.f0, .int .u64 y.f2.f1, .int .i64 y.f3, .int .i64 y.f4] t (0, 0))) : k51.C W (some ⟨b, 0, none⟩) 2 [x, y] := by
  refine ⟨rfl, by decide, fun _ => ⟨_, rfl, fun j p hj => ?_⟩⟩
  rcases j with _ | _ | j
  · injection hj with hj
    subst hj
    refine ⟨_, rfl, k51_mk W x, fun i u hu => ?_⟩
    rw [addr_of, cell_of_row W b _ _ t (0, 0) h]
    rcases i with _ | _ | _ | _ | _ | _ | _ | i
    · exact hu
    · exact hu
    · exact hu
    · exact hu
    · exact hu
    · exact hu
    · exact hu
    · cases hu
  · injection hj with hj
    subst hj
    refine ⟨_, rfl, k51_mk W y, fun i u hu => ?_⟩
    rw [addr_of, cell_of_row W b _ _ t (0, 0) h]
    rcases i with _ | _ | _ | _ | _ | _ | _ | i
    · exact hu
    · exact hu
    · exact hu
    · exact hu
    · exact hu
    · exact hu
    · exact hu
    · cases hu
  · cases hj
/-- Has one of the first k keys been met? -/
def metK (T : List S51) (q : S51) (k : Nat) : Bool := (T.take k).any fun x => eqK x q
theorem met_succ {T : List S51} {q : S51} {k : Nat} (hk : k < T.length) : metK T q (k + 1) = (metK T q k || eqK (T.getD k z51) q) := by
  unfold metK
  rw [List.take_add_one, List.any_append, List.getElem?_eq_getElem hk, List.getD_eq_getElem?_getD, List.getElem?_eq_getElem hk]
  simp
theorem met_none {T : List S51} {q : S51} (h : metK T q T.length = false) : ∀ x ∈ T, eqK x q = false := by
  unfold metK at h
  rw [List.take_length, List.any_eq_false] at h
  exact fun x hx => by simpa using h x hx


set_option maxRecDepth 100000 in
set_option maxHeartbeats 8000000 in
theorem natTwo_any (c : S36) (cs : List Value) (inn : Int) (l : List S51) (A : Option Addr) (cap : Nat) (w : World) (hc : k36.K w c cs) (hf : Fits c) (hC : k51.C w A l.length l) :
    Calls Try.prog 14 #[.agg cs.toArray, .int .i64 inn, .slice A l.length cap] w fun e w' => e = .returned (.bool true) ∧ Below w.heap.size w w' := by
  have HK := Aside0.mk hc
  have HF := Aside0.mk hf
  have HCC := Aside0.mk hC
  have hmax : l.length ≤ 9223372036854775807 := Kd.C_max hC
  obtain ⟨A0, c0, A1, c1, A2, c2, A3, c3, A4, c4, A5, c5, A6, c6, rfl, l0, g0, l1, g1, l2, g2, l3, g3, l4, g4, l5, g5, l6, g6⟩ := k36_open hc
  clear hc hf hC l0 g0 l1 g1 l2 g2 l3 g3 l4 g4 l5 g5 l6 g6
  go_enter Try.func14, Try.ntmps14
  go_upto_region 1 with fail
  have S := Aside0.mk ((St.nil w).alloc (.cells #[.slice A0 c.f0.length c0, .slice A1 c.f1.length c1, .slice A2 c.f2.length c2, .slice A3 c.f3.length c3, .slice A4 c.f4.length c4, .slice A5 c.f5.length c5, .slice A6 c.f6.length c6, .int .i64 c.f7] 36))
  simp only [World.size_alloc, List.nil_append, List.cons_append] at S
  generalize World.alloc _ _ = W0 at *
  go_wp2_with (first
    | (refine gate_ (.load 36 (.tmp 3)) rfl ?_; refine wpList_load_row rfl 36 _ rfl _ rfl 36 #[.slice A0 c.f0.length c0, .slice A1 c.f1.length c1, .slice A2 c.f2.length c2, .slice A3 c.f3.length c3, .slice A4 c.f4.length c4, .slice A5 c.f5.length c5, .slice A6 c.f6.length c6, .int .i64 c.f7] (0, 0) _ (S.out.get 0 rfl) Try.underlying36 rfl (by kernel_rfl) ?_)
    | (go_at_call 26; refine Aside0.out ?_)
    | fail)
  refine Aside0.mk ?_
  refine (heavy26_any c _ _ (k36.K_below S.out.below HK.out) HF.out).mono ?_
  rintro e w1 ⟨b, rfl, hle, hb1⟩
  replace S := Aside0.mk (S.out.call hb1)
  clear hle hb1
  cases b with
  | true =>
    go_wp2_with fail
    go_ret
    exact ⟨rfl, S.out.below⟩
  | false =>
    by_cases hmore : (64 : Int) < l.length
    · have hd : decide ((64 : Int) < l.length) = true := by simpa using hmore
      go_wp2_with fail
      go_ret
      exact ⟨rfl, S.out.below⟩
    have hd : decide ((64 : Int) < l.length) = false := by simpa using hmore
    have HL := Aside0.mk (show l.length ≤ 64 by omega)
    clear hmore
    go_wp2_with fail
    have HE := R_empty k51 51 w1 (base := w1.heap.size) (ok := fun _ => True) (Nat.le_refl _) trivial
    have HB := (Below.refl w1.heap.size w1).alloc (Nat.le_refl _) (.cells #[] 51)
    go_loopw [7, 8] (fun v7 v8 wr => ∃ (i : Nat) (T : List S51) (A' : Option Addr) (cv : Nat), i ≤ l.length ∧ T.length ≤ 2 * i ∧ v8 = .int .i64 i ∧ v7 = .slice A' T.length cv ∧ Aside0 (k51.R 51 wr w1.heap.size (fun _ => True) (.slice A' T.length cv) T) ∧ Aside0 (Below w1.heap.size w1 wr)) (fun _ v _ => l.length - (intOf v).toNat)
    case atStart => exact ⟨0, [], _, _, Nat.zero_le _, Nat.zero_le _, rfl, rfl, ⟨HE⟩, ⟨HB⟩⟩
    case round =>
      clear HE HB
      obtain ⟨i, T, A', cv, hi, hTi, rfl, rfl, HRT, HBW⟩ := hrel
      replace S := Aside0.mk (S.out.call HBW.out)
      have hTm : T.length ≤ 9223372036854775807 := by have := HL.out; omega
      by_cases hlt : i < l.length
      · obtain ⟨q, hq⟩ : ∃ q, q = l.getD i z51 := ⟨_, rfl⟩
        obtain ⟨adq, cq, rfl, hKq, hcq⟩ := elem_at (Kd.C_below HCC.out S.out.below) z51 i hlt
        rw [← hq] at hKq
        have e2 := k51_open hKq
        subst e2
        rw [show k51.sz = 7 from rfl] at hcq
        have HXQ := Aside0.mk hcq
        clear hq hKq hcq
        go_wp2_with fail
        obtain ⟨Wi, hWi⟩ : ∃ Wi, Wi = wr := ⟨_, rfl⟩
        rw [← hWi] at S HRT HBW HXQ ⊢
        clear hWi
        go_loopw [9, 10] (fun v9 v10 wj => ∃ k : Nat, k ≤ T.length ∧ v10 = .int .i64 k ∧ v9 = .bool (metK T q k) ∧ Aside0 (Below Wi.heap.size Wi wj)) (fun _ v _ => T.length - (intOf v).toNat)
        case atStart => exact ⟨0, Nat.zero_le _, rfl, rfl, ⟨Below.refl _ _⟩⟩
        case round =>
          obtain ⟨k, hk, rfl, rfl, HBJ⟩ := hrel
          replace S := Aside0.mk (S.out.call HBJ.out)
          replace HRT := Aside0.mk (Kd.R_below HRT.out HBJ.out)
          replace HXQ := Aside0.mk (HXQ.out.below HBJ.out)
          replace HBW := Aside0.mk (below_then HBW.out HBW.out.size HBJ.out)
          by_cases hkl : k < T.length
          · obtain ⟨m, hm⟩ : ∃ m, metK T q k = m := ⟨_, rfl⟩
            obtain ⟨x, hx⟩ : ∃ x, x = T.getD k z51 := ⟨_, rfl⟩
            obtain ⟨y, hy⟩ : ∃ y, eqK x q = y := ⟨_, rfl⟩
            have HMS := Aside0.mk (met_succ (q := q) hkl)
            rw [hm, ← hx, hy] at HMS
            rw [hm]
            obtain ⟨adx, cx, rfl, hKx, hcx⟩ := R_elem_at HRT.out z51 k hkl
            rw [← hx] at hKx
            have e2 := k51_open hKx
            subst e2
            rw [show k51.sz = 7 from rfl] at hcx
            have HXX := Aside0.mk hcx
            have HY := Aside0.mk hy
            clear hm hx hKx hcx hy
            cases m with
            | true =>
              go_upto_region 11 with fail
              refine wp_region_later (by kernel_rfl) (by kernel_rfl) ?_
              repeat (first
                | go_big_quiet_skip
                | go_big_quiet_step (fail)
                | fail)
              refine wpQuiet_nil ?_
              intro w8 hw8
              have HB8 := Aside0.mk (below_then HBJ.out HBJ.out.size (later_below hw8))
              clear hw8
              go_wp2_with fail
              go_roundw
              case rel => exact ⟨k + 1, by omega, by go_num, by rw [HMS.out]; rfl, HB8⟩
              case measure => simp [intOf]; omega
            | false =>
              go_upto_region 11 with fail
              refine wp_region_later (by kernel_rfl) (by kernel_rfl) ?_
              repeat (first
                | go_big_quiet_skip
                | (refine quiet_load_at 51 (.tmp 40) rfl rfl (adx.add (k * 7)) [.int .i64 x.f0, .int .u64 x.f1.f0, .int .u64 x.f1.f1, .int .u64 x.f2.f0, .int .u64 x.f2.f1, .int .i64 x.f3, .int .i64 x.f4] _ rfl (later_cells HXX.out) Try.underlying51 rfl (by kernel_rfl) ?_; go_frame)
                | (refine quiet_load_at 51 (.tmp 44) rfl rfl (adq.add (i * 7)) [.int .i64 q.f0, .int .u64 q.f1.f0, .int .u64 q.f1.f1, .int .u64 q.f2.f0, .int .u64 q.f2.f1, .int .i64 q.f3, .int .i64 q.f4] _ rfl (later_cells HXQ.out) Try.underlying51 rfl (by kernel_rfl) ?_; go_frame)
                | (refine quiet_eql51 rfl _ _ _ rfl x q rfl rfl ?_; rw [HY.out]; go_frame)
                | go_big_quiet_step (fail)
                | fail)
              refine wpQuiet_nil ?_
              intro w8 hw8
              have HB8 := Aside0.mk (below_then HBJ.out HBJ.out.size (later_below hw8))
              clear hw8
              go_wp2_with fail
              go_roundw
              case rel => exact ⟨k + 1, by omega, by go_num, by rw [HMS.out]; rfl, HB8⟩
              case measure => simp [intOf]; omega
          · obtain rfl : k = T.length := by omega
            obtain ⟨m, hm⟩ : ∃ m, metK T q T.length = m := ⟨_, rfl⟩
            rw [hm]
            have HMET := Aside0.mk hm
            clear hm hk hkl HBJ
            cases m with
            | true =>
              go_wp2_with fail
              go_roundw
              case rel => exact ⟨i + 1, T, A', cv, by omega, by omega, by go_num, rfl, HRT, HBW⟩
              case measure => simp [intOf]; omega
            | false =>
              go_upto_region 13 with fail
              have HMN := Aside0.mk (met_none HMET.out)
              obtain ⟨pl, hpl⟩ : ∃ pl, pl = makeF c inn q T := ⟨_, rfl⟩
              have HM := Aside0.mk (fun W (hW : Below w.heap.size w W) (hC : k51.C W A' T.length T) => show Calls Try.prog 27 #[.agg #[.slice A0 c.f0.length c0, .slice A1 c.f1.length c1, .slice A2 c.f2.length c2, .slice A3 c.f3.length c3, .slice A4 c.f4.length c4, .slice A5 c.f5.length c5, .slice A6 c.f6.length c6, .int .i64 c.f7], .int .i64 inn, .agg #[.int .i64 q.f0, .int .u64 q.f1.f0, .int .u64 q.f1.f1, .int .u64 q.f2.f0, .int .u64 q.f2.f1, .int .i64 q.f3, .int .i64 q.f4], .slice A' T.length cv] W (fun e w' => e = .returned (.tuple #[.agg (plA pl.1), .int .i64 pl.2]) ∧ Below W.heap.size W w') by
                rw [hpl]; exact make_any c _ inn q T A' cv W (k36.K_below hW HK.out) hC)
              have HR := Aside0.mk (fun W (hW : Below w.heap.size w W) (hC : k51.C W A' T.length T) => show Calls Try.prog 29 #[.agg #[.slice A0 c.f0.length c0, .slice A1 c.f1.length c1, .slice A2 c.f2.length c2, .slice A3 c.f3.length c3, .slice A4 c.f4.length c4, .slice A5 c.f5.length c5, .slice A6 c.f6.length c6, .int .i64 c.f7], .int .i64 inn, .agg #[.int .i64 q.f0, .int .u64 q.f1.f0, .int .u64 q.f1.f1, .int .u64 q.f2.f0, .int .u64 q.f2.f1, .int .i64 q.f3, .int .i64 q.f4], .slice A' T.length cv] W (fun e w' => e = .returned (.tuple #[.agg (plA pl.1), .int .i64 pl.2]) ∧ Below W.heap.size W w') by
                rw [hpl]; exact refmake_any c _ inn q T A' cv W (k36.K_below hW HK.out) hC)
              have HP := Aside0.mk (make_cases c inn q T)
              rw [← hpl] at HP
              clear hpl HMET
              have hnn : (pl.2 == pl.2) = true := by simp
              refine Rg.made 12 11 11 71 (plA zPL) (plA pl.1) _ _ _ (by kernel_rfl) (by kernel_rfl) (by kernel_rfl) rfl rfl (by decide) ⟨rfl, rfl, rfl⟩ ⟨rfl, rfl, rfl⟩ (by kernel_rfl) (by simp) (fun W => by kernel_rfl) rfl (plA_info _) (plA_one _) (by simp) ?_
              apply Exists.intro
              refine ⟨?_, ?_, ?_⟩
              · intro w' hw'
                have S2 := Aside0.mk (S.out.call hw')
                have HX2 := Aside0.mk (HXQ.out.below hw')
                have HC2 := Aside0.mk (Kd.C_below (Kd.R_reads' HRT.out).2.2 hw')
                clear hw'
                simp only [Rg.cutOut, List.eraseIdx_cons_succ, List.eraseIdx_cons_zero]
                repeat (first
                  | go_big_quiet_skip
                  | (refine quiet_load_row 36 (.tmp 3) rfl rfl _ #[.slice A0 c.f0.length c0, .slice A1 c.f1.length c1, .slice A2 c.f2.length c2, .slice A3 c.f3.length c3, .slice A4 c.f4.length c4, .slice A5 c.f5.length c5, .slice A6 c.f6.length c6, .int .i64 c.f7] 36 (0, 0) _ rfl (later_blk (S2.out.get 0 rfl)) Try.underlying36 rfl (by kernel_rfl) ?_; go_frame)
                  | (refine quiet_load_at 51 (.tmp 54) rfl rfl (adq.add (i * 7)) [.int .i64 q.f0, .int .u64 q.f1.f0, .int .u64 q.f1.f1, .int .u64 q.f2.f0, .int .u64 q.f2.f1, .int .i64 q.f3, .int .i64 q.f4] _ rfl (later_cells HX2.out) Try.underlying51 rfl (by kernel_rfl) ?_; go_frame)
                  | go_big_quiet_step ((go_at_call 27; with_reducible exact later_of (HM.out _ (below_then S2.out.below S2.out.below.size (Later.below _)) (Kd.C_below HC2.out (Later.below _)))))
                  | fail)
                exact wpQuiet_nil rfl
              · rfl
              · intro p11 w5 hB5 hg10 hb10
                replace S := Aside0.mk ((S.out.call hB5).add hb10)
                simp only [List.cons_append, List.nil_append] at S
                replace HRT := Aside0.mk (Kd.R_below HRT.out hB5)
                replace HXQ := Aside0.mk (HXQ.out.below hB5)
                replace HBW := Aside0.mk (below_then HBW.out HBW.out.size hB5)
                clear hB5 hg10 hb10
                simp only [Act.put]
                go_upto_region 14 with fail
                refine Rg.made 12 11 13 76 (plA zPL) (plA pl.1) _ _ _ (by kernel_rfl) (by kernel_rfl) (by kernel_rfl) rfl rfl (by decide) ⟨rfl, rfl, rfl⟩ ⟨rfl, rfl, rfl⟩ (by kernel_rfl) (by simp) (fun W => by kernel_rfl) rfl (plA_info76 _) (plA_one _) (by simp) ?_
                apply Exists.intro
                refine ⟨?_, ?_, ?_⟩
                · intro w' hw'
                  have S2 := Aside0.mk (S.out.call hw')
                  have HX2 := Aside0.mk (HXQ.out.below hw')
                  have HC2 := Aside0.mk (Kd.C_below (Kd.R_reads' HRT.out).2.2 hw')
                  clear hw'
                  simp only [Rg.cutOut, List.eraseIdx_cons_succ, List.eraseIdx_cons_zero]
                  repeat (first
                    | go_big_quiet_skip
                    | (refine quiet_load_row 36 (.tmp 3) rfl rfl _ #[.slice A0 c.f0.length c0, .slice A1 c.f1.length c1, .slice A2 c.f2.length c2, .slice A3 c.f3.length c3, .slice A4 c.f4.length c4, .slice A5 c.f5.length c5, .slice A6 c.f6.length c6, .int .i64 c.f7] 36 (0, 0) _ rfl (later_blk (S2.out.get 0 rfl)) Try.underlying36 rfl (by kernel_rfl) ?_; go_frame)
                    | (refine quiet_load_at 51 (.tmp 65) rfl rfl (adq.add (i * 7)) [.int .i64 q.f0, .int .u64 q.f1.f0, .int .u64 q.f1.f1, .int .u64 q.f2.f0, .int .u64 q.f2.f1, .int .i64 q.f3, .int .i64 q.f4] _ rfl (later_cells HX2.out) Try.underlying51 rfl (by kernel_rfl) ?_; go_frame)
                    | go_big_quiet_step ((go_at_call 29; with_reducible exact later_of (HR.out _ (below_then S2.out.below S2.out.below.size (Later.below _)) (Kd.C_below HC2.out (Later.below _)))))
                    | fail)
                  exact wpQuiet_nil rfl
                · rfl
                · intro p13 w5 hB5 hg10 hb10
                  replace S := Aside0.mk ((S.out.call hB5).add hb10)
                  simp only [List.cons_append, List.nil_append] at S
                  replace HRT := Aside0.mk (Kd.R_below HRT.out hB5)
                  replace HXQ := Aside0.mk (HXQ.out.below hB5)
                  replace HBW := Aside0.mk (below_then HBW.out HBW.out.size hB5)
                  clear hB5 hg10 hb10
                  simp only [Act.put]
                  clear HM HR
                  rcases HP.out with ⟨a, d, s, t, q4, ifc, z, hpl, hfr⟩ | ⟨r, hr, hpl⟩
                  · obtain ⟨rfl⟩ : pl = ((⟨⟨q.f0, q.f1, d, q.f3, q4⟩, q, ⟨q.f0, a, d, s, t⟩, turnK ⟨q.f0, a, d, s, t⟩, turnK q, ifc, z⟩ : PL), 0) := hpl
                    obtain ⟨hbk, hin⟩ := free_of hfr
                    have HIN := Aside0.mk hin
                    clear HP hfr hbk hin hnn
                    go_wp2_with fail
                    obtain ⟨Wl, hWl⟩ : ∃ Wl, Wl = w5 := ⟨_, rfl⟩
                    rw [← hWl] at S HRT HBW HXQ ⊢
                    clear hWl
                    go_loopw [15] (fun v15 wj => ∃ k : Nat, k ≤ T.length ∧ v15 = .int .i64 k ∧ Aside0 (Below Wl.heap.size Wl wj)) (fun v _ => T.length - (intOf v).toNat)
                    case atStart => exact ⟨0, Nat.zero_le _, rfl, ⟨Below.refl _ _⟩⟩
                    case round =>
                      obtain ⟨k, hk, rfl, HBJ⟩ := hrel
                      replace S := Aside0.mk (S.out.call HBJ.out)
                      replace HRT := Aside0.mk (Kd.R_below HRT.out HBJ.out)
                      replace HXQ := Aside0.mk (HXQ.out.below HBJ.out)
                      replace HBW := Aside0.mk (below_then HBW.out HBW.out.size HBJ.out)
                      by_cases hkl : k < T.length
                      · obtain ⟨x, hx⟩ : ∃ x, x = T.getD k z51 := ⟨_, rfl⟩
                        have hmem : x ∈ T := by rw [hx, List.getD_eq_getElem?_getD, List.getElem?_eq_getElem hkl]; exact List.getElem_mem hkl
                        have HY1 := Aside0.mk (HIN.out x hmem)
                        have HY2 := Aside0.mk (HMN.out x hmem)
                        obtain ⟨adx, cx, rfl, hKx, hcx⟩ := R_elem_at HRT.out z51 k hkl
                        rw [← hx] at hKx
                        have e2 := k51_open hKx
                        subst e2
                        rw [show k51.sz = 7 from rfl] at hcx
                        have HXX := Aside0.mk hcx
                        clear hx hKx hcx hmem
                        go_upto_region 21 with fail
                        refine wp_region_later (by kernel_rfl) (by kernel_rfl) ?_
                        repeat (first
                          | go_big_quiet_skip
                          | (refine quiet_load_at 51 (.tmp 84) rfl rfl (adx.add (k * 7)) [.int .i64 x.f0, .int .u64 x.f1.f0, .int .u64 x.f1.f1, .int .u64 x.f2.f0, .int .u64 x.f2.f1, .int .i64 x.f3, .int .i64 x.f4] _ rfl (later_cells HXX.out) Try.underlying51 rfl (by kernel_rfl) ?_; go_frame)
                          | (refine quiet_load_at 51 (.tmp 92) rfl rfl (adx.add (k * 7)) [.int .i64 x.f0, .int .u64 x.f1.f0, .int .u64 x.f1.f1, .int .u64 x.f2.f0, .int .u64 x.f2.f1, .int .i64 x.f3, .int .i64 x.f4] _ rfl (later_cells HXX.out) Try.underlying51 rfl (by kernel_rfl) ?_; go_frame)
                          | (refine quiet_load_blk 51 (.tmp 86) rfl rfl _ _ 7 [.int .i64 (turnK (⟨q.f0, a, d, s, t⟩ : S51)).f0, .int .u64 (turnK (⟨q.f0, a, d, s, t⟩ : S51)).f1.f0, .int .u64 (turnK (⟨q.f0, a, d, s, t⟩ : S51)).f1.f1, .int .u64 (turnK (⟨q.f0, a, d, s, t⟩ : S51)).f2.f0, .int .u64 (turnK (⟨q.f0, a, d, s, t⟩ : S51)).f2.f1, .int .i64 (turnK (⟨q.f0, a, d, s, t⟩ : S51)).f3, .int .i64 (turnK (⟨q.f0, a, d, s, t⟩ : S51)).f4] (plA (⟨⟨q.f0, q.f1, d, q.f3, q4⟩, q, ⟨q.f0, a, d, s, t⟩, turnK ⟨q.f0, a, d, s, t⟩, turnK q, ifc, z⟩ : PL)) 71 (0, 0) _ rfl (later_blk (S.out.get 1 rfl)) (by kernel_rfl) Try.underlying51 rfl (by kernel_rfl) ?_; go_frame)
                          | (refine quiet_load_blk 51 (.tmp 94) rfl rfl _ _ 7 [.int .i64 q.f0, .int .u64 q.f1.f0, .int .u64 q.f1.f1, .int .u64 q.f2.f0, .int .u64 q.f2.f1, .int .i64 q.f3, .int .i64 q.f4] (plA (⟨⟨q.f0, q.f1, d, q.f3, q4⟩, q, ⟨q.f0, a, d, s, t⟩, turnK ⟨q.f0, a, d, s, t⟩, turnK q, ifc, z⟩ : PL)) 71 (0, 0) _ rfl (later_blk (S.out.get 1 rfl)) (by kernel_rfl) Try.underlying51 rfl (by kernel_rfl) ?_; go_frame)
                          | (refine quiet_eql51 rfl _ _ _ rfl x (turnK (⟨q.f0, a, d, s, t⟩ : S51)) rfl rfl ?_; rw [HY1.out]; go_frame)
                          | (refine quiet_eql51 rfl _ _ _ rfl x q rfl rfl ?_; rw [HY2.out]; go_frame)
                          | go_big_quiet_step (fail)
                          | fail)
                        refine wpQuiet_nil ?_
                        intro w8 hw8
                        have HB8 := Aside0.mk (below_then HBJ.out HBJ.out.size (later_below hw8))
                        clear hw8
                        go_wp2_with fail
                        go_roundw
                        case rel => exact ⟨k + 1, by omega, by go_num, HB8⟩
                        case measure => simp [intOf]; omega
                      · obtain rfl : k = T.length := by omega
                        clear hk hkl
                        go_wp2_with (first
                          | (refine gate_ (.load 51 (.tmp 99)) rfl ?_; refine wpList_load_blk rfl 51 _ rfl _ _ 7 [.int .i64 q.f0, .int .u64 q.f1.f0, .int .u64 q.f1.f1, .int .u64 q.f2.f0, .int .u64 q.f2.f1, .int .i64 q.f3, .int .i64 q.f4] (plA (⟨⟨q.f0, q.f1, d, q.f3, q4⟩, q, ⟨q.f0, a, d, s, t⟩, turnK ⟨q.f0, a, d, s, t⟩, turnK q, ifc, z⟩ : PL)) 71 (0, 0) _ rfl (S.out.get 1 rfl) (by kernel_rfl) Try.underlying51 rfl (by kernel_rfl) ?_)
                          | (refine gate_ (.load 51 (.tmp 101)) rfl ?_; refine wpList_load_blk rfl 51 _ rfl _ _ 7 [.int .i64 (turnK (⟨q.f0, a, d, s, t⟩ : S51)).f0, .int .u64 (turnK (⟨q.f0, a, d, s, t⟩ : S51)).f1.f0, .int .u64 (turnK (⟨q.f0, a, d, s, t⟩ : S51)).f1.f1, .int .u64 (turnK (⟨q.f0, a, d, s, t⟩ : S51)).f2.f0, .int .u64 (turnK (⟨q.f0, a, d, s, t⟩ : S51)).f2.f1, .int .i64 (turnK (⟨q.f0, a, d, s, t⟩ : S51)).f3, .int .i64 (turnK (⟨q.f0, a, d, s, t⟩ : S51)).f4] (plA (⟨⟨q.f0, q.f1, d, q.f3, q4⟩, q, ⟨q.f0, a, d, s, t⟩, turnK ⟨q.f0, a, d, s, t⟩, turnK q, ifc, z⟩ : PL)) 71 (0, 0) _ rfl (S.out.get 1 rfl) (by kernel_rfl) Try.underlying51 rfl (by kernel_rfl) ?_)
                          | (at_builtin; refine mark_ ?_)
                          | fail)
                        unfold Marked
                        refine Kd.R_append_rows k51 (w0 := w1) (Rr := k51.K (wr.alloc (.cells #[.int .i64 q.f0, .int .u64 q.f1.f0, .int .u64 q.f1.f1, .int .u64 q.f2.f0, .int .u64 q.f2.f1, .int .i64 q.f3, .int .i64 q.f4, .int .i64 (turnK (⟨q.f0, a, d, s, t⟩ : S51)).f0, .int .u64 (turnK (⟨q.f0, a, d, s, t⟩ : S51)).f1.f0, .int .u64 (turnK (⟨q.f0, a, d, s, t⟩ : S51)).f1.f1, .int .u64 (turnK (⟨q.f0, a, d, s, t⟩ : S51)).f2.f0, .int .u64 (turnK (⟨q.f0, a, d, s, t⟩ : S51)).f2.f1, .int .i64 (turnK (⟨q.f0, a, d, s, t⟩ : S51)).f3, .int .i64 (turnK (⟨q.f0, a, d, s, t⟩ : S51)).f4] 51))) w1.heap.size rfl (.tmp 98) (.tmp 103) 80 51 (.agg #[.int .i64 0, .int .u64 0, .int .u64 0, .int .u64 0, .int .u64 0, .int .i64 0, .int .i64 0]) 56 rfl Try.underlying80 info51 rfl (by decide) (by omega) (.slice A' T.length cv) T [q, turnK (⟨q.f0, a, d, s, t⟩ : S51)] (some ⟨wr.heap.size, 0, none⟩) 2 2 (fun _ => True) (fun _ => False) rfl rfl (Kd.R_alloc HRT.out _) (C_two (heap_alloc_new _ _)) (fun x cs hk => by rw [k51_open hk]; exact k51_mkM _ _ _ x) (fun _ hk => hk.elim) (fun k hk => trivial) (HBW.out.alloc HBW.out.size _) (by have := HBW.out.size; simp; omega) (by have := HL.out; omega) ?_
                        intro v2 w2 hR2 hb2 hg2 hat2
                        obtain ⟨T2, hT2⟩ : ∃ T2, T2 = T ++ [q, turnK (⟨q.f0, a, d, s, t⟩ : S51)] := ⟨_, rfl⟩
                        rw [← hT2] at hR2
                        have hTl : T2.length = T.length + 2 := by rw [hT2]; simp
                        obtain ⟨A2', cv2, rfl, -, -⟩ := Kd.R_reads hR2
                        have HR2 := Aside0.mk hR2
                        have HB2 := Aside0.mk hb2
                        have HTL := Aside0.mk hTl
                        clear hR2 hb2 hg2 hat2 hT2 hTl
                        go_wp2_with fail
                        go_roundw
                        case rel => exact ⟨i + 1, T2, A2', cv2, by omega, by have := HTL.out; omega, by go_num, rfl, HR2, HB2⟩
                        case measure => simp [intOf]; omega
                  · obtain ⟨rfl⟩ : pl = (zPL, r) := hpl
                    have hr0 : (r == 0) = false := by simpa using hr
                    clear HP
                    go_wp2_with fail
                    go_roundw
                    case rel => exact ⟨i + 1, T, A', cv, by omega, by omega, by go_num, rfl, HRT, HBW⟩
                    case measure => simp [intOf]; omega
      · obtain rfl : i = l.length := by omega
        go_wp2_with fail
        go_ret
        exact ⟨rfl, S.out.below⟩
end Go.Proofs.Ytgppfpfdoooijaa
