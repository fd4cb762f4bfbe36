/- The law NatStatic, walked: it answers true. -/
import Derived.Test.YtgppfpfdoooijaaRefMake
import Derived.Test.YtgppfpfdoooijaaEqP
import Derived.Test.YtgppfpfdoooijaaStatic
namespace Go.Proofs.Ytgppfpfdoooijaa
open Go.RowKit Go.Proofs.YtgppfpfdoooijaaW.PrintWords
set_option linter.unusedVariables false
set_option linter.unusedSimpArgs false
attribute [local go_sem] Later.cell_eq

/-- An address' numbers fit. -/
def FitA (x : S39) : Prop := 0 ≤ x.f0 ∧ x.f0 ≤ 18446744073709551615 ∧ 0 ≤ x.f1 ∧ x.f1 ≤ 18446744073709551615
def topN : S39 := ⟨18446744073709551615, 18446744073709551615⟩
/-- The configuration that the law builds. -/
def cfgN (o i : S39) : S36 := ⟨[⟨outS, z39, [1]⟩], [], [], [], [⟨⟨z39, topN⟩, 0, 1⟩], [natS o i], [], 0⟩
def keyN (i p : S39) (k : S51) : S51 := ⟨k.f0, i, p, k.f3, k.f4⟩
def goN (o p : S39) (k : S51) : S51 := ⟨k.f0, o, p, k.f3, k.f4⟩
theorem staticN_dest {o i p : S39} {k : S51} (h : eqA o p = false) : destF (cfgN o i) (keyN i p k) = (p, k.f4, -1) := dest_none fun j hj y hy => by
  have hj0 : j = 0 := by simp [cfgN] at hj; exact hj
  subst hj0
  have : natS o i = y := by simpa [cfgN] using hy
  subst this
  show (eqA o p && _) = false
  rw [h]; rfl
theorem fit_has {p : S39} (h : FitA p) : hasR ⟨z39, topN⟩ p = true := by
  unfold hasR cmpA z39 topN FitA at *
  simp only [Bool.and_eq_true, decide_eq_true_eq]
  constructor
  · repeat' split
    all_goals omega
  · repeat' split
    all_goals omega
theorem staticN_route {o i p : S39} (h : FitA p) : routeF (cfgN o i) p = (1, 0) := by
  have h1 : bestR p (cfgN o i).f4 = some ⟨⟨z39, topN⟩, 0, 1⟩ := by
    show bestS p none ⟨⟨z39, topN⟩, 0, 1⟩ = _
    unfold bestS
    rw [fit_has h]
    rfl
  unfold routeF
  rw [h1]
  rfl
theorem staticN_src (o i p : S39) (k : S51) : sourceF (cfgN o i) 0 (keyN i p k) = 0 := by
  unfold sourceF
  exact idxF_at (k := 0) (x := natS o i) rfl (by simp [srcB, calledF, cfgN, eqA, natS, keyN]) (fun j hj => by omega)
theorem staticN_make {o i p : S39} {k : S51} (hp : FitA p) (h : eqA o p = false) : makeF (cfgN o i) 5 (keyN i p k) [] =
    if eqK (turnK (goN o p k)) (keyN i p k) = true then (zPL, 15) else (⟨keyN i p k, keyN i p k, goN o p k, turnK (goN o p k), turnK (keyN i p k), 1, 0⟩, 0) := by
  have hj : judgeK (cfgN o i) (keyN i p k) = keyN i p k := by
    unfold judgeK
    rw [staticN_dest h]
    have e : (if icmpB k.f0 = true then k.f4 else k.f4) = k.f4 := by split <;> rfl
    exact congrArg (fun x => (⟨k.f0, i, p, k.f3, x⟩ : S51)) e
  have hs : srcU (cfgN o i) 0 5 (keyN i p k) (keyN i p k) false = (goN o p k, false, 0, 0) := by
    unfold srcU
    rw [staticN_src, if_pos (by omega)]
    rfl
  unfold makeF
  rw [hj, staticN_dest h]
  simp only [staticN_route hp]
  rw [show routeR (1, 0) = 0 from rfl, if_pos rfl]
  rw [show decide ((0 : Int) ≤ -1) = false from rfl, hs]
  unfold portR freeK contK
  cases eqK (turnK (goN o p k)) (keyN i p k) <;> simp
theorem eqA_self (x : S39) : eqA x x = true := (eqA_iff x x).2 rfl
set_option maxRecDepth 100000 in
set_option maxHeartbeats 8000000 in
theorem natStatic_any (o i p : S39) (k : S51) (hp : FitA p) (w : World) :
    Calls Try.prog 11 #[.agg #[.int .u64 o.f0, .int .u64 o.f1], .agg #[.int .u64 i.f0, .int .u64 i.f1], .agg #[.int .u64 p.f0, .int .u64 p.f1], .agg #[.int .i64 k.f0, .int .u64 k.f1.f0, .int .u64 k.f1.f1, .int .u64 k.f2.f0, .int .u64 k.f2.f1, .int .i64 k.f3, .int .i64 k.f4]] w fun e w' => e = .returned (.bool true) ∧ Below w.heap.size w w' := by
  have HP := Aside0.mk hp
  clear hp
  have n1 : 1 ≤ (Question.appendCap 1 0 54).cut (w.tape w.drawn (Question.appendCap 1 0 54)) := grownCap_ge w 1 0 54
  have n2 : 1 ≤ (Question.appendCap 1 0 56).cut (w.tape (w.drawn + 1) (Question.appendCap 1 0 56)) := grownCap_ge w.drew 1 0 56
  have n3 : 1 ≤ (Question.appendCap 1 0 46).cut (w.tape (w.drawn + 1 + 1) (Question.appendCap 1 0 46)) := grownCap_ge w.drew.drew 1 0 46
  have N1 := Aside0.mk n1
  have N2 := Aside0.mk n2
  have N3 := Aside0.mk n3
  clear n1 n2 n3
  go_enter Try.func11, Try.ntmps11
  go_upto_region 8 with fail
  generalize (Question.appendCap 1 0 54).cut (w.tape w.drawn (Question.appendCap 1 0 54)) = m1 at *
  generalize (Question.appendCap 1 0 56).cut (w.tape (w.drawn + 1) (Question.appendCap 1 0 56)) = m2 at *
  generalize (Question.appendCap 1 0 46).cut (w.tape (w.drawn + 1 + 1) (Question.appendCap 1 0 46)) = m3 at *
  have S := Aside0.mk ((((((((((((((St.nil w).alloc (.cells #[.int .u64 o.f0, .int .u64 o.f1] 39)).alloc (.cells #[.int .u64 i.f0, .int .u64 i.f1] 39)).alloc (.cells #[.int .u64 p.f0, .int .u64 p.f1] 39)).alloc (.cells #[.int .i64 k.f0, .int .u64 i.f0, .int .u64 i.f1, .int .u64 p.f0, .int .u64 p.f1, .int .i64 k.f3, .int .i64 k.f4] 51)).alloc (.cells #[.slice (some ⟨w.heap.size + 1 + 1 + 1 + 1 + 1 + 1 + 1, 0, none⟩) 1 m1, .slice none 0 0, .slice none 0 0, .slice none 0 0, .slice (some ⟨w.heap.size + 1 + 1 + 1 + 1 + 1 + 1 + 1 + 1 + 1 + 1 + 1, 0, none⟩) 1 m3, .slice (some ⟨w.heap.size + 1 + 1 + 1 + 1 + 1 + 1 + 1 + 1 + 1, 0, none⟩) 1 m2, .slice none 0 0, .int .i64 0] 36)).alloc (.cells #[.int .i64 1] 3)).alloc (.cells #[.string ⟨#[111, 117, 116]⟩, .int .u64 0, .int .u64 0, .slice (some ⟨w.heap.size + 1 + 1 + 1 + 1 + 1, 0, none⟩) 1 1] 54)).alloc (.cells (#[.string ⟨#[111, 117, 116]⟩, .int .u64 0, .int .u64 0, .slice (some ⟨w.heap.size + 1 + 1 + 1 + 1 + 1, 0, none⟩) 1 1] ++ Builtin.zeroCells #[.string ⟨#[]⟩, .int .u64 0, .int .u64 0, .slice none 0 0] (m1 - 1)) 54)).alloc (.cells #[.int .i64 3, .string ⟨#[111, 117, 116]⟩, .string ⟨#[]⟩, .string ⟨#[]⟩, .int .u64 o.f0, .int .u64 o.f1, .int .u64 i.f0, .int .u64 i.f1, .int .i64 0, .int .i64 0] 56)).alloc (.cells (#[.int .i64 3, .string ⟨#[111, 117, 116]⟩, .string ⟨#[]⟩, .string ⟨#[]⟩, .int .u64 o.f0, .int .u64 o.f1, .int .u64 i.f0, .int .u64 i.f1, .int .i64 0, .int .i64 0] ++ Builtin.zeroCells #[.int .i64 0, .string ⟨#[]⟩, .string ⟨#[]⟩, .string ⟨#[]⟩, .int .u64 0, .int .u64 0, .int .u64 0, .int .u64 0, .int .i64 0, .int .i64 0] (m2 - 1)) 56)).alloc (.cells #[.int .u64 0, .int .u64 0, .int .u64 18446744073709551615, .int .u64 18446744073709551615, .int .i64 0, .int .i64 1] 46)).alloc (.cells (#[.int .u64 0, .int .u64 0, .int .u64 18446744073709551615, .int .u64 18446744073709551615, .int .i64 0, .int .i64 1] ++ Builtin.zeroCells #[.int .u64 0, .int .u64 0, .int .u64 0, .int .u64 0, .int .i64 0, .int .i64 0] (m3 - 1)) 46)).drew.drew.drew)
  simp only [World.size_alloc, List.nil_append, List.cons_append] at S
  obtain ⟨W1, hW1⟩ : ∃ W1, W1 = ((((((((((((w.alloc (.cells #[.int .u64 o.f0, .int .u64 o.f1] 39)).alloc (.cells #[.int .u64 i.f0, .int .u64 i.f1] 39)).alloc (.cells #[.int .u64 p.f0, .int .u64 p.f1] 39)).alloc (.cells #[.int .i64 k.f0, .int .u64 i.f0, .int .u64 i.f1, .int .u64 p.f0, .int .u64 p.f1, .int .i64 k.f3, .int .i64 k.f4] 51)).alloc (.cells #[.slice (some ⟨w.heap.size + 1 + 1 + 1 + 1 + 1 + 1 + 1, 0, none⟩) 1 m1, .slice none 0 0, .slice none 0 0, .slice none 0 0, .slice (some ⟨w.heap.size + 1 + 1 + 1 + 1 + 1 + 1 + 1 + 1 + 1 + 1 + 1, 0, none⟩) 1 m3, .slice (some ⟨w.heap.size + 1 + 1 + 1 + 1 + 1 + 1 + 1 + 1 + 1, 0, none⟩) 1 m2, .slice none 0 0, .int .i64 0] 36)).alloc (.cells #[.int .i64 1] 3)).alloc (.cells #[.string ⟨#[111, 117, 116]⟩, .int .u64 0, .int .u64 0, .slice (some ⟨w.heap.size + 1 + 1 + 1 + 1 + 1, 0, none⟩) 1 1] 54)).alloc (.cells (#[.string ⟨#[111, 117, 116]⟩, .int .u64 0, .int .u64 0, .slice (some ⟨w.heap.size + 1 + 1 + 1 + 1 + 1, 0, none⟩) 1 1] ++ Builtin.zeroCells #[.string ⟨#[]⟩, .int .u64 0, .int .u64 0, .slice none 0 0] (m1 - 1)) 54)).alloc (.cells #[.int .i64 3, .string ⟨#[111, 117, 116]⟩, .string ⟨#[]⟩, .string ⟨#[]⟩, .int .u64 o.f0, .int .u64 o.f1, .int .u64 i.f0, .int .u64 i.f1, .int .i64 0, .int .i64 0] 56)).alloc (.cells (#[.int .i64 3, .string ⟨#[111, 117, 116]⟩, .string ⟨#[]⟩, .string ⟨#[]⟩, .int .u64 o.f0, .int .u64 o.f1, .int .u64 i.f0, .int .u64 i.f1, .int .i64 0, .int .i64 0] ++ Builtin.zeroCells #[.int .i64 0, .string ⟨#[]⟩, .string ⟨#[]⟩, .string ⟨#[]⟩, .int .u64 0, .int .u64 0, .int .u64 0, .int .u64 0, .int .i64 0, .int .i64 0] (m2 - 1)) 56)).alloc (.cells #[.int .u64 0, .int .u64 0, .int .u64 18446744073709551615, .int .u64 18446744073709551615, .int .i64 0, .int .i64 1] 46)).alloc (.cells (#[.int .u64 0, .int .u64 0, .int .u64 18446744073709551615, .int .u64 18446744073709551615, .int .i64 0, .int .i64 1] ++ Builtin.zeroCells #[.int .u64 0, .int .u64 0, .int .u64 0, .int .u64 0, .int .i64 0, .int .i64 0] (m3 - 1)) 46)).drew.drew.drew := ⟨_, rfl⟩
  rw [← hW1] at S ⊢
  clear hW1
  have b5 := S.out.get 5 rfl
  have b7 := S.out.get 7 rfl
  have b9 := S.out.get 9 rfl
  have b11 := S.out.get 11 rfl
  have HK := Aside0.mk (show k36.K W1 (cfgN o i) [.slice (some ⟨w.heap.size + 1 + 1 + 1 + 1 + 1 + 1 + 1, 0, none⟩) 1 m1, .slice none 0 0, .slice none 0 0, .slice none 0 0, .slice (some ⟨w.heap.size + 1 + 1 + 1 + 1 + 1 + 1 + 1 + 1 + 1 + 1 + 1, 0, none⟩) 1 m3, .slice (some ⟨w.heap.size + 1 + 1 + 1 + 1 + 1 + 1 + 1 + 1 + 1, 0, none⟩) 1 m2, .slice none 0 0, .int .i64 0] from
    k36_mk W1 (cfgN o i) N1.out (C_one (k54_mk W1 ⟨outS, z39, [1]⟩ (Nat.le_refl 1) (C_one (d := Kd.int .i64) (x := (1 : Int)) (cs := [.int .i64 1]) rfl (fun j u hj => by rw [show W1.cell? ⟨w.heap.size + 1 + 1 + 1 + 1 + 1, j, none⟩ = #[Value.int .i64 1][j]? by simp [World.cell?, b5]]; simpa using hj))) (row_at b7)) (Nat.le_refl 0) (Kd.C_nil _ _) (Nat.le_refl 0) (Kd.C_nil _ _) (Nat.le_refl 0) (Kd.C_nil _ _)
      N3.out (C_one (k46_mk W1 ⟨⟨z39, topN⟩, 0, 1⟩) (row_at b11)) N2.out (C_one (k56_mk W1 (natS o i)) (row_at b9)) (Nat.le_refl 0) (Kd.C_nil _ _))
  clear b5 b7 b9 b11 N1 N2 N3
  have HB1 := Aside0.mk S.out.below
  replace S := Aside0.mk (show St W1 _ W1 from ⟨Below.refl _ _, S.out.has⟩)
  have HM := Aside0.mk (fun W (hW : Below W1.heap.size W1 W) => show Calls Try.prog 27 #[.agg #[.slice (some ⟨w.heap.size + 1 + 1 + 1 + 1 + 1 + 1 + 1, 0, none⟩) 1 m1, .slice none 0 0, .slice none 0 0, .slice none 0 0, .slice (some ⟨w.heap.size + 1 + 1 + 1 + 1 + 1 + 1 + 1 + 1 + 1 + 1 + 1, 0, none⟩) 1 m3, .slice (some ⟨w.heap.size + 1 + 1 + 1 + 1 + 1 + 1 + 1 + 1 + 1, 0, none⟩) 1 m2, .slice none 0 0, .int .i64 0], .int .i64 5, .agg #[.int .i64 k.f0, .int .u64 i.f0, .int .u64 i.f1, .int .u64 p.f0, .int .u64 p.f1, .int .i64 k.f3, .int .i64 k.f4], .slice none 0 0] W (fun e w' => e = .returned (.tuple #[.agg (plA (makeF (cfgN o i) 5 (keyN i p k) []).1), .int .i64 (makeF (cfgN o i) 5 (keyN i p k) []).2]) ∧ Below W.heap.size W w') from
    make_any (cfgN o i) _ 5 (keyN i p k) [] none 0 W (k36.K_below hW HK.out) (Kd.C_nil _ W))
  have HR := Aside0.mk (fun W (hW : Below W1.heap.size W1 W) => show Calls Try.prog 29 #[.agg #[.slice (some ⟨w.heap.size + 1 + 1 + 1 + 1 + 1 + 1 + 1, 0, none⟩) 1 m1, .slice none 0 0, .slice none 0 0, .slice none 0 0, .slice (some ⟨w.heap.size + 1 + 1 + 1 + 1 + 1 + 1 + 1 + 1 + 1 + 1 + 1, 0, none⟩) 1 m3, .slice (some ⟨w.heap.size + 1 + 1 + 1 + 1 + 1 + 1 + 1 + 1 + 1, 0, none⟩) 1 m2, .slice none 0 0, .int .i64 0], .int .i64 5, .agg #[.int .i64 k.f0, .int .u64 i.f0, .int .u64 i.f1, .int .u64 p.f0, .int .u64 p.f1, .int .i64 k.f3, .int .i64 k.f4], .slice none 0 0] W (fun e w' => e = .returned (.tuple #[.agg (plA (makeF (cfgN o i) 5 (keyN i p k) []).1), .int .i64 (makeF (cfgN o i) 5 (keyN i p k) []).2]) ∧ Below W.heap.size W w') from
    refmake_any (cfgN o i) _ 5 (keyN i p k) [] none 0 W (k36.K_below hW HK.out) (Kd.C_nil _ W))
  clear HK
  cases hpo : eqA p o with
  | true =>
    go_wp2_with (first
      | (refine gate_ (.load 39 (.tmp 6)) rfl ?_; (first | refine gate_none rfl ?_ | refine gate_if rfl rfl rfl ?_); refine wpList_load_row rfl 39 _ rfl _ rfl 39 #[.int .u64 p.f0, .int .u64 p.f1] (0, 0) _ (S.out.get 2 rfl) Try.underlying39 rfl (by kernel_rfl) ?_)
      | (refine gate_ (.load 39 (.tmp 4)) rfl ?_; (first | refine gate_none rfl ?_ | refine gate_if rfl rfl rfl ?_); refine wpList_load_row rfl 39 _ rfl _ rfl 39 #[.int .u64 o.f0, .int .u64 o.f1] (0, 0) _ (S.out.get 0 rfl) Try.underlying39 rfl (by kernel_rfl) ?_)
      | (refine gate_dst (N := 46) rfl ?_; refine wpList_eql39 rfl _ _ _ rfl p o rfl rfl ?_; rw [hpo])
      | fail)
    go_ret
    exact ⟨rfl, below_then HB1.out HB1.out.size S.out.below⟩
  | false =>
    have hop : eqA o p = false := by
      cases h : eqA o p with
      | false => rfl
      | true => rw [eqA_iff] at h; subst h; rw [eqA_self] at hpo; cases hpo
    rw [staticN_make HP.out hop] at HM HR
    clear HP hop
    cases hfr : eqK (turnK (goN o p k)) (keyN i p k) with
    | true =>
      rw [hfr, if_pos rfl] at HM HR
      have HEQ := Aside0.mk (eqP_self zPL)
      clear hfr
      go_wp2_with (first
        | (refine gate_ (.load 39 (.tmp 6)) rfl ?_; (first | refine gate_none rfl ?_ | refine gate_if rfl rfl rfl ?_); refine wpList_load_row rfl 39 _ rfl _ rfl 39 #[.int .u64 p.f0, .int .u64 p.f1] (0, 0) _ (S.out.get 2 rfl) Try.underlying39 rfl (by kernel_rfl) ?_)
        | (refine gate_ (.load 39 (.tmp 4)) rfl ?_; (first | refine gate_none rfl ?_ | refine gate_if rfl rfl rfl ?_); refine wpList_load_row rfl 39 _ rfl _ rfl 39 #[.int .u64 o.f0, .int .u64 o.f1] (0, 0) _ (S.out.get 0 rfl) Try.underlying39 rfl (by kernel_rfl) ?_)
        | (refine gate_dst (N := 46) rfl ?_; refine wpList_eql39 rfl _ _ _ rfl p o rfl rfl ?_; rw [hpo])
        | (refine gate_ (.load 36 (.tmp 9)) rfl ?_; refine wpList_load_row rfl 36 _ rfl _ rfl 36 #[.slice (some ⟨w.heap.size + 1 + 1 + 1 + 1 + 1 + 1 + 1, 0, none⟩) 1 m1, .slice none 0 0, .slice none 0 0, .slice none 0 0, .slice (some ⟨w.heap.size + 1 + 1 + 1 + 1 + 1 + 1 + 1 + 1 + 1 + 1 + 1, 0, none⟩) 1 m3, .slice (some ⟨w.heap.size + 1 + 1 + 1 + 1 + 1 + 1 + 1 + 1 + 1, 0, none⟩) 1 m2, .slice none 0 0, .int .i64 0] (0, 0) _ (S.out.get 4 rfl) Try.underlying36 rfl (by kernel_rfl) ?_)
        | (refine gate_ (.load 51 (.tmp 7)) rfl ?_; refine wpList_load_row rfl 51 _ rfl _ rfl 51 #[.int .i64 k.f0, .int .u64 i.f0, .int .u64 i.f1, .int .u64 p.f0, .int .u64 p.f1, .int .i64 k.f3, .int .i64 k.f4] (0, 0) _ (S.out.get 3 rfl) Try.underlying51 rfl (by kernel_rfl) ?_)
        | (go_at_call 27; (with_reducible refine (HM.out _ S.out.below).mono ?_); rintro e w9 ⟨rfl, hb9⟩; replace S := Aside0.mk (S.out.call hb9); clear hb9)
        | (go_at_call 29; (with_reducible refine (HR.out _ S.out.below).mono ?_); rintro e w9 ⟨rfl, hb9⟩; replace S := Aside0.mk (S.out.call hb9); clear hb9)
        | (refine gate_ (.store 71 (.tmp 11) (.tmp 51)) rfl ?_; refine wpList_store_all rfl 71 _ _ rfl _ (plA zPL) _ _ rfl rfl (heap_alloc_new _ _) rfl (plA_info _) (plA_one _) ?_; intro w7 hb7 hg7 hz7; replace S := Aside0.mk (S.out.made hg7 hb7); clear hb7 hg7 hz7)
        | (refine gate_ (.store 76 (.tmp 13) (.tmp 57)) rfl ?_; refine wpList_store_all rfl 76 _ _ rfl _ (plA zPL) _ _ rfl rfl (heap_alloc_new _ _) rfl (plA_info76 _) (plA_one _) ?_; intro w8 hb8 hg8 hz8; replace S := Aside0.mk (S.out.made hg8 hb8); clear hb8 hg8 hz8)
        | (refine gate_ (.load 71 (.tmp 11)) rfl ?_; (first | refine gate_none rfl ?_ | refine gate_if rfl rfl rfl ?_); refine wpList_load_row rfl 71 _ rfl _ rfl 71 (plA zPL) (0, 0) _ (S.out.get 12 rfl) Try.underlying71 rfl (plA_info _) ?_)
        | (refine gate_ (.load 76 (.tmp 13)) rfl ?_; (first | refine gate_none rfl ?_ | refine gate_if rfl rfl rfl ?_); refine wpList_load_row rfl 76 _ rfl _ rfl 76 (plA zPL) (0, 0) _ (S.out.get 13 rfl) Try.underlying76 rfl (plA_info76 _) ?_)
        | (refine gate_dst (N := 65) rfl ?_; refine wpList_neq76 rfl _ _ _ rfl zPL zPL rfl rfl ?_; rw [HEQ.out])
        | (refine gate_dst (N := 71) rfl ?_; (first | refine gate_none rfl ?_ | refine gate_if rfl rfl rfl ?_); refine wpList_buildTo rfl 71 _ rfl (some 71) rfl (plA zPL) (by kernel_rfl) ?_)
        | (refine gate_dst (N := 72) rfl ?_; refine wpList_eql71 rfl _ _ _ rfl zPL zPL rfl rfl ?_; rw [HEQ.out])
        | fail)
      go_ret
      exact ⟨rfl, below_then HB1.out HB1.out.size S.out.below⟩
    | false =>
      rw [hfr, if_neg (by decide)] at HM HR
      have HEQ := Aside0.mk (eqP_self (⟨keyN i p k, keyN i p k, goN o p k, turnK (goN o p k), turnK (keyN i p k), 1, 0⟩ : PL))
      have HEO := Aside0.mk (eqA_self o)
      have HEP := Aside0.mk (eqA_self p)
      have HEI := Aside0.mk (eqA_self i)
      have q3 : (k.f3 == k.f3) = true := by simp
      clear hfr
      go_wp2_with (first
        | (refine gate_ (.load 39 (.tmp 6)) rfl ?_; (first | refine gate_none rfl ?_ | refine gate_if rfl rfl rfl ?_); refine wpList_load_row rfl 39 _ rfl _ rfl 39 #[.int .u64 p.f0, .int .u64 p.f1] (0, 0) _ (S.out.get 2 rfl) Try.underlying39 rfl (by kernel_rfl) ?_)
        | (refine gate_ (.load 39 (.tmp 4)) rfl ?_; (first | refine gate_none rfl ?_ | refine gate_if rfl rfl rfl ?_); refine wpList_load_row rfl 39 _ rfl _ rfl 39 #[.int .u64 o.f0, .int .u64 o.f1] (0, 0) _ (S.out.get 0 rfl) Try.underlying39 rfl (by kernel_rfl) ?_)
        | (refine gate_ (.load 39 (.tmp 5)) rfl ?_; (first | refine gate_none rfl ?_ | refine gate_if rfl rfl rfl ?_); refine wpList_load_row rfl 39 _ rfl _ rfl 39 #[.int .u64 i.f0, .int .u64 i.f1] (0, 0) _ (S.out.get 1 rfl) Try.underlying39 rfl (by kernel_rfl) ?_)
        | (refine gate_dst (N := 46) rfl ?_; refine wpList_eql39 rfl _ _ _ rfl p o rfl rfl ?_; rw [hpo])
        | (refine gate_ (.load 36 (.tmp 9)) rfl ?_; refine wpList_load_row rfl 36 _ rfl _ rfl 36 #[.slice (some ⟨w.heap.size + 1 + 1 + 1 + 1 + 1 + 1 + 1, 0, none⟩) 1 m1, .slice none 0 0, .slice none 0 0, .slice none 0 0, .slice (some ⟨w.heap.size + 1 + 1 + 1 + 1 + 1 + 1 + 1 + 1 + 1 + 1 + 1, 0, none⟩) 1 m3, .slice (some ⟨w.heap.size + 1 + 1 + 1 + 1 + 1 + 1 + 1 + 1 + 1, 0, none⟩) 1 m2, .slice none 0 0, .int .i64 0] (0, 0) _ (S.out.get 4 rfl) Try.underlying36 rfl (by kernel_rfl) ?_)
        | (refine gate_ (.load 51 (.tmp 7)) rfl ?_; refine wpList_load_row rfl 51 _ rfl _ rfl 51 #[.int .i64 k.f0, .int .u64 i.f0, .int .u64 i.f1, .int .u64 p.f0, .int .u64 p.f1, .int .i64 k.f3, .int .i64 k.f4] (0, 0) _ (S.out.get 3 rfl) Try.underlying51 rfl (by kernel_rfl) ?_)
        | (go_at_call 27; (with_reducible refine (HM.out _ S.out.below).mono ?_); rintro e w9 ⟨rfl, hb9⟩; replace S := Aside0.mk (S.out.call hb9); clear hb9)
        | (go_at_call 29; (with_reducible refine (HR.out _ S.out.below).mono ?_); rintro e w9 ⟨rfl, hb9⟩; replace S := Aside0.mk (S.out.call hb9); clear hb9)
        | (refine gate_ (.store 71 (.tmp 11) (.tmp 51)) rfl ?_; refine wpList_store_all rfl 71 _ _ rfl _ (plA (⟨keyN i p k, keyN i p k, goN o p k, turnK (goN o p k), turnK (keyN i p k), 1, 0⟩ : PL)) _ _ rfl rfl (heap_alloc_new _ _) rfl (plA_info _) (plA_one _) ?_; intro w7 hb7 hg7 hz7; replace S := Aside0.mk (S.out.made hg7 hb7); clear hb7 hg7 hz7)
        | (refine gate_ (.store 76 (.tmp 13) (.tmp 57)) rfl ?_; refine wpList_store_all rfl 76 _ _ rfl _ (plA (⟨keyN i p k, keyN i p k, goN o p k, turnK (goN o p k), turnK (keyN i p k), 1, 0⟩ : PL)) _ _ rfl rfl (heap_alloc_new _ _) rfl (plA_info76 _) (plA_one _) ?_; intro w8 hb8 hg8 hz8; replace S := Aside0.mk (S.out.made hg8 hb8); clear hb8 hg8 hz8)
        | (refine gate_ (.load 71 (.tmp 11)) rfl ?_; (first | refine gate_none rfl ?_ | refine gate_if rfl rfl rfl ?_); refine wpList_load_row rfl 71 _ rfl _ rfl 71 (plA (⟨keyN i p k, keyN i p k, goN o p k, turnK (goN o p k), turnK (keyN i p k), 1, 0⟩ : PL)) (0, 0) _ (S.out.get 12 rfl) Try.underlying71 rfl (plA_info _) ?_)
        | (refine gate_ (.load 76 (.tmp 13)) rfl ?_; (first | refine gate_none rfl ?_ | refine gate_if rfl rfl rfl ?_); refine wpList_load_row rfl 76 _ rfl _ rfl 76 (plA (⟨keyN i p k, keyN i p k, goN o p k, turnK (goN o p k), turnK (keyN i p k), 1, 0⟩ : PL)) (0, 0) _ (S.out.get 13 rfl) Try.underlying76 rfl (plA_info76 _) ?_)
        | (refine gate_dst (N := 65) rfl ?_; refine wpList_neq76 rfl _ _ _ rfl (⟨keyN i p k, keyN i p k, goN o p k, turnK (goN o p k), turnK (keyN i p k), 1, 0⟩ : PL) (⟨keyN i p k, keyN i p k, goN o p k, turnK (goN o p k), turnK (keyN i p k), 1, 0⟩ : PL) rfl rfl ?_; rw [HEQ.out])
        | (refine gate_ (.load 39 (.tmp 79)) rfl ?_; (first | refine gate_none rfl ?_ | refine gate_if rfl rfl rfl ?_); refine wpList_load_blk rfl 39 _ rfl _ _ 2 [.int .u64 o.f0, .int .u64 o.f1] (plA (⟨keyN i p k, keyN i p k, goN o p k, turnK (goN o p k), turnK (keyN i p k), 1, 0⟩ : PL)) 71 (0, 0) _ rfl (S.out.get 12 rfl) (by kernel_rfl) Try.underlying39 rfl (by kernel_rfl) ?_)
        | (refine gate_dst (N := 82) rfl ?_; (first | refine gate_none rfl ?_ | refine gate_if rfl rfl rfl ?_); refine wpList_eql39 rfl _ _ _ rfl (o) (o) rfl rfl ?_; rw [HEO.out])
        | (refine gate_ (.load 3 (.tmp 86)) rfl ?_; (first | refine gate_none rfl ?_ | refine gate_if rfl rfl rfl ?_); refine wpList_load_one 3 _ rfl rfl _ _ (.int .i64 k.f3) (plA (⟨keyN i p k, keyN i p k, goN o p k, turnK (goN o p k), turnK (keyN i p k), 1, 0⟩ : PL)) 71 (0, 0) _ rfl (S.out.get 12 rfl) rfl Try.underlying3 rfl ?_)
        | (refine gate_ (.load 3 (.tmp 88)) rfl ?_; (first | refine gate_none rfl ?_ | refine gate_if rfl rfl rfl ?_); refine wpList_load_one 3 _ rfl rfl _ _ (.int .i64 k.f3) #[.int .i64 k.f0, .int .u64 i.f0, .int .u64 i.f1, .int .u64 p.f0, .int .u64 p.f1, .int .i64 k.f3, .int .i64 k.f4] 51 (0, 0) _ rfl (S.out.get 3 rfl) rfl Try.underlying3 rfl ?_)
        | (refine gate_ (.load 39 (.tmp 94)) rfl ?_; (first | refine gate_none rfl ?_ | refine gate_if rfl rfl rfl ?_); refine wpList_load_blk rfl 39 _ rfl _ _ 2 [.int .u64 p.f0, .int .u64 p.f1] (plA (⟨keyN i p k, keyN i p k, goN o p k, turnK (goN o p k), turnK (keyN i p k), 1, 0⟩ : PL)) 71 (0, 0) _ rfl (S.out.get 12 rfl) (by kernel_rfl) Try.underlying39 rfl (by kernel_rfl) ?_)
        | (refine gate_dst (N := 97) rfl ?_; (first | refine gate_none rfl ?_ | refine gate_if rfl rfl rfl ?_); refine wpList_eql39 rfl _ _ _ rfl (p) (p) rfl rfl ?_; rw [HEP.out])
        | (refine gate_ (.load 39 (.tmp 101)) rfl ?_; (first | refine gate_none rfl ?_ | refine gate_if rfl rfl rfl ?_); refine wpList_load_blk rfl 39 _ rfl _ _ 2 [.int .u64 o.f0, .int .u64 o.f1] (plA (⟨keyN i p k, keyN i p k, goN o p k, turnK (goN o p k), turnK (keyN i p k), 1, 0⟩ : PL)) 71 (0, 0) _ rfl (S.out.get 12 rfl) (by kernel_rfl) Try.underlying39 rfl (by kernel_rfl) ?_)
        | (refine gate_dst (N := 104) rfl ?_; (first | refine gate_none rfl ?_ | refine gate_if rfl rfl rfl ?_); refine wpList_eql39 rfl _ _ _ rfl (o) (o) rfl rfl ?_; rw [HEO.out])
        | (refine gate_ (.load 39 (.tmp 108)) rfl ?_; (first | refine gate_none rfl ?_ | refine gate_if rfl rfl rfl ?_); refine wpList_load_blk rfl 39 _ rfl _ _ 2 [.int .u64 i.f0, .int .u64 i.f1] (plA (⟨keyN i p k, keyN i p k, goN o p k, turnK (goN o p k), turnK (keyN i p k), 1, 0⟩ : PL)) 71 (0, 0) _ rfl (S.out.get 12 rfl) (by kernel_rfl) Try.underlying39 rfl (by kernel_rfl) ?_)
        | (refine gate_dst (N := 111) rfl ?_; (first | refine gate_none rfl ?_ | refine gate_if rfl rfl rfl ?_); refine wpList_eql39 rfl _ _ _ rfl (i) (i) rfl rfl ?_; rw [HEI.out])
        | fail)
      go_ret
      exact ⟨rfl, below_then HB1.out HB1.out.size S.out.below⟩
end Go.Proofs.Ytgppfpfdoooijaa
