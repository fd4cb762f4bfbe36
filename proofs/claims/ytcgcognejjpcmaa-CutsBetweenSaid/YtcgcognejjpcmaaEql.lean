/- '==' of addresses, ranges, boxes, entries. -/
import Derived.Test.YtcgcognejjpcmaaBox
import Derived.Test.YtcgcognejjpcmaaWEqStruct
import Derived.ChangeKeysEq
namespace Go.Proofs.Ytcgcognejjpcmaa
open Go.RowKit Go.Proofs.YtcgcognejjpcmaaW.PrintWords
set_option linter.unusedVariables false

def eqA (x y : S24) : Bool := x.f0 == y.f0 && x.f1 == y.f1
def eqR (x y : S26) : Bool := eqA x.f0 y.f0 && eqA x.f1 y.f1
def eqB (x y : S29) : Bool := eqR x.f0 y.f0 && (eqR x.f1 y.f1 && (eqR x.f2 y.f2 && (eqR x.f3 y.f3 && (eqR x.f4 y.f4 && eqR x.f5 y.f5))))
theorem eqA_iff (x y : S24) : eqA x y = true ↔ x = y := by
  obtain ⟨a, b⟩ := x
  obtain ⟨c, d⟩ := y
  simp [eqA]
theorem eqR_iff (x y : S26) : eqR x y = true ↔ x = y := by
  obtain ⟨a, b⟩ := x
  obtain ⟨c, d⟩ := y
  simp [eqR, eqA_iff]
theorem eqB_iff (x y : S29) : eqB x y = true ↔ x = y := by
  obtain ⟨a, b, c, d, e, f⟩ := x
  obtain ⟨a', b', c', d', e', f'⟩ := y
  simp [eqB, eqR_iff]
theorem eqB_self (x : S29) : eqB x x = true := (eqB_iff x x).2 rfl
theorem eqB_no {x y : S29} (h : x ≠ y) : eqB x y = false := by
  cases hb : eqB x y with
  | false => rfl
  | true => exact absurd ((eqB_iff x y).1 hb) h
theorem rc_def (r : S26) : (rc r).toArray = #[.int .u64 r.f0.f0, .int .u64 r.f0.f1, .int .u64 r.f1.f0, .int .u64 r.f1.f1] := rfl

theorem run_eq24 (d : Nat) (x y : S24) (w : World) : (Op.equalIn (d + 2) 24 (.agg #[.int .u64 x.f0, .int .u64 x.f1]) (.agg #[.int .u64 y.f0, .int .u64 y.f1])).run Try.prog w = .ok (eqA x y) w :=
  eqA_of Try.underlying24 (by kernel_rfl) (eqf_cons rfl (by kernel_rfl) (by kernel_rfl) (run_equalIn_int w d 22 .u64 .u64 x.f0 y.f0 Try.underlying22) (eqf_last rfl (by kernel_rfl) (by kernel_rfl) (run_equalIn_int w d 22 .u64 .u64 x.f1 y.f1 Try.underlying22)))
theorem run_eq26 (d : Nat) (x y : S26) (w : World) : (Op.equalIn (d + 3) 26 (.agg #[.int .u64 x.f0.f0, .int .u64 x.f0.f1, .int .u64 x.f1.f0, .int .u64 x.f1.f1]) (.agg #[.int .u64 y.f0.f0, .int .u64 y.f0.f1, .int .u64 y.f1.f0, .int .u64 y.f1.f1])).run Try.prog w = .ok (eqR x y) w :=
  eqA_of Try.underlying26 (by kernel_rfl) (eqf_cons rfl (by kernel_rfl) (by kernel_rfl) (run_eq24 _ _ _ w) (eqf_last rfl (by kernel_rfl) (by kernel_rfl) (run_eq24 _ _ _ w)))
section
variable {P : Program} {d : Nat} {e : TypeId} {n : Nat} {xs ys : Array Value} {w : World}
theorem eqi_cons {i : Nat} {is : List Nat} {a b : Value} {r s : Bool} (ha : (part e xs (i * n)).run P w = .ok a w) (hb : (part e ys (i * n)).run P w = .ok b w) (he : (Op.equalIn d e a b).run P w = .ok r w) (hr : (Op.eqItems d e n xs ys is).run P w = .ok s w) :
    (Op.eqItems d e n xs ys (i :: is)).run P w = .ok (r && s) w := by
  rw [Op.eqItems]
  simp only [Sem.run_bind, ha, hb, he, Result.andThen_ok]
  cases r
  · simp
  · simpa using hr
theorem eqi_nil : (Op.eqItems d e n xs ys []).run P w = .ok true w := by simp [Op.eqItems]
end
theorem part26_0 (b : S29) (w : World) : (part 26 (bc b) (0 * 4)).run Try.prog w = .ok (.agg #[.int .u64 b.f0.f0.f0, .int .u64 b.f0.f0.f1, .int .u64 b.f0.f1.f0, .int .u64 b.f0.f1.f1]) w := by kernel_rfl
theorem part26_1 (b : S29) (w : World) : (part 26 (bc b) (1 * 4)).run Try.prog w = .ok (.agg #[.int .u64 b.f1.f0.f0, .int .u64 b.f1.f0.f1, .int .u64 b.f1.f1.f0, .int .u64 b.f1.f1.f1]) w := by kernel_rfl
theorem part26_2 (b : S29) (w : World) : (part 26 (bc b) (2 * 4)).run Try.prog w = .ok (.agg #[.int .u64 b.f2.f0.f0, .int .u64 b.f2.f0.f1, .int .u64 b.f2.f1.f0, .int .u64 b.f2.f1.f1]) w := by kernel_rfl
theorem part26_3 (b : S29) (w : World) : (part 26 (bc b) (3 * 4)).run Try.prog w = .ok (.agg #[.int .u64 b.f3.f0.f0, .int .u64 b.f3.f0.f1, .int .u64 b.f3.f1.f0, .int .u64 b.f3.f1.f1]) w := by kernel_rfl
theorem part26_4 (b : S29) (w : World) : (part 26 (bc b) (4 * 4)).run Try.prog w = .ok (.agg #[.int .u64 b.f4.f0.f0, .int .u64 b.f4.f0.f1, .int .u64 b.f4.f1.f0, .int .u64 b.f4.f1.f1]) w := by kernel_rfl
theorem part26_5 (b : S29) (w : World) : (part 26 (bc b) (5 * 4)).run Try.prog w = .ok (.agg #[.int .u64 b.f5.f0.f0, .int .u64 b.f5.f0.f1, .int .u64 b.f5.f1.f0, .int .u64 b.f5.f1.f1]) w := by kernel_rfl
theorem part26 (b : S29) {k : Nat} (hk : k < 6) (w : World) : (part 26 (bc b) (k * 4)).run Try.prog w = .ok (.agg #[.int .u64 (rg b k).f0.f0, .int .u64 (rg b k).f0.f1, .int .u64 (rg b k).f1.f0, .int .u64 (rg b k).f1.f1]) w := by
  have h : k = 0 ∨ k = 1 ∨ k = 2 ∨ k = 3 ∨ k = 4 ∨ k = 5 := by omega
  rcases h with rfl | rfl | rfl | rfl | rfl | rfl
  · exact part26_0 b w
  · exact part26_1 b w
  · exact part26_2 b w
  · exact part26_3 b w
  · exact part26_4 b w
  · exact part26_5 b w
theorem run_eq27 (d : Nat) (x y : S29) (w : World) : (Op.equalIn (d + 4) 27 (.agg (bc x)) (.agg (bc y))).run Try.prog w = .ok (eqB x y) w := by
  obtain ⟨i, hi⟩ : ∃ i, Try.prog.info? 26 = some i := Option.isSome_iff_exists.1 (by kernel_rfl)
  rw [run_equalIn_array w (d + 3) (bc x) (bc y) Try.underlying27 hi]
  have hc : Try.prog.cellsOf 26 = 4 := by kernel_rfl
  rw [hc]
  rw [show List.range 6 = [0, 1, 2, 3, 4, 5] from rfl]
  have e5 : (Op.eqItems (d + 3) 26 4 (bc x) (bc y) [5]).run Try.prog w = .ok (eqR (rg x 5) (rg y 5) && true) w := eqi_cons (part26 x (k := 5) (by omega) w) (part26 y (k := 5) (by omega) w) (run_eq26 d (rg x 5) (rg y 5) w) eqi_nil
  have e4 : (Op.eqItems (d + 3) 26 4 (bc x) (bc y) [4, 5]).run Try.prog w = .ok (eqR (rg x 4) (rg y 4) && (eqR (rg x 5) (rg y 5) && true)) w := eqi_cons (part26 x (k := 4) (by omega) w) (part26 y (k := 4) (by omega) w) (run_eq26 d (rg x 4) (rg y 4) w) e5
  have e3 : (Op.eqItems (d + 3) 26 4 (bc x) (bc y) [3, 4, 5]).run Try.prog w = .ok (eqR (rg x 3) (rg y 3) && (eqR (rg x 4) (rg y 4) && (eqR (rg x 5) (rg y 5) && true))) w := eqi_cons (part26 x (k := 3) (by omega) w) (part26 y (k := 3) (by omega) w) (run_eq26 d (rg x 3) (rg y 3) w) e4
  have e2 : (Op.eqItems (d + 3) 26 4 (bc x) (bc y) [2, 3, 4, 5]).run Try.prog w = .ok (eqR (rg x 2) (rg y 2) && (eqR (rg x 3) (rg y 3) && (eqR (rg x 4) (rg y 4) && (eqR (rg x 5) (rg y 5) && true)))) w := eqi_cons (part26 x (k := 2) (by omega) w) (part26 y (k := 2) (by omega) w) (run_eq26 d (rg x 2) (rg y 2) w) e3
  have e1 : (Op.eqItems (d + 3) 26 4 (bc x) (bc y) [1, 2, 3, 4, 5]).run Try.prog w = .ok (eqR (rg x 1) (rg y 1) && (eqR (rg x 2) (rg y 2) && (eqR (rg x 3) (rg y 3) && (eqR (rg x 4) (rg y 4) && (eqR (rg x 5) (rg y 5) && true))))) w := eqi_cons (part26 x (k := 1) (by omega) w) (part26 y (k := 1) (by omega) w) (run_eq26 d (rg x 1) (rg y 1) w) e2
  have e0 : (Op.eqItems (d + 3) 26 4 (bc x) (bc y) [0, 1, 2, 3, 4, 5]).run Try.prog w = .ok (eqR (rg x 0) (rg y 0) && (eqR (rg x 1) (rg y 1) && (eqR (rg x 2) (rg y 2) && (eqR (rg x 3) (rg y 3) && (eqR (rg x 4) (rg y 4) && (eqR (rg x 5) (rg y 5) && true)))))) w := eqi_cons (part26 x (k := 0) (by omega) w) (part26 y (k := 0) (by omega) w) (run_eq26 d (rg x 0) (rg y 0) w) e1
  rw [Bool.and_true] at e0
  exact e0
theorem run_eq29 (d : Nat) (x y : S29) (w : World) : (Op.equalIn (d + 5) 29 (.agg (bc x)) (.agg (bc y))).run Try.prog w = .ok (eqB x y) w :=
  eqA_of Try.underlying29 (by kernel_rfl) (eqf_last rfl (by kernel_rfl) (by kernel_rfl) (run_eq27 d x y w))
theorem run_eql29 (x y : S29) (w : World) : (binOp .eql 29 (.agg (bc x)) (.agg (bc y))).run Try.prog w = .ok (.bool (eqB x y)) w := by
  rw [run_eql_struct, run_eq29 9995 x y w]; rfl
theorem run_neq29 (x y : S29) (w : World) : (binOp .neq 29 (.agg (bc x)) (.agg (bc y))).run Try.prog w = .ok (.bool (!eqB x y)) w := by
  rw [run_neq_struct, run_eq29 9995 x y w]; rfl
section
variable {ops : Array Oper} {rest : List Oper} {o : Oper} {a : Act} {w : World} {Q : Exit → Act → World → Prop}
/-- The operation, in the list. -/
theorem wpList_eql29 (hw : Region.wanted o (yielded ops a.tmps) = true) (x y : Operand) (z : TypeId) (b c : S29) (hx : a.eval x = .agg (bc b)) (hy : a.eval y = .agg (bc c)) (ho : o.op = .binOp .eql 29 x y z)
    (h : wpList Try.prog ops Q rest (a.put o.dst (.bool (eqB b c))) w) : wpList Try.prog ops Q (o :: rest) a w := by
  unfold wpList
  rw [if_pos hw]
  refine .inl ?_
  unfold Oper.wp execOp
  have hg := run_eqGuard_agg (P := Try.prog) w .eql 29 x y (bc b) (bc c) (by kernel_rfl)
  simp only [ho, hx, hy, Sem.run_bind, hg, run_eql29, Result.andThen_ok]
  exact h
theorem wpList_neq29 (hw : Region.wanted o (yielded ops a.tmps) = true) (x y : Operand) (z : TypeId) (b c : S29) (hx : a.eval x = .agg (bc b)) (hy : a.eval y = .agg (bc c)) (ho : o.op = .binOp .neq 29 x y z)
    (h : wpList Try.prog ops Q rest (a.put o.dst (.bool (!eqB b c))) w) : wpList Try.prog ops Q (o :: rest) a w := by
  unfold wpList
  rw [if_pos hw]
  refine .inl ?_
  unfold Oper.wp execOp
  have hg := run_eqGuard_agg (P := Try.prog) w .neq 29 x y (bc b) (bc c) (by kernel_rfl)
  simp only [ho, hx, hy, Sem.run_bind, hg, run_neq29, Result.andThen_ok]
  exact h
end
end Go.Proofs.Ytcgcognejjpcmaa
