/- '==' of plans. -/
import Derived.Test.YtgppfpfdoooijaaMake
namespace Go.Proofs.Ytgppfpfdoooijaa
open Go.RowKit Go.Proofs.YtgppfpfdoooijaaW.PrintWords
set_option linter.unusedVariables false

def eqP (x y : PL) : Bool := eqK x.J y.J && (eqK x.O y.O && (eqK x.U y.U && (eqK x.B y.B && (eqK x.H y.H && (x.ifc == y.ifc && x.zn == y.zn)))))
theorem eqP_self (x : PL) : eqP x x = true := by unfold eqP; simp [eqK_self]
theorem run_eq71 (d : Nat) (x y : PL) (w : World) : (Op.equalIn (d + 4) 71 (.agg (plA x)) (.agg (plA y))).run Try.prog w = .ok (eqP x y) w :=
  eqA_of Try.underlying71 (by kernel_rfl) (eqf_cons rfl (by kernel_rfl) (by kernel_rfl) (run_eq51 d x.J y.J w) (eqf_cons rfl (by kernel_rfl) (by kernel_rfl) (run_eq51 d x.O y.O w) (eqf_cons rfl (by kernel_rfl) (by kernel_rfl) (run_eq51 d x.U y.U w)
    (eqf_cons rfl (by kernel_rfl) (by kernel_rfl) (run_eq51 d x.B y.B w) (eqf_cons rfl (by kernel_rfl) (by kernel_rfl) (run_eq51 d x.H y.H w) (eqf_cons rfl (by kernel_rfl) (by kernel_rfl) (run_equalIn_int w (d + 2) 3 .i64 .i64 x.ifc y.ifc Try.underlying3) (eqf_last rfl (by kernel_rfl) (by kernel_rfl) (run_equalIn_int w (d + 2) 3 .i64 .i64 x.zn y.zn Try.underlying3))))))))
theorem run_eql71 (b c : PL) (w : World) : (binOp .eql 71 (.agg (plA b)) (.agg (plA c))).run Try.prog w = .ok (.bool (eqP b c)) w := by
  rw [run_eql_struct, run_eq71 9996 b c w]; rfl
theorem wpList_eql71 {ops : Array Oper} {rest : List Oper} {o : Oper} {a : Act} {w : World} {Q : Exit → Act → World → Prop} (hw : Region.wanted o (yielded ops a.tmps) = true) (x y : Operand) (z : TypeId) (ho : o.op = .binOp .eql 71 x y z) (b c : PL) (hx : a.eval x = .agg (plA b)) (hy : a.eval y = .agg (plA c))
    (h : wpList Try.prog ops Q rest (a.put o.dst (.bool (eqP b c))) w) : wpList Try.prog ops Q (o :: rest) a w := by
  unfold wpList
  rw [if_pos hw]
  refine .inl ?_
  unfold Oper.wp execOp
  simp only [ho, hx, hy, Sem.run_bind, run_eqGuard_agg (P := Try.prog) w .eql 71 x y _ _ (by kernel_rfl), run_eql71, Result.andThen_ok]
  exact h
theorem run_neq71 (b c : PL) (w : World) : (binOp .neq 71 (.agg (plA b)) (.agg (plA c))).run Try.prog w = .ok (.bool (!eqP b c)) w := by
  rw [run_neq_struct, run_eq71 9996 b c w]; rfl
theorem wpList_neq71 {ops : Array Oper} {rest : List Oper} {o : Oper} {a : Act} {w : World} {Q : Exit → Act → World → Prop} (hw : Region.wanted o (yielded ops a.tmps) = true) (x y : Operand) (z : TypeId) (ho : o.op = .binOp .neq 71 x y z) (b c : PL) (hx : a.eval x = .agg (plA b)) (hy : a.eval y = .agg (plA c))
    (h : wpList Try.prog ops Q rest (a.put o.dst (.bool (!eqP b c))) w) : wpList Try.prog ops Q (o :: rest) a w := by
  unfold wpList
  rw [if_pos hw]
  refine .inl ?_
  unfold Oper.wp execOp
  simp only [ho, hx, hy, Sem.run_bind, run_eqGuard_agg (P := Try.prog) w .neq 71 x y _ _ (by kernel_rfl), run_neq71, Result.andThen_ok]
  exact h
theorem run_eq76 (d : Nat) (x y : PL) (w : World) : (Op.equalIn (d + 4) 76 (.agg (plA x)) (.agg (plA y))).run Try.prog w = .ok (eqP x y) w :=
  eqA_of Try.underlying76 (by kernel_rfl) (eqf_cons rfl (by kernel_rfl) (by kernel_rfl) (run_eq51 d x.J y.J w) (eqf_cons rfl (by kernel_rfl) (by kernel_rfl) (run_eq51 d x.O y.O w) (eqf_cons rfl (by kernel_rfl) (by kernel_rfl) (run_eq51 d x.U y.U w)
    (eqf_cons rfl (by kernel_rfl) (by kernel_rfl) (run_eq51 d x.B y.B w) (eqf_cons rfl (by kernel_rfl) (by kernel_rfl) (run_eq51 d x.H y.H w) (eqf_cons rfl (by kernel_rfl) (by kernel_rfl) (run_equalIn_int w (d + 2) 3 .i64 .i64 x.ifc y.ifc Try.underlying3) (eqf_last rfl (by kernel_rfl) (by kernel_rfl) (run_equalIn_int w (d + 2) 3 .i64 .i64 x.zn y.zn Try.underlying3))))))))
theorem run_eql76 (b c : PL) (w : World) : (binOp .eql 76 (.agg (plA b)) (.agg (plA c))).run Try.prog w = .ok (.bool (eqP b c)) w := by
  rw [run_eql_struct, run_eq76 9996 b c w]; rfl
theorem wpList_eql76 {ops : Array Oper} {rest : List Oper} {o : Oper} {a : Act} {w : World} {Q : Exit → Act → World → Prop} (hw : Region.wanted o (yielded ops a.tmps) = true) (x y : Operand) (z : TypeId) (ho : o.op = .binOp .eql 76 x y z) (b c : PL) (hx : a.eval x = .agg (plA b)) (hy : a.eval y = .agg (plA c))
    (h : wpList Try.prog ops Q rest (a.put o.dst (.bool (eqP b c))) w) : wpList Try.prog ops Q (o :: rest) a w := by
  unfold wpList
  rw [if_pos hw]
  refine .inl ?_
  unfold Oper.wp execOp
  simp only [ho, hx, hy, Sem.run_bind, run_eqGuard_agg (P := Try.prog) w .eql 76 x y _ _ (by kernel_rfl), run_eql76, Result.andThen_ok]
  exact h
theorem run_neq76 (b c : PL) (w : World) : (binOp .neq 76 (.agg (plA b)) (.agg (plA c))).run Try.prog w = .ok (.bool (!eqP b c)) w := by
  rw [run_neq_struct, run_eq76 9996 b c w]; rfl
theorem wpList_neq76 {ops : Array Oper} {rest : List Oper} {o : Oper} {a : Act} {w : World} {Q : Exit → Act → World → Prop} (hw : Region.wanted o (yielded ops a.tmps) = true) (x y : Operand) (z : TypeId) (ho : o.op = .binOp .neq 76 x y z) (b c : PL) (hx : a.eval x = .agg (plA b)) (hy : a.eval y = .agg (plA c))
    (h : wpList Try.prog ops Q rest (a.put o.dst (.bool (!eqP b c))) w) : wpList Try.prog ops Q (o :: rest) a w := by
  unfold wpList
  rw [if_pos hw]
  refine .inl ?_
  unfold Oper.wp execOp
  simp only [ho, hx, hy, Sem.run_bind, run_eqGuard_agg (P := Try.prog) w .neq 76 x y _ _ (by kernel_rfl), run_neq76, Result.andThen_ok]
  exact h
end Go.Proofs.Ytgppfpfdoooijaa
