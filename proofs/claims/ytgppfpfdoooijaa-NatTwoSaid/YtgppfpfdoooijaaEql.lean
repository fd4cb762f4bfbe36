/- '==' of addresses, keys, plans. -/
import Derived.Test.YtgppfpfdoooijaaMid
import Derived.Test.YtgppfpfdoooijaaDest
import Derived.Test.YtgppfpfdoooijaaWEqStruct
import Derived.ChangeKeysEq
namespace Go.Proofs.Ytgppfpfdoooijaa
open Go.RowKit Go.Proofs.YtgppfpfdoooijaaW.PrintWords
set_option linter.unusedVariables false

def eqK (x y : S51) : Bool := x.f0 == y.f0 && (eqA x.f1 y.f1 && (eqA x.f2 y.f2 && (x.f3 == y.f3 && x.f4 == y.f4)))
/-- A key's cells. -/
def kc (k : S51) : List Value := [.int .i64 k.f0, .int .u64 k.f1.f0, .int .u64 k.f1.f1, .int .u64 k.f2.f0, .int .u64 k.f2.f1, .int .i64 k.f3, .int .i64 k.f4]
theorem eqA_iff (x y : S39) : eqA x y = true ↔ x = y := by
  obtain ⟨a, b⟩ := x
  obtain ⟨c, d⟩ := y
  simp [eqA]
theorem eqK_iff (x y : S51) : eqK x y = true ↔ x = y := by
  obtain ⟨a, b, c, d, e⟩ := x
  obtain ⟨a', b', c', d', e'⟩ := y
  simp [eqK, eqA_iff]
theorem eqK_self (x : S51) : eqK x x = true := (eqK_iff x x).2 rfl
theorem eqK_comm (x y : S51) : eqK x y = eqK y x := by rw [Bool.eq_iff_iff, eqK_iff, eqK_iff]; exact ⟨Eq.symm, Eq.symm⟩
theorem run_eq39 (d : Nat) (x y : S39) (w : World) : (Op.equalIn (d + 2) 39 (.agg #[.int .u64 x.f0, .int .u64 x.f1]) (.agg #[.int .u64 y.f0, .int .u64 y.f1])).run Try.prog w = .ok (eqA x y) w :=
  eqA_of Try.underlying39 (by kernel_rfl) (eqf_cons rfl (by kernel_rfl) (by kernel_rfl) (run_equalIn_int w d 37 .u64 .u64 x.f0 y.f0 Try.underlying37) (eqf_last rfl (by kernel_rfl) (by kernel_rfl) (run_equalIn_int w d 37 .u64 .u64 x.f1 y.f1 Try.underlying37)))
theorem run_eq51 (d : Nat) (x y : S51) (w : World) : (Op.equalIn (d + 3) 51 (.agg #[.int .i64 x.f0, .int .u64 x.f1.f0, .int .u64 x.f1.f1, .int .u64 x.f2.f0, .int .u64 x.f2.f1, .int .i64 x.f3, .int .i64 x.f4]) (.agg #[.int .i64 y.f0, .int .u64 y.f1.f0, .int .u64 y.f1.f1, .int .u64 y.f2.f0, .int .u64 y.f2.f1, .int .i64 y.f3, .int .i64 y.f4])).run Try.prog w = .ok (eqK x y) w :=
  eqA_of Try.underlying51 (by kernel_rfl) (eqf_cons rfl (by kernel_rfl) (by kernel_rfl) (run_equalIn_int w (d + 1) 3 .i64 .i64 x.f0 y.f0 Try.underlying3) (eqf_cons rfl (by kernel_rfl) (by kernel_rfl) (run_eq39 d _ _ w) (eqf_cons rfl (by kernel_rfl) (by kernel_rfl) (run_eq39 d _ _ w)
    (eqf_cons rfl (by kernel_rfl) (by kernel_rfl) (run_equalIn_int w (d + 1) 3 .i64 .i64 x.f3 y.f3 Try.underlying3) (eqf_last rfl (by kernel_rfl) (by kernel_rfl) (run_equalIn_int w (d + 1) 3 .i64 .i64 x.f4 y.f4 Try.underlying3))))))
theorem run_eql51 (b c : S51) (w : World) : (binOp .eql 51 (.agg #[.int .i64 b.f0, .int .u64 b.f1.f0, .int .u64 b.f1.f1, .int .u64 b.f2.f0, .int .u64 b.f2.f1, .int .i64 b.f3, .int .i64 b.f4]) (.agg #[.int .i64 c.f0, .int .u64 c.f1.f0, .int .u64 c.f1.f1, .int .u64 c.f2.f0, .int .u64 c.f2.f1, .int .i64 c.f3, .int .i64 c.f4])).run Try.prog w = .ok (.bool (eqK b c)) w := by
  rw [run_eql_struct, run_eq51 9997 b c w]; rfl
theorem wpList_eql51 {ops : Array Oper} {rest : List Oper} {o : Oper} {a : Act} {w : World} {Q : Exit → Act → World → Prop} (hw : Region.wanted o (yielded ops a.tmps) = true) (x y : Operand) (z : TypeId) (ho : o.op = .binOp .eql 51 x y z) (b c : S51) (hx : a.eval x = .agg #[.int .i64 b.f0, .int .u64 b.f1.f0, .int .u64 b.f1.f1, .int .u64 b.f2.f0, .int .u64 b.f2.f1, .int .i64 b.f3, .int .i64 b.f4]) (hy : a.eval y = .agg #[.int .i64 c.f0, .int .u64 c.f1.f0, .int .u64 c.f1.f1, .int .u64 c.f2.f0, .int .u64 c.f2.f1, .int .i64 c.f3, .int .i64 c.f4])
    (h : wpList Try.prog ops Q rest (a.put o.dst (.bool (eqK b c))) w) : wpList Try.prog ops Q (o :: rest) a w := by
  unfold wpList
  rw [if_pos hw]
  refine .inl ?_
  unfold Oper.wp execOp
  simp only [ho, hx, hy, Sem.run_bind, run_eqGuard_agg (P := Try.prog) w .eql 51 x y _ _ (by kernel_rfl), run_eql51, Result.andThen_ok]
  exact h
theorem quiet_eql51 {ops : Array Oper} {C : World → Prop} {Q : Act → Prop} {a : Act} {o : Oper} {rest : List Oper} (hw : Region.wanted o (yielded ops a.tmps) = true) (x y : Operand) (z : TypeId) (ho : o.op = .binOp .eql 51 x y z) (b c : S51) (hx : a.eval x = .agg #[.int .i64 b.f0, .int .u64 b.f1.f0, .int .u64 b.f1.f1, .int .u64 b.f2.f0, .int .u64 b.f2.f1, .int .i64 b.f3, .int .i64 b.f4]) (hy : a.eval y = .agg #[.int .i64 c.f0, .int .u64 c.f1.f0, .int .u64 c.f1.f1, .int .u64 c.f2.f0, .int .u64 c.f2.f1, .int .i64 c.f3, .int .i64 c.f4])
    (h : wpQuiet Try.prog ops C Q rest (a.put o.dst (.bool (eqK b c)))) : wpQuiet Try.prog ops C Q (o :: rest) a := by
  refine quiet_run _ hw (fun w => ?_) h
  unfold execOp
  simp only [ho, hx, hy, Sem.run_bind, run_eqGuard_agg (P := Try.prog) w .eql 51 x y _ _ (by kernel_rfl), run_eql51, Result.andThen_ok, Sem.run_pure]
theorem run_neq51 (b c : S51) (w : World) : (binOp .neq 51 (.agg #[.int .i64 b.f0, .int .u64 b.f1.f0, .int .u64 b.f1.f1, .int .u64 b.f2.f0, .int .u64 b.f2.f1, .int .i64 b.f3, .int .i64 b.f4]) (.agg #[.int .i64 c.f0, .int .u64 c.f1.f0, .int .u64 c.f1.f1, .int .u64 c.f2.f0, .int .u64 c.f2.f1, .int .i64 c.f3, .int .i64 c.f4])).run Try.prog w = .ok (.bool (!eqK b c)) w := by
  rw [run_neq_struct, run_eq51 9997 b c w]; rfl
theorem wpList_neq51 {ops : Array Oper} {rest : List Oper} {o : Oper} {a : Act} {w : World} {Q : Exit → Act → World → Prop} (hw : Region.wanted o (yielded ops a.tmps) = true) (x y : Operand) (z : TypeId) (ho : o.op = .binOp .neq 51 x y z) (b c : S51) (hx : a.eval x = .agg #[.int .i64 b.f0, .int .u64 b.f1.f0, .int .u64 b.f1.f1, .int .u64 b.f2.f0, .int .u64 b.f2.f1, .int .i64 b.f3, .int .i64 b.f4]) (hy : a.eval y = .agg #[.int .i64 c.f0, .int .u64 c.f1.f0, .int .u64 c.f1.f1, .int .u64 c.f2.f0, .int .u64 c.f2.f1, .int .i64 c.f3, .int .i64 c.f4])
    (h : wpList Try.prog ops Q rest (a.put o.dst (.bool (!eqK b c))) w) : wpList Try.prog ops Q (o :: rest) a w := by
  unfold wpList
  rw [if_pos hw]
  refine .inl ?_
  unfold Oper.wp execOp
  simp only [ho, hx, hy, Sem.run_bind, run_eqGuard_agg (P := Try.prog) w .neq 51 x y _ _ (by kernel_rfl), run_neq51, Result.andThen_ok]
  exact h
theorem quiet_neq51 {ops : Array Oper} {C : World → Prop} {Q : Act → Prop} {a : Act} {o : Oper} {rest : List Oper} (hw : Region.wanted o (yielded ops a.tmps) = true) (x y : Operand) (z : TypeId) (ho : o.op = .binOp .neq 51 x y z) (b c : S51) (hx : a.eval x = .agg #[.int .i64 b.f0, .int .u64 b.f1.f0, .int .u64 b.f1.f1, .int .u64 b.f2.f0, .int .u64 b.f2.f1, .int .i64 b.f3, .int .i64 b.f4]) (hy : a.eval y = .agg #[.int .i64 c.f0, .int .u64 c.f1.f0, .int .u64 c.f1.f1, .int .u64 c.f2.f0, .int .u64 c.f2.f1, .int .i64 c.f3, .int .i64 c.f4])
    (h : wpQuiet Try.prog ops C Q rest (a.put o.dst (.bool (!eqK b c)))) : wpQuiet Try.prog ops C Q (o :: rest) a := by
  refine quiet_run _ hw (fun w => ?_) h
  unfold execOp
  simp only [ho, hx, hy, Sem.run_bind, run_eqGuard_agg (P := Try.prog) w .neq 51 x y _ _ (by kernel_rfl), run_neq51, Result.andThen_ok, Sem.run_pure]
theorem run_eql39 (b c : S39) (w : World) : (binOp .eql 39 (.agg #[.int .u64 b.f0, .int .u64 b.f1]) (.agg #[.int .u64 c.f0, .int .u64 c.f1])).run Try.prog w = .ok (.bool (eqA b c)) w := by
  rw [run_eql_struct, run_eq39 9998 b c w]; rfl
theorem wpList_eql39 {ops : Array Oper} {rest : List Oper} {o : Oper} {a : Act} {w : World} {Q : Exit → Act → World → Prop} (hw : Region.wanted o (yielded ops a.tmps) = true) (x y : Operand) (z : TypeId) (ho : o.op = .binOp .eql 39 x y z) (b c : S39) (hx : a.eval x = .agg #[.int .u64 b.f0, .int .u64 b.f1]) (hy : a.eval y = .agg #[.int .u64 c.f0, .int .u64 c.f1])
    (h : wpList Try.prog ops Q rest (a.put o.dst (.bool (eqA b c))) w) : wpList Try.prog ops Q (o :: rest) a w := by
  unfold wpList
  rw [if_pos hw]
  refine .inl ?_
  unfold Oper.wp execOp
  simp only [ho, hx, hy, Sem.run_bind, run_eqGuard_agg (P := Try.prog) w .eql 39 x y _ _ (by kernel_rfl), run_eql39, Result.andThen_ok]
  exact h
theorem quiet_eql39 {ops : Array Oper} {C : World → Prop} {Q : Act → Prop} {a : Act} {o : Oper} {rest : List Oper} (hw : Region.wanted o (yielded ops a.tmps) = true) (x y : Operand) (z : TypeId) (ho : o.op = .binOp .eql 39 x y z) (b c : S39) (hx : a.eval x = .agg #[.int .u64 b.f0, .int .u64 b.f1]) (hy : a.eval y = .agg #[.int .u64 c.f0, .int .u64 c.f1])
    (h : wpQuiet Try.prog ops C Q rest (a.put o.dst (.bool (eqA b c)))) : wpQuiet Try.prog ops C Q (o :: rest) a := by
  refine quiet_run _ hw (fun w => ?_) h
  unfold execOp
  simp only [ho, hx, hy, Sem.run_bind, run_eqGuard_agg (P := Try.prog) w .eql 39 x y _ _ (by kernel_rfl), run_eql39, Result.andThen_ok, Sem.run_pure]
theorem run_neq39 (b c : S39) (w : World) : (binOp .neq 39 (.agg #[.int .u64 b.f0, .int .u64 b.f1]) (.agg #[.int .u64 c.f0, .int .u64 c.f1])).run Try.prog w = .ok (.bool (!eqA b c)) w := by
  rw [run_neq_struct, run_eq39 9998 b c w]; rfl
theorem wpList_neq39 {ops : Array Oper} {rest : List Oper} {o : Oper} {a : Act} {w : World} {Q : Exit → Act → World → Prop} (hw : Region.wanted o (yielded ops a.tmps) = true) (x y : Operand) (z : TypeId) (ho : o.op = .binOp .neq 39 x y z) (b c : S39) (hx : a.eval x = .agg #[.int .u64 b.f0, .int .u64 b.f1]) (hy : a.eval y = .agg #[.int .u64 c.f0, .int .u64 c.f1])
    (h : wpList Try.prog ops Q rest (a.put o.dst (.bool (!eqA b c))) w) : wpList Try.prog ops Q (o :: rest) a w := by
  unfold wpList
  rw [if_pos hw]
  refine .inl ?_
  unfold Oper.wp execOp
  simp only [ho, hx, hy, Sem.run_bind, run_eqGuard_agg (P := Try.prog) w .neq 39 x y _ _ (by kernel_rfl), run_neq39, Result.andThen_ok]
  exact h
theorem quiet_neq39 {ops : Array Oper} {C : World → Prop} {Q : Act → Prop} {a : Act} {o : Oper} {rest : List Oper} (hw : Region.wanted o (yielded ops a.tmps) = true) (x y : Operand) (z : TypeId) (ho : o.op = .binOp .neq 39 x y z) (b c : S39) (hx : a.eval x = .agg #[.int .u64 b.f0, .int .u64 b.f1]) (hy : a.eval y = .agg #[.int .u64 c.f0, .int .u64 c.f1])
    (h : wpQuiet Try.prog ops C Q rest (a.put o.dst (.bool (!eqA b c)))) : wpQuiet Try.prog ops C Q (o :: rest) a := by
  refine quiet_run _ hw (fun w => ?_) h
  unfold execOp
  simp only [ho, hx, hy, Sem.run_bind, run_eqGuard_agg (P := Try.prog) w .neq 39 x y _ _ (by kernel_rfl), run_neq39, Result.andThen_ok, Sem.run_pure]
end Go.Proofs.Ytgppfpfdoooijaa
