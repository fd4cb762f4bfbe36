/- '==' of addresses, ranges, entries, as operations. -/
import Derived.Test.YtcgcognejjpcmaaMid
import Derived.Test.YtcgcognejjpcmaaEql
import Derived.Test.YtcgcognejjpcmaaRefMeet
namespace Go.Proofs.Ytcgcognejjpcmaa
open Go.RowKit Go.Proofs.YtcgcognejjpcmaaW.PrintWords
set_option linter.unusedVariables false

/-- An entry's cells. -/
def ec (e : S38) : Array Value := (rc e.f0.f0 ++ (rc e.f0.f1 ++ (rc e.f0.f2 ++ (rc e.f0.f3 ++ (rc e.f0.f4 ++ (rc e.f0.f5 ++ [Value.int .i64 e.f1])))))).toArray
theorem ec_size (e : S38) : (ec e).size = 25 := rfl
theorem ec_one (e : S38) : (ec e).all (·.oneCell') = true := by simp [ec, rc, Value.oneCell']
theorem ec_info (e : S38) : (Try.prog.info? 38).map (·.size) = some (ec e).size := by rw [ec_size]; kernel_rfl
theorem ec_box (e : S38) : ((ec e).extract 0 (0 + 24)).toList = (bc e.f0).toList := by kernel_rfl
theorem ec_rule (e : S38) : (ec e)[24]? = some (.int .i64 e.f1) := rfl
theorem ec_K {w : World} {e : S38} {cs : List Value} (h : k38.K w e cs) : cs = (ec e).toList := k38_open h
theorem ec_mk (w : World) (e : S38) : k38.K w e (ec e).toList := k38_mk w e
theorem ec_mkM (w : World) (base : Nat) (ok : Nat → Prop) (e : S38) : k38.M w base ok e (ec e).toList := k38_mkM w base ok e
def eqE (x y : S38) : Bool := eqB x.f0 y.f0 && x.f1 == y.f1
theorem eqE_iff (x y : S38) : eqE x y = true ↔ x = y := by
  obtain ⟨a, b⟩ := x
  obtain ⟨c, d⟩ := y
  simp [eqE, eqB_iff]
theorem eqE_self (x : S38) : eqE x x = true := (eqE_iff x x).2 rfl
theorem eqA_self (x : S24) : eqA x x = true := (eqA_iff x x).2 rfl
theorem eqA_no {x y : S24} (h : x ≠ y) : eqA x y = false := by
  cases hb : eqA x y with
  | false => rfl
  | true => exact absurd ((eqA_iff x y).1 hb) h
theorem part38_0 (e : S38) (w : World) : (part 29 (ec e) 0).run Try.prog w = .ok (.agg (bc e.f0)) w := by kernel_rfl
theorem part38_1 (e : S38) (w : World) : (part 3 (ec e) 24).run Try.prog w = .ok (.int .i64 e.f1) w := by kernel_rfl
theorem run_eq38 (d : Nat) (x y : S38) (w : World) : (Op.equalIn (d + 6) 38 (.agg (ec x)) (.agg (ec y))).run Try.prog w = .ok (eqE x y) w :=
  eqA_of Try.underlying38 (by kernel_rfl) (eqf_cons rfl (part38_0 x w) (part38_0 y w) (run_eq29 d x.f0 y.f0 w) (eqf_last rfl (part38_1 x w) (part38_1 y w) (run_equalIn_int w (d + 4) 3 .i64 .i64 x.f1 y.f1 Try.underlying3)))
theorem run_eql24 (b c : S24) (w : World) : (binOp .eql 24 (.agg #[.int .u64 b.f0, .int .u64 b.f1]) (.agg #[.int .u64 c.f0, .int .u64 c.f1])).run Try.prog w = .ok (.bool (eqA b c)) w := by
  rw [run_eql_struct, run_eq24 9998 b c w]; rfl
theorem wl_eql24 {ops : Array Oper} {rest : List Oper} {o : Oper} {a : Act} {w : World} {Q : Exit → Act → World → Prop} (hw : Region.wanted o (yielded ops a.tmps) = true) (x y : Operand) (z : TypeId) (ho : o.op = .binOp .eql 24 x y z) (b c : S24) (hx : a.eval x = .agg #[.int .u64 b.f0, .int .u64 b.f1]) (hy : a.eval y = .agg #[.int .u64 c.f0, .int .u64 c.f1])
    (h : wpList Try.prog ops Q rest (a.put o.dst (.bool (eqA b c))) w) : wpList Try.prog ops Q (o :: rest) a w := by
  unfold wpList
  rw [if_pos hw]
  refine .inl ?_
  unfold Oper.wp execOp
  simp only [ho, hx, hy, Sem.run_bind, run_eqGuard_agg (P := Try.prog) w .eql 24 x y _ _ (by kernel_rfl), run_eql24, Result.andThen_ok]
  exact h
theorem q_eql24 {ops : Array Oper} {C : World → Prop} {Q : Act → Prop} {a : Act} {o : Oper} {rest : List Oper} (hw : Region.wanted o (yielded ops a.tmps) = true) (x y : Operand) (z : TypeId) (ho : o.op = .binOp .eql 24 x y z) (b c : S24) (hx : a.eval x = .agg #[.int .u64 b.f0, .int .u64 b.f1]) (hy : a.eval y = .agg #[.int .u64 c.f0, .int .u64 c.f1])
    (h : wpQuiet Try.prog ops C Q rest (a.put o.dst (.bool (eqA b c)))) : wpQuiet Try.prog ops C Q (o :: rest) a := by
  refine quiet_run _ hw (fun w => ?_) h
  unfold execOp
  simp only [ho, hx, hy, Sem.run_bind, run_eqGuard_agg (P := Try.prog) w .eql 24 x y _ _ (by kernel_rfl), run_eql24, Result.andThen_ok, Sem.run_pure]
theorem run_neq24 (b c : S24) (w : World) : (binOp .neq 24 (.agg #[.int .u64 b.f0, .int .u64 b.f1]) (.agg #[.int .u64 c.f0, .int .u64 c.f1])).run Try.prog w = .ok (.bool (!eqA b c)) w := by
  rw [run_neq_struct, run_eq24 9998 b c w]; rfl
theorem wl_neq24 {ops : Array Oper} {rest : List Oper} {o : Oper} {a : Act} {w : World} {Q : Exit → Act → World → Prop} (hw : Region.wanted o (yielded ops a.tmps) = true) (x y : Operand) (z : TypeId) (ho : o.op = .binOp .neq 24 x y z) (b c : S24) (hx : a.eval x = .agg #[.int .u64 b.f0, .int .u64 b.f1]) (hy : a.eval y = .agg #[.int .u64 c.f0, .int .u64 c.f1])
    (h : wpList Try.prog ops Q rest (a.put o.dst (.bool (!eqA b c))) w) : wpList Try.prog ops Q (o :: rest) a w := by
  unfold wpList
  rw [if_pos hw]
  refine .inl ?_
  unfold Oper.wp execOp
  simp only [ho, hx, hy, Sem.run_bind, run_eqGuard_agg (P := Try.prog) w .neq 24 x y _ _ (by kernel_rfl), run_neq24, Result.andThen_ok]
  exact h
theorem q_neq24 {ops : Array Oper} {C : World → Prop} {Q : Act → Prop} {a : Act} {o : Oper} {rest : List Oper} (hw : Region.wanted o (yielded ops a.tmps) = true) (x y : Operand) (z : TypeId) (ho : o.op = .binOp .neq 24 x y z) (b c : S24) (hx : a.eval x = .agg #[.int .u64 b.f0, .int .u64 b.f1]) (hy : a.eval y = .agg #[.int .u64 c.f0, .int .u64 c.f1])
    (h : wpQuiet Try.prog ops C Q rest (a.put o.dst (.bool (!eqA b c)))) : wpQuiet Try.prog ops C Q (o :: rest) a := by
  refine quiet_run _ hw (fun w => ?_) h
  unfold execOp
  simp only [ho, hx, hy, Sem.run_bind, run_eqGuard_agg (P := Try.prog) w .neq 24 x y _ _ (by kernel_rfl), run_neq24, Result.andThen_ok, Sem.run_pure]
theorem run_eql26 (b c : S26) (w : World) : (binOp .eql 26 (.agg #[.int .u64 b.f0.f0, .int .u64 b.f0.f1, .int .u64 b.f1.f0, .int .u64 b.f1.f1]) (.agg #[.int .u64 c.f0.f0, .int .u64 c.f0.f1, .int .u64 c.f1.f0, .int .u64 c.f1.f1])).run Try.prog w = .ok (.bool (eqR b c)) w := by
  rw [run_eql_struct, run_eq26 9997 b c w]; rfl
theorem wl_eql26 {ops : Array Oper} {rest : List Oper} {o : Oper} {a : Act} {w : World} {Q : Exit → Act → World → Prop} (hw : Region.wanted o (yielded ops a.tmps) = true) (x y : Operand) (z : TypeId) (ho : o.op = .binOp .eql 26 x y z) (b c : S26) (hx : a.eval x = .agg #[.int .u64 b.f0.f0, .int .u64 b.f0.f1, .int .u64 b.f1.f0, .int .u64 b.f1.f1]) (hy : a.eval y = .agg #[.int .u64 c.f0.f0, .int .u64 c.f0.f1, .int .u64 c.f1.f0, .int .u64 c.f1.f1])
    (h : wpList Try.prog ops Q rest (a.put o.dst (.bool (eqR b c))) w) : wpList Try.prog ops Q (o :: rest) a w := by
  unfold wpList
  rw [if_pos hw]
  refine .inl ?_
  unfold Oper.wp execOp
  simp only [ho, hx, hy, Sem.run_bind, run_eqGuard_agg (P := Try.prog) w .eql 26 x y _ _ (by kernel_rfl), run_eql26, Result.andThen_ok]
  exact h
theorem q_eql26 {ops : Array Oper} {C : World → Prop} {Q : Act → Prop} {a : Act} {o : Oper} {rest : List Oper} (hw : Region.wanted o (yielded ops a.tmps) = true) (x y : Operand) (z : TypeId) (ho : o.op = .binOp .eql 26 x y z) (b c : S26) (hx : a.eval x = .agg #[.int .u64 b.f0.f0, .int .u64 b.f0.f1, .int .u64 b.f1.f0, .int .u64 b.f1.f1]) (hy : a.eval y = .agg #[.int .u64 c.f0.f0, .int .u64 c.f0.f1, .int .u64 c.f1.f0, .int .u64 c.f1.f1])
    (h : wpQuiet Try.prog ops C Q rest (a.put o.dst (.bool (eqR b c)))) : wpQuiet Try.prog ops C Q (o :: rest) a := by
  refine quiet_run _ hw (fun w => ?_) h
  unfold execOp
  simp only [ho, hx, hy, Sem.run_bind, run_eqGuard_agg (P := Try.prog) w .eql 26 x y _ _ (by kernel_rfl), run_eql26, Result.andThen_ok, Sem.run_pure]
theorem run_neq26 (b c : S26) (w : World) : (binOp .neq 26 (.agg #[.int .u64 b.f0.f0, .int .u64 b.f0.f1, .int .u64 b.f1.f0, .int .u64 b.f1.f1]) (.agg #[.int .u64 c.f0.f0, .int .u64 c.f0.f1, .int .u64 c.f1.f0, .int .u64 c.f1.f1])).run Try.prog w = .ok (.bool (!eqR b c)) w := by
  rw [run_neq_struct, run_eq26 9997 b c w]; rfl
theorem wl_neq26 {ops : Array Oper} {rest : List Oper} {o : Oper} {a : Act} {w : World} {Q : Exit → Act → World → Prop} (hw : Region.wanted o (yielded ops a.tmps) = true) (x y : Operand) (z : TypeId) (ho : o.op = .binOp .neq 26 x y z) (b c : S26) (hx : a.eval x = .agg #[.int .u64 b.f0.f0, .int .u64 b.f0.f1, .int .u64 b.f1.f0, .int .u64 b.f1.f1]) (hy : a.eval y = .agg #[.int .u64 c.f0.f0, .int .u64 c.f0.f1, .int .u64 c.f1.f0, .int .u64 c.f1.f1])
    (h : wpList Try.prog ops Q rest (a.put o.dst (.bool (!eqR b c))) w) : wpList Try.prog ops Q (o :: rest) a w := by
  unfold wpList
  rw [if_pos hw]
  refine .inl ?_
  unfold Oper.wp execOp
  simp only [ho, hx, hy, Sem.run_bind, run_eqGuard_agg (P := Try.prog) w .neq 26 x y _ _ (by kernel_rfl), run_neq26, Result.andThen_ok]
  exact h
theorem q_neq26 {ops : Array Oper} {C : World → Prop} {Q : Act → Prop} {a : Act} {o : Oper} {rest : List Oper} (hw : Region.wanted o (yielded ops a.tmps) = true) (x y : Operand) (z : TypeId) (ho : o.op = .binOp .neq 26 x y z) (b c : S26) (hx : a.eval x = .agg #[.int .u64 b.f0.f0, .int .u64 b.f0.f1, .int .u64 b.f1.f0, .int .u64 b.f1.f1]) (hy : a.eval y = .agg #[.int .u64 c.f0.f0, .int .u64 c.f0.f1, .int .u64 c.f1.f0, .int .u64 c.f1.f1])
    (h : wpQuiet Try.prog ops C Q rest (a.put o.dst (.bool (!eqR b c)))) : wpQuiet Try.prog ops C Q (o :: rest) a := by
  refine quiet_run _ hw (fun w => ?_) h
  unfold execOp
  simp only [ho, hx, hy, Sem.run_bind, run_eqGuard_agg (P := Try.prog) w .neq 26 x y _ _ (by kernel_rfl), run_neq26, Result.andThen_ok, Sem.run_pure]
theorem run_eql38 (b c : S38) (w : World) : (binOp .eql 38 (.agg (ec b)) (.agg (ec c))).run Try.prog w = .ok (.bool (eqE b c)) w := by
  rw [run_eql_struct, run_eq38 9994 b c w]; rfl
theorem wl_eql38 {ops : Array Oper} {rest : List Oper} {o : Oper} {a : Act} {w : World} {Q : Exit → Act → World → Prop} (hw : Region.wanted o (yielded ops a.tmps) = true) (x y : Operand) (z : TypeId) (ho : o.op = .binOp .eql 38 x y z) (b c : S38) (hx : a.eval x = .agg (ec b)) (hy : a.eval y = .agg (ec c))
    (h : wpList Try.prog ops Q rest (a.put o.dst (.bool (eqE b c))) w) : wpList Try.prog ops Q (o :: rest) a w := by
  unfold wpList
  rw [if_pos hw]
  refine .inl ?_
  unfold Oper.wp execOp
  simp only [ho, hx, hy, Sem.run_bind, run_eqGuard_agg (P := Try.prog) w .eql 38 x y _ _ (by kernel_rfl), run_eql38, Result.andThen_ok]
  exact h
theorem q_eql38 {ops : Array Oper} {C : World → Prop} {Q : Act → Prop} {a : Act} {o : Oper} {rest : List Oper} (hw : Region.wanted o (yielded ops a.tmps) = true) (x y : Operand) (z : TypeId) (ho : o.op = .binOp .eql 38 x y z) (b c : S38) (hx : a.eval x = .agg (ec b)) (hy : a.eval y = .agg (ec c))
    (h : wpQuiet Try.prog ops C Q rest (a.put o.dst (.bool (eqE b c)))) : wpQuiet Try.prog ops C Q (o :: rest) a := by
  refine quiet_run _ hw (fun w => ?_) h
  unfold execOp
  simp only [ho, hx, hy, Sem.run_bind, run_eqGuard_agg (P := Try.prog) w .eql 38 x y _ _ (by kernel_rfl), run_eql38, Result.andThen_ok, Sem.run_pure]
theorem run_neq38 (b c : S38) (w : World) : (binOp .neq 38 (.agg (ec b)) (.agg (ec c))).run Try.prog w = .ok (.bool (!eqE b c)) w := by
  rw [run_neq_struct, run_eq38 9994 b c w]; rfl
theorem wl_neq38 {ops : Array Oper} {rest : List Oper} {o : Oper} {a : Act} {w : World} {Q : Exit → Act → World → Prop} (hw : Region.wanted o (yielded ops a.tmps) = true) (x y : Operand) (z : TypeId) (ho : o.op = .binOp .neq 38 x y z) (b c : S38) (hx : a.eval x = .agg (ec b)) (hy : a.eval y = .agg (ec c))
    (h : wpList Try.prog ops Q rest (a.put o.dst (.bool (!eqE b c))) w) : wpList Try.prog ops Q (o :: rest) a w := by
  unfold wpList
  rw [if_pos hw]
  refine .inl ?_
  unfold Oper.wp execOp
  simp only [ho, hx, hy, Sem.run_bind, run_eqGuard_agg (P := Try.prog) w .neq 38 x y _ _ (by kernel_rfl), run_neq38, Result.andThen_ok]
  exact h
theorem q_neq38 {ops : Array Oper} {C : World → Prop} {Q : Act → Prop} {a : Act} {o : Oper} {rest : List Oper} (hw : Region.wanted o (yielded ops a.tmps) = true) (x y : Operand) (z : TypeId) (ho : o.op = .binOp .neq 38 x y z) (b c : S38) (hx : a.eval x = .agg (ec b)) (hy : a.eval y = .agg (ec c))
    (h : wpQuiet Try.prog ops C Q rest (a.put o.dst (.bool (!eqE b c)))) : wpQuiet Try.prog ops C Q (o :: rest) a := by
  refine quiet_run _ hw (fun w => ?_) h
  unfold execOp
  simp only [ho, hx, hy, Sem.run_bind, run_eqGuard_agg (P := Try.prog) w .neq 38 x y _ _ (by kernel_rfl), run_neq38, Result.andThen_ok, Sem.run_pure]
end Go.Proofs.Ytcgcognejjpcmaa
