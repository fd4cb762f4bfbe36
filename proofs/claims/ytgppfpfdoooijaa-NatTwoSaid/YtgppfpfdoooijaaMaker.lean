/- The maker of a plan: what it holds; is a key free; the destination; the route. -/
import Derived.Test.YtgppfpfdoooijaaFree
import Derived.Test.YtgppfpfdoooijaaSource
import Derived.Test.YtgppfpfdoooijaaRoute
import Derived.Test.YtgppfpfdoooijaaPort
namespace Go.Proofs.Ytgppfpfdoooijaa
open Go.RowKit Go.Proofs.YtgppfpfdoooijaaW.PrintWords
set_option linter.unusedVariables false
set_option linter.unusedSimpArgs false
attribute [local go_sem] Later.cell_eq

/-- What a maker holds: a configuration's cells, the flow's zone, the keys that are taken, the plan, what it has found so far. -/
structure MS where
  v0 : Value
  v1 : Value
  v2 : Value
  v3 : Value
  v4 : Value
  v5 : Value
  v6 : Value
  v7 : Value
  inn : Int
  tk : Value
  J : S51
  O : S51
  U : S51
  B : S51
  H : S51
  ifc : Int
  zn : Int
  cl : Bool
  lk : Bool
  fr : Int
  tt : Int
/-- Its cells. -/
def mkA (m : MS) : Array Value := #[m.v0, m.v1, m.v2, m.v3, m.v4, m.v5, m.v6, m.v7, .int .i64 m.inn, m.tk, .int .i64 m.J.f0, .int .u64 m.J.f1.f0, .int .u64 m.J.f1.f1, .int .u64 m.J.f2.f0, .int .u64 m.J.f2.f1, .int .i64 m.J.f3, .int .i64 m.J.f4, .int .i64 m.O.f0, .int .u64 m.O.f1.f0, .int .u64 m.O.f1.f1, .int .u64 m.O.f2.f0, .int .u64 m.O.f2.f1, .int .i64 m.O.f3, .int .i64 m.O.f4, .int .i64 m.U.f0, .int .u64 m.U.f1.f0, .int .u64 m.U.f1.f1, .int .u64 m.U.f2.f0, .int .u64 m.U.f2.f1, .int .i64 m.U.f3, .int .i64 m.U.f4, .int .i64 m.B.f0, .int .u64 m.B.f1.f0, .int .u64 m.B.f1.f1, .int .u64 m.B.f2.f0, .int .u64 m.B.f2.f1, .int .i64 m.B.f3, .int .i64 m.B.f4, .int .i64 m.H.f0, .int .u64 m.H.f1.f0, .int .u64 m.H.f1.f1, .int .u64 m.H.f2.f0, .int .u64 m.H.f2.f1, .int .i64 m.H.f3, .int .i64 m.H.f4, .int .i64 m.ifc, .int .i64 m.zn, .bool m.cl, .bool m.lk, .int .i64 m.fr, .int .i64 m.tt]
theorem mkA_size (m : MS) : (mkA m).size = 51 := rfl
theorem blk_eq {W : World} {g : Nat} {a b : Array Value} {t : TypeId} {fr : Nat × Nat} (h : W.heap[g]? = some (.cells a t fr)) (e : a = b) : W.heap[g]? = some (.cells b t fr) := e ▸ h
theorem hne1 {a : Nat × Obj} {g : Nat} : ∀ (j : Nat), j ≠ 0 → ∀ (g' : Nat) (o' : Obj), [a][j]? = some (g', o') → g' ≠ g := by
  intro j hj g' o' h
  rcases j with _ | j
  · exact absurd rfl hj
  · cases h
theorem hne2 {a : Nat × Obj} {g x : Nat} {o : Obj} (hx : x ≠ g) : ∀ (j : Nat), j ≠ 0 → ∀ (g' : Nat) (o' : Obj), [a, (x, o)][j]? = some (g', o') → g' ≠ g := by
  intro j hj g' o' h
  rcases j with _ | _ | j
  · exact absurd rfl hj
  · injection h with h; injection h with h _; rw [← h]; exact hx
  · cases h


/-- Behind free: what comes back is known. -/
def freeM (m : MS) : MS := { m with B := turnK m.U }
set_option maxRecDepth 100000 in
set_option maxHeartbeats 4000000 in
theorem mfree_any (m : MS) (B : Nat) (l : List S51) (A : Option Addr) (c : Nat) (W0 w : World) (htk : m.tk = .slice A l.length c) (hC : k51.C W0 A l.length l) (hS : St W0 [(B, .cells (mkA m) 107 (0, 0))] w) (hB0 : W0.heap.size ≤ B) :
    Calls Try.prog 78 #[.pointer (some ⟨B, 0, none⟩)] w fun e w' => e = .returned (.bool (freeK (turnK m.U) m.O l)) ∧ St W0 [(B, .cells (mkA (freeM m)) 107 (0, 0))] w' := by
  have S := Aside0.mk hS
  have hB := Aside0.mk hB0
  have HC := Aside0.mk hC
  obtain ⟨ea, hea⟩ : ∃ ea, eqK (turnK m.U) m.O = ea := ⟨_, rfl⟩
  have HEA := Aside0.mk hea
  have HF := Aside0.mk (show freeK (turnK m.U) m.O l = (!ea && !contK l (turnK m.U)) by unfold freeK; rw [hea])
  have HCK := Aside0.mk (fun W (hW : Below W0.heap.size W0 W) => contK_any l A c (turnK m.U) W (Kd.C_below hC hW))
  have HTK := Aside0.mk htk
  clear hS hC hea htk hB0
  go_enter Try.func78, Try.ntmps78
  go_upto_region 2 with (first
    | (refine gate_ (.load 51 (.tmp 7)) rfl ?_; (first | refine gate_none rfl ?_ | refine gate_if rfl rfl rfl ?_); refine wpList_load_blk rfl 51 _ rfl _ _ 7 [.int .i64 m.U.f0, .int .u64 m.U.f1.f0, .int .u64 m.U.f1.f1, .int .u64 m.U.f2.f0, .int .u64 m.U.f2.f1, .int .i64 m.U.f3, .int .i64 m.U.f4] (mkA m) 107 (0, 0) _ rfl (S.out.get 0 rfl) rfl Try.underlying51 rfl (by kernel_rfl) ?_)
    | (go_at_call 49; (with_reducible refine (turned_any m.U _).mono ?_); rintro e w9 ⟨rfl, hb9⟩; replace S := Aside0.mk (S.out.call hb9); clear hb9)
    | (refine gate_ (.store 51 (.tmp 12) (.tmp 9)) rfl ?_; refine wpList_store_blk rfl 51 _ _ rfl B 31 #[.int .i64 (turnK m.U).f0, .int .u64 (turnK m.U).f1.f0, .int .u64 (turnK m.U).f1.f1, .int .u64 (turnK m.U).f2.f0, .int .u64 (turnK m.U).f2.f1, .int .i64 (turnK m.U).f3, .int .i64 (turnK m.U).f4] _ 107 rfl rfl (S.out.get 0 rfl) (Nat.le_of_ble_eq_true rfl) (by kernel_rfl) (by simp [Value.oneCell']) ?_; intro w3 hb3 hg3 hz3; replace S := Aside0.mk (S.out.set_ 0 hg3 (blk_eq (b := mkA (freeM m)) hb3 (by kernel_rfl)) hB.out (hne1)); clear hb3 hg3 hz3)
    | fail)
  go_frame
  refine wp_region_later (by kernel_rfl) (by kernel_rfl) ?_
  have S2 := S
  cases ea with
  | true =>
    repeat (first
      | go_big_quiet_skip
      | (refine quiet_load_blk 51 (.tmp 16) rfl rfl _ _ 7 [.int .i64 (turnK m.U).f0, .int .u64 (turnK m.U).f1.f0, .int .u64 (turnK m.U).f1.f1, .int .u64 (turnK m.U).f2.f0, .int .u64 (turnK m.U).f2.f1, .int .i64 (turnK m.U).f3, .int .i64 (turnK m.U).f4] (mkA (freeM m)) 107 (0, 0) _ rfl (later_blk (S2.out.get 0 rfl)) rfl Try.underlying51 rfl (by kernel_rfl) ?_; go_frame)
      | (refine quiet_load_blk 51 (.tmp 21) rfl rfl _ _ 7 [.int .i64 m.O.f0, .int .u64 m.O.f1.f0, .int .u64 m.O.f1.f1, .int .u64 m.O.f2.f0, .int .u64 m.O.f2.f1, .int .i64 m.O.f3, .int .i64 m.O.f4] (mkA (freeM m)) 107 (0, 0) _ rfl (later_blk (S2.out.get 0 rfl)) rfl Try.underlying51 rfl (by kernel_rfl) ?_; go_frame)
      | (refine quiet_neq51 rfl _ _ _ rfl (turnK m.U) m.O rfl rfl ?_; rw [HEA.out, Bool.not_true]; go_frame)
      | go_big_quiet_step (fail)
      | fail)
    refine wpQuiet_nil ?_
    intro w7 hw7
    replace S := Aside0.mk (S.out.call (later_below hw7))
    clear hw7 S2
    go_wp2
    go_ret
    exact ⟨by rw [HF.out]; rfl, S.out⟩
  | false =>
    have HT := Aside0.mk (show (mkA (freeM m))[9]? = some (.slice A l.length c) from (show (mkA (freeM m))[9]? = some m.tk from rfl).trans (by rw [HTK.out]))
    repeat (first
      | go_big_quiet_skip
      | (refine quiet_load_blk 51 (.tmp 16) rfl rfl _ _ 7 [.int .i64 (turnK m.U).f0, .int .u64 (turnK m.U).f1.f0, .int .u64 (turnK m.U).f1.f1, .int .u64 (turnK m.U).f2.f0, .int .u64 (turnK m.U).f2.f1, .int .i64 (turnK m.U).f3, .int .i64 (turnK m.U).f4] (mkA (freeM m)) 107 (0, 0) _ rfl (later_blk (S2.out.get 0 rfl)) rfl Try.underlying51 rfl (by kernel_rfl) ?_; go_frame)
      | (refine quiet_load_blk 51 (.tmp 21) rfl rfl _ _ 7 [.int .i64 m.O.f0, .int .u64 m.O.f1.f0, .int .u64 m.O.f1.f1, .int .u64 m.O.f2.f0, .int .u64 m.O.f2.f1, .int .i64 m.O.f3, .int .i64 m.O.f4] (mkA (freeM m)) 107 (0, 0) _ rfl (later_blk (S2.out.get 0 rfl)) rfl Try.underlying51 rfl (by kernel_rfl) ?_; go_frame)
      | (refine quiet_load_blk 51 (.tmp 32) rfl rfl _ _ 7 [.int .i64 (turnK m.U).f0, .int .u64 (turnK m.U).f1.f0, .int .u64 (turnK m.U).f1.f1, .int .u64 (turnK m.U).f2.f0, .int .u64 (turnK m.U).f2.f1, .int .i64 (turnK m.U).f3, .int .i64 (turnK m.U).f4] (mkA (freeM m)) 107 (0, 0) _ rfl (later_blk (S2.out.get 0 rfl)) rfl Try.underlying51 rfl (by kernel_rfl) ?_; go_frame)
      | (refine quiet_load_one 80 (.tmp 27) rfl rfl _ _ (.slice A l.length c) (mkA (freeM m)) 107 (0, 0) _ rfl (later_blk (S2.out.get 0 rfl)) HT.out Try.underlying80 rfl ?_; go_frame)
      | (refine quiet_neq51 rfl _ _ _ rfl (turnK m.U) m.O rfl rfl ?_; rw [HEA.out, Bool.not_false]; go_frame)
      | go_big_quiet_step ((go_at_call 84; with_reducible exact later_of (HCK.out _ (below_then S2.out.below S2.out.below.size (Later.below _)))))
      | fail)
    refine wpQuiet_nil ?_
    intro w7 hw7
    replace S := Aside0.mk (S.out.call (later_below hw7))
    clear hw7 S2
    go_wp2
    go_ret
    exact ⟨by rw [HF.out]; rfl, S.out⟩

/-- Behind dest. -/
def destM (c : S36) (m : MS) : MS := { m with J := ⟨m.J.f0, m.J.f1, (destF c m.O).1, m.J.f3, if icmpB m.O.f0 then m.J.f4 else (destF c m.O).2.1⟩, cl := decide (0 ≤ (destF c m.O).2.2) }
set_option maxRecDepth 100000 in
set_option maxHeartbeats 4000000 in
theorem mdest_any (c : S36) (m : MS) (B : Nat) (W0 w : World) (hK : k36.K W0 c [m.v0, m.v1, m.v2, m.v3, m.v4, m.v5, m.v6, m.v7]) (hS : St W0 [(B, .cells (mkA m) 107 (0, 0))] w) (hB0 : W0.heap.size ≤ B) :
    Calls Try.prog 50 #[.pointer (some ⟨B, 0, none⟩)] w fun e w' => e = .returned (.int .i64 0) ∧ St W0 [(B, .cells (mkA (destM c m)) 107 (0, 0))] w' := by
  have S := Aside0.mk hS
  have hB := Aside0.mk hB0
  have hBl : B < w.heap.size := blk_lt (hS.get 0 rfl)
  obtain ⟨⟨d, p, i⟩, hd⟩ : ∃ d, d = destF c m.O := ⟨_, rfl⟩
  obtain ⟨ic, hic⟩ : ∃ ic, icmpB m.O.f0 = ic := ⟨_, rfl⟩
  have HD := Aside0.mk (fun W (hW : Below W0.heap.size W0 W) => show Calls Try.prog 22 #[.agg #[m.v0, m.v1, m.v2, m.v3, m.v4, m.v5, m.v6, m.v7], .agg #[.int .i64 m.O.f0, .int .u64 m.O.f1.f0, .int .u64 m.O.f1.f1, .int .u64 m.O.f2.f0, .int .u64 m.O.f2.f1, .int .i64 m.O.f3, .int .i64 m.O.f4]] W (fun e w' => e = .returned (.tuple #[.agg #[.int .u64 d.f0, .int .u64 d.f1], .int .i64 p, .int .i64 i]) ∧ Below W.heap.size W w') by have := dest_any c _ m.O W (k36.K_below hW hK); rw [← hd] at this; exact this)
  have HI := Aside0.mk (fun W => show Calls Try.prog 77 #[.int .i64 m.O.f0] W (fun e w' => e = .returned (.bool ic) ∧ W = w') by rw [← hic]; exact icmp_any m.O.f0 W)
  have HM := Aside0.mk (show destM c m = { m with J := ⟨m.J.f0, m.J.f1, d, m.J.f3, if ic then m.J.f4 else p⟩, cl := decide (0 ≤ i) } by unfold destM; rw [← hd, hic])
  clear hS hd hic hK hB0
  go_enter Try.func50, Try.ntmps50
  go_upto_region 1 with fail
  refine Rg.made 15 14 3 39 #[.int .u64 0, .int .u64 0] #[.int .u64 d.f0, .int .u64 d.f1] _ _ _ (by kernel_rfl) (by kernel_rfl) (by kernel_rfl) rfl rfl (by decide) ⟨rfl, rfl, rfl⟩ ⟨rfl, rfl, rfl⟩ (by kernel_rfl) (by simp) (fun W => by kernel_rfl) rfl (by kernel_rfl) (by simp [Value.oneCell']) (by simp) ?_
  apply Exists.intro
  refine ⟨?_, ?_, ?_⟩
  · intro w' hw'
    have S2 := Aside0.mk (S.out.call hw')
    clear hw'
    simp only [Rg.cutOut, List.eraseIdx_cons_succ, List.eraseIdx_cons_zero]
    repeat (first
      | go_big_quiet_skip
      | (refine quiet_load_blk 36 (.tmp 9) rfl rfl _ _ 8 [m.v0, m.v1, m.v2, m.v3, m.v4, m.v5, m.v6, m.v7] (mkA (m)) 107 (0, 0) _ rfl (later_blk (S2.out.get 0 rfl)) rfl Try.underlying36 rfl (by kernel_rfl) ?_; go_frame)
      | (refine quiet_load_blk 51 (.tmp 14) rfl rfl _ _ 7 [.int .i64 m.O.f0, .int .u64 m.O.f1.f0, .int .u64 m.O.f1.f1, .int .u64 m.O.f2.f0, .int .u64 m.O.f2.f1, .int .i64 m.O.f3, .int .i64 m.O.f4] (mkA (m)) 107 (0, 0) _ rfl (later_blk (S2.out.get 0 rfl)) rfl Try.underlying51 rfl (by kernel_rfl) ?_; go_frame)
      | go_big_quiet_step ((go_at_call 22; with_reducible exact later_of (HD.out _ (below_then S2.out.below S2.out.below.size (Later.below _)))))
      | fail)
    exact wpQuiet_nil rfl
  · rfl
  · intro g w5 hB5 hg hb
    replace S := Aside0.mk ((S.out.call hB5).add hb)
    simp only [List.cons_append, List.nil_append] at S
    have hgB : g ≠ B := by omega
    have HGB := Aside0.mk hgB
    clear hB5 hb hgB
    simp only [Act.put]
    cases ic with
    | true =>
      go_wp2_with (first
        | (refine gate_ (.load 39 (.tmp 3)) rfl ?_; refine wpList_load_row rfl 39 _ rfl _ rfl 39 #[.int .u64 d.f0, .int .u64 d.f1] (0, 0) _ (S.out.get 1 rfl) Try.underlying39 rfl (by kernel_rfl) ?_)
        | (refine gate_ (.store 39 (.tmp 28) (.tmp 22)) rfl ?_; refine wpList_store_blk rfl 39 _ _ rfl B 13 #[.int .u64 d.f0, .int .u64 d.f1] _ 107 rfl rfl (S.out.get 0 rfl) (Nat.le_of_ble_eq_true rfl) (by kernel_rfl) (by simp [Value.oneCell']) ?_; intro w3 hb3 hg3 hz3; replace S := Aside0.mk (S.out.set_ 0 hg3 (blk_eq (b := mkA ({ m with J := ⟨m.J.f0, m.J.f1, d, m.J.f3, m.J.f4⟩ })) hb3 (by kernel_rfl)) hB.out (hne2 HGB.out)); clear hb3 hg3 hz3)
        | (refine gate_ (.store 4 (.tmp 30) (.tmp 24)) rfl ?_; refine wpList_store_blk rfl 4 _ _ rfl B 47 #[.bool (decide (0 ≤ i))] _ 107 rfl rfl (S.out.get 0 rfl) (Nat.le_of_ble_eq_true rfl) (by kernel_rfl) (by simp [Value.oneCell']) ?_; intro w3 hb3 hg3 hz3; replace S := Aside0.mk (S.out.set_ 0 hg3 (blk_eq (b := mkA ({ m with J := ⟨m.J.f0, m.J.f1, d, m.J.f3, m.J.f4⟩, cl := decide (0 ≤ i) })) hb3 (by kernel_rfl)) hB.out (hne2 HGB.out)); clear hb3 hg3 hz3)
        | (refine gate_ (.load 3 (.tmp 35)) rfl ?_; refine wpList_load_one 3 _ rfl rfl _ _ (.int .i64 m.O.f0) (mkA { m with J := ⟨m.J.f0, m.J.f1, d, m.J.f3, m.J.f4⟩, cl := decide (0 ≤ i) }) 107 (0, 0) _ rfl (S.out.get 0 rfl) rfl Try.underlying3 rfl ?_)
        | (go_at_call 77; (with_reducible refine (HI.out _).mono ?_); rintro e w9 ⟨rfl, rfl⟩)
        | fail)
      go_ret
      exact ⟨rfl, by rw [HM.out]; exact S.out.erase 1⟩
    | false =>
      go_wp2_with (first
        | (refine gate_ (.load 39 (.tmp 3)) rfl ?_; refine wpList_load_row rfl 39 _ rfl _ rfl 39 #[.int .u64 d.f0, .int .u64 d.f1] (0, 0) _ (S.out.get 1 rfl) Try.underlying39 rfl (by kernel_rfl) ?_)
        | (refine gate_ (.store 39 (.tmp 28) (.tmp 22)) rfl ?_; refine wpList_store_blk rfl 39 _ _ rfl B 13 #[.int .u64 d.f0, .int .u64 d.f1] _ 107 rfl rfl (S.out.get 0 rfl) (Nat.le_of_ble_eq_true rfl) (by kernel_rfl) (by simp [Value.oneCell']) ?_; intro w3 hb3 hg3 hz3; replace S := Aside0.mk (S.out.set_ 0 hg3 (blk_eq (b := mkA ({ m with J := ⟨m.J.f0, m.J.f1, d, m.J.f3, m.J.f4⟩ })) hb3 (by kernel_rfl)) hB.out (hne2 HGB.out)); clear hb3 hg3 hz3)
        | (refine gate_ (.store 4 (.tmp 30) (.tmp 24)) rfl ?_; refine wpList_store_blk rfl 4 _ _ rfl B 47 #[.bool (decide (0 ≤ i))] _ 107 rfl rfl (S.out.get 0 rfl) (Nat.le_of_ble_eq_true rfl) (by kernel_rfl) (by simp [Value.oneCell']) ?_; intro w3 hb3 hg3 hz3; replace S := Aside0.mk (S.out.set_ 0 hg3 (blk_eq (b := mkA ({ m with J := ⟨m.J.f0, m.J.f1, d, m.J.f3, m.J.f4⟩, cl := decide (0 ≤ i) })) hb3 (by kernel_rfl)) hB.out (hne2 HGB.out)); clear hb3 hg3 hz3)
        | (refine gate_ (.load 3 (.tmp 35)) rfl ?_; refine wpList_load_one 3 _ rfl rfl _ _ (.int .i64 m.O.f0) (mkA { m with J := ⟨m.J.f0, m.J.f1, d, m.J.f3, m.J.f4⟩, cl := decide (0 ≤ i) }) 107 (0, 0) _ rfl (S.out.get 0 rfl) rfl Try.underlying3 rfl ?_)
        | (go_at_call 77; (with_reducible refine (HI.out _).mono ?_); rintro e w9 ⟨rfl, rfl⟩)
        | (refine gate_ (.store 3 (.tmp 44) (.tmp 40)) rfl ?_; refine wpList_store_blk rfl 3 _ _ rfl B 16 #[.int .i64 p] _ 107 rfl rfl (S.out.get 0 rfl) (Nat.le_of_ble_eq_true rfl) (by kernel_rfl) (by simp [Value.oneCell']) ?_; intro w3 hb3 hg3 hz3; replace S := Aside0.mk (S.out.set_ 0 hg3 (blk_eq (b := mkA ({ m with J := ⟨m.J.f0, m.J.f1, d, m.J.f3, p⟩, cl := decide (0 ≤ i) })) hb3 (by kernel_rfl)) hB.out (hne2 HGB.out)); clear hb3 hg3 hz3)
        | fail)
      go_ret
      exact ⟨rfl, by rw [HM.out]; exact S.out.erase 1⟩
end Go.Proofs.Ytgppfpfdoooijaa
