/- The maker of a plan: the port. -/
import Derived.Test.YtgppfpfdoooijaaMaker3
namespace Go.Proofs.Ytgppfpfdoooijaa
open Go.RowKit Go.Proofs.YtgppfpfdoooijaaW.PrintWords
set_option linter.unusedVariables false
set_option linter.unusedSimpArgs false
attribute [local go_sem] Later.cell_eq


/-- The key with a port. -/
def outP (U O : S51) (p : Int) : S51 := ⟨U.f0, U.f1, U.f2, p, if icmpB O.f0 = true then p else U.f4⟩
/-- Is the i-th port's key free? -/
def hitP (U O : S51) (fr tt : Int) (l : List S51) (i : Nat) : Bool := freeK (turnK (outP U O (portAt fr tt O.f3 i))) O l
/-- How many ports there are. -/
def manyP (fr tt : Int) : Nat := if portBad fr tt 0 = true then 0 else (tt - fr + 1).toNat
/-- The key as it goes out, if one is free. -/
def portR (U O : S51) (lk : Bool) (fr tt : Int) (l : List S51) : Option S51 :=
  if lk = true then ((List.range (manyP fr tt)).find? (hitP U O fr tt l)).map fun (i : Nat) => outP U O (portAt fr tt O.f3 (i : Int))
  else if freeK (turnK U) O l = true then some U else none
theorem manyP_le (fr tt : Int) : manyP fr tt ≤ 65536 := by
  unfold manyP portBad
  split
  · omega
  · rename_i h
    simp at h
    omega
theorem portBad_iff (fr tt : Int) (i : Nat) : portBad fr tt i = true ↔ manyP fr tt ≤ i := by
  unfold manyP
  split
  · rename_i h
    unfold portBad at *
    simp at h ⊢
    omega
  · rename_i h
    unfold portBad at *
    simp at h ⊢
    omega
theorem find_none {p : Nat → Bool} {n : Nat} (h : ∀ j, j < n → p j = false) : (List.range n).find? p = none := by
  rw [List.find?_eq_none]
  intro j hj
  rw [h j (List.mem_range.1 hj)]
  decide
theorem find_some {p : Nat → Bool} {n k : Nat} (hk : k < n) (hp : p k = true) (h : ∀ j, j < k → p j = false) : (List.range n).find? p = some k := by
  rw [List.find?_range_eq_some]
  refine ⟨hp, List.mem_range.2 hk, fun j hj => by rw [h j hj]; rfl⟩
theorem none_upto {f : Nat → Bool} {k : Nat} (h : ∀ j, j < k → f j = false) (hk : f k = false) : ∀ j, j < k + 1 → f j = false := by
  intro j hj
  rcases Nat.lt_or_ge j k with h1 | h1
  · exact h j h1
  · obtain rfl : j = k := by omega
    exact hk
theorem outP_out (U O : S51) (p q : Int) : outP (outP U O p) O q = outP U O q := by
  unfold outP
  split <;> rfl
/-- What the maker comes to. -/
def PortPost (m : MS) (l : List S51) (B : Nat) (W0 : World) (e : Ending) (w' : World) : Prop :=
  (∃ u, portR m.U m.O m.lk m.fr m.tt l = some u ∧ e = .returned (.int .i64 0) ∧ St W0 [(B, .cells (mkA { m with U := u, B := turnK u }) 107 (0, 0))] w') ∨
  (portR m.U m.O m.lk m.fr m.tt l = none ∧ e = .returned (.int .i64 15) ∧ Below W0.heap.size W0 w')
set_option maxRecDepth 100000 in
set_option maxHeartbeats 8000000 in
theorem mport_any (m : MS) (B : Nat) (l : List S51) (A : Option Addr) (c : Nat) (W0 w : World) (htk : m.tk = .slice A l.length c) (hC : k51.C W0 A l.length l) (hS : St W0 [(B, .cells (mkA m) 107 (0, 0))] w) (hB0 : W0.heap.size ≤ B) :
    Calls Try.prog 53 #[.pointer (some ⟨B, 0, none⟩)] w (PortPost m l B W0) := by
  have S := Aside0.mk hS
  have hB := Aside0.mk hB0
  have HFR := Aside0.mk (fun (m' : MS) (h : m'.tk = .slice A l.length c) (v : Bool) (hv : freeK (turnK m'.U) m'.O l = v) (W : World) (hW : St W0 [(B, .cells (mkA m') 107 (0, 0))] W) => show Calls Try.prog 78 #[.pointer (some ⟨B, 0, none⟩)] W (fun e w' => e = .returned (.bool v) ∧ St W0 [(B, .cells (mkA (freeM m')) 107 (0, 0))] w') by rw [← hv]; exact mfree_any m' B l A c W0 W h hC hW hB0)
  have HTK := Aside0.mk htk
  clear hS hC hB0 htk
  cases hlk : m.lk with
  | false =>
    have HL := Aside0.mk hlk
    have HLT := Aside0.mk (show (mkA m)[48]? = some (.bool false) from (show (mkA m)[48]? = some (.bool m.lk) from rfl).trans (by rw [hlk]))
    obtain ⟨v, hv⟩ : ∃ v, freeK (turnK m.U) m.O l = v := ⟨_, rfl⟩
    have HV := Aside0.mk hv
    have HF := Aside0.mk (HFR.out m HTK.out v hv)
    clear hlk hv HFR
    cases v with
    | true =>
      go_enter Try.func53, Try.ntmps53
      go_wp2_with (first
        | (refine gate_ (.load 4 (.tmp 8)) rfl ?_; refine wpList_load_one 4 _ rfl rfl _ _ (.bool false) (mkA m) 107 (0, 0) _ rfl (S.out.get 0 rfl) HLT.out Try.underlying4 rfl ?_)
        | (go_at_call 78; refine (HF.out _ S.out).mono ?_; rintro e w9 ⟨rfl, hb9⟩; replace S := Aside0.mk hb9; clear hb9)
        | fail)
      go_ret
      exact .inl ⟨m.U, by unfold portR; rw [HL.out, if_neg (by decide), HV.out]; rfl, rfl, S.out⟩
    | false =>
      go_enter Try.func53, Try.ntmps53
      go_wp2_with (first
        | (refine gate_ (.load 4 (.tmp 8)) rfl ?_; refine wpList_load_one 4 _ rfl rfl _ _ (.bool false) (mkA m) 107 (0, 0) _ rfl (S.out.get 0 rfl) HLT.out Try.underlying4 rfl ?_)
        | (go_at_call 78; refine (HF.out _ S.out).mono ?_; rintro e w9 ⟨rfl, hb9⟩; replace S := Aside0.mk hb9; clear hb9)
        | fail)
      go_ret
      exact .inr ⟨by unfold portR; rw [HL.out, if_neg (by decide), HV.out]; rfl, rfl, S.out.below⟩
  | true =>
    have HL := Aside0.mk hlk
    have HLT := Aside0.mk (show (mkA m)[48]? = some (.bool true) from (show (mkA m)[48]? = some (.bool m.lk) from rfl).trans (by rw [hlk]))
    have hmany := manyP_le m.fr m.tt
    obtain ⟨ic, hic⟩ : ∃ ic, icmpB m.O.f0 = ic := ⟨_, rfl⟩
    have HIC := Aside0.mk hic
    have HI := Aside0.mk (fun W => show Calls Try.prog 77 #[.int .i64 m.O.f0] W (fun e w' => e = .returned (.bool ic) ∧ W = w') by rw [← hic]; exact icmp_any m.O.f0 W)
    clear hlk hic
    go_enter Try.func53, Try.ntmps53
    go_wp2_with (first
      | (refine gate_ (.load 4 (.tmp 8)) rfl ?_; refine wpList_load_one 4 _ rfl rfl _ _ (.bool true) (mkA m) 107 (0, 0) _ rfl (S.out.get 0 rfl) HLT.out Try.underlying4 rfl ?_)
      | fail)
    go_loopw [3] (fun v wr => ∃ (i : Nat) (u b : S51), i ≤ manyP m.fr m.tt ∧ v = .int .i64 i ∧ Aside0 (∀ j, j < i → hitP m.U m.O m.fr m.tt l j = false) ∧ Aside0 (∀ p, outP u m.O p = outP m.U m.O p) ∧ Aside0 (St W0 [(B, .cells (mkA { m with U := u, B := b }) 107 (0, 0))] wr)) (fun v _ => manyP m.fr m.tt + 1 - (intOf v).toNat)
    case atStart => exact ⟨0, m.U, m.B, Nat.zero_le _, rfl, ⟨fun j hj => by omega⟩, ⟨fun p => rfl⟩, S⟩
    case round =>
      clear S
      obtain ⟨i, u, b, hi, rfl, HN, HO, S⟩ := hrel
      obtain ⟨bad, hbad⟩ : ∃ bad, portBad m.fr m.tt i = bad := ⟨_, rfl⟩
      have HBD := Aside0.mk hbad
      obtain ⟨pv, hpv⟩ : ∃ pv, portAt m.fr m.tt m.O.f3 i = pv := ⟨_, rfl⟩
      have HPV := Aside0.mk hpv
      have HPO := Aside0.mk (fun W => show Calls Try.prog 15 #[.int .i64 m.fr, .int .i64 m.tt, .int .i64 m.O.f3, .int .i64 i] W (fun e w' => e = .returned (if bad = true then .tuple #[.int .i64 0, .bool false] else .tuple #[.int .i64 pv, .bool true]) ∧ Below W.heap.size W w') by
        refine (port_any m.fr m.tt m.O.f3 i W).mono ?_
        rintro e w' ⟨rfl, rfl⟩
        exact ⟨by unfold portV; rw [hbad, hpv], Below.refl _ _⟩)
      clear hbad hpv
      cases bad with
      | true =>
        have HX := Aside0.mk ((portBad_iff m.fr m.tt i).1 HBD.out)
        have HPO2 := Aside0.mk (fun W => show Calls Try.prog 15 #[.int .i64 m.fr, .int .i64 m.tt, .int .i64 m.O.f3, .int .i64 i] W (fun e w' => e = .returned (.tuple #[.int .i64 0, .bool false]) ∧ Below W.heap.size W w') from HPO.out W)
        clear HPO
        go_upto_region 7 with fail
        refine wp_region_later (by kernel_rfl) (by kernel_rfl) ?_
        have S2 := S
        repeat (first
          | go_big_quiet_skip
          | (refine quiet_load_one 3 (.tmp 18) rfl rfl _ _ (.int .i64 m.fr) (mkA ({ m with U := u, B := b })) 107 (0, 0) _ rfl (later_blk (S2.out.get 0 rfl)) rfl Try.underlying3 rfl ?_; go_frame)
          | (refine quiet_load_one 3 (.tmp 22) rfl rfl _ _ (.int .i64 m.tt) (mkA ({ m with U := u, B := b })) 107 (0, 0) _ rfl (later_blk (S2.out.get 0 rfl)) rfl Try.underlying3 rfl ?_; go_frame)
          | (refine quiet_load_one 3 (.tmp 28) rfl rfl _ _ (.int .i64 m.O.f3) (mkA ({ m with U := u, B := b })) 107 (0, 0) _ rfl (later_blk (S2.out.get 0 rfl)) rfl Try.underlying3 rfl ?_; go_frame)
          | go_big_quiet_step ((go_at_call 15; with_reducible exact later_of (HPO2.out _)))
          | fail)
        refine wpQuiet_nil ?_
        intro w8 hw8
        replace S := Aside0.mk (S.out.call (later_below hw8))
        clear hw8 S2
        go_wp2
        go_ret
        exact .inr ⟨by unfold portR; rw [HL.out, if_pos rfl, find_none (fun j hj => HN.out j (by have := HX.out; omega))]; rfl, rfl, S.out.below⟩
      | false =>
        have hlt : i < manyP m.fr m.tt := by
          rcases Nat.lt_or_ge i (manyP m.fr m.tt) with h | h
          · exact h
          · have := (portBad_iff m.fr m.tt i).2 h
            rw [HBD.out] at this
            cases this
        have HPO2 := Aside0.mk (fun W => show Calls Try.prog 15 #[.int .i64 m.fr, .int .i64 m.tt, .int .i64 m.O.f3, .int .i64 i] W (fun e w' => e = .returned (.tuple #[.int .i64 pv, .bool true]) ∧ Below W.heap.size W w') from HPO.out W)
        clear HPO
        obtain ⟨v, hv⟩ : ∃ v, hitP m.U m.O m.fr m.tt l i = v := ⟨_, rfl⟩
        have HV := Aside0.mk hv
        have HU := Aside0.mk (show outP u m.O pv = ⟨u.f0, u.f1, u.f2, pv, if ic = true then pv else u.f4⟩ by unfold outP; rw [HIC.out])
        have HF := Aside0.mk (fun W => HFR.out { m with U := outP u m.O pv, B := b } HTK.out v (by show freeK (turnK (outP u m.O pv)) m.O l = v; rw [HO.out, ← HPV.out]; exact hv) W)
        clear hv
        cases ic with
        | false =>
          rw [if_neg (by decide)] at HU
          rw [HU.out] at HF
          go_upto_region 7 with fail
          refine wp_region_later (by kernel_rfl) (by kernel_rfl) ?_
          have S2 := S
          repeat (first
            | go_big_quiet_skip
            | (refine quiet_load_one 3 (.tmp 18) rfl rfl _ _ (.int .i64 m.fr) (mkA ({ m with U := u, B := b })) 107 (0, 0) _ rfl (later_blk (S2.out.get 0 rfl)) rfl Try.underlying3 rfl ?_; go_frame)
            | (refine quiet_load_one 3 (.tmp 22) rfl rfl _ _ (.int .i64 m.tt) (mkA ({ m with U := u, B := b })) 107 (0, 0) _ rfl (later_blk (S2.out.get 0 rfl)) rfl Try.underlying3 rfl ?_; go_frame)
            | (refine quiet_load_one 3 (.tmp 28) rfl rfl _ _ (.int .i64 m.O.f3) (mkA ({ m with U := u, B := b })) 107 (0, 0) _ rfl (later_blk (S2.out.get 0 rfl)) rfl Try.underlying3 rfl ?_; go_frame)
            | go_big_quiet_step ((go_at_call 15; with_reducible exact later_of (HPO2.out _)))
            | fail)
          refine wpQuiet_nil ?_
          intro w8 hw8
          replace S := Aside0.mk (S.out.call (later_below hw8))
          clear hw8 S2
          cases v with
          | true =>
            go_wp2_with (first
              | (refine gate_ (.store 3 (.tmp 41) (.tmp 37)) rfl ?_; refine wpList_store_blk rfl 3 _ _ rfl B 29 #[.int .i64 pv] _ 107 rfl rfl (S.out.get 0 rfl) (Nat.le_of_ble_eq_true rfl) (by kernel_rfl) (by simp [Value.oneCell']) ?_; intro w3 hb3 hg3 hz3; replace S := Aside0.mk (S.out.set_ 0 hg3 (blk_eq (b := mkA ({ m with U := ⟨u.f0, u.f1, u.f2, pv, u.f4⟩, B := b })) hb3 (by kernel_rfl)) hB.out (hne1)); clear hb3 hg3 hz3)
              | (refine gate_ (.load 3 (.tmp 46)) rfl ?_; refine wpList_load_one 3 _ rfl rfl _ _ (.int .i64 m.O.f0) (mkA ({ m with U := ⟨u.f0, u.f1, u.f2, pv, u.f4⟩, B := b })) 107 (0, 0) _ rfl (S.out.get 0 rfl) rfl Try.underlying3 rfl ?_)
              | (go_at_call 77; (with_reducible refine (HI.out _).mono ?_); rintro e w9 ⟨rfl, rfl⟩)
              | (go_at_call 78; refine (HF.out _ S.out).mono ?_; rintro e w9 ⟨rfl, hb9⟩; replace S := Aside0.mk hb9; clear hb9)
              | fail)
            go_ret
            exact .inl ⟨⟨u.f0, u.f1, u.f2, pv, u.f4⟩, by unfold portR; rw [HL.out, if_pos rfl, find_some hlt HV.out HN.out, Option.map_some, HPV.out, ← HO.out, HU.out], rfl, S.out⟩
          | false =>
            go_wp2_with (first
              | (refine gate_ (.store 3 (.tmp 41) (.tmp 37)) rfl ?_; refine wpList_store_blk rfl 3 _ _ rfl B 29 #[.int .i64 pv] _ 107 rfl rfl (S.out.get 0 rfl) (Nat.le_of_ble_eq_true rfl) (by kernel_rfl) (by simp [Value.oneCell']) ?_; intro w3 hb3 hg3 hz3; replace S := Aside0.mk (S.out.set_ 0 hg3 (blk_eq (b := mkA ({ m with U := ⟨u.f0, u.f1, u.f2, pv, u.f4⟩, B := b })) hb3 (by kernel_rfl)) hB.out (hne1)); clear hb3 hg3 hz3)
              | (refine gate_ (.load 3 (.tmp 46)) rfl ?_; refine wpList_load_one 3 _ rfl rfl _ _ (.int .i64 m.O.f0) (mkA ({ m with U := ⟨u.f0, u.f1, u.f2, pv, u.f4⟩, B := b })) 107 (0, 0) _ rfl (S.out.get 0 rfl) rfl Try.underlying3 rfl ?_)
              | (go_at_call 77; (with_reducible refine (HI.out _).mono ?_); rintro e w9 ⟨rfl, rfl⟩)
              | (go_at_call 78; refine (HF.out _ S.out).mono ?_; rintro e w9 ⟨rfl, hb9⟩; replace S := Aside0.mk hb9; clear hb9)
              | fail)
            go_roundw
            case rel => exact ⟨i + 1, ⟨u.f0, u.f1, u.f2, pv, u.f4⟩, _, by omega, by go_num, ⟨none_upto HN.out HV.out⟩, ⟨fun p => by rw [← HU.out, outP_out, HO.out]⟩, S⟩
            case measure => simp [intOf]; omega
        | true =>
          rw [if_pos rfl] at HU
          rw [HU.out] at HF
          go_upto_region 7 with fail
          refine wp_region_later (by kernel_rfl) (by kernel_rfl) ?_
          have S2 := S
          repeat (first
            | go_big_quiet_skip
            | (refine quiet_load_one 3 (.tmp 18) rfl rfl _ _ (.int .i64 m.fr) (mkA ({ m with U := u, B := b })) 107 (0, 0) _ rfl (later_blk (S2.out.get 0 rfl)) rfl Try.underlying3 rfl ?_; go_frame)
            | (refine quiet_load_one 3 (.tmp 22) rfl rfl _ _ (.int .i64 m.tt) (mkA ({ m with U := u, B := b })) 107 (0, 0) _ rfl (later_blk (S2.out.get 0 rfl)) rfl Try.underlying3 rfl ?_; go_frame)
            | (refine quiet_load_one 3 (.tmp 28) rfl rfl _ _ (.int .i64 m.O.f3) (mkA ({ m with U := u, B := b })) 107 (0, 0) _ rfl (later_blk (S2.out.get 0 rfl)) rfl Try.underlying3 rfl ?_; go_frame)
            | go_big_quiet_step ((go_at_call 15; with_reducible exact later_of (HPO2.out _)))
            | fail)
          refine wpQuiet_nil ?_
          intro w8 hw8
          replace S := Aside0.mk (S.out.call (later_below hw8))
          clear hw8 S2
          cases v with
          | true =>
            go_wp2_with (first
              | (refine gate_ (.store 3 (.tmp 41) (.tmp 37)) rfl ?_; refine wpList_store_blk rfl 3 _ _ rfl B 29 #[.int .i64 pv] _ 107 rfl rfl (S.out.get 0 rfl) (Nat.le_of_ble_eq_true rfl) (by kernel_rfl) (by simp [Value.oneCell']) ?_; intro w3 hb3 hg3 hz3; replace S := Aside0.mk (S.out.set_ 0 hg3 (blk_eq (b := mkA ({ m with U := ⟨u.f0, u.f1, u.f2, pv, u.f4⟩, B := b })) hb3 (by kernel_rfl)) hB.out (hne1)); clear hb3 hg3 hz3)
              | (refine gate_ (.load 3 (.tmp 46)) rfl ?_; refine wpList_load_one 3 _ rfl rfl _ _ (.int .i64 m.O.f0) (mkA ({ m with U := ⟨u.f0, u.f1, u.f2, pv, u.f4⟩, B := b })) 107 (0, 0) _ rfl (S.out.get 0 rfl) rfl Try.underlying3 rfl ?_)
              | (go_at_call 77; (with_reducible refine (HI.out _).mono ?_); rintro e w9 ⟨rfl, rfl⟩)
              | (refine gate_ (.store 3 (.tmp 54) (.tmp 50)) rfl ?_; refine wpList_store_blk rfl 3 _ _ rfl B 30 #[.int .i64 pv] _ 107 rfl rfl (S.out.get 0 rfl) (Nat.le_of_ble_eq_true rfl) (by kernel_rfl) (by simp [Value.oneCell']) ?_; intro w3 hb3 hg3 hz3; replace S := Aside0.mk (S.out.set_ 0 hg3 (blk_eq (b := mkA ({ m with U := ⟨u.f0, u.f1, u.f2, pv, pv⟩, B := b })) hb3 (by kernel_rfl)) hB.out (hne1)); clear hb3 hg3 hz3)
              | (go_at_call 78; refine (HF.out _ S.out).mono ?_; rintro e w9 ⟨rfl, hb9⟩; replace S := Aside0.mk hb9; clear hb9)
              | fail)
            go_ret
            exact .inl ⟨⟨u.f0, u.f1, u.f2, pv, pv⟩, by unfold portR; rw [HL.out, if_pos rfl, find_some hlt HV.out HN.out, Option.map_some, HPV.out, ← HO.out, HU.out], rfl, S.out⟩
          | false =>
            go_wp2_with (first
              | (refine gate_ (.store 3 (.tmp 41) (.tmp 37)) rfl ?_; refine wpList_store_blk rfl 3 _ _ rfl B 29 #[.int .i64 pv] _ 107 rfl rfl (S.out.get 0 rfl) (Nat.le_of_ble_eq_true rfl) (by kernel_rfl) (by simp [Value.oneCell']) ?_; intro w3 hb3 hg3 hz3; replace S := Aside0.mk (S.out.set_ 0 hg3 (blk_eq (b := mkA ({ m with U := ⟨u.f0, u.f1, u.f2, pv, u.f4⟩, B := b })) hb3 (by kernel_rfl)) hB.out (hne1)); clear hb3 hg3 hz3)
              | (refine gate_ (.load 3 (.tmp 46)) rfl ?_; refine wpList_load_one 3 _ rfl rfl _ _ (.int .i64 m.O.f0) (mkA ({ m with U := ⟨u.f0, u.f1, u.f2, pv, u.f4⟩, B := b })) 107 (0, 0) _ rfl (S.out.get 0 rfl) rfl Try.underlying3 rfl ?_)
              | (go_at_call 77; (with_reducible refine (HI.out _).mono ?_); rintro e w9 ⟨rfl, rfl⟩)
              | (refine gate_ (.store 3 (.tmp 54) (.tmp 50)) rfl ?_; refine wpList_store_blk rfl 3 _ _ rfl B 30 #[.int .i64 pv] _ 107 rfl rfl (S.out.get 0 rfl) (Nat.le_of_ble_eq_true rfl) (by kernel_rfl) (by simp [Value.oneCell']) ?_; intro w3 hb3 hg3 hz3; replace S := Aside0.mk (S.out.set_ 0 hg3 (blk_eq (b := mkA ({ m with U := ⟨u.f0, u.f1, u.f2, pv, pv⟩, B := b })) hb3 (by kernel_rfl)) hB.out (hne1)); clear hb3 hg3 hz3)
              | (go_at_call 78; refine (HF.out _ S.out).mono ?_; rintro e w9 ⟨rfl, hb9⟩; replace S := Aside0.mk hb9; clear hb9)
              | fail)
            go_roundw
            case rel => exact ⟨i + 1, ⟨u.f0, u.f1, u.f2, pv, pv⟩, _, by omega, by go_num, ⟨none_upto HN.out HV.out⟩, ⟨fun p => by rw [← HU.out, outP_out, HO.out]⟩, S⟩
            case measure => simp [intOf]; omega
end Go.Proofs.Ytgppfpfdoooijaa
