/- Where entries may be cut: the program's Points. -/
import Derived.Test.YtcgcognejjpcmaaInside
import Derived.Test.YtcgcognejjpcmaaHalves
namespace Go.Proofs.Ytcgcognejjpcmaa
open Go.RowKit Go.Proofs.YtcgcognejjpcmaaW.PrintWords
set_option linter.unusedVariables false
set_option linter.unusedSimpArgs false
attribute [local go_sem] Later.cell_eq

theorem ec_from (e : S38) {k : Nat} (hk : k < 6) : ((ec e).extract (k * 4) (k * 4 + 2)).toList = [.int .u64 (rg e.f0 k).f0.f0, .int .u64 (rg e.f0 k).f0.f1] := by
  match k, hk with
  | 0, _ => rfl
  | 1, _ => rfl
  | 2, _ => rfl
  | 3, _ => rfl
  | 4, _ => rfl
  | 5, _ => rfl
theorem ec_to (e : S38) {k : Nat} (hk : k < 6) : ((ec e).extract (k * 4 + 2) (k * 4 + 2 + 2)).toList = [.int .u64 (rg e.f0 k).f1.f0, .int .u64 (rg e.f0 k).f1.f1] := by
  match k, hk with
  | 0, _ => rfl
  | 1, _ => rfl
  | 2, _ => rfl
  | 3, _ => rfl
  | 4, _ => rfl
  | 5, _ => rfl
theorem ec_boxA (e : S38) : (ec e).extract 0 (0 + 24) = bc e.f0 := by kernel_rfl
section
variable {P : Program} {ops : Array Oper} {rest : List Oper} {o : Oper} {a : Act} {w : World} {Q : Exit → Act → World → Prop}
theorem wpList_load_atA (hgd : o.guard = none) (ty : TypeId) (x : Operand) (ho : o.op = .load ty x) (ad : Addr) (cs : Array Value) (d : TypeDesc) (hx : a.eval x = .pointer (some ad)) (hc : CellsAt w ad cs.toList) (hu : P.underlying ty = some d) (hd : d.isRow = true) (hi : (P.info? ty).map (·.size) = some cs.size)
    (h : wpList P ops Q rest (a.put o.dst (.agg cs)) w) : wpList P ops Q (o :: rest) a w :=
  wpList_load_at hgd ty x ho ad cs.toList d hx hc hu hd (by simpa using hi) (by simpa using h)
theorem wpList_load_blkA (hgd : o.guard = none) (ty : TypeId) (x : Operand) (ho : o.op = .load ty x) (g i n : Nat) (part cs : Array Value) (t : TypeId) (fr : Nat × Nat) (d : TypeDesc) (hx : a.eval x = .pointer (some ⟨g, i, none⟩))
    (hg : w.heap[g]? = some (.cells cs t fr)) (hp : cs.extract i (i + n) = part) (hu : P.underlying ty = some d) (hd : d.isRow = true) (hi : (P.info? ty).map (·.size) = some part.size)
    (h : wpList P ops Q rest (a.put o.dst (.agg part)) w) : wpList P ops Q (o :: rest) a w :=
  wpList_load_blk hgd ty x ho g i n part.toList cs t fr d hx hg (by rw [hp]) hu hd (by simpa using hi) (by simpa using h)
end
theorem made_below {W W' : World} {o : Obj} (hg : (W.alloc o).grownBy W' (some W.heap.size)) : Below W.heap.size W W' := ((Below.refl W.heap.size W).alloc (Nat.le_refl _) o).trans (below_grown hg (by simp) (Nat.le_refl _))
theorem PtsAt.below {base O : Nat} {xs : List S24} {v : Value} {W W' : World} (h : PtsAt base O xs v W) (hb : Below W.heap.size W W') : PtsAt base O xs v W' := ⟨blk_call hb h.1, Kd.R_below h.2.1 hb, Nat.le_trans h.2.2 hb.size⟩
theorem St.kept {w W W' : World} {F : List (Nat × Obj)} (s : St w F W) {O : Nat} {own : Option Nat} (hk : KeptBut W W' O own) (hO : w.heap.size ≤ O) (how : ∀ g, own = some g → w.heap.size ≤ g) (hne : ∀ (i g : Nat) (o : Obj), F[i]? = some (g, o) → g ≠ O ∧ some g ≠ own) : St w F W' :=
  ⟨s.below.trans ⟨hk.os, hk.tape, hk.output, hk.size, fun k hkk => by
    have hl : k < W.heap.size := by have := s.below.size; omega
    have h1 : W.heap[k]? = some (W.heap[k]) := Array.getElem?_eq_getElem hl
    rw [hk.blk k _ h1 (by omega) (fun e => by have := how k e.symm; omega), h1]⟩, fun i g o hi => hk.blk g o (s.has i g o hi) (hne i g o hi).1 (hne i g o hi).2⟩
theorem St.below_of {w W : World} {F : List (Nat × Obj)} (s : St w F W) (n : Nat) : St w (F.take n) W := ⟨s.below, fun i g o hi => s.has i g o (by rw [List.getElem?_take] at hi; split at hi; exact hi; cases hi)⟩
theorem ne_mem {F : List (Nat × Obj)} {O : Nat} {own : Option Nat} (h : ∀ p ∈ F, p.1 ≠ O ∧ some p.1 ≠ own) : ∀ (i g : Nat) (o : Obj), F[i]? = some (g, o) → g ≠ O ∧ some g ≠ own := fun _ g o hi => h (g, o) (List.mem_of_getElem? hi)
/-- The points of one entry, in the order in which they are found. -/
def rawE (b : S29) (k : Nat) (e : S38) : List S24 := if (meetB e.f0 b).2 = true then (if inW (rg b k) (rg e.f0 k).f1 = true then [(rg e.f0 k).f1] else []) ++ (if (prevB (rg e.f0 k).f0 && inW (rg b k) (prevA (rg e.f0 k).f0)) = true then [prevA (rg e.f0 k).f0] else []) else []
def rawF (l : List S38) (b : S29) (k : Nat) : List S24 := l.flatMap (rawE b k)
def ptsF (l : List S38) (b : S29) (f : Int) : List S24 := if 0 ≤ f ∧ f < 6 then comp (sortL (rawF l b f.toNat)) (rawF l b f.toNat).length else []
theorem raw_succ {l : List S38} {b : S29} {k i : Nat} {e : S38} (h : l[i]? = some e) : rawF (l.take (i + 1)) b k = rawF (l.take i) b k ++ rawE b k e := by
  unfold rawF
  rw [List.take_add_one, h, List.flatMap_append]
  simp
theorem rawE_no {b : S29} {k : Nat} {e : S38} (h : (meetB e.f0 b).2 = false) : rawE b k e = [] := by unfold rawE; rw [h]; rfl
theorem rawE_1 {b : S29} {k : Nat} {e : S38} {xs : List S24} (h : (meetB e.f0 b).2 = true) (hp : prevB (rg e.f0 k).f0 = false) : xs ++ rawE b k e = if inW (rg b k) (rg e.f0 k).f1 = true then xs ++ [(rg e.f0 k).f1] else xs := by
  unfold rawE
  rw [h, hp, if_pos rfl]
  split <;> simp
theorem rawE_2 {b : S29} {k : Nat} {e : S38} {xs x1 : List S24} (h : (meetB e.f0 b).2 = true) (hp : prevB (rg e.f0 k).f0 = true) (h1 : (if inW (rg b k) (rg e.f0 k).f1 = true then xs ++ [(rg e.f0 k).f1] else xs) = x1) :
    xs ++ rawE b k e = if inW (rg b k) (prevA (rg e.f0 k).f0) = true then x1 ++ [prevA (rg e.f0 k).f0] else x1 := by
  subst h1
  unfold rawE
  rw [h, hp, if_pos rfl, Bool.true_and]
  split <;> split <;> simp
theorem rawE_len (b : S29) (k : Nat) (e : S38) : (rawE b k e).length ≤ 2 := by
  unfold rawE
  repeat' split
  all_goals simp
theorem raw_len (b : S29) (k : Nat) : ∀ l : List S38, (rawF l b k).length ≤ 2 * l.length
  | [] => by simp [rawF]
  | e :: l => by
    have h1 := raw_len b k l
    have h2 := rawE_len b k e
    unfold rawF at *
    rw [List.flatMap_cons, List.length_append, List.length_cons]
    omega

/-- A row of addresses comes back. -/
def RowPost (xs : List S24) (w : World) (e : Ending) (w' : World) : Prop := ∃ A' c', e = .returned (.slice A' xs.length c') ∧ xs.length ≤ c' ∧ k24.C w' A' xs.length xs ∧ Below w.heap.size w w'
set_option maxRecDepth 100000 in
set_option maxHeartbeats 8000000 in
theorem points_any (l : List S38) (A : Option Addr) (cap : Nat) (b : S29) (f : Int) (w : World) (hC : k38.C w A l.length l) (hfit : ∀ e ∈ l, FitB e.f0) (hl : l.length ≤ 100000) : Calls Try.prog 40 #[.slice A l.length cap, .agg (bc b), .int .i64 f] w (RowPost (ptsF l b f) w) := by
  have HC := Aside0.mk hC
  have HFT := Aside0.mk hfit
  clear hC hfit
  go_enter Try.func40, Try.ntmps40
  go_upto_region 1 with fail
  have S := Aside0.mk (((St.nil w).alloc (.cells (bc b) 29)).alloc (.cells #[.int .i64 f] 3))
  simp only [World.size_alloc, List.nil_append, List.cons_append] at S
  generalize World.alloc _ _ = W0 at *
  by_cases h0 : f < 0
  · have HP := Aside0.mk (show ptsF l b f = [] by unfold ptsF; rw [if_neg (by omega)])
    go_wp2_with (first
      | (refine gate_ (.load 3 (.tmp 5)) rfl ?_; (first | refine gate_none rfl ?_ | refine gate_if rfl rfl rfl ?_); refine wpList_load_one 3 _ rfl rfl _ _ (.int .i64 f) #[.int .i64 f] 3 (0, 0) _ rfl (S.out.get 1 rfl) rfl Try.underlying3 rfl ?_)
      | fail)
    go_ret
    rw [HP.out]
    exact ⟨none, 0, rfl, Nat.le_refl 0, Kd.C_nil _ _, S.out.below⟩
  · by_cases h6 : 6 ≤ f
    · have HP := Aside0.mk (show ptsF l b f = [] by unfold ptsF; rw [if_neg (by omega)])
      go_wp2_with (first
        | (refine gate_ (.load 3 (.tmp 5)) rfl ?_; (first | refine gate_none rfl ?_ | refine gate_if rfl rfl rfl ?_); refine wpList_load_one 3 _ rfl rfl _ _ (.int .i64 f) #[.int .i64 f] 3 (0, 0) _ rfl (S.out.get 1 rfl) rfl Try.underlying3 rfl ?_)
        | fail)
      go_ret
      rw [HP.out]
      exact ⟨none, 0, rfl, Nat.le_refl 0, Kd.C_nil _ _, S.out.below⟩
    · obtain ⟨k, rfl⟩ : ∃ k : Nat, f = k := ⟨f.toNat, by omega⟩
      have hk : k < 6 := by omega
      have hd0 : decide ((k : Int) < 0) = false := decide_eq_false h0
      have hd6 : decide ((6 : Int) ≤ k) = false := decide_eq_false h6
      have HP := Aside0.mk (show ptsF l b (k : Int) = comp (sortL (rawF l b k)) (rawF l b k).length by unfold ptsF; rw [if_pos (by omega)]; rfl)
      have hmax : l.length ≤ 9223372036854775807 := by omega
      go_upto_region 5 with (first
        | (refine gate_ (.load 3 (.tmp 5)) rfl ?_; (first | refine gate_none rfl ?_ | refine gate_if rfl rfl rfl ?_); refine wpList_load_one 3 _ rfl rfl _ _ (.int .i64 k) #[.int .i64 k] 3 (0, 0) _ rfl (S.out.get 1 rfl) rfl Try.underlying3 rfl ?_)
        | fail)
      obtain ⟨O, hO⟩ : ∃ O, O = W0.heap.size := ⟨_, rfl⟩
      obtain ⟨W3, hW3⟩ : ∃ W3, W3 = W0.alloc (.cells #[.slice none 0 0] 68) := ⟨_, rfl⟩
      have hsO : w.heap.size + 1 < O := by rw [hO]; exact blk_lt (S.out.get 1 rfl)
      have hs3 : W3.heap.size = O + 1 := by rw [hW3, hO]; simp
      have hP3 : PtsAt (O + 1) O [] (.slice none 0 0) W3 := ⟨by rw [hW3, hO]; exact heap_alloc_new _ _, Kd.R_nil _ _ _ _ _, by omega⟩
      have S3 : St w [(w.heap.size, .cells (bc b) 29 (0, 0)), (w.heap.size + 1, .cells #[.int .i64 k] 3 (0, 0))] W3 := by rw [hW3]; exact (S.out.alloc _).below_of 2
      rw [← hO, ← hW3]
      have HP3 := Aside0.mk hP3
      replace S := Aside0.mk S3
      have HO := Aside0.mk hsO
      clear hO hW3 hs3 hP3 S3 hsO
      go_wp2
      go_loopw [24] (fun v24 wr => ∃ (i : Nat) (xs : List S24) (v : Value), i ≤ l.length ∧ v24 = .int .i64 i ∧ Aside0 (PtsAt (O + 1) O xs v wr) ∧ Aside0 (St w [(w.heap.size, .cells (bc b) 29 (0, 0)), (w.heap.size + 1, .cells #[.int .i64 k] 3 (0, 0))] wr) ∧ Aside0 (xs = rawF (l.take i) b k)) (fun v _ => l.length - (intOf v).toNat)
      case atStart => exact ⟨0, [], _, Nat.zero_le _, rfl, HP3, S, ⟨by simp [rawF]⟩⟩
      case round =>
        clear S HP3
        obtain ⟨i, xs, v, hi, rfl, HPT, S, HX⟩ := hrel
        have HXL := Aside0.mk (show xs.length ≤ 1000000 by have h1 := raw_len b k (l.take i); rw [← HX.out, List.length_take] at h1; omega)
        by_cases hlt : i < l.length
        · obtain ⟨e, he⟩ : ∃ e, e = l.getD i z38 := ⟨_, rfl⟩
          have hge : l[i]? = some e := by rw [he, List.getD_eq_getElem?_getD, List.getElem?_eq_getElem hlt]; rfl
          have HRS := Aside0.mk (raw_succ (b := b) (k := k) hge)
          have HFE := Aside0.mk (HFT.out e (List.mem_of_getElem? hge))
          obtain ⟨ad, ce, rfl, hK, hce⟩ := elem_at (Kd.C_below HC.out S.out.below) z38 i hlt
          rw [← he] at hK
          have e2 := ec_K hK
          subst e2
          rw [show k38.sz = 25 from rfl] at hce
          have HCE := Aside0.mk hce
          clear he hge hK hce
          obtain ⟨⟨m, ok⟩, hm⟩ : ∃ r, r = meetB e.f0 b := ⟨_, rfl⟩
          have CM := Aside0.mk (fun W => show Calls Try.prog 19 #[.agg (bc e.f0), .agg (bc b)] W (fun e w' => e = .returned (.tuple #[.agg (bc m), .bool ok]) ∧ Below W.heap.size W w') by have := meetBox_any e.f0 b W; rw [← hm] at this; exact this)
          have HM := Aside0.mk hm
          clear hm
          have hwr := Aside0.mk (show O < wr.heap.size from blk_lt HPT.out.1)
          have HOW := Aside0.mk (fun g (hg : v.ownBlock = some g) => Kd.R_lt HPT.out.2.1 g hg)
          obtain ⟨T, hT⟩ : ∃ T, T = wr.heap.size := ⟨_, rfl⟩
          have HT := Aside0.mk hT
          go_upto_region 9 with (first
            | (refine gate_ (.load 38 (.tmp 26)) rfl ?_; refine wpList_load_atA rfl 38 _ rfl (ad.add (i * 25)) (ec e) _ rfl HCE.out Try.underlying38 rfl (ec_info e) ?_)
            | (refine gate_ (.store 38 (.tmp 10) (.tmp 27)) rfl ?_; refine wpList_store_all rfl 38 _ _ rfl _ (ec e) _ _ rfl rfl (heap_alloc_new _ _) rfl (ec_info e) (ec_one e) ?_; intro w6 hb6 hg6 hz6; replace S := Aside0.mk (S.out.made hg6 hb6); replace HPT := Aside0.mk (HPT.out.below (made_below hg6)); clear hb6 hg6 hz6)
            | (refine gate_ (.load 29 (.tmp 29)) rfl ?_; refine wpList_load_blkA rfl 29 _ rfl _ 0 24 (bc e.f0) (ec e) 38 (0, 0) _ rfl (S.out.get 2 rfl) (ec_boxA e) Try.underlying29 rfl (bc_info e.f0) ?_)
            | (refine gate_ (.load 29 (.tmp 4)) rfl ?_; refine wpList_load_row rfl 29 _ rfl _ rfl 29 (bc b) (0, 0) _ (S.out.get 0 rfl) Try.underlying29 rfl (bc_info b) ?_)
            | (go_at_call 19; (with_reducible refine (CM.out _).mono ?_); rintro e9 w9 ⟨rfl, hb9⟩; replace S := Aside0.mk (S.out.call hb9); replace HPT := Aside0.mk (HPT.out.below hb9); clear hb9)
            | (refine gate_ (.store 29 (.tmp 11) (.tmp 33)) rfl ?_; refine wpList_store_all rfl 29 _ _ rfl _ (bc m) _ _ rfl rfl (heap_alloc_new _ _) rfl (bc_info m) (bc_one m) ?_; intro w7 hb6 hg6 hz6; replace S := Aside0.mk (S.out.made hg6 hb6); replace HPT := Aside0.mk (HPT.out.below (made_below hg6)); clear hb6 hg6 hz6)
            | fail)
          simp only [List.cons_append, List.nil_append] at S
          cases ok with
          | false =>
            go_wp2
            go_roundw
            case rel => exact ⟨i + 1, xs, v, by omega, by go_num, HPT, ⟨S.out.below_of 2⟩, ⟨by rw [HRS.out, ← HX.out, rawE_no (by rw [← HM.out]), List.append_nil]⟩⟩
            case measure => simp [intOf]; omega
          | true =>
            replace S := Aside0.mk (show St w [(w.heap.size, .cells (bc b) 29 (0, 0)), (w.heap.size + 1, .cells #[.int .i64 k] 3 (0, 0)), (wr.heap.size, .cells (ec e) 38 (0, 0))] _ from S.out.below_of 3)
            obtain ⟨x1, hx1⟩ : ∃ x1, (if inW (rg b k) (rg e.f0 k).f1 = true then xs ++ [(rg e.f0 k).f1] else xs) = x1 := ⟨_, rfl⟩
            have HX1 := Aside0.mk hx1
            have HI1 := Aside0.mk (fun W (h0 : W.heap[w.heap.size]? = some (.cells (bc b) 29 (0, 0))) (h1 : W.heap[w.heap.size + 1]? = some (.cells #[.int .i64 k] 3 (0, 0))) (h2 : PtsAt (O + 1) O xs v W) => by have := inside_any b k hk (rg e.f0 k).f1 xs v (O + 1) w.heap.size (w.heap.size + 1) O W h0 h1 h2 ⟨by have := HO.out; omega, by have := HO.out; omega⟩ HXL.out; rw [hx1] at this; exact this)
            clear hx1
            go_upto_region 11 with (first
              | (refine gate_ (.load 3 (.tmp 5)) rfl ?_; refine wpList_load_one 3 _ rfl rfl _ _ (.int .i64 k) #[.int .i64 k] 3 (0, 0) _ rfl (S.out.get 1 rfl) rfl Try.underlying3 rfl ?_)
              | (refine gate_ (.load 24 (.tmp 42)) rfl ?_; refine wpList_load_blk rfl 24 _ rfl _ (k * 4 + 2) 2 [.int .u64 (rg e.f0 k).f1.f0, .int .u64 (rg e.f0 k).f1.f1] (ec e) 38 (0, 0) _ rfl (S.out.get 2 rfl) (ec_to e hk) Try.underlying24 rfl (by kernel_rfl) ?_)
              | (go_at_call 64; refine (HI1.out _ (S.out.get 0 rfl) (S.out.get 1 rfl) HPT.out).mono ?_; rintro e9 w9 ⟨rfl, hk9, v9, hv9, hp9⟩)
              | fail)
            have hne9 : ∀ p ∈ [(w.heap.size, Obj.cells (bc b) 29 (0, 0)), (w.heap.size + 1, Obj.cells #[Value.int .i64 k] 3 (0, 0)), (wr.heap.size, Obj.cells (ec e) 38 (0, 0))], p.1 ≠ O ∧ some p.1 ≠ v.ownBlock := by
              have h1 := HO.out
              have h2 := hwr.out
              have h3 := fun g hg => Kd.R_base HPT.out.2.1 g hg
              have h4 := HOW.out
              intro p hp
              simp only [List.mem_cons, List.not_mem_nil, or_false] at hp
              rcases hp with rfl | rfl | rfl
              · exact ⟨by simp only; omega, fun e => by have := h3 _ e.symm; omega⟩
              · exact ⟨by simp only; omega, fun e => by have := h3 _ e.symm; omega⟩
              · exact ⟨by simp only; omega, fun e => by have := h4 _ e.symm; omega⟩
            replace S := Aside0.mk (S.out.kept hk9 (by have := HO.out; omega) (fun g hg => by have := Kd.R_base HPT.out.2.1 g hg; have := HO.out; omega) (ne_mem hne9))
            replace HPT := Aside0.mk hp9
            have HXL1 := Aside0.mk (show x1.length ≤ 1000000 by have h1 := raw_len b k (l.take i); have h2 := HX1.out; rw [← HX.out, List.length_take] at h1; rw [← h2]; split <;> simp <;> omega)
            obtain ⟨p, hp⟩ : ∃ p, prevA (rg e.f0 k).f0 = p := ⟨_, rfl⟩
            obtain ⟨pb, hpb⟩ : ∃ pb, prevB (rg e.f0 k).f0 = pb := ⟨_, rfl⟩
            have HPB := Aside0.mk hpb
            have HPA := Aside0.mk hp
            have CP := Aside0.mk (fun W => show Calls Try.prog 65 #[.agg #[.int .u64 (rg e.f0 k).f0.f0, .int .u64 (rg e.f0 k).f0.f1]] W (fun e w' => e = .returned (.tuple #[.agg #[.int .u64 p.f0, .int .u64 p.f1], .bool pb]) ∧ Below W.heap.size W w') by have := prev_any (rg e.f0 k).f0 (HFE.out k hk).1 W; rw [hp, hpb] at this; exact this)
            clear hk9 hv9 hp9 hne9 hp hpb HI1 CM HCE
            cases pb with
            | false =>
              go_wp2_with (first
                | (refine gate_ (.load 3 (.tmp 5)) rfl ?_; refine wpList_load_one 3 _ rfl rfl _ _ (.int .i64 k) #[.int .i64 k] 3 (0, 0) _ rfl (S.out.get 1 rfl) rfl Try.underlying3 rfl ?_)
                | (refine gate_ (.load 24 (.tmp 50)) rfl ?_; refine wpList_load_blk rfl 24 _ rfl _ (k * 4) 2 [.int .u64 (rg e.f0 k).f0.f0, .int .u64 (rg e.f0 k).f0.f1] (ec e) 38 (0, 0) _ rfl (S.out.get 2 rfl) (ec_from e hk) Try.underlying24 rfl (by kernel_rfl) ?_)
                | (go_at_call 65; (with_reducible refine (CP.out _).mono ?_); rintro e8 w8 ⟨rfl, hb8⟩; replace S := Aside0.mk (S.out.call hb8); replace HPT := Aside0.mk (HPT.out.below hb8); clear hb8)
                | (refine gate_ (.store 24 (.tmp 13) (.tmp 53)) rfl ?_; refine wpList_store_all rfl 24 _ _ rfl _ #[.int .u64 p.f0, .int .u64 p.f1] _ _ rfl rfl (heap_alloc_new _ _) rfl (by kernel_rfl) (by kernel_rfl) ?_; intro w6 hb6 hg6 hz6; replace S := Aside0.mk (S.out.made hg6 hb6); replace HPT := Aside0.mk (HPT.out.below (made_below hg6)); clear hb6 hg6 hz6)
                | fail)
              go_roundw
              case rel => exact ⟨i + 1, x1, v9, by omega, by go_num, HPT, ⟨S.out.below_of 2⟩, ⟨by rw [HRS.out, ← HX.out, rawE_1 (by rw [← HM.out]) HPB.out, HX1.out]⟩⟩
              case measure => simp [intOf]; omega
            | true =>
              go_upto_region 13 with (first
                | (refine gate_ (.load 3 (.tmp 5)) rfl ?_; refine wpList_load_one 3 _ rfl rfl _ _ (.int .i64 k) #[.int .i64 k] 3 (0, 0) _ rfl (S.out.get 1 rfl) rfl Try.underlying3 rfl ?_)
                | (refine gate_ (.load 24 (.tmp 50)) rfl ?_; refine wpList_load_blk rfl 24 _ rfl _ (k * 4) 2 [.int .u64 (rg e.f0 k).f0.f0, .int .u64 (rg e.f0 k).f0.f1] (ec e) 38 (0, 0) _ rfl (S.out.get 2 rfl) (ec_from e hk) Try.underlying24 rfl (by kernel_rfl) ?_)
                | (go_at_call 65; (with_reducible refine (CP.out _).mono ?_); rintro e8 w8 ⟨rfl, hb8⟩; replace S := Aside0.mk (S.out.call hb8); replace HPT := Aside0.mk (HPT.out.below hb8); clear hb8)
                | (refine gate_ (.store 24 (.tmp 13) (.tmp 53)) rfl ?_; refine wpList_store_all rfl 24 _ _ rfl _ #[.int .u64 p.f0, .int .u64 p.f1] _ _ rfl rfl (heap_alloc_new _ _) rfl (by kernel_rfl) (by kernel_rfl) ?_; intro w6 hb6 hg6 hz6; replace S := Aside0.mk (S.out.made hg6 hb6); replace HPT := Aside0.mk (HPT.out.below (made_below hg6)); clear hb6 hg6 hz6)
                | fail)
              simp only [List.cons_append, List.nil_append] at S
              obtain ⟨x2, hx2⟩ : ∃ x2, (if inW (rg b k) p = true then x1 ++ [p] else x1) = x2 := ⟨_, rfl⟩
              have HX2 := Aside0.mk hx2
              have HI2 := Aside0.mk (fun W (h0 : W.heap[w.heap.size]? = some (.cells (bc b) 29 (0, 0))) (h1 : W.heap[w.heap.size + 1]? = some (.cells #[.int .i64 k] 3 (0, 0))) (h2 : PtsAt (O + 1) O x1 v9 W) => by have := inside_any b k hk p x1 v9 (O + 1) w.heap.size (w.heap.size + 1) O W h0 h1 h2 ⟨by have := HO.out; omega, by have := HO.out; omega⟩ HXL1.out; rw [hx2] at this; exact this)
              clear hx2
              go_wp2_with (first
                | (refine gate_ (.load 24 (.tmp 13)) rfl ?_; refine wpList_load_row rfl 24 _ rfl _ rfl 24 #[.int .u64 p.f0, .int .u64 p.f1] (0, 0) _ (S.out.get 3 rfl) Try.underlying24 rfl (by kernel_rfl) ?_)
                | (go_at_call 64; refine (HI2.out _ (S.out.get 0 rfl) (S.out.get 1 rfl) HPT.out).mono ?_; rintro e7 w7 ⟨rfl, hk7, v7, hv7, hp7⟩)
                | fail)
              have S2 := Aside0.mk (S.out.below_of 2)
              have hne7 : ∀ q ∈ [(w.heap.size, Obj.cells (bc b) 29 (0, 0)), (w.heap.size + 1, Obj.cells #[Value.int .i64 k] 3 (0, 0))], q.1 ≠ O ∧ some q.1 ≠ v9.ownBlock := by
                have h1 := HO.out
                have h3 := fun g hg => Kd.R_base HPT.out.2.1 g hg
                intro p hp
                simp only [List.mem_cons, List.not_mem_nil, or_false] at hp
                rcases hp with rfl | rfl
                · exact ⟨by simp only; omega, fun e => by have := h3 _ e.symm; omega⟩
                · exact ⟨by simp only; omega, fun e => by have := h3 _ e.symm; omega⟩
              replace S := Aside0.mk (S2.out.kept hk7 (by have := HO.out; omega) (fun g hg => by have := Kd.R_base HPT.out.2.1 g hg; have := HO.out; omega) (ne_mem hne7))
              replace HPT := Aside0.mk hp7
              clear S2 hk7 hv7 hp7 hne7
              go_roundw
              case rel => exact ⟨i + 1, x2, v7, by omega, by go_num, HPT, S, ⟨by rw [HRS.out, ← HX.out, rawE_2 (by rw [← HM.out]) HPB.out HX1.out, HPA.out, HX2.out]⟩⟩
              case measure => simp [intOf]; omega
        · obtain rfl : i = l.length := by omega
          have HXX := Aside0.mk (show xs = rawF l b k by rw [HX.out, List.take_length])
          by_cases hx0 : xs.length = 0
          · obtain rfl := List.length_eq_zero_iff.1 hx0
            obtain ⟨A1, c1, rfl, hc1, hC1⟩ := Kd.R_reads HPT.out.2.1
            have HO1 := Aside0.mk (show wr.heap[O]? = some (.cells #[.slice A1 0 c1] 68 (0, 0)) from HPT.out.1)
            have HB := Aside0.mk S.out.below
            have HC1 := Aside0.mk hC1
            clear S HPT hC1
            go_wp2_with (first
              | (refine gate_ (.load 68 (.tmp 7)) rfl ?_; refine wpList_load_one 68 _ rfl rfl _ _ (.slice A1 0 c1) #[.slice A1 0 c1] 68 (0, 0) _ rfl HO1.out rfl Try.underlying68 rfl ?_)
              | (go_at_call 66; (with_reducible refine (sortFunc_none _ _ _ _).mono ?_); rintro e8 w8 ⟨rfl, hb8⟩; subst hb8)
              | (go_at_call 67; (with_reducible refine (compact_none _ _ _).mono ?_); rintro e8 w8 ⟨rfl, hb8⟩; subst hb8)
              | fail)
            go_ret
            rw [HP.out, ← HXX.out]
            exact ⟨A1, c1, rfl, Nat.zero_le _, HC1.out, HB.out⟩
          · obtain ⟨g, c1, rfl, hg1, hg2, cs, hcs⟩ := Kd.R_form HPT.out.2.1 (by omega)
            obtain ⟨-, hc1, hC1⟩ := Kd.R_reads' HPT.out.2.1
            have hrow := hcs
            rw [rowG_of (enc := ea) ea_len rfl (fun x c => k24_open) hcs hC1 z24] at hrow
            obtain ⟨rest, hrest⟩ : ∃ rest, cs.toList.drop (xs.length * 2) = rest := ⟨_, rfl⟩
            rw [hrest] at hrow
            have HROW := Aside0.mk hrow
            have HO1 := Aside0.mk HPT.out.1
            have HB := Aside0.mk S.out.below
            have hgO : w.heap.size ≤ g ∧ O ≠ g := by have := HO.out; omega
            have hxl := HXL.out
            clear S HPT hC1 hrow hcs hrest hg1
            go_upto_region 16 with (first
              | (refine gate_ (.load 68 (.tmp 7)) rfl ?_; refine wpList_load_one 68 _ rfl rfl _ _ (.slice (some ⟨g, 0, none⟩) xs.length c1) #[.slice (some ⟨g, 0, none⟩) xs.length c1] 68 (0, 0) _ rfl HO1.out rfl Try.underlying68 rfl ?_)
              | (go_at_call 66; refine (sort_row xs rest g c1 _ HROW.out (by omega)).mono ?_; rintro e8 w8 ⟨rfl, hb8, hr8⟩)
              | fail)
            replace HB := Aside0.mk (HB.out.trans (below_grown hb8 HB.out.size hgO.1))
            replace HO1 := Aside0.mk ((hb8.block O (blk_lt HO1.out) (fun e => hgO.2 (by injection e))).trans HO1.out)
            replace HROW := Aside0.mk hr8
            clear hb8 hr8
            obtain ⟨zs, hzs⟩ : ∃ zs, sortL xs = zs := ⟨_, rfl⟩
            have hzl : zs.length = xs.length := by rw [← hzs, sortL_len]
            have HZ := Aside0.mk hzs
            rw [hzs] at HROW
            rw [← hzl] at HO1 hxl hc1
            have CC := Aside0.mk (fun W (h : W.heap[g]? = some (.cells (rowG ea zs rest) 24 (0, 0))) => compact_any zs rest g c1 W h hc1 (by omega))
            have HZL := Aside0.mk hzl
            clear hzl hzs
            go_wp2_with (first
              | (refine gate_ (.load 68 (.tmp 7)) rfl ?_; refine wpList_load_one 68 _ rfl rfl _ _ (.slice (some ⟨g, 0, none⟩) zs.length c1) #[.slice (some ⟨g, 0, none⟩) zs.length c1] 68 (0, 0) _ rfl HO1.out rfl Try.underlying68 rfl ?_)
              | (go_at_call 67; refine (CC.out _ HROW.out).mono ?_; rintro e7 w7 ⟨rfl, hb7, ys, rest7, hy1, hy2, hr7⟩)
              | fail)
            go_ret
            rw [HP.out, ← HXX.out, HZ.out, ← HZL.out]
            refine ⟨_, c1, rfl, Nat.le_trans (comp_le _ _) hc1, ?_, HB.out.trans (below_grown hb7 HB.out.size hgO.1)⟩
            have := rowG_C (d := k24) ea_len rfl (fun x => k24_mk w7 x) hr7 _ hy2 (by have := comp_le zs zs.length; omega)
            rw [hy1] at this
            exact this
end Go.Proofs.Ytcgcognejjpcmaa
