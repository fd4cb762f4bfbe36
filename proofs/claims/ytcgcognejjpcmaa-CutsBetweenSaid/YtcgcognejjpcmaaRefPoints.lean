/- The reference's Points. -/
import Derived.Test.YtcgcognejjpcmaaRefAdd
namespace Go.Proofs.Ytcgcognejjpcmaa
open Go.RowKit Go.Proofs.YtcgcognejjpcmaaW.PrintWords
set_option linter.unusedVariables false
set_option linter.unusedSimpArgs false
attribute [local go_sem] Later.cell_eq

def RC (r : S26) : Array Value := #[.int .u64 r.f0.f0, .int .u64 r.f0.f1, .int .u64 r.f1.f0, .int .u64 r.f1.f1]
theorem bc_rc (b : S29) {k : Nat} (hk : k < 6) : (bc b).extract (k * 4) (k * 4 + 4) = RC (rg b k) := by
  match k, hk with
  | 0, _ => rfl
  | 1, _ => rfl
  | 2, _ => rfl
  | 3, _ => rfl
  | 4, _ => rfl
  | 5, _ => rfl
theorem ec_rc (e : S38) {k : Nat} (hk : k < 6) : (ec e).extract (k * 4) (k * 4 + 4) = RC (rg e.f0 k) := by
  match k, hk with
  | 0, _ => rfl
  | 1, _ => rfl
  | 2, _ => rfl
  | 3, _ => rfl
  | 4, _ => rfl
  | 5, _ => rfl
theorem RC_info (r : S26) : (Try.prog.info? 26).map (·.size) = some (RC r).size := by kernel_rfl
theorem RC_one (r : S26) : (RC r).all (·.oneCell') = true := by simp [RC, Value.oneCell']
theorem cells_part {w : World} {ad : Addr} {cs : Array Value} (h : CellsAt w ad cs.toList) (o n : Nat) {part : Array Value} (hp : cs.extract o (o + n) = part) : CellsAt w (ad.add o) part.toList := by
  subst hp
  intro i u hu
  rw [Array.getElem?_toList, Array.getElem?_extract] at hu
  split at hu
  · have := h (o + i) u (by rw [Array.getElem?_toList]; exact hu)
    rw [addr_add]
    exact this
  · cases hu
theorem C_zero {α : Type} (d : Kd α) (w : World) (A : Option Addr) : d.C w A 0 [] := ⟨rfl, by simp, fun h => absurd h (Nat.lt_irrefl 0)⟩
theorem addA_len (a : S24) : ∀ xs : List S24, (addA xs a).length ≤ xs.length + 1
  | [] => by simp [addA]
  | x :: t => by
    have := addA_len a t
    unfold addA
    repeat' split
    all_goals simp
    all_goals omega
theorem fold_len : ∀ (ys xs : List S24), (ys.foldl addA xs).length ≤ xs.length + ys.length
  | [], xs => by simp
  | y :: ys, xs => by
    have h1 := fold_len ys (addA xs y)
    have h2 := addA_len y xs
    simp only [List.foldl_cons, List.length_cons]
    omega
/-- The points that were found, laid into a rising row. -/
def refF (l : List S38) (b : S29) (f : Int) : List S24 := if 0 ≤ f ∧ f < 6 then (rawF l b f.toNat).foldl addA [] else []
theorem fold_1 {b : S29} {k : Nat} {e : S38} {xs : List S24} {i1 i2 : Bool} (h : (meetB e.f0 b).2 = true) (h1 : inW (rg b k) (rg e.f0 k).f1 = i1) (h2 : (prevB (rg e.f0 k).f0 && inW (rg b k) (prevA (rg e.f0 k).f0)) = i2) :
    (rawE b k e).foldl addA xs = (if i2 = true then [prevA (rg e.f0 k).f0] else []).foldl addA (if i1 = true then addA xs (rg e.f0 k).f1 else xs) := by
  unfold rawE
  rw [h, if_pos rfl, h1, h2, List.foldl_append]
  cases i1 <;> rfl

theorem row_below {xs : List S24} {c : Nat} {A : Option Addr} {w w' : World} (h : xs.length ≤ c ∧ k24.C w A xs.length xs) (hb : Below w.heap.size w w') : xs.length ≤ c ∧ k24.C w' A xs.length xs := ⟨h.1, Kd.C_below h.2 hb⟩
set_option maxRecDepth 100000 in
set_option maxHeartbeats 16000000 in
theorem refpoints_any (l : List S38) (A : Option Addr) (cap : Nat) (b : S29) (f : Int) (w : World) (hC : k38.C w A l.length l) (hfit : ∀ e ∈ l, FitB e.f0) (hl : l.length ≤ 100000) : Calls Try.prog 41 #[.slice A l.length cap, .agg (bc b), .int .i64 f] w (RowPost (refF l b f) w) := by
  have HC := Aside0.mk hC
  have HFT := Aside0.mk hfit
  clear hC hfit
  go_enter Try.func41, Try.ntmps41
  go_upto_region 1 with fail
  have S := Aside0.mk ((St.nil w).alloc (.cells (bc b) 29))
  simp only [World.size_alloc, List.nil_append, List.cons_append] at S
  generalize World.alloc _ _ = W0 at *
  go_upto_region 2 with fail
  replace S := Aside0.mk (S.out.call ((Below.refl W0.heap.size W0).alloc (Nat.le_refl _) (.cells #[] 24)))
  obtain ⟨A0, hA0⟩ : ∃ A0, A0 = (some ⟨W0.heap.size, 0, none⟩ : Option Addr) := ⟨_, rfl⟩
  rw [← hA0]
  clear hA0
  generalize World.alloc _ _ = W1 at *
  by_cases h0 : f < 0
  · have HP := Aside0.mk (show refF l b f = [] by unfold refF; rw [if_neg (by omega)])
    go_wp2_with fail
    go_ret
    rw [HP.out]
    exact ⟨A0, 0, rfl, Nat.le_refl 0, C_zero _ _ _, S.out.below⟩
  · by_cases h6 : 6 ≤ f
    · have HP := Aside0.mk (show refF l b f = [] by unfold refF; rw [if_neg (by omega)])
      go_wp2_with fail
      go_ret
      rw [HP.out]
      exact ⟨A0, 0, rfl, Nat.le_refl 0, C_zero _ _ _, S.out.below⟩
    · obtain ⟨k, rfl⟩ : ∃ k : Nat, f = k := ⟨f.toNat, by omega⟩
      have hk : k < 6 := by omega
      have hd0 : decide ((k : Int) < 0) = false := decide_eq_false h0
      have hd6 : decide ((6 : Int) ≤ k) = false := decide_eq_false h6
      have HP := Aside0.mk (show refF l b (k : Int) = (rawF l b k).foldl addA [] by unfold refF; rw [if_pos (by omega)]; rfl)
      have hmax : l.length ≤ 9223372036854775807 := by omega
      go_upto_region 5 with (first
        | (refine gate_ (.load 26 (.tmp 25)) rfl ?_; refine wpList_load_blkA rfl 26 _ rfl _ (k * 4) 4 (RC (rg b k)) (bc b) 29 (0, 0) _ rfl (S.out.get 0 rfl) (bc_rc b hk) Try.underlying26 rfl (RC_info _) ?_)
        | (refine gate_ (.store 26 (.tmp 8) (.tmp 26)) rfl ?_; refine wpList_store_all rfl 26 _ _ rfl _ (RC (rg b k)) _ _ rfl rfl (heap_alloc_new _ _) rfl (RC_info _) (RC_one _) ?_; intro w6 hb6 hg6 hz6; replace S := Aside0.mk (S.out.made hg6 hb6); clear hb6 hg6 hz6)
        | fail)
      simp only [List.nil_append, List.cons_append] at S
      obtain ⟨Bk, hBk⟩ : ∃ Bk, Bk = W1.heap.size := ⟨_, rfl⟩
      rw [← hBk] at S ⊢
      clear hBk
      go_wp2
      go_loopw [7, 9] (fun v7 v9 wr => ∃ (i : Nat) (xs : List S24) (A' : Option Addr) (c' : Nat), i ≤ l.length ∧ v9 = .int .i64 i ∧ v7 = .slice A' xs.length c' ∧ Aside0 (xs.length ≤ c' ∧ k24.C wr A' xs.length xs) ∧ Aside0 (St w [(w.heap.size, .cells (bc b) 29 (0, 0)), (Bk, .cells (RC (rg b k)) 26 (0, 0))] wr) ∧ Aside0 (xs = (rawF (l.take i) b k).foldl addA [])) (fun _ v _ => l.length - (intOf v).toNat)
      case atStart => exact ⟨0, [], A0, 0, Nat.zero_le _, rfl, rfl, ⟨Nat.le_refl _, C_zero _ _ _⟩, S, ⟨by simp [rawF]⟩⟩
      case round =>
        clear S
        obtain ⟨i, xs, A', c', hi, rfl, rfl, HROW, S, HX⟩ := hrel
        have HXL := Aside0.mk (show xs.length ≤ 400000 by have h1 := raw_len b k (l.take i); have h2 := fold_len (rawF (l.take i) b k) []; rw [← HX.out] at h2; rw [List.length_take] at h1; simp only [List.length_nil] at h2; omega)
        by_cases hlt : i < l.length
        · obtain ⟨e, he⟩ : ∃ e, e = l.getD i z38 := ⟨_, rfl⟩
          have hge : l[i]? = some e := by rw [he, List.getD_eq_getElem?_getD, List.getElem?_eq_getElem hlt]; rfl
          have HRS := Aside0.mk (show (rawF (l.take (i + 1)) b k).foldl addA [] = (rawE b k e).foldl addA xs by rw [raw_succ hge, List.foldl_append, ← HX.out])
          have HFE := Aside0.mk (HFT.out e (List.mem_of_getElem? hge))
          obtain ⟨ad, ce, rfl, hK, hce⟩ := elem_at (Kd.C_below HC.out S.out.below) z38 i hlt
          rw [← he] at hK
          have e2 := ec_K hK
          subst e2
          rw [show k38.sz = 25 from rfl] at hce
          have HCE := Aside0.mk hce
          clear he hge hK hce
          obtain ⟨⟨m, ok⟩, hm⟩ : ∃ r, r = meetB e.f0 b := ⟨_, rfl⟩
          have CM := Aside0.mk (fun W => show Calls Try.prog 20 #[.agg (bc e.f0), .agg (bc b)] W (fun e w' => e = .returned (.tuple #[.agg (bc m), .bool ok]) ∧ Below W.heap.size W w') by have := refmeetBox_any e.f0 b W; rw [← hm] at this; exact this)
          have HM := Aside0.mk hm
          clear hm
          go_upto_region 8 with fail
          refine Rg.made 11 10 10 29 (bc z29) (bc m) _ _ _ (by kernel_rfl) (by kernel_rfl) (by kernel_rfl) rfl rfl (by decide) ⟨rfl, rfl, rfl⟩ ⟨rfl, rfl, rfl⟩ (by kernel_rfl) (by simp) (fun W => by kernel_rfl) rfl (bc_info _) (bc_one _) (by simp) ?_
          apply Exists.intro
          refine ⟨?_, ?_, ?_⟩
          · intro w' hw'
            have S2 := Aside0.mk (S.out.call hw')
            have HC2 := Aside0.mk (cells_part (HCE.out.below hw') 0 24 (ec_boxA e))
            clear hw'
            simp only [Rg.cutOut, List.eraseIdx_cons_succ, List.eraseIdx_cons_zero]
            repeat (first
              | go_big_quiet_skip
              | (refine quiet_load_at 29 (.tmp 37) rfl rfl (ad.add (i * 25)) (bc e.f0).toList _ rfl (later_cells HC2.out) Try.underlying29 rfl (bc_info _) ?_; go_frame)
              | (refine quiet_load_row 29 (.tmp 4) rfl rfl _ (bc b) 29 (0, 0) _ rfl (later_blk (S2.out.get 0 rfl)) Try.underlying29 rfl (bc_info _) ?_; go_frame)
              | go_big_quiet_step ((go_at_call 20; with_reducible exact later_of (CM.out _)))
              | fail)
            exact wpQuiet_nil rfl
          · rfl
          · intro p10 w5 hB5 hg10 hb10
            replace S := Aside0.mk (S.out.call hB5)
            replace HROW := Aside0.mk (⟨HROW.out.1, Kd.C_below HROW.out.2 hB5⟩ : xs.length ≤ c' ∧ k24.C w5 A' xs.length xs)
            replace HCE := Aside0.mk (HCE.out.below hB5)
            clear hB5 hg10 hb10
            simp only [Act.put]
            cases ok with
            | false =>
              go_wp2
              go_roundw
              case rel => exact ⟨i + 1, xs, A', c', by omega, by go_num, rfl, HROW, S, ⟨by rw [HRS.out, rawE_no (by rw [← HM.out])]; rfl⟩⟩
              case measure => simp [intOf]; omega
            | true =>
              obtain ⟨r, hr⟩ : ∃ r, rg e.f0 k = r := ⟨_, rfl⟩
              obtain ⟨p, hp⟩ : ∃ p, prevA r.f0 = p := ⟨_, rfl⟩
              obtain ⟨pb, hpb⟩ : ∃ pb, prevB r.f0 = pb := ⟨_, rfl⟩
              obtain ⟨cA, hcA⟩ : ∃ c, decide (cmpA (rg b k).f0 r.f1 ≤ 0) = c := ⟨_, rfl⟩
              obtain ⟨cB, hcB⟩ : ∃ c, decide (cmpA r.f1 (rg b k).f1 < 0) = c := ⟨_, rfl⟩
              obtain ⟨dA, hdA⟩ : ∃ c, decide (cmpA (rg b k).f0 p ≤ 0) = c := ⟨_, rfl⟩
              obtain ⟨dB, hdB⟩ : ∃ c, decide (cmpA p (rg b k).f1 < 0) = c := ⟨_, rfl⟩
              have HI1 := Aside0.mk (show inW (rg b k) (rg e.f0 k).f1 = (cA && cB) by rw [hr, ← hcA, ← hcB]; rfl)
              have HI2 := Aside0.mk (show (prevB (rg e.f0 k).f0 && inW (rg b k) (prevA (rg e.f0 k).f0)) = (pb && (dA && dB)) by rw [hr, hp, hpb, ← hdA, ← hdB]; rfl)
              have HPA := Aside0.mk (show prevA (rg e.f0 k).f0 = p by rw [hr, hp])
              have HRR := Aside0.mk hr
              have CA := Aside0.mk (fun W => show Calls Try.prog 42 #[.agg #[.int .u64 (rg b k).f0.f0, .int .u64 (rg b k).f0.f1], .agg #[.int .u64 r.f1.f0, .int .u64 r.f1.f1]] W (fun e w' => e = .returned (.bool cA) ∧ Below W.heap.size W w') by have := atmost_any (rg b k).f0.f0 (rg b k).f0.f1 r.f1.f0 r.f1.f1 W; rw [hcA] at this; exact this)
              have CB := Aside0.mk (fun W => show Calls Try.prog 38 #[.agg #[.int .u64 r.f1.f0, .int .u64 r.f1.f1], .agg #[.int .u64 (rg b k).f1.f0, .int .u64 (rg b k).f1.f1]] W (fun e w' => e = .returned (.bool cB) ∧ Below W.heap.size W w') by have := less_any r.f1.f0 r.f1.f1 (rg b k).f1.f0 (rg b k).f1.f1 W; rw [hcB] at this; exact this)
              have CP := Aside0.mk (fun W => show Calls Try.prog 69 #[.agg #[.int .u64 r.f0.f0, .int .u64 r.f0.f1]] W (fun e w' => e = .returned (.tuple #[.agg #[.int .u64 p.f0, .int .u64 p.f1], .bool pb]) ∧ Below W.heap.size W w') by have := refprev_any r.f0 (by rw [← hr]; exact (HFE.out k hk).1) W; rw [hp, hpb] at this; exact this)
              have CA2 := Aside0.mk (fun W => show Calls Try.prog 42 #[.agg #[.int .u64 (rg b k).f0.f0, .int .u64 (rg b k).f0.f1], .agg #[.int .u64 p.f0, .int .u64 p.f1]] W (fun e w' => e = .returned (.bool dA) ∧ Below W.heap.size W w') by have := atmost_any (rg b k).f0.f0 (rg b k).f0.f1 p.f0 p.f1 W; rw [hdA] at this; exact this)
              have CB2 := Aside0.mk (fun W => show Calls Try.prog 38 #[.agg #[.int .u64 p.f0, .int .u64 p.f1], .agg #[.int .u64 (rg b k).f1.f0, .int .u64 (rg b k).f1.f1]] W (fun e w' => e = .returned (.bool dB) ∧ Below W.heap.size W w') by have := less_any p.f0 p.f1 (rg b k).f1.f0 (rg b k).f1.f1 W; rw [hdB] at this; exact this)
              have HCR := Aside0.mk (cells_part HCE.out (k * 4) 4 (part := RC r) (by rw [← hr]; exact ec_rc e hk))
              clear hr hp hpb hcA hcB hdA hdB HCE CM
              cases cA with
              | false =>
                go_upto_region 13 with (first
                  | (refine gate_ (.load 26 (.tmp 51)) rfl ?_; refine wpList_load_atA rfl 26 _ rfl ((ad.add (i * 25)).add (k * 4)) (RC r) _ rfl HCR.out Try.underlying26 rfl (RC_info _) ?_)
                  | (refine gate_ (.store 26 (.tmp 12) (.tmp 52)) rfl ?_; refine wpList_store_all rfl 26 _ _ rfl _ (RC r) _ _ rfl rfl (heap_alloc_new _ _) rfl (RC_info _) (RC_one _) ?_; intro w6 hb6 hg6 hz6; replace HROW := Aside0.mk (row_below HROW.out (made_below hg6)); replace S := Aside0.mk (S.out.made hg6 hb6); simp only [List.nil_append, List.cons_append] at S; clear hb6 hg6 hz6)
                  | (refine gate_ (.load 24 (.tmp 53)) rfl ?_; (first | refine gate_none rfl ?_ | refine gate_if rfl rfl rfl ?_); refine wpList_load_blk rfl 24 _ rfl _ 0 2 [.int .u64 (rg b k).f0.f0, .int .u64 (rg b k).f0.f1] (RC (rg b k)) 26 (0, 0) _ rfl (S.out.get 1 rfl) rfl Try.underlying24 rfl (by kernel_rfl) ?_)
                  | (refine gate_ (.load 24 (.tmp 55)) rfl ?_; (first | refine gate_none rfl ?_ | refine gate_if rfl rfl rfl ?_); refine wpList_load_blk rfl 24 _ rfl _ 2 2 [.int .u64 r.f1.f0, .int .u64 r.f1.f1] (RC r) 26 (0, 0) _ rfl (S.out.get 2 rfl) rfl Try.underlying24 rfl (by kernel_rfl) ?_)
                  | (go_at_call 42; (first | refine gate_none rfl ?_ | refine gate_if rfl rfl rfl ?_ | skip); (with_reducible refine (CA.out _).mono ?_); rintro e9 w9 ⟨rfl, hb9⟩; replace S := Aside0.mk (S.out.call hb9); replace HROW := Aside0.mk (row_below HROW.out hb9); clear hb9)
                  | (refine gate_ (.load 24 (.tmp 59)) rfl ?_; (first | refine gate_none rfl ?_ | refine gate_if rfl rfl rfl ?_); refine wpList_load_blk rfl 24 _ rfl _ 2 2 [.int .u64 r.f1.f0, .int .u64 r.f1.f1] (RC r) 26 (0, 0) _ rfl (S.out.get 2 rfl) rfl Try.underlying24 rfl (by kernel_rfl) ?_)
                  | (refine gate_ (.load 24 (.tmp 61)) rfl ?_; (first | refine gate_none rfl ?_ | refine gate_if rfl rfl rfl ?_); refine wpList_load_blk rfl 24 _ rfl _ 2 2 [.int .u64 (rg b k).f1.f0, .int .u64 (rg b k).f1.f1] (RC (rg b k)) 26 (0, 0) _ rfl (S.out.get 1 rfl) rfl Try.underlying24 rfl (by kernel_rfl) ?_)
                  | (go_at_call 38; (first | refine gate_none rfl ?_ | refine gate_if rfl rfl rfl ?_ | skip); (with_reducible refine (CB.out _).mono ?_); rintro e9 w9 ⟨rfl, hb9⟩; replace S := Aside0.mk (S.out.call hb9); replace HROW := Aside0.mk (row_below HROW.out hb9); clear hb9)
                  | fail)
                cases pb with
                | false =>
                  go_wp2_with (first
                    | (refine gate_ (.load 24 (.tmp 70)) rfl ?_; (first | refine gate_none rfl ?_ | refine gate_if rfl rfl rfl ?_); refine wpList_load_blk rfl 24 _ rfl _ 0 2 [.int .u64 r.f0.f0, .int .u64 r.f0.f1] (RC r) 26 (0, 0) _ rfl (S.out.get 2 rfl) rfl Try.underlying24 rfl (by kernel_rfl) ?_)
                    | (go_at_call 69; (first | refine gate_none rfl ?_ | refine gate_if rfl rfl rfl ?_ | skip); (with_reducible refine (CP.out _).mono ?_); rintro e9 w9 ⟨rfl, hb9⟩; replace S := Aside0.mk (S.out.call hb9); replace HROW := Aside0.mk (row_below HROW.out hb9); clear hb9)
                    | (refine gate_ (.store 24 (.tmp 13) (.tmp 73)) rfl ?_; refine wpList_store_all rfl 24 _ _ rfl _ #[.int .u64 p.f0, .int .u64 p.f1] _ _ rfl rfl (heap_alloc_new _ _) rfl (by kernel_rfl) (by kernel_rfl) ?_; intro w6 hb6 hg6 hz6; replace HROW := Aside0.mk (row_below HROW.out (made_below hg6)); replace S := Aside0.mk (S.out.made hg6 hb6); simp only [List.nil_append, List.cons_append] at S; clear hb6 hg6 hz6)
                    | (refine gate_ (.load 24 (.tmp 77)) rfl ?_; (first | refine gate_none rfl ?_ | refine gate_if rfl rfl rfl ?_); refine wpList_load_blk rfl 24 _ rfl _ 0 2 [.int .u64 (rg b k).f0.f0, .int .u64 (rg b k).f0.f1] (RC (rg b k)) 26 (0, 0) _ rfl (S.out.get 1 rfl) rfl Try.underlying24 rfl (by kernel_rfl) ?_)
                    | (refine gate_ (.load 24 (.tmp 13)) rfl ?_; (first | refine gate_none rfl ?_ | refine gate_if rfl rfl rfl ?_); refine wpList_load_row rfl 24 _ rfl _ rfl 24 #[.int .u64 p.f0, .int .u64 p.f1] (0, 0) _ (S.out.get 3 rfl) Try.underlying24 rfl (by kernel_rfl) ?_)
                    | (go_at_call 42; (first | refine gate_none rfl ?_ | refine gate_if rfl rfl rfl ?_ | skip); (with_reducible refine (CA2.out _).mono ?_); rintro e9 w9 ⟨rfl, hb9⟩; replace S := Aside0.mk (S.out.call hb9); replace HROW := Aside0.mk (row_below HROW.out hb9); clear hb9)
                    | (refine gate_ (.load 24 (.tmp 13)) rfl ?_; (first | refine gate_none rfl ?_ | refine gate_if rfl rfl rfl ?_); refine wpList_load_row rfl 24 _ rfl _ rfl 24 #[.int .u64 p.f0, .int .u64 p.f1] (0, 0) _ (S.out.get 3 rfl) Try.underlying24 rfl (by kernel_rfl) ?_)
                    | (refine gate_ (.load 24 (.tmp 84)) rfl ?_; (first | refine gate_none rfl ?_ | refine gate_if rfl rfl rfl ?_); refine wpList_load_blk rfl 24 _ rfl _ 2 2 [.int .u64 (rg b k).f1.f0, .int .u64 (rg b k).f1.f1] (RC (rg b k)) 26 (0, 0) _ rfl (S.out.get 1 rfl) rfl Try.underlying24 rfl (by kernel_rfl) ?_)
                    | (go_at_call 38; (first | refine gate_none rfl ?_ | refine gate_if rfl rfl rfl ?_ | skip); (with_reducible refine (CB2.out _).mono ?_); rintro e9 w9 ⟨rfl, hb9⟩; replace S := Aside0.mk (S.out.call hb9); replace HROW := Aside0.mk (row_below HROW.out hb9); clear hb9)
                    | fail)
                  go_roundw
                  case rel => exact ⟨i + 1, xs, A', c', by omega, by go_num, rfl, HROW, ⟨S.out.below_of 2⟩, ⟨by rw [HRS.out, fold_1 (by rw [← HM.out]) (by rw [HI1.out]) (by rw [HI2.out])]; (try rw [HRR.out]); rfl⟩⟩
                  case measure => simp [intOf]; omega
                | true =>
                  cases dA with
                  | false =>
                    go_wp2_with (first
                      | (refine gate_ (.load 24 (.tmp 70)) rfl ?_; (first | refine gate_none rfl ?_ | refine gate_if rfl rfl rfl ?_); refine wpList_load_blk rfl 24 _ rfl _ 0 2 [.int .u64 r.f0.f0, .int .u64 r.f0.f1] (RC r) 26 (0, 0) _ rfl (S.out.get 2 rfl) rfl Try.underlying24 rfl (by kernel_rfl) ?_)
                      | (go_at_call 69; (first | refine gate_none rfl ?_ | refine gate_if rfl rfl rfl ?_ | skip); (with_reducible refine (CP.out _).mono ?_); rintro e9 w9 ⟨rfl, hb9⟩; replace S := Aside0.mk (S.out.call hb9); replace HROW := Aside0.mk (row_below HROW.out hb9); clear hb9)
                      | (refine gate_ (.store 24 (.tmp 13) (.tmp 73)) rfl ?_; refine wpList_store_all rfl 24 _ _ rfl _ #[.int .u64 p.f0, .int .u64 p.f1] _ _ rfl rfl (heap_alloc_new _ _) rfl (by kernel_rfl) (by kernel_rfl) ?_; intro w6 hb6 hg6 hz6; replace HROW := Aside0.mk (row_below HROW.out (made_below hg6)); replace S := Aside0.mk (S.out.made hg6 hb6); simp only [List.nil_append, List.cons_append] at S; clear hb6 hg6 hz6)
                      | (refine gate_ (.load 24 (.tmp 77)) rfl ?_; (first | refine gate_none rfl ?_ | refine gate_if rfl rfl rfl ?_); refine wpList_load_blk rfl 24 _ rfl _ 0 2 [.int .u64 (rg b k).f0.f0, .int .u64 (rg b k).f0.f1] (RC (rg b k)) 26 (0, 0) _ rfl (S.out.get 1 rfl) rfl Try.underlying24 rfl (by kernel_rfl) ?_)
                      | (refine gate_ (.load 24 (.tmp 13)) rfl ?_; (first | refine gate_none rfl ?_ | refine gate_if rfl rfl rfl ?_); refine wpList_load_row rfl 24 _ rfl _ rfl 24 #[.int .u64 p.f0, .int .u64 p.f1] (0, 0) _ (S.out.get 3 rfl) Try.underlying24 rfl (by kernel_rfl) ?_)
                      | (go_at_call 42; (first | refine gate_none rfl ?_ | refine gate_if rfl rfl rfl ?_ | skip); (with_reducible refine (CA2.out _).mono ?_); rintro e9 w9 ⟨rfl, hb9⟩; replace S := Aside0.mk (S.out.call hb9); replace HROW := Aside0.mk (row_below HROW.out hb9); clear hb9)
                      | (refine gate_ (.load 24 (.tmp 13)) rfl ?_; (first | refine gate_none rfl ?_ | refine gate_if rfl rfl rfl ?_); refine wpList_load_row rfl 24 _ rfl _ rfl 24 #[.int .u64 p.f0, .int .u64 p.f1] (0, 0) _ (S.out.get 3 rfl) Try.underlying24 rfl (by kernel_rfl) ?_)
                      | (refine gate_ (.load 24 (.tmp 84)) rfl ?_; (first | refine gate_none rfl ?_ | refine gate_if rfl rfl rfl ?_); refine wpList_load_blk rfl 24 _ rfl _ 2 2 [.int .u64 (rg b k).f1.f0, .int .u64 (rg b k).f1.f1] (RC (rg b k)) 26 (0, 0) _ rfl (S.out.get 1 rfl) rfl Try.underlying24 rfl (by kernel_rfl) ?_)
                      | (go_at_call 38; (first | refine gate_none rfl ?_ | refine gate_if rfl rfl rfl ?_ | skip); (with_reducible refine (CB2.out _).mono ?_); rintro e9 w9 ⟨rfl, hb9⟩; replace S := Aside0.mk (S.out.call hb9); replace HROW := Aside0.mk (row_below HROW.out hb9); clear hb9)
                      | fail)
                    go_roundw
                    case rel => exact ⟨i + 1, xs, A', c', by omega, by go_num, rfl, HROW, ⟨S.out.below_of 2⟩, ⟨by rw [HRS.out, fold_1 (by rw [← HM.out]) (by rw [HI1.out]) (by rw [HI2.out])]; (try rw [HRR.out]); rfl⟩⟩
                    case measure => simp [intOf]; omega
                  | true =>
                    cases dB with
                    | false =>
                      go_wp2_with (first
                        | (refine gate_ (.load 24 (.tmp 70)) rfl ?_; (first | refine gate_none rfl ?_ | refine gate_if rfl rfl rfl ?_); refine wpList_load_blk rfl 24 _ rfl _ 0 2 [.int .u64 r.f0.f0, .int .u64 r.f0.f1] (RC r) 26 (0, 0) _ rfl (S.out.get 2 rfl) rfl Try.underlying24 rfl (by kernel_rfl) ?_)
                        | (go_at_call 69; (first | refine gate_none rfl ?_ | refine gate_if rfl rfl rfl ?_ | skip); (with_reducible refine (CP.out _).mono ?_); rintro e9 w9 ⟨rfl, hb9⟩; replace S := Aside0.mk (S.out.call hb9); replace HROW := Aside0.mk (row_below HROW.out hb9); clear hb9)
                        | (refine gate_ (.store 24 (.tmp 13) (.tmp 73)) rfl ?_; refine wpList_store_all rfl 24 _ _ rfl _ #[.int .u64 p.f0, .int .u64 p.f1] _ _ rfl rfl (heap_alloc_new _ _) rfl (by kernel_rfl) (by kernel_rfl) ?_; intro w6 hb6 hg6 hz6; replace HROW := Aside0.mk (row_below HROW.out (made_below hg6)); replace S := Aside0.mk (S.out.made hg6 hb6); simp only [List.nil_append, List.cons_append] at S; clear hb6 hg6 hz6)
                        | (refine gate_ (.load 24 (.tmp 77)) rfl ?_; (first | refine gate_none rfl ?_ | refine gate_if rfl rfl rfl ?_); refine wpList_load_blk rfl 24 _ rfl _ 0 2 [.int .u64 (rg b k).f0.f0, .int .u64 (rg b k).f0.f1] (RC (rg b k)) 26 (0, 0) _ rfl (S.out.get 1 rfl) rfl Try.underlying24 rfl (by kernel_rfl) ?_)
                        | (refine gate_ (.load 24 (.tmp 13)) rfl ?_; (first | refine gate_none rfl ?_ | refine gate_if rfl rfl rfl ?_); refine wpList_load_row rfl 24 _ rfl _ rfl 24 #[.int .u64 p.f0, .int .u64 p.f1] (0, 0) _ (S.out.get 3 rfl) Try.underlying24 rfl (by kernel_rfl) ?_)
                        | (go_at_call 42; (first | refine gate_none rfl ?_ | refine gate_if rfl rfl rfl ?_ | skip); (with_reducible refine (CA2.out _).mono ?_); rintro e9 w9 ⟨rfl, hb9⟩; replace S := Aside0.mk (S.out.call hb9); replace HROW := Aside0.mk (row_below HROW.out hb9); clear hb9)
                        | (refine gate_ (.load 24 (.tmp 13)) rfl ?_; (first | refine gate_none rfl ?_ | refine gate_if rfl rfl rfl ?_); refine wpList_load_row rfl 24 _ rfl _ rfl 24 #[.int .u64 p.f0, .int .u64 p.f1] (0, 0) _ (S.out.get 3 rfl) Try.underlying24 rfl (by kernel_rfl) ?_)
                        | (refine gate_ (.load 24 (.tmp 84)) rfl ?_; (first | refine gate_none rfl ?_ | refine gate_if rfl rfl rfl ?_); refine wpList_load_blk rfl 24 _ rfl _ 2 2 [.int .u64 (rg b k).f1.f0, .int .u64 (rg b k).f1.f1] (RC (rg b k)) 26 (0, 0) _ rfl (S.out.get 1 rfl) rfl Try.underlying24 rfl (by kernel_rfl) ?_)
                        | (go_at_call 38; (first | refine gate_none rfl ?_ | refine gate_if rfl rfl rfl ?_ | skip); (with_reducible refine (CB2.out _).mono ?_); rintro e9 w9 ⟨rfl, hb9⟩; replace S := Aside0.mk (S.out.call hb9); replace HROW := Aside0.mk (row_below HROW.out hb9); clear hb9)
                        | fail)
                      go_roundw
                      case rel => exact ⟨i + 1, xs, A', c', by omega, by go_num, rfl, HROW, ⟨S.out.below_of 2⟩, ⟨by rw [HRS.out, fold_1 (by rw [← HM.out]) (by rw [HI1.out]) (by rw [HI2.out])]; (try rw [HRR.out]); rfl⟩⟩
                      case measure => simp [intOf]; omega
                    | true =>
                      go_wp2_with (first
                        | (refine gate_ (.load 24 (.tmp 70)) rfl ?_; (first | refine gate_none rfl ?_ | refine gate_if rfl rfl rfl ?_); refine wpList_load_blk rfl 24 _ rfl _ 0 2 [.int .u64 r.f0.f0, .int .u64 r.f0.f1] (RC r) 26 (0, 0) _ rfl (S.out.get 2 rfl) rfl Try.underlying24 rfl (by kernel_rfl) ?_)
                        | (go_at_call 69; (first | refine gate_none rfl ?_ | refine gate_if rfl rfl rfl ?_ | skip); (with_reducible refine (CP.out _).mono ?_); rintro e9 w9 ⟨rfl, hb9⟩; replace S := Aside0.mk (S.out.call hb9); replace HROW := Aside0.mk (row_below HROW.out hb9); clear hb9)
                        | (refine gate_ (.store 24 (.tmp 13) (.tmp 73)) rfl ?_; refine wpList_store_all rfl 24 _ _ rfl _ #[.int .u64 p.f0, .int .u64 p.f1] _ _ rfl rfl (heap_alloc_new _ _) rfl (by kernel_rfl) (by kernel_rfl) ?_; intro w6 hb6 hg6 hz6; replace HROW := Aside0.mk (row_below HROW.out (made_below hg6)); replace S := Aside0.mk (S.out.made hg6 hb6); simp only [List.nil_append, List.cons_append] at S; clear hb6 hg6 hz6)
                        | (refine gate_ (.load 24 (.tmp 77)) rfl ?_; (first | refine gate_none rfl ?_ | refine gate_if rfl rfl rfl ?_); refine wpList_load_blk rfl 24 _ rfl _ 0 2 [.int .u64 (rg b k).f0.f0, .int .u64 (rg b k).f0.f1] (RC (rg b k)) 26 (0, 0) _ rfl (S.out.get 1 rfl) rfl Try.underlying24 rfl (by kernel_rfl) ?_)
                        | (refine gate_ (.load 24 (.tmp 13)) rfl ?_; (first | refine gate_none rfl ?_ | refine gate_if rfl rfl rfl ?_); refine wpList_load_row rfl 24 _ rfl _ rfl 24 #[.int .u64 p.f0, .int .u64 p.f1] (0, 0) _ (S.out.get 3 rfl) Try.underlying24 rfl (by kernel_rfl) ?_)
                        | (go_at_call 42; (first | refine gate_none rfl ?_ | refine gate_if rfl rfl rfl ?_ | skip); (with_reducible refine (CA2.out _).mono ?_); rintro e9 w9 ⟨rfl, hb9⟩; replace S := Aside0.mk (S.out.call hb9); replace HROW := Aside0.mk (row_below HROW.out hb9); clear hb9)
                        | (refine gate_ (.load 24 (.tmp 13)) rfl ?_; (first | refine gate_none rfl ?_ | refine gate_if rfl rfl rfl ?_); refine wpList_load_row rfl 24 _ rfl _ rfl 24 #[.int .u64 p.f0, .int .u64 p.f1] (0, 0) _ (S.out.get 3 rfl) Try.underlying24 rfl (by kernel_rfl) ?_)
                        | (refine gate_ (.load 24 (.tmp 84)) rfl ?_; (first | refine gate_none rfl ?_ | refine gate_if rfl rfl rfl ?_); refine wpList_load_blk rfl 24 _ rfl _ 2 2 [.int .u64 (rg b k).f1.f0, .int .u64 (rg b k).f1.f1] (RC (rg b k)) 26 (0, 0) _ rfl (S.out.get 1 rfl) rfl Try.underlying24 rfl (by kernel_rfl) ?_)
                        | (go_at_call 38; (first | refine gate_none rfl ?_ | refine gate_if rfl rfl rfl ?_ | skip); (with_reducible refine (CB2.out _).mono ?_); rintro e9 w9 ⟨rfl, hb9⟩; replace S := Aside0.mk (S.out.call hb9); replace HROW := Aside0.mk (row_below HROW.out hb9); clear hb9)
                        | (refine gate_ (.load 24 (.tmp 13)) rfl ?_; (first | refine gate_none rfl ?_ | refine gate_if rfl rfl rfl ?_); refine wpList_load_row rfl 24 _ rfl _ rfl 24 #[.int .u64 p.f0, .int .u64 p.f1] (0, 0) _ (S.out.get 3 rfl) Try.underlying24 rfl (by kernel_rfl) ?_)
                        | (go_at_call 68; refine Aside0.out ?_)
                        | fail)
                      refine Aside0.mk ?_
                      refine (add_any (xs) A' c' p _ HROW.out.2 HROW.out.1 (by have := HXL.out; omega)).mono ?_
                      rintro e9 w9 ⟨An, cn, rfl, hcn, hCn, hb9⟩
                      replace S := Aside0.mk (S.out.call hb9)
                      have HROWn := Aside0.mk (And.intro hcn hCn)
                      clear hcn hCn hb9
                      go_wp2
                      go_roundw
                      case rel => exact ⟨i + 1, addA (xs) p, An, cn, by omega, by go_num, rfl, HROWn, ⟨S.out.below_of 2⟩, ⟨by rw [HRS.out, fold_1 (by rw [← HM.out]) (by rw [HI1.out]) (by rw [HI2.out])]; rw [HPA.out]; (try rw [HRR.out]); rfl⟩⟩
                      case measure => simp [intOf]; omega
              | true =>
                cases cB with
                | false =>
                  go_upto_region 13 with (first
                    | (refine gate_ (.load 26 (.tmp 51)) rfl ?_; refine wpList_load_atA rfl 26 _ rfl ((ad.add (i * 25)).add (k * 4)) (RC r) _ rfl HCR.out Try.underlying26 rfl (RC_info _) ?_)
                    | (refine gate_ (.store 26 (.tmp 12) (.tmp 52)) rfl ?_; refine wpList_store_all rfl 26 _ _ rfl _ (RC r) _ _ rfl rfl (heap_alloc_new _ _) rfl (RC_info _) (RC_one _) ?_; intro w6 hb6 hg6 hz6; replace HROW := Aside0.mk (row_below HROW.out (made_below hg6)); replace S := Aside0.mk (S.out.made hg6 hb6); simp only [List.nil_append, List.cons_append] at S; clear hb6 hg6 hz6)
                    | (refine gate_ (.load 24 (.tmp 53)) rfl ?_; (first | refine gate_none rfl ?_ | refine gate_if rfl rfl rfl ?_); refine wpList_load_blk rfl 24 _ rfl _ 0 2 [.int .u64 (rg b k).f0.f0, .int .u64 (rg b k).f0.f1] (RC (rg b k)) 26 (0, 0) _ rfl (S.out.get 1 rfl) rfl Try.underlying24 rfl (by kernel_rfl) ?_)
                    | (refine gate_ (.load 24 (.tmp 55)) rfl ?_; (first | refine gate_none rfl ?_ | refine gate_if rfl rfl rfl ?_); refine wpList_load_blk rfl 24 _ rfl _ 2 2 [.int .u64 r.f1.f0, .int .u64 r.f1.f1] (RC r) 26 (0, 0) _ rfl (S.out.get 2 rfl) rfl Try.underlying24 rfl (by kernel_rfl) ?_)
                    | (go_at_call 42; (first | refine gate_none rfl ?_ | refine gate_if rfl rfl rfl ?_ | skip); (with_reducible refine (CA.out _).mono ?_); rintro e9 w9 ⟨rfl, hb9⟩; replace S := Aside0.mk (S.out.call hb9); replace HROW := Aside0.mk (row_below HROW.out hb9); clear hb9)
                    | (refine gate_ (.load 24 (.tmp 59)) rfl ?_; (first | refine gate_none rfl ?_ | refine gate_if rfl rfl rfl ?_); refine wpList_load_blk rfl 24 _ rfl _ 2 2 [.int .u64 r.f1.f0, .int .u64 r.f1.f1] (RC r) 26 (0, 0) _ rfl (S.out.get 2 rfl) rfl Try.underlying24 rfl (by kernel_rfl) ?_)
                    | (refine gate_ (.load 24 (.tmp 61)) rfl ?_; (first | refine gate_none rfl ?_ | refine gate_if rfl rfl rfl ?_); refine wpList_load_blk rfl 24 _ rfl _ 2 2 [.int .u64 (rg b k).f1.f0, .int .u64 (rg b k).f1.f1] (RC (rg b k)) 26 (0, 0) _ rfl (S.out.get 1 rfl) rfl Try.underlying24 rfl (by kernel_rfl) ?_)
                    | (go_at_call 38; (first | refine gate_none rfl ?_ | refine gate_if rfl rfl rfl ?_ | skip); (with_reducible refine (CB.out _).mono ?_); rintro e9 w9 ⟨rfl, hb9⟩; replace S := Aside0.mk (S.out.call hb9); replace HROW := Aside0.mk (row_below HROW.out hb9); clear hb9)
                    | fail)
                  cases pb with
                  | false =>
                    go_wp2_with (first
                      | (refine gate_ (.load 24 (.tmp 70)) rfl ?_; (first | refine gate_none rfl ?_ | refine gate_if rfl rfl rfl ?_); refine wpList_load_blk rfl 24 _ rfl _ 0 2 [.int .u64 r.f0.f0, .int .u64 r.f0.f1] (RC r) 26 (0, 0) _ rfl (S.out.get 2 rfl) rfl Try.underlying24 rfl (by kernel_rfl) ?_)
                      | (go_at_call 69; (first | refine gate_none rfl ?_ | refine gate_if rfl rfl rfl ?_ | skip); (with_reducible refine (CP.out _).mono ?_); rintro e9 w9 ⟨rfl, hb9⟩; replace S := Aside0.mk (S.out.call hb9); replace HROW := Aside0.mk (row_below HROW.out hb9); clear hb9)
                      | (refine gate_ (.store 24 (.tmp 13) (.tmp 73)) rfl ?_; refine wpList_store_all rfl 24 _ _ rfl _ #[.int .u64 p.f0, .int .u64 p.f1] _ _ rfl rfl (heap_alloc_new _ _) rfl (by kernel_rfl) (by kernel_rfl) ?_; intro w6 hb6 hg6 hz6; replace HROW := Aside0.mk (row_below HROW.out (made_below hg6)); replace S := Aside0.mk (S.out.made hg6 hb6); simp only [List.nil_append, List.cons_append] at S; clear hb6 hg6 hz6)
                      | (refine gate_ (.load 24 (.tmp 77)) rfl ?_; (first | refine gate_none rfl ?_ | refine gate_if rfl rfl rfl ?_); refine wpList_load_blk rfl 24 _ rfl _ 0 2 [.int .u64 (rg b k).f0.f0, .int .u64 (rg b k).f0.f1] (RC (rg b k)) 26 (0, 0) _ rfl (S.out.get 1 rfl) rfl Try.underlying24 rfl (by kernel_rfl) ?_)
                      | (refine gate_ (.load 24 (.tmp 13)) rfl ?_; (first | refine gate_none rfl ?_ | refine gate_if rfl rfl rfl ?_); refine wpList_load_row rfl 24 _ rfl _ rfl 24 #[.int .u64 p.f0, .int .u64 p.f1] (0, 0) _ (S.out.get 3 rfl) Try.underlying24 rfl (by kernel_rfl) ?_)
                      | (go_at_call 42; (first | refine gate_none rfl ?_ | refine gate_if rfl rfl rfl ?_ | skip); (with_reducible refine (CA2.out _).mono ?_); rintro e9 w9 ⟨rfl, hb9⟩; replace S := Aside0.mk (S.out.call hb9); replace HROW := Aside0.mk (row_below HROW.out hb9); clear hb9)
                      | (refine gate_ (.load 24 (.tmp 13)) rfl ?_; (first | refine gate_none rfl ?_ | refine gate_if rfl rfl rfl ?_); refine wpList_load_row rfl 24 _ rfl _ rfl 24 #[.int .u64 p.f0, .int .u64 p.f1] (0, 0) _ (S.out.get 3 rfl) Try.underlying24 rfl (by kernel_rfl) ?_)
                      | (refine gate_ (.load 24 (.tmp 84)) rfl ?_; (first | refine gate_none rfl ?_ | refine gate_if rfl rfl rfl ?_); refine wpList_load_blk rfl 24 _ rfl _ 2 2 [.int .u64 (rg b k).f1.f0, .int .u64 (rg b k).f1.f1] (RC (rg b k)) 26 (0, 0) _ rfl (S.out.get 1 rfl) rfl Try.underlying24 rfl (by kernel_rfl) ?_)
                      | (go_at_call 38; (first | refine gate_none rfl ?_ | refine gate_if rfl rfl rfl ?_ | skip); (with_reducible refine (CB2.out _).mono ?_); rintro e9 w9 ⟨rfl, hb9⟩; replace S := Aside0.mk (S.out.call hb9); replace HROW := Aside0.mk (row_below HROW.out hb9); clear hb9)
                      | fail)
                    go_roundw
                    case rel => exact ⟨i + 1, xs, A', c', by omega, by go_num, rfl, HROW, ⟨S.out.below_of 2⟩, ⟨by rw [HRS.out, fold_1 (by rw [← HM.out]) (by rw [HI1.out]) (by rw [HI2.out])]; (try rw [HRR.out]); rfl⟩⟩
                    case measure => simp [intOf]; omega
                  | true =>
                    cases dA with
                    | false =>
                      go_wp2_with (first
                        | (refine gate_ (.load 24 (.tmp 70)) rfl ?_; (first | refine gate_none rfl ?_ | refine gate_if rfl rfl rfl ?_); refine wpList_load_blk rfl 24 _ rfl _ 0 2 [.int .u64 r.f0.f0, .int .u64 r.f0.f1] (RC r) 26 (0, 0) _ rfl (S.out.get 2 rfl) rfl Try.underlying24 rfl (by kernel_rfl) ?_)
                        | (go_at_call 69; (first | refine gate_none rfl ?_ | refine gate_if rfl rfl rfl ?_ | skip); (with_reducible refine (CP.out _).mono ?_); rintro e9 w9 ⟨rfl, hb9⟩; replace S := Aside0.mk (S.out.call hb9); replace HROW := Aside0.mk (row_below HROW.out hb9); clear hb9)
                        | (refine gate_ (.store 24 (.tmp 13) (.tmp 73)) rfl ?_; refine wpList_store_all rfl 24 _ _ rfl _ #[.int .u64 p.f0, .int .u64 p.f1] _ _ rfl rfl (heap_alloc_new _ _) rfl (by kernel_rfl) (by kernel_rfl) ?_; intro w6 hb6 hg6 hz6; replace HROW := Aside0.mk (row_below HROW.out (made_below hg6)); replace S := Aside0.mk (S.out.made hg6 hb6); simp only [List.nil_append, List.cons_append] at S; clear hb6 hg6 hz6)
                        | (refine gate_ (.load 24 (.tmp 77)) rfl ?_; (first | refine gate_none rfl ?_ | refine gate_if rfl rfl rfl ?_); refine wpList_load_blk rfl 24 _ rfl _ 0 2 [.int .u64 (rg b k).f0.f0, .int .u64 (rg b k).f0.f1] (RC (rg b k)) 26 (0, 0) _ rfl (S.out.get 1 rfl) rfl Try.underlying24 rfl (by kernel_rfl) ?_)
                        | (refine gate_ (.load 24 (.tmp 13)) rfl ?_; (first | refine gate_none rfl ?_ | refine gate_if rfl rfl rfl ?_); refine wpList_load_row rfl 24 _ rfl _ rfl 24 #[.int .u64 p.f0, .int .u64 p.f1] (0, 0) _ (S.out.get 3 rfl) Try.underlying24 rfl (by kernel_rfl) ?_)
                        | (go_at_call 42; (first | refine gate_none rfl ?_ | refine gate_if rfl rfl rfl ?_ | skip); (with_reducible refine (CA2.out _).mono ?_); rintro e9 w9 ⟨rfl, hb9⟩; replace S := Aside0.mk (S.out.call hb9); replace HROW := Aside0.mk (row_below HROW.out hb9); clear hb9)
                        | (refine gate_ (.load 24 (.tmp 13)) rfl ?_; (first | refine gate_none rfl ?_ | refine gate_if rfl rfl rfl ?_); refine wpList_load_row rfl 24 _ rfl _ rfl 24 #[.int .u64 p.f0, .int .u64 p.f1] (0, 0) _ (S.out.get 3 rfl) Try.underlying24 rfl (by kernel_rfl) ?_)
                        | (refine gate_ (.load 24 (.tmp 84)) rfl ?_; (first | refine gate_none rfl ?_ | refine gate_if rfl rfl rfl ?_); refine wpList_load_blk rfl 24 _ rfl _ 2 2 [.int .u64 (rg b k).f1.f0, .int .u64 (rg b k).f1.f1] (RC (rg b k)) 26 (0, 0) _ rfl (S.out.get 1 rfl) rfl Try.underlying24 rfl (by kernel_rfl) ?_)
                        | (go_at_call 38; (first | refine gate_none rfl ?_ | refine gate_if rfl rfl rfl ?_ | skip); (with_reducible refine (CB2.out _).mono ?_); rintro e9 w9 ⟨rfl, hb9⟩; replace S := Aside0.mk (S.out.call hb9); replace HROW := Aside0.mk (row_below HROW.out hb9); clear hb9)
                        | fail)
                      go_roundw
                      case rel => exact ⟨i + 1, xs, A', c', by omega, by go_num, rfl, HROW, ⟨S.out.below_of 2⟩, ⟨by rw [HRS.out, fold_1 (by rw [← HM.out]) (by rw [HI1.out]) (by rw [HI2.out])]; (try rw [HRR.out]); rfl⟩⟩
                      case measure => simp [intOf]; omega
                    | true =>
                      cases dB with
                      | false =>
                        go_wp2_with (first
                          | (refine gate_ (.load 24 (.tmp 70)) rfl ?_; (first | refine gate_none rfl ?_ | refine gate_if rfl rfl rfl ?_); refine wpList_load_blk rfl 24 _ rfl _ 0 2 [.int .u64 r.f0.f0, .int .u64 r.f0.f1] (RC r) 26 (0, 0) _ rfl (S.out.get 2 rfl) rfl Try.underlying24 rfl (by kernel_rfl) ?_)
                          | (go_at_call 69; (first | refine gate_none rfl ?_ | refine gate_if rfl rfl rfl ?_ | skip); (with_reducible refine (CP.out _).mono ?_); rintro e9 w9 ⟨rfl, hb9⟩; replace S := Aside0.mk (S.out.call hb9); replace HROW := Aside0.mk (row_below HROW.out hb9); clear hb9)
                          | (refine gate_ (.store 24 (.tmp 13) (.tmp 73)) rfl ?_; refine wpList_store_all rfl 24 _ _ rfl _ #[.int .u64 p.f0, .int .u64 p.f1] _ _ rfl rfl (heap_alloc_new _ _) rfl (by kernel_rfl) (by kernel_rfl) ?_; intro w6 hb6 hg6 hz6; replace HROW := Aside0.mk (row_below HROW.out (made_below hg6)); replace S := Aside0.mk (S.out.made hg6 hb6); simp only [List.nil_append, List.cons_append] at S; clear hb6 hg6 hz6)
                          | (refine gate_ (.load 24 (.tmp 77)) rfl ?_; (first | refine gate_none rfl ?_ | refine gate_if rfl rfl rfl ?_); refine wpList_load_blk rfl 24 _ rfl _ 0 2 [.int .u64 (rg b k).f0.f0, .int .u64 (rg b k).f0.f1] (RC (rg b k)) 26 (0, 0) _ rfl (S.out.get 1 rfl) rfl Try.underlying24 rfl (by kernel_rfl) ?_)
                          | (refine gate_ (.load 24 (.tmp 13)) rfl ?_; (first | refine gate_none rfl ?_ | refine gate_if rfl rfl rfl ?_); refine wpList_load_row rfl 24 _ rfl _ rfl 24 #[.int .u64 p.f0, .int .u64 p.f1] (0, 0) _ (S.out.get 3 rfl) Try.underlying24 rfl (by kernel_rfl) ?_)
                          | (go_at_call 42; (first | refine gate_none rfl ?_ | refine gate_if rfl rfl rfl ?_ | skip); (with_reducible refine (CA2.out _).mono ?_); rintro e9 w9 ⟨rfl, hb9⟩; replace S := Aside0.mk (S.out.call hb9); replace HROW := Aside0.mk (row_below HROW.out hb9); clear hb9)
                          | (refine gate_ (.load 24 (.tmp 13)) rfl ?_; (first | refine gate_none rfl ?_ | refine gate_if rfl rfl rfl ?_); refine wpList_load_row rfl 24 _ rfl _ rfl 24 #[.int .u64 p.f0, .int .u64 p.f1] (0, 0) _ (S.out.get 3 rfl) Try.underlying24 rfl (by kernel_rfl) ?_)
                          | (refine gate_ (.load 24 (.tmp 84)) rfl ?_; (first | refine gate_none rfl ?_ | refine gate_if rfl rfl rfl ?_); refine wpList_load_blk rfl 24 _ rfl _ 2 2 [.int .u64 (rg b k).f1.f0, .int .u64 (rg b k).f1.f1] (RC (rg b k)) 26 (0, 0) _ rfl (S.out.get 1 rfl) rfl Try.underlying24 rfl (by kernel_rfl) ?_)
                          | (go_at_call 38; (first | refine gate_none rfl ?_ | refine gate_if rfl rfl rfl ?_ | skip); (with_reducible refine (CB2.out _).mono ?_); rintro e9 w9 ⟨rfl, hb9⟩; replace S := Aside0.mk (S.out.call hb9); replace HROW := Aside0.mk (row_below HROW.out hb9); clear hb9)
                          | fail)
                        go_roundw
                        case rel => exact ⟨i + 1, xs, A', c', by omega, by go_num, rfl, HROW, ⟨S.out.below_of 2⟩, ⟨by rw [HRS.out, fold_1 (by rw [← HM.out]) (by rw [HI1.out]) (by rw [HI2.out])]; (try rw [HRR.out]); rfl⟩⟩
                        case measure => simp [intOf]; omega
                      | true =>
                        go_wp2_with (first
                          | (refine gate_ (.load 24 (.tmp 70)) rfl ?_; (first | refine gate_none rfl ?_ | refine gate_if rfl rfl rfl ?_); refine wpList_load_blk rfl 24 _ rfl _ 0 2 [.int .u64 r.f0.f0, .int .u64 r.f0.f1] (RC r) 26 (0, 0) _ rfl (S.out.get 2 rfl) rfl Try.underlying24 rfl (by kernel_rfl) ?_)
                          | (go_at_call 69; (first | refine gate_none rfl ?_ | refine gate_if rfl rfl rfl ?_ | skip); (with_reducible refine (CP.out _).mono ?_); rintro e9 w9 ⟨rfl, hb9⟩; replace S := Aside0.mk (S.out.call hb9); replace HROW := Aside0.mk (row_below HROW.out hb9); clear hb9)
                          | (refine gate_ (.store 24 (.tmp 13) (.tmp 73)) rfl ?_; refine wpList_store_all rfl 24 _ _ rfl _ #[.int .u64 p.f0, .int .u64 p.f1] _ _ rfl rfl (heap_alloc_new _ _) rfl (by kernel_rfl) (by kernel_rfl) ?_; intro w6 hb6 hg6 hz6; replace HROW := Aside0.mk (row_below HROW.out (made_below hg6)); replace S := Aside0.mk (S.out.made hg6 hb6); simp only [List.nil_append, List.cons_append] at S; clear hb6 hg6 hz6)
                          | (refine gate_ (.load 24 (.tmp 77)) rfl ?_; (first | refine gate_none rfl ?_ | refine gate_if rfl rfl rfl ?_); refine wpList_load_blk rfl 24 _ rfl _ 0 2 [.int .u64 (rg b k).f0.f0, .int .u64 (rg b k).f0.f1] (RC (rg b k)) 26 (0, 0) _ rfl (S.out.get 1 rfl) rfl Try.underlying24 rfl (by kernel_rfl) ?_)
                          | (refine gate_ (.load 24 (.tmp 13)) rfl ?_; (first | refine gate_none rfl ?_ | refine gate_if rfl rfl rfl ?_); refine wpList_load_row rfl 24 _ rfl _ rfl 24 #[.int .u64 p.f0, .int .u64 p.f1] (0, 0) _ (S.out.get 3 rfl) Try.underlying24 rfl (by kernel_rfl) ?_)
                          | (go_at_call 42; (first | refine gate_none rfl ?_ | refine gate_if rfl rfl rfl ?_ | skip); (with_reducible refine (CA2.out _).mono ?_); rintro e9 w9 ⟨rfl, hb9⟩; replace S := Aside0.mk (S.out.call hb9); replace HROW := Aside0.mk (row_below HROW.out hb9); clear hb9)
                          | (refine gate_ (.load 24 (.tmp 13)) rfl ?_; (first | refine gate_none rfl ?_ | refine gate_if rfl rfl rfl ?_); refine wpList_load_row rfl 24 _ rfl _ rfl 24 #[.int .u64 p.f0, .int .u64 p.f1] (0, 0) _ (S.out.get 3 rfl) Try.underlying24 rfl (by kernel_rfl) ?_)
                          | (refine gate_ (.load 24 (.tmp 84)) rfl ?_; (first | refine gate_none rfl ?_ | refine gate_if rfl rfl rfl ?_); refine wpList_load_blk rfl 24 _ rfl _ 2 2 [.int .u64 (rg b k).f1.f0, .int .u64 (rg b k).f1.f1] (RC (rg b k)) 26 (0, 0) _ rfl (S.out.get 1 rfl) rfl Try.underlying24 rfl (by kernel_rfl) ?_)
                          | (go_at_call 38; (first | refine gate_none rfl ?_ | refine gate_if rfl rfl rfl ?_ | skip); (with_reducible refine (CB2.out _).mono ?_); rintro e9 w9 ⟨rfl, hb9⟩; replace S := Aside0.mk (S.out.call hb9); replace HROW := Aside0.mk (row_below HROW.out hb9); clear hb9)
                          | (refine gate_ (.load 24 (.tmp 13)) rfl ?_; (first | refine gate_none rfl ?_ | refine gate_if rfl rfl rfl ?_); refine wpList_load_row rfl 24 _ rfl _ rfl 24 #[.int .u64 p.f0, .int .u64 p.f1] (0, 0) _ (S.out.get 3 rfl) Try.underlying24 rfl (by kernel_rfl) ?_)
                          | (go_at_call 68; refine Aside0.out ?_)
                          | fail)
                        refine Aside0.mk ?_
                        refine (add_any (xs) A' c' p _ HROW.out.2 HROW.out.1 (by have := HXL.out; omega)).mono ?_
                        rintro e9 w9 ⟨An, cn, rfl, hcn, hCn, hb9⟩
                        replace S := Aside0.mk (S.out.call hb9)
                        have HROWn := Aside0.mk (And.intro hcn hCn)
                        clear hcn hCn hb9
                        go_wp2
                        go_roundw
                        case rel => exact ⟨i + 1, addA (xs) p, An, cn, by omega, by go_num, rfl, HROWn, ⟨S.out.below_of 2⟩, ⟨by rw [HRS.out, fold_1 (by rw [← HM.out]) (by rw [HI1.out]) (by rw [HI2.out])]; rw [HPA.out]; (try rw [HRR.out]); rfl⟩⟩
                        case measure => simp [intOf]; omega
                | true =>
                  go_wp2_with (first
                    | (refine gate_ (.load 26 (.tmp 51)) rfl ?_; refine wpList_load_atA rfl 26 _ rfl ((ad.add (i * 25)).add (k * 4)) (RC r) _ rfl HCR.out Try.underlying26 rfl (RC_info _) ?_)
                    | (refine gate_ (.store 26 (.tmp 12) (.tmp 52)) rfl ?_; refine wpList_store_all rfl 26 _ _ rfl _ (RC r) _ _ rfl rfl (heap_alloc_new _ _) rfl (RC_info _) (RC_one _) ?_; intro w6 hb6 hg6 hz6; replace HROW := Aside0.mk (row_below HROW.out (made_below hg6)); replace S := Aside0.mk (S.out.made hg6 hb6); simp only [List.nil_append, List.cons_append] at S; clear hb6 hg6 hz6)
                    | (refine gate_ (.load 24 (.tmp 53)) rfl ?_; (first | refine gate_none rfl ?_ | refine gate_if rfl rfl rfl ?_); refine wpList_load_blk rfl 24 _ rfl _ 0 2 [.int .u64 (rg b k).f0.f0, .int .u64 (rg b k).f0.f1] (RC (rg b k)) 26 (0, 0) _ rfl (S.out.get 1 rfl) rfl Try.underlying24 rfl (by kernel_rfl) ?_)
                    | (refine gate_ (.load 24 (.tmp 55)) rfl ?_; (first | refine gate_none rfl ?_ | refine gate_if rfl rfl rfl ?_); refine wpList_load_blk rfl 24 _ rfl _ 2 2 [.int .u64 r.f1.f0, .int .u64 r.f1.f1] (RC r) 26 (0, 0) _ rfl (S.out.get 2 rfl) rfl Try.underlying24 rfl (by kernel_rfl) ?_)
                    | (go_at_call 42; (first | refine gate_none rfl ?_ | refine gate_if rfl rfl rfl ?_ | skip); (with_reducible refine (CA.out _).mono ?_); rintro e9 w9 ⟨rfl, hb9⟩; replace S := Aside0.mk (S.out.call hb9); replace HROW := Aside0.mk (row_below HROW.out hb9); clear hb9)
                    | (refine gate_ (.load 24 (.tmp 59)) rfl ?_; (first | refine gate_none rfl ?_ | refine gate_if rfl rfl rfl ?_); refine wpList_load_blk rfl 24 _ rfl _ 2 2 [.int .u64 r.f1.f0, .int .u64 r.f1.f1] (RC r) 26 (0, 0) _ rfl (S.out.get 2 rfl) rfl Try.underlying24 rfl (by kernel_rfl) ?_)
                    | (refine gate_ (.load 24 (.tmp 61)) rfl ?_; (first | refine gate_none rfl ?_ | refine gate_if rfl rfl rfl ?_); refine wpList_load_blk rfl 24 _ rfl _ 2 2 [.int .u64 (rg b k).f1.f0, .int .u64 (rg b k).f1.f1] (RC (rg b k)) 26 (0, 0) _ rfl (S.out.get 1 rfl) rfl Try.underlying24 rfl (by kernel_rfl) ?_)
                    | (go_at_call 38; (first | refine gate_none rfl ?_ | refine gate_if rfl rfl rfl ?_ | skip); (with_reducible refine (CB.out _).mono ?_); rintro e9 w9 ⟨rfl, hb9⟩; replace S := Aside0.mk (S.out.call hb9); replace HROW := Aside0.mk (row_below HROW.out hb9); clear hb9)
                    | (refine gate_ (.load 24 (.tmp 66)) rfl ?_; (first | refine gate_none rfl ?_ | refine gate_if rfl rfl rfl ?_); refine wpList_load_blk rfl 24 _ rfl _ 2 2 [.int .u64 r.f1.f0, .int .u64 r.f1.f1] (RC r) 26 (0, 0) _ rfl (S.out.get 2 rfl) rfl Try.underlying24 rfl (by kernel_rfl) ?_)
                    | (go_at_call 68; refine Aside0.out ?_)
                    | fail)
                  refine Aside0.mk ?_
                  refine (add_any xs A' c' r.f1 _ HROW.out.2 HROW.out.1 (by have := HXL.out; omega)).mono ?_
                  rintro e9 w9 ⟨A1, c1, rfl, hcn, hCn, hb9⟩
                  replace S := Aside0.mk (S.out.call hb9)
                  replace HROW := Aside0.mk (And.intro hcn hCn)
                  have HXL1 := Aside0.mk (show (addA xs r.f1).length ≤ 500000 by have := addA_len r.f1 xs; have := HXL.out; omega)
                  clear hcn hCn hb9
                  obtain ⟨x1, hx1⟩ : ∃ x1, addA xs r.f1 = x1 := ⟨_, rfl⟩
                  rw [hx1] at HROW HXL1 ⊢
                  subst hx1
                  cases pb with
                  | false =>
                    go_wp2_with (first
                      | (refine gate_ (.load 24 (.tmp 70)) rfl ?_; (first | refine gate_none rfl ?_ | refine gate_if rfl rfl rfl ?_); refine wpList_load_blk rfl 24 _ rfl _ 0 2 [.int .u64 r.f0.f0, .int .u64 r.f0.f1] (RC r) 26 (0, 0) _ rfl (S.out.get 2 rfl) rfl Try.underlying24 rfl (by kernel_rfl) ?_)
                      | (go_at_call 69; (first | refine gate_none rfl ?_ | refine gate_if rfl rfl rfl ?_ | skip); (with_reducible refine (CP.out _).mono ?_); rintro e9 w9 ⟨rfl, hb9⟩; replace S := Aside0.mk (S.out.call hb9); replace HROW := Aside0.mk (row_below HROW.out hb9); clear hb9)
                      | (refine gate_ (.store 24 (.tmp 13) (.tmp 73)) rfl ?_; refine wpList_store_all rfl 24 _ _ rfl _ #[.int .u64 p.f0, .int .u64 p.f1] _ _ rfl rfl (heap_alloc_new _ _) rfl (by kernel_rfl) (by kernel_rfl) ?_; intro w6 hb6 hg6 hz6; replace HROW := Aside0.mk (row_below HROW.out (made_below hg6)); replace S := Aside0.mk (S.out.made hg6 hb6); simp only [List.nil_append, List.cons_append] at S; clear hb6 hg6 hz6)
                      | (refine gate_ (.load 24 (.tmp 77)) rfl ?_; (first | refine gate_none rfl ?_ | refine gate_if rfl rfl rfl ?_); refine wpList_load_blk rfl 24 _ rfl _ 0 2 [.int .u64 (rg b k).f0.f0, .int .u64 (rg b k).f0.f1] (RC (rg b k)) 26 (0, 0) _ rfl (S.out.get 1 rfl) rfl Try.underlying24 rfl (by kernel_rfl) ?_)
                      | (refine gate_ (.load 24 (.tmp 13)) rfl ?_; (first | refine gate_none rfl ?_ | refine gate_if rfl rfl rfl ?_); refine wpList_load_row rfl 24 _ rfl _ rfl 24 #[.int .u64 p.f0, .int .u64 p.f1] (0, 0) _ (S.out.get 3 rfl) Try.underlying24 rfl (by kernel_rfl) ?_)
                      | (go_at_call 42; (first | refine gate_none rfl ?_ | refine gate_if rfl rfl rfl ?_ | skip); (with_reducible refine (CA2.out _).mono ?_); rintro e9 w9 ⟨rfl, hb9⟩; replace S := Aside0.mk (S.out.call hb9); replace HROW := Aside0.mk (row_below HROW.out hb9); clear hb9)
                      | (refine gate_ (.load 24 (.tmp 13)) rfl ?_; (first | refine gate_none rfl ?_ | refine gate_if rfl rfl rfl ?_); refine wpList_load_row rfl 24 _ rfl _ rfl 24 #[.int .u64 p.f0, .int .u64 p.f1] (0, 0) _ (S.out.get 3 rfl) Try.underlying24 rfl (by kernel_rfl) ?_)
                      | (refine gate_ (.load 24 (.tmp 84)) rfl ?_; (first | refine gate_none rfl ?_ | refine gate_if rfl rfl rfl ?_); refine wpList_load_blk rfl 24 _ rfl _ 2 2 [.int .u64 (rg b k).f1.f0, .int .u64 (rg b k).f1.f1] (RC (rg b k)) 26 (0, 0) _ rfl (S.out.get 1 rfl) rfl Try.underlying24 rfl (by kernel_rfl) ?_)
                      | (go_at_call 38; (first | refine gate_none rfl ?_ | refine gate_if rfl rfl rfl ?_ | skip); (with_reducible refine (CB2.out _).mono ?_); rintro e9 w9 ⟨rfl, hb9⟩; replace S := Aside0.mk (S.out.call hb9); replace HROW := Aside0.mk (row_below HROW.out hb9); clear hb9)
                      | fail)
                    go_roundw
                    case rel => exact ⟨i + 1, (addA xs r.f1), A1, c1, by omega, by go_num, rfl, HROW, ⟨S.out.below_of 2⟩, ⟨by rw [HRS.out, fold_1 (by rw [← HM.out]) (by rw [HI1.out]) (by rw [HI2.out])]; (try rw [HRR.out]); rfl⟩⟩
                    case measure => simp [intOf]; omega
                  | true =>
                    cases dA with
                    | false =>
                      go_wp2_with (first
                        | (refine gate_ (.load 24 (.tmp 70)) rfl ?_; (first | refine gate_none rfl ?_ | refine gate_if rfl rfl rfl ?_); refine wpList_load_blk rfl 24 _ rfl _ 0 2 [.int .u64 r.f0.f0, .int .u64 r.f0.f1] (RC r) 26 (0, 0) _ rfl (S.out.get 2 rfl) rfl Try.underlying24 rfl (by kernel_rfl) ?_)
                        | (go_at_call 69; (first | refine gate_none rfl ?_ | refine gate_if rfl rfl rfl ?_ | skip); (with_reducible refine (CP.out _).mono ?_); rintro e9 w9 ⟨rfl, hb9⟩; replace S := Aside0.mk (S.out.call hb9); replace HROW := Aside0.mk (row_below HROW.out hb9); clear hb9)
                        | (refine gate_ (.store 24 (.tmp 13) (.tmp 73)) rfl ?_; refine wpList_store_all rfl 24 _ _ rfl _ #[.int .u64 p.f0, .int .u64 p.f1] _ _ rfl rfl (heap_alloc_new _ _) rfl (by kernel_rfl) (by kernel_rfl) ?_; intro w6 hb6 hg6 hz6; replace HROW := Aside0.mk (row_below HROW.out (made_below hg6)); replace S := Aside0.mk (S.out.made hg6 hb6); simp only [List.nil_append, List.cons_append] at S; clear hb6 hg6 hz6)
                        | (refine gate_ (.load 24 (.tmp 77)) rfl ?_; (first | refine gate_none rfl ?_ | refine gate_if rfl rfl rfl ?_); refine wpList_load_blk rfl 24 _ rfl _ 0 2 [.int .u64 (rg b k).f0.f0, .int .u64 (rg b k).f0.f1] (RC (rg b k)) 26 (0, 0) _ rfl (S.out.get 1 rfl) rfl Try.underlying24 rfl (by kernel_rfl) ?_)
                        | (refine gate_ (.load 24 (.tmp 13)) rfl ?_; (first | refine gate_none rfl ?_ | refine gate_if rfl rfl rfl ?_); refine wpList_load_row rfl 24 _ rfl _ rfl 24 #[.int .u64 p.f0, .int .u64 p.f1] (0, 0) _ (S.out.get 3 rfl) Try.underlying24 rfl (by kernel_rfl) ?_)
                        | (go_at_call 42; (first | refine gate_none rfl ?_ | refine gate_if rfl rfl rfl ?_ | skip); (with_reducible refine (CA2.out _).mono ?_); rintro e9 w9 ⟨rfl, hb9⟩; replace S := Aside0.mk (S.out.call hb9); replace HROW := Aside0.mk (row_below HROW.out hb9); clear hb9)
                        | (refine gate_ (.load 24 (.tmp 13)) rfl ?_; (first | refine gate_none rfl ?_ | refine gate_if rfl rfl rfl ?_); refine wpList_load_row rfl 24 _ rfl _ rfl 24 #[.int .u64 p.f0, .int .u64 p.f1] (0, 0) _ (S.out.get 3 rfl) Try.underlying24 rfl (by kernel_rfl) ?_)
                        | (refine gate_ (.load 24 (.tmp 84)) rfl ?_; (first | refine gate_none rfl ?_ | refine gate_if rfl rfl rfl ?_); refine wpList_load_blk rfl 24 _ rfl _ 2 2 [.int .u64 (rg b k).f1.f0, .int .u64 (rg b k).f1.f1] (RC (rg b k)) 26 (0, 0) _ rfl (S.out.get 1 rfl) rfl Try.underlying24 rfl (by kernel_rfl) ?_)
                        | (go_at_call 38; (first | refine gate_none rfl ?_ | refine gate_if rfl rfl rfl ?_ | skip); (with_reducible refine (CB2.out _).mono ?_); rintro e9 w9 ⟨rfl, hb9⟩; replace S := Aside0.mk (S.out.call hb9); replace HROW := Aside0.mk (row_below HROW.out hb9); clear hb9)
                        | fail)
                      go_roundw
                      case rel => exact ⟨i + 1, (addA xs r.f1), A1, c1, by omega, by go_num, rfl, HROW, ⟨S.out.below_of 2⟩, ⟨by rw [HRS.out, fold_1 (by rw [← HM.out]) (by rw [HI1.out]) (by rw [HI2.out])]; (try rw [HRR.out]); rfl⟩⟩
                      case measure => simp [intOf]; omega
                    | true =>
                      cases dB with
                      | false =>
                        go_wp2_with (first
                          | (refine gate_ (.load 24 (.tmp 70)) rfl ?_; (first | refine gate_none rfl ?_ | refine gate_if rfl rfl rfl ?_); refine wpList_load_blk rfl 24 _ rfl _ 0 2 [.int .u64 r.f0.f0, .int .u64 r.f0.f1] (RC r) 26 (0, 0) _ rfl (S.out.get 2 rfl) rfl Try.underlying24 rfl (by kernel_rfl) ?_)
                          | (go_at_call 69; (first | refine gate_none rfl ?_ | refine gate_if rfl rfl rfl ?_ | skip); (with_reducible refine (CP.out _).mono ?_); rintro e9 w9 ⟨rfl, hb9⟩; replace S := Aside0.mk (S.out.call hb9); replace HROW := Aside0.mk (row_below HROW.out hb9); clear hb9)
                          | (refine gate_ (.store 24 (.tmp 13) (.tmp 73)) rfl ?_; refine wpList_store_all rfl 24 _ _ rfl _ #[.int .u64 p.f0, .int .u64 p.f1] _ _ rfl rfl (heap_alloc_new _ _) rfl (by kernel_rfl) (by kernel_rfl) ?_; intro w6 hb6 hg6 hz6; replace HROW := Aside0.mk (row_below HROW.out (made_below hg6)); replace S := Aside0.mk (S.out.made hg6 hb6); simp only [List.nil_append, List.cons_append] at S; clear hb6 hg6 hz6)
                          | (refine gate_ (.load 24 (.tmp 77)) rfl ?_; (first | refine gate_none rfl ?_ | refine gate_if rfl rfl rfl ?_); refine wpList_load_blk rfl 24 _ rfl _ 0 2 [.int .u64 (rg b k).f0.f0, .int .u64 (rg b k).f0.f1] (RC (rg b k)) 26 (0, 0) _ rfl (S.out.get 1 rfl) rfl Try.underlying24 rfl (by kernel_rfl) ?_)
                          | (refine gate_ (.load 24 (.tmp 13)) rfl ?_; (first | refine gate_none rfl ?_ | refine gate_if rfl rfl rfl ?_); refine wpList_load_row rfl 24 _ rfl _ rfl 24 #[.int .u64 p.f0, .int .u64 p.f1] (0, 0) _ (S.out.get 3 rfl) Try.underlying24 rfl (by kernel_rfl) ?_)
                          | (go_at_call 42; (first | refine gate_none rfl ?_ | refine gate_if rfl rfl rfl ?_ | skip); (with_reducible refine (CA2.out _).mono ?_); rintro e9 w9 ⟨rfl, hb9⟩; replace S := Aside0.mk (S.out.call hb9); replace HROW := Aside0.mk (row_below HROW.out hb9); clear hb9)
                          | (refine gate_ (.load 24 (.tmp 13)) rfl ?_; (first | refine gate_none rfl ?_ | refine gate_if rfl rfl rfl ?_); refine wpList_load_row rfl 24 _ rfl _ rfl 24 #[.int .u64 p.f0, .int .u64 p.f1] (0, 0) _ (S.out.get 3 rfl) Try.underlying24 rfl (by kernel_rfl) ?_)
                          | (refine gate_ (.load 24 (.tmp 84)) rfl ?_; (first | refine gate_none rfl ?_ | refine gate_if rfl rfl rfl ?_); refine wpList_load_blk rfl 24 _ rfl _ 2 2 [.int .u64 (rg b k).f1.f0, .int .u64 (rg b k).f1.f1] (RC (rg b k)) 26 (0, 0) _ rfl (S.out.get 1 rfl) rfl Try.underlying24 rfl (by kernel_rfl) ?_)
                          | (go_at_call 38; (first | refine gate_none rfl ?_ | refine gate_if rfl rfl rfl ?_ | skip); (with_reducible refine (CB2.out _).mono ?_); rintro e9 w9 ⟨rfl, hb9⟩; replace S := Aside0.mk (S.out.call hb9); replace HROW := Aside0.mk (row_below HROW.out hb9); clear hb9)
                          | fail)
                        go_roundw
                        case rel => exact ⟨i + 1, (addA xs r.f1), A1, c1, by omega, by go_num, rfl, HROW, ⟨S.out.below_of 2⟩, ⟨by rw [HRS.out, fold_1 (by rw [← HM.out]) (by rw [HI1.out]) (by rw [HI2.out])]; (try rw [HRR.out]); rfl⟩⟩
                        case measure => simp [intOf]; omega
                      | true =>
                        go_wp2_with (first
                          | (refine gate_ (.load 24 (.tmp 70)) rfl ?_; (first | refine gate_none rfl ?_ | refine gate_if rfl rfl rfl ?_); refine wpList_load_blk rfl 24 _ rfl _ 0 2 [.int .u64 r.f0.f0, .int .u64 r.f0.f1] (RC r) 26 (0, 0) _ rfl (S.out.get 2 rfl) rfl Try.underlying24 rfl (by kernel_rfl) ?_)
                          | (go_at_call 69; (first | refine gate_none rfl ?_ | refine gate_if rfl rfl rfl ?_ | skip); (with_reducible refine (CP.out _).mono ?_); rintro e9 w9 ⟨rfl, hb9⟩; replace S := Aside0.mk (S.out.call hb9); replace HROW := Aside0.mk (row_below HROW.out hb9); clear hb9)
                          | (refine gate_ (.store 24 (.tmp 13) (.tmp 73)) rfl ?_; refine wpList_store_all rfl 24 _ _ rfl _ #[.int .u64 p.f0, .int .u64 p.f1] _ _ rfl rfl (heap_alloc_new _ _) rfl (by kernel_rfl) (by kernel_rfl) ?_; intro w6 hb6 hg6 hz6; replace HROW := Aside0.mk (row_below HROW.out (made_below hg6)); replace S := Aside0.mk (S.out.made hg6 hb6); simp only [List.nil_append, List.cons_append] at S; clear hb6 hg6 hz6)
                          | (refine gate_ (.load 24 (.tmp 77)) rfl ?_; (first | refine gate_none rfl ?_ | refine gate_if rfl rfl rfl ?_); refine wpList_load_blk rfl 24 _ rfl _ 0 2 [.int .u64 (rg b k).f0.f0, .int .u64 (rg b k).f0.f1] (RC (rg b k)) 26 (0, 0) _ rfl (S.out.get 1 rfl) rfl Try.underlying24 rfl (by kernel_rfl) ?_)
                          | (refine gate_ (.load 24 (.tmp 13)) rfl ?_; (first | refine gate_none rfl ?_ | refine gate_if rfl rfl rfl ?_); refine wpList_load_row rfl 24 _ rfl _ rfl 24 #[.int .u64 p.f0, .int .u64 p.f1] (0, 0) _ (S.out.get 3 rfl) Try.underlying24 rfl (by kernel_rfl) ?_)
                          | (go_at_call 42; (first | refine gate_none rfl ?_ | refine gate_if rfl rfl rfl ?_ | skip); (with_reducible refine (CA2.out _).mono ?_); rintro e9 w9 ⟨rfl, hb9⟩; replace S := Aside0.mk (S.out.call hb9); replace HROW := Aside0.mk (row_below HROW.out hb9); clear hb9)
                          | (refine gate_ (.load 24 (.tmp 13)) rfl ?_; (first | refine gate_none rfl ?_ | refine gate_if rfl rfl rfl ?_); refine wpList_load_row rfl 24 _ rfl _ rfl 24 #[.int .u64 p.f0, .int .u64 p.f1] (0, 0) _ (S.out.get 3 rfl) Try.underlying24 rfl (by kernel_rfl) ?_)
                          | (refine gate_ (.load 24 (.tmp 84)) rfl ?_; (first | refine gate_none rfl ?_ | refine gate_if rfl rfl rfl ?_); refine wpList_load_blk rfl 24 _ rfl _ 2 2 [.int .u64 (rg b k).f1.f0, .int .u64 (rg b k).f1.f1] (RC (rg b k)) 26 (0, 0) _ rfl (S.out.get 1 rfl) rfl Try.underlying24 rfl (by kernel_rfl) ?_)
                          | (go_at_call 38; (first | refine gate_none rfl ?_ | refine gate_if rfl rfl rfl ?_ | skip); (with_reducible refine (CB2.out _).mono ?_); rintro e9 w9 ⟨rfl, hb9⟩; replace S := Aside0.mk (S.out.call hb9); replace HROW := Aside0.mk (row_below HROW.out hb9); clear hb9)
                          | (refine gate_ (.load 24 (.tmp 13)) rfl ?_; (first | refine gate_none rfl ?_ | refine gate_if rfl rfl rfl ?_); refine wpList_load_row rfl 24 _ rfl _ rfl 24 #[.int .u64 p.f0, .int .u64 p.f1] (0, 0) _ (S.out.get 3 rfl) Try.underlying24 rfl (by kernel_rfl) ?_)
                          | (go_at_call 68; refine Aside0.out ?_)
                          | fail)
                        refine Aside0.mk ?_
                        refine (add_any ((addA xs r.f1)) A1 c1 p _ HROW.out.2 HROW.out.1 (by have := HXL1.out; omega)).mono ?_
                        rintro e9 w9 ⟨An, cn, rfl, hcn, hCn, hb9⟩
                        replace S := Aside0.mk (S.out.call hb9)
                        have HROWn := Aside0.mk (And.intro hcn hCn)
                        clear hcn hCn hb9
                        go_wp2
                        go_roundw
                        case rel => exact ⟨i + 1, addA ((addA xs r.f1)) p, An, cn, by omega, by go_num, rfl, HROWn, ⟨S.out.below_of 2⟩, ⟨by rw [HRS.out, fold_1 (by rw [← HM.out]) (by rw [HI1.out]) (by rw [HI2.out])]; rw [HPA.out]; (try rw [HRR.out]); rfl⟩⟩
                        case measure => simp [intOf]; omega
        · obtain rfl : i = l.length := by omega
          go_wp2
          go_ret
          have hxx : xs = (rawF l b k).foldl addA [] := by rw [HX.out, List.take_length]
          rw [HP.out, ← hxx]
          exact ⟨A', c', rfl, HROW.out.1, HROW.out.2, S.out.below⟩
end Go.Proofs.Ytcgcognejjpcmaa
