/- Whither a destination is turned: the document's Dest. -/
import Derived.Test.YtgppfpfdoooijaaFree
import Derived.Test.YtgppfpfdoooijaaSource
import Derived.Test.YtgppfpfdoooijaaWGuard
namespace Go.Proofs.Ytgppfpfdoooijaa
open Go.RowKit Go.Proofs.YtgppfpfdoooijaaW.PrintWords
set_option linter.unusedVariables false
set_option linter.unusedSimpArgs false
attribute [local go_sem] Later.cell_eq

/-- A translation's cells. -/
def nc (n : S56) : List Value := [.int .i64 n.f0, .string n.f1, .string n.f2, .string n.f3, .int .u64 n.f4.f0, .int .u64 n.f4.f1, .int .u64 n.f5.f0, .int .u64 n.f5.f1, .int .i64 n.f6, .int .i64 n.f7]
/-- What the result's block, the translations' block and all others are. -/
theorem nc_one (n : S56) : (nc n).toArray.all (·.oneCell') = true := by simp [nc, Value.oneCell']
set_option maxRecDepth 100000 in
set_option maxHeartbeats 8000000 in
theorem refdest_any (c : S36) (cs : List Value) (k : S51) (w : World) (hc : k36.K w c cs) :
    Calls Try.prog 54 #[.agg cs.toArray, .agg #[.int .i64 k.f0, .int .u64 k.f1.f0, .int .u64 k.f1.f1, .int .u64 k.f2.f0, .int .u64 k.f2.f1, .int .i64 k.f3, .int .i64 k.f4]] w fun e w' =>
      e = .returned (.tuple #[.agg #[.int .u64 (destF c k).1.f0, .int .u64 (destF c k).1.f1], .int .i64 (destF c k).2.1, .int .i64 (destF c k).2.2]) ∧ Below w.heap.size w w' := by
  have HK := Aside0.mk hc
  obtain ⟨A0, c0, A1, c1, A2, c2, A3, c3, A4, c4, A5, c5, A6, c6, rfl, l0, g0, l1, g1, l2, g2, l3, g3, l4, g4, l5, g5, l6, g6⟩ := k36_open hc
  have hmax : c.f5.length ≤ 9223372036854775807 := Kd.C_max g5
  have HG := Aside0.mk g5
  clear hc g0 g1 g2 g3 g4 g5 g6
  go_enter Try.func54, Try.ntmps54
  go_wp2
  have S := Aside0.mk ((((St.nil w).alloc (.cells #[.slice A0 c.f0.length c0, .slice A1 c.f1.length c1, .slice A2 c.f2.length c2, .slice A3 c.f3.length c3, .slice A4 c.f4.length c4, .slice A5 c.f5.length c5, .slice A6 c.f6.length c6, .int .i64 c.f7] 36)).alloc (.cells #[.int .i64 k.f0, .int .u64 k.f1.f0, .int .u64 k.f1.f1, .int .u64 k.f2.f0, .int .u64 k.f2.f1, .int .i64 k.f3, .int .i64 k.f4] 51)).alloc (.cells #[.int .u64 0, .int .u64 0] 39))
  simp only [World.size_alloc, List.nil_append, List.cons_append] at S
  generalize World.alloc _ _ = W0 at *
  go_loopw [7] (fun v wr => ∃ m : Nat, m ≤ c.f5.length ∧ v = .int .i64 m ∧ Aside0 (∀ j, j < m → ∀ y, c.f5[j]? = some y → destB c k y = false) ∧ Aside0 (St w [(w.heap.size, .cells #[.slice A0 c.f0.length c0, .slice A1 c.f1.length c1, .slice A2 c.f2.length c2, .slice A3 c.f3.length c3, .slice A4 c.f4.length c4, .slice A5 c.f5.length c5, .slice A6 c.f6.length c6, .int .i64 c.f7] 36 (0, 0)), (w.heap.size + 1, .cells #[.int .i64 k.f0, .int .u64 k.f1.f0, .int .u64 k.f1.f1, .int .u64 k.f2.f0, .int .u64 k.f2.f1, .int .i64 k.f3, .int .i64 k.f4] 51 (0, 0)), (w.heap.size + 1 + 1, .cells #[.int .u64 0, .int .u64 0] 39 (0, 0))] wr)) (fun v _ => c.f5.length - (intOf v).toNat)
  case atStart => exact ⟨0, Nat.zero_le _, rfl, ⟨fun j hj => by omega⟩, S⟩
  case round =>
    clear S
    obtain ⟨m, hm, rfl, HN, S⟩ := hrel
    have hs2 : w.heap.size + 1 + 1 < wr.heap.size := blk_lt (S.out.get 2 rfl)
    by_cases hlt : m < c.f5.length
    · obtain ⟨ad, ncs, rfl, hK, hcc⟩ := elem_at HG.out z56 m hlt
      have HX := Aside0.mk (getD_get z56 hlt)
      obtain ⟨n, hn⟩ : ∃ n, n = c.f5.getD m z56 := ⟨_, rfl⟩
      rw [← hn] at HX hK
      obtain rfl := k56_open hK
      have HCA := Aside0.mk hcc
      clear hK hcc hn
      have HSV := Aside0.mk (fun (b : Bool) (h : servesF c n.f3 k = b) W (hW : Below w.heap.size w W) => show Calls Try.prog 76 #[.agg #[.slice A0 c.f0.length c0, .slice A1 c.f1.length c1, .slice A2 c.f2.length c2, .slice A3 c.f3.length c3, .slice A4 c.f4.length c4, .slice (some ad) c.f5.length c5, .slice A6 c.f6.length c6, .int .i64 c.f7], .string n.f3, .agg #[.int .i64 k.f0, .int .u64 k.f1.f0, .int .u64 k.f1.f1, .int .u64 k.f2.f0, .int .u64 k.f2.f1, .int .i64 k.f3, .int .i64 k.f4]] W (fun e w' => e = .returned (.bool b) ∧ Below W.heap.size W w') by rw [← h]; exact refserves_any c _ n.f3 k W (k36.K_below hW HK.out))
      have HPO := Aside0.mk (fun (b : Bool) (h : portedB k.f0 = b) W => show Calls Try.prog 79 #[.int .i64 k.f0] W (fun e w' => e = .returned (.bool b) ∧ W = w') by rw [← h]; exact refported_any k.f0 W)
      go_wp2_with (first
        | ((first | refine gate_none rfl ?_ | refine gate_if rfl rfl rfl ?_); refine wpList_load_one 33 _ rfl rfl _ _ _ _ _ _ _ rfl (S.out.get 0 rfl) rfl Try.underlying33 rfl ?_)
        | (refine gate_ (.load 56 (.tmp 19)) rfl ?_; (first | refine gate_none rfl ?_ | refine gate_if rfl rfl rfl ?_); refine wpList_load_at rfl 56 _ rfl (ad.add (m * 10)) [.int .i64 n.f0, .string n.f1, .string n.f2, .string n.f3, .int .u64 n.f4.f0, .int .u64 n.f4.f1, .int .u64 n.f5.f0, .int .u64 n.f5.f1, .int .i64 n.f6, .int .i64 n.f7] _ rfl (HCA.out.below S.out.below) Try.underlying56 rfl (by kernel_rfl) ?_)
        | (refine gate_ (.store 56 (.tmp 8) (.tmp 20)) rfl ?_; refine wpList_store_all rfl 56 _ _ rfl _ #[.int .i64 n.f0, .string n.f1, .string n.f2, .string n.f3, .int .u64 n.f4.f0, .int .u64 n.f4.f1, .int .u64 n.f5.f0, .int .u64 n.f5.f1, .int .i64 n.f6, .int .i64 n.f7] _ _ rfl rfl (heap_alloc_new _ _) rfl (by kernel_rfl) (by simp [Value.oneCell']) ?_; intro w3 hb3 hg3 hz3; replace S := Aside0.mk (S.out.made hg3 hb3); clear hb3 hg3 hz3)
        | (refine gate_ (.load 39 (.tmp 21)) rfl ?_; refine Aside0.out ?_)
        | fail)
      refine Aside0.mk ?_
      obtain ⟨ea, hea⟩ : ∃ ea, eqA n.f4 k.f2 = ea := ⟨_, rfl⟩
      have HEA := Aside0.mk hea
      clear hea
      cases ea with
      | false =>
        have hno : destB c k n = false := by unfold destB; rw [HEA.out]; rfl
        have HNO := Aside0.mk hno
        clear hno
        go_wp2_with (first
          | (refine gate_ (.load 39 (.tmp 21)) rfl ?_; (first | refine gate_none rfl ?_ | refine gate_if rfl rfl rfl ?_); refine wpList_load_blk rfl 39 _ rfl _ _ 2 [.int .u64 n.f4.f0, .int .u64 n.f4.f1] _ _ _ _ rfl (S.out.get 3 rfl) rfl Try.underlying39 rfl (by kernel_rfl) ?_)
          | (refine gate_ (.load 39 (.tmp 23)) rfl ?_; (first | refine gate_none rfl ?_ | refine gate_if rfl rfl rfl ?_); refine wpList_load_blk rfl 39 _ rfl _ _ 2 [.int .u64 k.f2.f0, .int .u64 k.f2.f1] _ _ _ _ rfl (S.out.get 1 rfl) rfl Try.underlying39 rfl (by kernel_rfl) ?_)
          | (refine gate_dst (N := 25) rfl ?_; (first | refine gate_none rfl ?_ | refine gate_if rfl rfl rfl ?_); refine wpList_neq39 rfl _ _ _ rfl n.f4 k.f2 rfl rfl ?_; rw [HEA.out])
          | ((first | refine gate_none rfl ?_ | refine gate_if rfl rfl rfl ?_); refine wpList_load_one 3 _ rfl rfl _ _ _ _ _ _ _ rfl (S.out.get 1 rfl) rfl Try.underlying3 rfl ?_)
          | ((first | refine gate_none rfl ?_ | refine gate_if rfl rfl rfl ?_); refine wpList_load_one 3 _ rfl rfl _ _ _ _ _ _ _ rfl (S.out.get 3 rfl) rfl Try.underlying3 rfl ?_)
          | ((first | refine gate_none rfl ?_ | refine gate_if rfl rfl rfl ?_); refine wpList_load_one 9 _ rfl rfl _ _ _ _ _ _ _ rfl (S.out.get 3 rfl) rfl Try.underlying9 rfl ?_)
          | (refine gate_ (.load 36 (.tmp 2)) rfl ?_; (first | refine gate_none rfl ?_ | refine gate_if rfl rfl rfl ?_); refine wpList_load_row rfl 36 _ rfl _ rfl _ #[.slice A0 c.f0.length c0, .slice A1 c.f1.length c1, .slice A2 c.f2.length c2, .slice A3 c.f3.length c3, .slice A4 c.f4.length c4, .slice (some ad) c.f5.length c5, .slice A6 c.f6.length c6, .int .i64 c.f7] _ _ (S.out.get 0 rfl) Try.underlying36 rfl (by kernel_rfl) ?_)
          | (refine gate_ (.load 51 (.tmp 3)) rfl ?_; (first | refine gate_none rfl ?_ | refine gate_if rfl rfl rfl ?_); refine wpList_load_row rfl 51 _ rfl _ rfl _ #[.int .i64 k.f0, .int .u64 k.f1.f0, .int .u64 k.f1.f1, .int .u64 k.f2.f0, .int .u64 k.f2.f1, .int .i64 k.f3, .int .i64 k.f4] _ _ (S.out.get 1 rfl) Try.underlying51 rfl (by kernel_rfl) ?_)
          | (go_at_call 76; (with_reducible refine (HSV.out _ rfl _ S.out.below).mono ?_); rintro e w9 ⟨rfl, hb9⟩; replace S := Aside0.mk (S.out.call hb9); clear hb9)
          | (go_at_call 79; (with_reducible refine (HPO.out _ rfl _).mono ?_); rintro e w9 ⟨rfl, rfl⟩)
          | fail)
        go_roundw
        case rel => exact ⟨m + 1, by omega, by go_num, ⟨none_succ HX.out HNO.out HN.out⟩, ⟨S.out.erase 3⟩⟩
        case measure => simp [intOf]; omega
      | true =>
        cases h3 : n.f0 == 3 with
        | true =>
          have hy : destB c k n = true := by unfold destB; rw [HEA.out, h3]; rfl
          have H := Aside0.mk (dest_at HX.out hy HN.out)
          rw [show portD k n = k.f4 by unfold portD; rw [if_pos h3]] at H
          clear hy
          go_wp2_with (first
          | (refine gate_ (.load 39 (.tmp 21)) rfl ?_; (first | refine gate_none rfl ?_ | refine gate_if rfl rfl rfl ?_); refine wpList_load_blk rfl 39 _ rfl _ _ 2 [.int .u64 n.f4.f0, .int .u64 n.f4.f1] _ _ _ _ rfl (S.out.get 3 rfl) rfl Try.underlying39 rfl (by kernel_rfl) ?_)
          | (refine gate_ (.load 39 (.tmp 23)) rfl ?_; (first | refine gate_none rfl ?_ | refine gate_if rfl rfl rfl ?_); refine wpList_load_blk rfl 39 _ rfl _ _ 2 [.int .u64 k.f2.f0, .int .u64 k.f2.f1] _ _ _ _ rfl (S.out.get 1 rfl) rfl Try.underlying39 rfl (by kernel_rfl) ?_)
          | (refine gate_dst (N := 25) rfl ?_; (first | refine gate_none rfl ?_ | refine gate_if rfl rfl rfl ?_); refine wpList_neq39 rfl _ _ _ rfl n.f4 k.f2 rfl rfl ?_; rw [HEA.out])
          | ((first | refine gate_none rfl ?_ | refine gate_if rfl rfl rfl ?_); refine wpList_load_one 3 _ rfl rfl _ _ _ _ _ _ _ rfl (S.out.get 1 rfl) rfl Try.underlying3 rfl ?_)
          | ((first | refine gate_none rfl ?_ | refine gate_if rfl rfl rfl ?_); refine wpList_load_one 3 _ rfl rfl _ _ _ _ _ _ _ rfl (S.out.get 3 rfl) rfl Try.underlying3 rfl ?_)
          | ((first | refine gate_none rfl ?_ | refine gate_if rfl rfl rfl ?_); refine wpList_load_one 9 _ rfl rfl _ _ _ _ _ _ _ rfl (S.out.get 3 rfl) rfl Try.underlying9 rfl ?_)
          | (refine gate_ (.load 36 (.tmp 2)) rfl ?_; (first | refine gate_none rfl ?_ | refine gate_if rfl rfl rfl ?_); refine wpList_load_row rfl 36 _ rfl _ rfl _ #[.slice A0 c.f0.length c0, .slice A1 c.f1.length c1, .slice A2 c.f2.length c2, .slice A3 c.f3.length c3, .slice A4 c.f4.length c4, .slice (some ad) c.f5.length c5, .slice A6 c.f6.length c6, .int .i64 c.f7] _ _ (S.out.get 0 rfl) Try.underlying36 rfl (by kernel_rfl) ?_)
          | (refine gate_ (.load 51 (.tmp 3)) rfl ?_; (first | refine gate_none rfl ?_ | refine gate_if rfl rfl rfl ?_); refine wpList_load_row rfl 51 _ rfl _ rfl _ #[.int .i64 k.f0, .int .u64 k.f1.f0, .int .u64 k.f1.f1, .int .u64 k.f2.f0, .int .u64 k.f2.f1, .int .i64 k.f3, .int .i64 k.f4] _ _ (S.out.get 1 rfl) Try.underlying51 rfl (by kernel_rfl) ?_)
          | (go_at_call 76; (with_reducible refine (HSV.out _ rfl _ S.out.below).mono ?_); rintro e w9 ⟨rfl, hb9⟩; replace S := Aside0.mk (S.out.call hb9); clear hb9)
          | (go_at_call 79; (with_reducible refine (HPO.out _ rfl _).mono ?_); rintro e w9 ⟨rfl, rfl⟩)
          | fail)
          refine Rg.put1 S.out 5 _ 39 _ _ 2 (w.heap.size + 1 + 1) 0 #[.int .u64 0, .int .u64 0] #[.int .u64 n.f5.f0, .int .u64 n.f5.f1] 39 (by kernel_rfl) (by kernel_rfl) (by kernel_rfl) rfl ⟨rfl, rfl, rfl⟩ rfl (by omega) (by
              intro j hj g' o' h
              rcases j with _ | _ | _ | _ | j
              · injection h with h; injection h with h _; omega
              · injection h with h; injection h with h _; omega
              · exact absurd rfl hj
              · injection h with h; injection h with h _; omega
              · cases h) (by simp) (by kernel_rfl) (by simp [Value.oneCell']) ?_
          apply Exists.intro
          refine ⟨?_, ?_, ?_, ?_⟩
          · intro w' S2
            replace S2 := Aside0.mk S2
            simp only [List.cons_append, List.nil_append, List.eraseIdx_cons_succ, List.eraseIdx_cons_zero] at S2
            simp only [Rg.cutOut, List.eraseIdx_cons_succ, List.eraseIdx_cons_zero]
            repeat (first
              | go_big_quiet_skip
              | (refine quiet_load_blk 39 _ rfl rfl _ _ 2 [.int .u64 n.f5.f0, .int .u64 n.f5.f1] _ _ _ _ rfl (later_blk (S2.out.get 2 rfl)) rfl Try.underlying39 rfl (by kernel_rfl) ?_; go_frame)
              | (refine quiet_load_one 3 _ rfl rfl _ _ _ _ _ _ _ rfl (later_blk (S2.out.get 0 rfl)) rfl Try.underlying3 rfl ?_; go_frame)
              | (refine quiet_load_one 3 _ rfl rfl _ _ _ _ _ _ _ rfl (later_blk (S2.out.get 1 rfl)) rfl Try.underlying3 rfl ?_; go_frame)
              | (refine quiet_load_one 3 _ rfl rfl _ _ _ _ _ _ _ rfl (later_blk (S2.out.get 2 rfl)) rfl Try.underlying3 rfl ?_; go_frame)
              | go_big_quiet_step (fail)
              | quiet_step (fail))
            exact wpQuiet_nil rfl
          · rfl
          · rfl
          · intro w8 S8
            replace S8 := Aside0.mk S8
            go_wp2
            refine ends_ctt rfl rfl rfl rfl (S8.out.get 2 rfl) Try.underlying39 rfl (by kernel_rfl) rfl ?_
            exact ⟨by rw [H.out]; rfl, S8.out.below⟩
        | false =>
          cases h2 : n.f0 == 2 with
          | false =>
            have HNO := Aside0.mk (show destB c k n = false by unfold destB; rw [HEA.out, h3, h2]; rfl)
            go_wp2_with (first
          | (refine gate_ (.load 39 (.tmp 21)) rfl ?_; (first | refine gate_none rfl ?_ | refine gate_if rfl rfl rfl ?_); refine wpList_load_blk rfl 39 _ rfl _ _ 2 [.int .u64 n.f4.f0, .int .u64 n.f4.f1] _ _ _ _ rfl (S.out.get 3 rfl) rfl Try.underlying39 rfl (by kernel_rfl) ?_)
          | (refine gate_ (.load 39 (.tmp 23)) rfl ?_; (first | refine gate_none rfl ?_ | refine gate_if rfl rfl rfl ?_); refine wpList_load_blk rfl 39 _ rfl _ _ 2 [.int .u64 k.f2.f0, .int .u64 k.f2.f1] _ _ _ _ rfl (S.out.get 1 rfl) rfl Try.underlying39 rfl (by kernel_rfl) ?_)
          | (refine gate_dst (N := 25) rfl ?_; (first | refine gate_none rfl ?_ | refine gate_if rfl rfl rfl ?_); refine wpList_neq39 rfl _ _ _ rfl n.f4 k.f2 rfl rfl ?_; rw [HEA.out])
          | ((first | refine gate_none rfl ?_ | refine gate_if rfl rfl rfl ?_); refine wpList_load_one 3 _ rfl rfl _ _ _ _ _ _ _ rfl (S.out.get 1 rfl) rfl Try.underlying3 rfl ?_)
          | ((first | refine gate_none rfl ?_ | refine gate_if rfl rfl rfl ?_); refine wpList_load_one 3 _ rfl rfl _ _ _ _ _ _ _ rfl (S.out.get 3 rfl) rfl Try.underlying3 rfl ?_)
          | ((first | refine gate_none rfl ?_ | refine gate_if rfl rfl rfl ?_); refine wpList_load_one 9 _ rfl rfl _ _ _ _ _ _ _ rfl (S.out.get 3 rfl) rfl Try.underlying9 rfl ?_)
          | (refine gate_ (.load 36 (.tmp 2)) rfl ?_; (first | refine gate_none rfl ?_ | refine gate_if rfl rfl rfl ?_); refine wpList_load_row rfl 36 _ rfl _ rfl _ #[.slice A0 c.f0.length c0, .slice A1 c.f1.length c1, .slice A2 c.f2.length c2, .slice A3 c.f3.length c3, .slice A4 c.f4.length c4, .slice (some ad) c.f5.length c5, .slice A6 c.f6.length c6, .int .i64 c.f7] _ _ (S.out.get 0 rfl) Try.underlying36 rfl (by kernel_rfl) ?_)
          | (refine gate_ (.load 51 (.tmp 3)) rfl ?_; (first | refine gate_none rfl ?_ | refine gate_if rfl rfl rfl ?_); refine wpList_load_row rfl 51 _ rfl _ rfl _ #[.int .i64 k.f0, .int .u64 k.f1.f0, .int .u64 k.f1.f1, .int .u64 k.f2.f0, .int .u64 k.f2.f1, .int .i64 k.f3, .int .i64 k.f4] _ _ (S.out.get 1 rfl) Try.underlying51 rfl (by kernel_rfl) ?_)
          | (go_at_call 76; (with_reducible refine (HSV.out _ rfl _ S.out.below).mono ?_); rintro e w9 ⟨rfl, hb9⟩; replace S := Aside0.mk (S.out.call hb9); clear hb9)
          | (go_at_call 79; (with_reducible refine (HPO.out _ rfl _).mono ?_); rintro e w9 ⟨rfl, rfl⟩)
          | fail)
            go_roundw
            case rel => exact ⟨m + 1, by omega, by go_num, ⟨none_succ HX.out HNO.out HN.out⟩, ⟨S.out.erase 3⟩⟩
            case measure => simp [intOf]; omega
          | true =>
            obtain ⟨sv, hsv⟩ : ∃ sv, servesF c n.f3 k = sv := ⟨_, rfl⟩
            have HSV2 := Aside0.mk hsv
            clear hsv
            cases sv with
            | false =>
              have HNO := Aside0.mk (show destB c k n = false by unfold destB; rw [HEA.out, h3, h2, HSV2.out]; rfl)
              go_wp2_with (first
          | (refine gate_ (.load 39 (.tmp 21)) rfl ?_; (first | refine gate_none rfl ?_ | refine gate_if rfl rfl rfl ?_); refine wpList_load_blk rfl 39 _ rfl _ _ 2 [.int .u64 n.f4.f0, .int .u64 n.f4.f1] _ _ _ _ rfl (S.out.get 3 rfl) rfl Try.underlying39 rfl (by kernel_rfl) ?_)
          | (refine gate_ (.load 39 (.tmp 23)) rfl ?_; (first | refine gate_none rfl ?_ | refine gate_if rfl rfl rfl ?_); refine wpList_load_blk rfl 39 _ rfl _ _ 2 [.int .u64 k.f2.f0, .int .u64 k.f2.f1] _ _ _ _ rfl (S.out.get 1 rfl) rfl Try.underlying39 rfl (by kernel_rfl) ?_)
          | (refine gate_dst (N := 25) rfl ?_; (first | refine gate_none rfl ?_ | refine gate_if rfl rfl rfl ?_); refine wpList_neq39 rfl _ _ _ rfl n.f4 k.f2 rfl rfl ?_; rw [HEA.out])
          | ((first | refine gate_none rfl ?_ | refine gate_if rfl rfl rfl ?_); refine wpList_load_one 3 _ rfl rfl _ _ _ _ _ _ _ rfl (S.out.get 1 rfl) rfl Try.underlying3 rfl ?_)
          | ((first | refine gate_none rfl ?_ | refine gate_if rfl rfl rfl ?_); refine wpList_load_one 3 _ rfl rfl _ _ _ _ _ _ _ rfl (S.out.get 3 rfl) rfl Try.underlying3 rfl ?_)
          | ((first | refine gate_none rfl ?_ | refine gate_if rfl rfl rfl ?_); refine wpList_load_one 9 _ rfl rfl _ _ _ _ _ _ _ rfl (S.out.get 3 rfl) rfl Try.underlying9 rfl ?_)
          | (refine gate_ (.load 36 (.tmp 2)) rfl ?_; (first | refine gate_none rfl ?_ | refine gate_if rfl rfl rfl ?_); refine wpList_load_row rfl 36 _ rfl _ rfl _ #[.slice A0 c.f0.length c0, .slice A1 c.f1.length c1, .slice A2 c.f2.length c2, .slice A3 c.f3.length c3, .slice A4 c.f4.length c4, .slice (some ad) c.f5.length c5, .slice A6 c.f6.length c6, .int .i64 c.f7] _ _ (S.out.get 0 rfl) Try.underlying36 rfl (by kernel_rfl) ?_)
          | (refine gate_ (.load 51 (.tmp 3)) rfl ?_; (first | refine gate_none rfl ?_ | refine gate_if rfl rfl rfl ?_); refine wpList_load_row rfl 51 _ rfl _ rfl _ #[.int .i64 k.f0, .int .u64 k.f1.f0, .int .u64 k.f1.f1, .int .u64 k.f2.f0, .int .u64 k.f2.f1, .int .i64 k.f3, .int .i64 k.f4] _ _ (S.out.get 1 rfl) Try.underlying51 rfl (by kernel_rfl) ?_)
          | (go_at_call 76; (with_reducible refine (HSV.out _ HSV2.out _ S.out.below).mono ?_); rintro e w9 ⟨rfl, hb9⟩; replace S := Aside0.mk (S.out.call hb9); clear hb9)
          | (go_at_call 79; (with_reducible refine (HPO.out _ rfl _).mono ?_); rintro e w9 ⟨rfl, rfl⟩)
          | fail)
              go_roundw
              case rel => exact ⟨m + 1, by omega, by go_num, ⟨none_succ HX.out HNO.out HN.out⟩, ⟨S.out.erase 3⟩⟩
              case measure => simp [intOf]; omega
            | true =>
              have H := Aside0.mk (dest_at HX.out (show destB c k n = true by unfold destB; rw [HEA.out, h3, h2, HSV2.out]; rfl) HN.out)
              cases h6 : n.f6 == 0 with
              | true =>
                rw [show portD k n = k.f4 by unfold portD; rw [if_neg (by rw [h3]; decide), h6]; rfl] at H
                go_wp2_with (first
          | (refine gate_ (.load 39 (.tmp 21)) rfl ?_; (first | refine gate_none rfl ?_ | refine gate_if rfl rfl rfl ?_); refine wpList_load_blk rfl 39 _ rfl _ _ 2 [.int .u64 n.f4.f0, .int .u64 n.f4.f1] _ _ _ _ rfl (S.out.get 3 rfl) rfl Try.underlying39 rfl (by kernel_rfl) ?_)
          | (refine gate_ (.load 39 (.tmp 23)) rfl ?_; (first | refine gate_none rfl ?_ | refine gate_if rfl rfl rfl ?_); refine wpList_load_blk rfl 39 _ rfl _ _ 2 [.int .u64 k.f2.f0, .int .u64 k.f2.f1] _ _ _ _ rfl (S.out.get 1 rfl) rfl Try.underlying39 rfl (by kernel_rfl) ?_)
          | (refine gate_dst (N := 25) rfl ?_; (first | refine gate_none rfl ?_ | refine gate_if rfl rfl rfl ?_); refine wpList_neq39 rfl _ _ _ rfl n.f4 k.f2 rfl rfl ?_; rw [HEA.out])
          | ((first | refine gate_none rfl ?_ | refine gate_if rfl rfl rfl ?_); refine wpList_load_one 3 _ rfl rfl _ _ _ _ _ _ _ rfl (S.out.get 1 rfl) rfl Try.underlying3 rfl ?_)
          | ((first | refine gate_none rfl ?_ | refine gate_if rfl rfl rfl ?_); refine wpList_load_one 3 _ rfl rfl _ _ _ _ _ _ _ rfl (S.out.get 3 rfl) rfl Try.underlying3 rfl ?_)
          | ((first | refine gate_none rfl ?_ | refine gate_if rfl rfl rfl ?_); refine wpList_load_one 9 _ rfl rfl _ _ _ _ _ _ _ rfl (S.out.get 3 rfl) rfl Try.underlying9 rfl ?_)
          | (refine gate_ (.load 36 (.tmp 2)) rfl ?_; (first | refine gate_none rfl ?_ | refine gate_if rfl rfl rfl ?_); refine wpList_load_row rfl 36 _ rfl _ rfl _ #[.slice A0 c.f0.length c0, .slice A1 c.f1.length c1, .slice A2 c.f2.length c2, .slice A3 c.f3.length c3, .slice A4 c.f4.length c4, .slice (some ad) c.f5.length c5, .slice A6 c.f6.length c6, .int .i64 c.f7] _ _ (S.out.get 0 rfl) Try.underlying36 rfl (by kernel_rfl) ?_)
          | (refine gate_ (.load 51 (.tmp 3)) rfl ?_; (first | refine gate_none rfl ?_ | refine gate_if rfl rfl rfl ?_); refine wpList_load_row rfl 51 _ rfl _ rfl _ #[.int .i64 k.f0, .int .u64 k.f1.f0, .int .u64 k.f1.f1, .int .u64 k.f2.f0, .int .u64 k.f2.f1, .int .i64 k.f3, .int .i64 k.f4] _ _ (S.out.get 1 rfl) Try.underlying51 rfl (by kernel_rfl) ?_)
          | (go_at_call 76; (with_reducible refine (HSV.out _ HSV2.out _ S.out.below).mono ?_); rintro e w9 ⟨rfl, hb9⟩; replace S := Aside0.mk (S.out.call hb9); clear hb9)
          | (go_at_call 79; (with_reducible refine (HPO.out _ rfl _).mono ?_); rintro e w9 ⟨rfl, rfl⟩)
          | fail)
                refine Rg.put1 S.out 5 _ 39 _ _ 2 (w.heap.size + 1 + 1) 0 #[.int .u64 0, .int .u64 0] #[.int .u64 n.f5.f0, .int .u64 n.f5.f1] 39 (by kernel_rfl) (by kernel_rfl) (by kernel_rfl) rfl ⟨rfl, rfl, rfl⟩ rfl (by omega) (by
                    intro j hj g' o' h
                    rcases j with _ | _ | _ | _ | j
                    · injection h with h; injection h with h _; omega
                    · injection h with h; injection h with h _; omega
                    · exact absurd rfl hj
                    · injection h with h; injection h with h _; omega
                    · cases h) (by simp) (by kernel_rfl) (by simp [Value.oneCell']) ?_
                apply Exists.intro
                refine ⟨?_, ?_, ?_, ?_⟩
                · intro w' S2
                  replace S2 := Aside0.mk S2
                  simp only [List.cons_append, List.nil_append, List.eraseIdx_cons_succ, List.eraseIdx_cons_zero] at S2
                  simp only [Rg.cutOut, List.eraseIdx_cons_succ, List.eraseIdx_cons_zero]
                  repeat (first
                    | go_big_quiet_skip
                    | (refine quiet_load_blk 39 _ rfl rfl _ _ 2 [.int .u64 n.f5.f0, .int .u64 n.f5.f1] _ _ _ _ rfl (later_blk (S2.out.get 2 rfl)) rfl Try.underlying39 rfl (by kernel_rfl) ?_; go_frame)
                    | (refine quiet_load_one 3 _ rfl rfl _ _ _ _ _ _ _ rfl (later_blk (S2.out.get 0 rfl)) rfl Try.underlying3 rfl ?_; go_frame)
                    | (refine quiet_load_one 3 _ rfl rfl _ _ _ _ _ _ _ rfl (later_blk (S2.out.get 1 rfl)) rfl Try.underlying3 rfl ?_; go_frame)
                    | (refine quiet_load_one 3 _ rfl rfl _ _ _ _ _ _ _ rfl (later_blk (S2.out.get 2 rfl)) rfl Try.underlying3 rfl ?_; go_frame)
                    | go_big_quiet_step (fail)
                    | quiet_step (fail))
                  exact wpQuiet_nil rfl
                · rfl
                · rfl
                · intro w8 S8
                  replace S8 := Aside0.mk S8
                  go_wp2
                  refine ends_ctt rfl rfl rfl rfl (S8.out.get 2 rfl) Try.underlying39 rfl (by kernel_rfl) rfl ?_
                  exact ⟨by rw [H.out]; rfl, S8.out.below⟩
              | false =>
                obtain ⟨pb, hpb⟩ : ∃ pb, portedB k.f0 = pb := ⟨_, rfl⟩
                have HPB := Aside0.mk hpb
                clear hpb
                cases pb with
                | false =>
                  rw [show portD k n = k.f4 by unfold portD; rw [if_neg (by rw [h3]; decide), h6, HPB.out]; rfl] at H
                  go_wp2_with (first
          | (refine gate_ (.load 39 (.tmp 21)) rfl ?_; (first | refine gate_none rfl ?_ | refine gate_if rfl rfl rfl ?_); refine wpList_load_blk rfl 39 _ rfl _ _ 2 [.int .u64 n.f4.f0, .int .u64 n.f4.f1] _ _ _ _ rfl (S.out.get 3 rfl) rfl Try.underlying39 rfl (by kernel_rfl) ?_)
          | (refine gate_ (.load 39 (.tmp 23)) rfl ?_; (first | refine gate_none rfl ?_ | refine gate_if rfl rfl rfl ?_); refine wpList_load_blk rfl 39 _ rfl _ _ 2 [.int .u64 k.f2.f0, .int .u64 k.f2.f1] _ _ _ _ rfl (S.out.get 1 rfl) rfl Try.underlying39 rfl (by kernel_rfl) ?_)
          | (refine gate_dst (N := 25) rfl ?_; (first | refine gate_none rfl ?_ | refine gate_if rfl rfl rfl ?_); refine wpList_neq39 rfl _ _ _ rfl n.f4 k.f2 rfl rfl ?_; rw [HEA.out])
          | ((first | refine gate_none rfl ?_ | refine gate_if rfl rfl rfl ?_); refine wpList_load_one 3 _ rfl rfl _ _ _ _ _ _ _ rfl (S.out.get 1 rfl) rfl Try.underlying3 rfl ?_)
          | ((first | refine gate_none rfl ?_ | refine gate_if rfl rfl rfl ?_); refine wpList_load_one 3 _ rfl rfl _ _ _ _ _ _ _ rfl (S.out.get 3 rfl) rfl Try.underlying3 rfl ?_)
          | ((first | refine gate_none rfl ?_ | refine gate_if rfl rfl rfl ?_); refine wpList_load_one 9 _ rfl rfl _ _ _ _ _ _ _ rfl (S.out.get 3 rfl) rfl Try.underlying9 rfl ?_)
          | (refine gate_ (.load 36 (.tmp 2)) rfl ?_; (first | refine gate_none rfl ?_ | refine gate_if rfl rfl rfl ?_); refine wpList_load_row rfl 36 _ rfl _ rfl _ #[.slice A0 c.f0.length c0, .slice A1 c.f1.length c1, .slice A2 c.f2.length c2, .slice A3 c.f3.length c3, .slice A4 c.f4.length c4, .slice (some ad) c.f5.length c5, .slice A6 c.f6.length c6, .int .i64 c.f7] _ _ (S.out.get 0 rfl) Try.underlying36 rfl (by kernel_rfl) ?_)
          | (refine gate_ (.load 51 (.tmp 3)) rfl ?_; (first | refine gate_none rfl ?_ | refine gate_if rfl rfl rfl ?_); refine wpList_load_row rfl 51 _ rfl _ rfl _ #[.int .i64 k.f0, .int .u64 k.f1.f0, .int .u64 k.f1.f1, .int .u64 k.f2.f0, .int .u64 k.f2.f1, .int .i64 k.f3, .int .i64 k.f4] _ _ (S.out.get 1 rfl) Try.underlying51 rfl (by kernel_rfl) ?_)
          | (go_at_call 76; (with_reducible refine (HSV.out _ HSV2.out _ S.out.below).mono ?_); rintro e w9 ⟨rfl, hb9⟩; replace S := Aside0.mk (S.out.call hb9); clear hb9)
          | (go_at_call 79; (with_reducible refine (HPO.out _ HPB.out _).mono ?_); rintro e w9 ⟨rfl, rfl⟩)
          | fail)
                  refine Rg.put1 S.out 5 _ 39 _ _ 2 (w.heap.size + 1 + 1) 0 #[.int .u64 0, .int .u64 0] #[.int .u64 n.f5.f0, .int .u64 n.f5.f1] 39 (by kernel_rfl) (by kernel_rfl) (by kernel_rfl) rfl ⟨rfl, rfl, rfl⟩ rfl (by omega) (by
                      intro j hj g' o' h
                      rcases j with _ | _ | _ | _ | j
                      · injection h with h; injection h with h _; omega
                      · injection h with h; injection h with h _; omega
                      · exact absurd rfl hj
                      · injection h with h; injection h with h _; omega
                      · cases h) (by simp) (by kernel_rfl) (by simp [Value.oneCell']) ?_
                  apply Exists.intro
                  refine ⟨?_, ?_, ?_, ?_⟩
                  · intro w' S2
                    replace S2 := Aside0.mk S2
                    simp only [List.cons_append, List.nil_append, List.eraseIdx_cons_succ, List.eraseIdx_cons_zero] at S2
                    simp only [Rg.cutOut, List.eraseIdx_cons_succ, List.eraseIdx_cons_zero]
                    repeat (first
                      | go_big_quiet_skip
                      | (refine quiet_load_blk 39 _ rfl rfl _ _ 2 [.int .u64 n.f5.f0, .int .u64 n.f5.f1] _ _ _ _ rfl (later_blk (S2.out.get 2 rfl)) rfl Try.underlying39 rfl (by kernel_rfl) ?_; go_frame)
                      | (refine quiet_load_one 3 _ rfl rfl _ _ _ _ _ _ _ rfl (later_blk (S2.out.get 0 rfl)) rfl Try.underlying3 rfl ?_; go_frame)
                      | (refine quiet_load_one 3 _ rfl rfl _ _ _ _ _ _ _ rfl (later_blk (S2.out.get 1 rfl)) rfl Try.underlying3 rfl ?_; go_frame)
                      | (refine quiet_load_one 3 _ rfl rfl _ _ _ _ _ _ _ rfl (later_blk (S2.out.get 2 rfl)) rfl Try.underlying3 rfl ?_; go_frame)
                      | go_big_quiet_step (fail)
                      | quiet_step (fail))
                    exact wpQuiet_nil rfl
                  · rfl
                  · rfl
                  · intro w8 S8
                    replace S8 := Aside0.mk S8
                    go_wp2
                    refine ends_ctt rfl rfl rfl rfl (S8.out.get 2 rfl) Try.underlying39 rfl (by kernel_rfl) rfl ?_
                    exact ⟨by rw [H.out]; rfl, S8.out.below⟩
                | true =>
                  rw [show portD k n = n.f6 by unfold portD; rw [if_neg (by rw [h3]; decide), h6, HPB.out]; rfl] at H
                  go_wp2_with (first
          | (refine gate_ (.load 39 (.tmp 21)) rfl ?_; (first | refine gate_none rfl ?_ | refine gate_if rfl rfl rfl ?_); refine wpList_load_blk rfl 39 _ rfl _ _ 2 [.int .u64 n.f4.f0, .int .u64 n.f4.f1] _ _ _ _ rfl (S.out.get 3 rfl) rfl Try.underlying39 rfl (by kernel_rfl) ?_)
          | (refine gate_ (.load 39 (.tmp 23)) rfl ?_; (first | refine gate_none rfl ?_ | refine gate_if rfl rfl rfl ?_); refine wpList_load_blk rfl 39 _ rfl _ _ 2 [.int .u64 k.f2.f0, .int .u64 k.f2.f1] _ _ _ _ rfl (S.out.get 1 rfl) rfl Try.underlying39 rfl (by kernel_rfl) ?_)
          | (refine gate_dst (N := 25) rfl ?_; (first | refine gate_none rfl ?_ | refine gate_if rfl rfl rfl ?_); refine wpList_neq39 rfl _ _ _ rfl n.f4 k.f2 rfl rfl ?_; rw [HEA.out])
          | ((first | refine gate_none rfl ?_ | refine gate_if rfl rfl rfl ?_); refine wpList_load_one 3 _ rfl rfl _ _ _ _ _ _ _ rfl (S.out.get 1 rfl) rfl Try.underlying3 rfl ?_)
          | ((first | refine gate_none rfl ?_ | refine gate_if rfl rfl rfl ?_); refine wpList_load_one 3 _ rfl rfl _ _ _ _ _ _ _ rfl (S.out.get 3 rfl) rfl Try.underlying3 rfl ?_)
          | ((first | refine gate_none rfl ?_ | refine gate_if rfl rfl rfl ?_); refine wpList_load_one 9 _ rfl rfl _ _ _ _ _ _ _ rfl (S.out.get 3 rfl) rfl Try.underlying9 rfl ?_)
          | (refine gate_ (.load 36 (.tmp 2)) rfl ?_; (first | refine gate_none rfl ?_ | refine gate_if rfl rfl rfl ?_); refine wpList_load_row rfl 36 _ rfl _ rfl _ #[.slice A0 c.f0.length c0, .slice A1 c.f1.length c1, .slice A2 c.f2.length c2, .slice A3 c.f3.length c3, .slice A4 c.f4.length c4, .slice (some ad) c.f5.length c5, .slice A6 c.f6.length c6, .int .i64 c.f7] _ _ (S.out.get 0 rfl) Try.underlying36 rfl (by kernel_rfl) ?_)
          | (refine gate_ (.load 51 (.tmp 3)) rfl ?_; (first | refine gate_none rfl ?_ | refine gate_if rfl rfl rfl ?_); refine wpList_load_row rfl 51 _ rfl _ rfl _ #[.int .i64 k.f0, .int .u64 k.f1.f0, .int .u64 k.f1.f1, .int .u64 k.f2.f0, .int .u64 k.f2.f1, .int .i64 k.f3, .int .i64 k.f4] _ _ (S.out.get 1 rfl) Try.underlying51 rfl (by kernel_rfl) ?_)
          | (go_at_call 76; (with_reducible refine (HSV.out _ HSV2.out _ S.out.below).mono ?_); rintro e w9 ⟨rfl, hb9⟩; replace S := Aside0.mk (S.out.call hb9); clear hb9)
          | (go_at_call 79; (with_reducible refine (HPO.out _ HPB.out _).mono ?_); rintro e w9 ⟨rfl, rfl⟩)
          | fail)
                  refine Rg.put1 S.out 5 _ 39 _ _ 2 (w.heap.size + 1 + 1) 0 #[.int .u64 0, .int .u64 0] #[.int .u64 n.f5.f0, .int .u64 n.f5.f1] 39 (by kernel_rfl) (by kernel_rfl) (by kernel_rfl) rfl ⟨rfl, rfl, rfl⟩ rfl (by omega) (by
                      intro j hj g' o' h
                      rcases j with _ | _ | _ | _ | j
                      · injection h with h; injection h with h _; omega
                      · injection h with h; injection h with h _; omega
                      · exact absurd rfl hj
                      · injection h with h; injection h with h _; omega
                      · cases h) (by simp) (by kernel_rfl) (by simp [Value.oneCell']) ?_
                  apply Exists.intro
                  refine ⟨?_, ?_, ?_, ?_⟩
                  · intro w' S2
                    replace S2 := Aside0.mk S2
                    simp only [List.cons_append, List.nil_append, List.eraseIdx_cons_succ, List.eraseIdx_cons_zero] at S2
                    simp only [Rg.cutOut, List.eraseIdx_cons_succ, List.eraseIdx_cons_zero]
                    repeat (first
                      | go_big_quiet_skip
                      | (refine quiet_load_blk 39 _ rfl rfl _ _ 2 [.int .u64 n.f5.f0, .int .u64 n.f5.f1] _ _ _ _ rfl (later_blk (S2.out.get 2 rfl)) rfl Try.underlying39 rfl (by kernel_rfl) ?_; go_frame)
                      | (refine quiet_load_one 3 _ rfl rfl _ _ _ _ _ _ _ rfl (later_blk (S2.out.get 0 rfl)) rfl Try.underlying3 rfl ?_; go_frame)
                      | (refine quiet_load_one 3 _ rfl rfl _ _ _ _ _ _ _ rfl (later_blk (S2.out.get 1 rfl)) rfl Try.underlying3 rfl ?_; go_frame)
                      | (refine quiet_load_one 3 _ rfl rfl _ _ _ _ _ _ _ rfl (later_blk (S2.out.get 2 rfl)) rfl Try.underlying3 rfl ?_; go_frame)
                      | go_big_quiet_step (fail)
                      | quiet_step (fail))
                    exact wpQuiet_nil rfl
                  · rfl
                  · rfl
                  · intro w8 S8
                    replace S8 := Aside0.mk S8
                    go_wp2
                    refine ends_ctt rfl rfl rfl rfl (S8.out.get 2 rfl) Try.underlying39 rfl (by kernel_rfl) rfl ?_
                    exact ⟨by rw [H.out]; rfl, S8.out.below⟩
    · have H := Aside0.mk (dest_none (c := c) (k := k) (fun j hj => HN.out j (by omega)))
      go_wp2_with (first
        | ((first | refine gate_none rfl ?_ | refine gate_if rfl rfl rfl ?_); refine wpList_load_one 33 _ rfl rfl _ _ _ _ _ _ _ rfl (S.out.get 0 rfl) rfl Try.underlying33 rfl ?_)
        | fail)
      refine Rg.put1 S.out 4 _ 39 _ _ 2 (w.heap.size + 1 + 1) 0 #[.int .u64 0, .int .u64 0] #[.int .u64 k.f2.f0, .int .u64 k.f2.f1] 39 (by kernel_rfl) (by kernel_rfl) (by kernel_rfl) rfl ⟨rfl, rfl, rfl⟩ rfl (by omega) (by
          intro j hj g' o' h
          rcases j with _ | _ | _ | j
          · injection h with h; injection h with h _; omega
          · injection h with h; injection h with h _; omega
          · exact absurd rfl hj
          · cases h) (by simp) (by kernel_rfl) (by simp [Value.oneCell']) ?_
      apply Exists.intro
      refine ⟨?_, ?_, ?_, ?_⟩
      · intro w' S2
        replace S2 := Aside0.mk S2
        simp only [List.cons_append, List.nil_append, List.eraseIdx_cons_succ, List.eraseIdx_cons_zero] at S2
        simp only [Rg.cutOut, List.eraseIdx_cons_succ, List.eraseIdx_cons_zero]
        repeat (first
          | go_big_quiet_skip
          | (refine quiet_load_blk 39 _ rfl rfl _ _ 2 [.int .u64 k.f2.f0, .int .u64 k.f2.f1] _ _ _ _ rfl (later_blk (S2.out.get 1 rfl)) rfl Try.underlying39 rfl (by kernel_rfl) ?_; go_frame)
          | (refine quiet_load_one 3 _ rfl rfl _ _ _ _ _ _ _ rfl (later_blk (S2.out.get 1 rfl)) rfl Try.underlying3 rfl ?_; go_frame)
          | go_big_quiet_step (fail)
          | quiet_step (fail))
        exact wpQuiet_nil rfl
      · rfl
      · rfl
      · intro w8 S8
        replace S8 := Aside0.mk S8
        go_wp2
        refine ends_ctt rfl rfl rfl rfl (S8.out.get 2 rfl) Try.underlying39 rfl (by kernel_rfl) rfl ?_
        exact ⟨by rw [H.out]; rfl, S8.out.below⟩
end Go.Proofs.Ytgppfpfdoooijaa
