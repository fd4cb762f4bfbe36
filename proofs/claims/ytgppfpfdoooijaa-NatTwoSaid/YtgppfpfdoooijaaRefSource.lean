/- Which translation turns a source: the document's Source. -/
import Derived.Test.YtgppfpfdoooijaaRefDest
namespace Go.Proofs.Ytgppfpfdoooijaa
open Go.RowKit Go.Proofs.YtgppfpfdoooijaaW.PrintWords
set_option linter.unusedVariables false
set_option linter.unusedSimpArgs false
attribute [local go_sem] Later.cell_eq


set_option maxRecDepth 100000 in
set_option maxHeartbeats 8000000 in
theorem refsource_any (c : S36) (cs : List Value) (out : Int) (k : S51) (w : World) (hc : k36.K w c cs) :
    Calls Try.prog 56 #[.agg cs.toArray, .int .i64 out, .agg #[.int .i64 k.f0, .int .u64 k.f1.f0, .int .u64 k.f1.f1, .int .u64 k.f2.f0, .int .u64 k.f2.f1, .int .i64 k.f3, .int .i64 k.f4]] w fun e w' =>
      e = .returned (.int .i64 (sourceF c out k)) ∧ Below w.heap.size w w' := by
  have HK := Aside0.mk hc
  obtain ⟨A0, c0, A1, c1, A2, c2, A3, c3, A4, c4, A5, c5, A6, c6, rfl, l0, g0, l1, g1, l2, g2, l3, g3, l4, g4, l5, g5, l6, g6⟩ := k36_open hc
  have hmax : c.f5.length ≤ 9223372036854775807 := Kd.C_max g5
  have HG := Aside0.mk g5
  clear hc g0 g1 g2 g3 g4 g5 g6
  go_enter Try.func56, Try.ntmps56
  go_wp2
  have S := Aside0.mk (((St.nil w).alloc (.cells #[.slice A0 c.f0.length c0, .slice A1 c.f1.length c1, .slice A2 c.f2.length c2, .slice A3 c.f3.length c3, .slice A4 c.f4.length c4, .slice A5 c.f5.length c5, .slice A6 c.f6.length c6, .int .i64 c.f7] 36)).alloc (.cells #[.int .i64 k.f0, .int .u64 k.f1.f0, .int .u64 k.f1.f1, .int .u64 k.f2.f0, .int .u64 k.f2.f1, .int .i64 k.f3, .int .i64 k.f4] 51))
  simp only [World.size_alloc, List.nil_append, List.cons_append] at S
  generalize World.alloc _ _ = W0 at *
  go_loopw [7] (fun v wr => ∃ m : Nat, m ≤ c.f5.length ∧ v = .int .i64 m ∧ Aside0 (∀ j, j < m → ∀ y, c.f5[j]? = some y → srcB c out k y = false) ∧ Aside0 (St w [(w.heap.size, .cells #[.slice A0 c.f0.length c0, .slice A1 c.f1.length c1, .slice A2 c.f2.length c2, .slice A3 c.f3.length c3, .slice A4 c.f4.length c4, .slice A5 c.f5.length c5, .slice A6 c.f6.length c6, .int .i64 c.f7] 36 (0, 0)), (w.heap.size + 1, .cells #[.int .i64 k.f0, .int .u64 k.f1.f0, .int .u64 k.f1.f1, .int .u64 k.f2.f0, .int .u64 k.f2.f1, .int .i64 k.f3, .int .i64 k.f4] 51 (0, 0))] wr)) (fun v _ => c.f5.length - (intOf v).toNat)
  case atStart => exact ⟨0, Nat.zero_le _, rfl, ⟨fun j hj => by omega⟩, S⟩
  case round =>
    clear S
    obtain ⟨m, hm, rfl, HN, S⟩ := hrel
    have hs2 : w.heap.size + 1 < wr.heap.size := blk_lt (S.out.get 1 rfl)
    by_cases hlt : m < c.f5.length
    · obtain ⟨ad, ncs, rfl, hK, hcc⟩ := elem_at HG.out z56 m hlt
      have HX := Aside0.mk (getD_get z56 hlt)
      obtain ⟨n, hn⟩ : ∃ n, n = c.f5.getD m z56 := ⟨_, rfl⟩
      rw [← hn] at HX hK
      obtain rfl := k56_open hK
      have HCE := Aside0.mk hcc
      clear hK hcc hn
      have HCA := Aside0.mk (fun (b : Bool) (h : calledF c out n.f1 = b) W (hW : Below w.heap.size w W) => show Calls Try.prog 74 #[.agg #[.slice A0 c.f0.length c0, .slice A1 c.f1.length c1, .slice A2 c.f2.length c2, .slice A3 c.f3.length c3, .slice A4 c.f4.length c4, .slice (some ad) c.f5.length c5, .slice A6 c.f6.length c6, .int .i64 c.f7], .int .i64 out, .string n.f1] W (fun e w' => e = .returned (.bool b) ∧ Below W.heap.size W w') by rw [← h]; exact named_any c _ out n.f1 W (k36.K_below hW HK.out))
      have HWI := Aside0.mk (fun (b : Bool) (h : withinF c n.f2 k.f1 = b) W (hW : Below w.heap.size w W) => show Calls Try.prog 75 #[.agg #[.slice A0 c.f0.length c0, .slice A1 c.f1.length c1, .slice A2 c.f2.length c2, .slice A3 c.f3.length c3, .slice A4 c.f4.length c4, .slice (some ad) c.f5.length c5, .slice A6 c.f6.length c6, .int .i64 c.f7], .string n.f2, .agg #[.int .u64 k.f1.f0, .int .u64 k.f1.f1]] W (fun e w' => e = .returned (.bool b) ∧ Below W.heap.size W w') by rw [← h]; exact refwithin_any c _ n.f2 k.f1 W (k36.K_below hW HK.out))
      go_wp2_with (first
        | ((first | refine gate_none rfl ?_ | refine gate_if rfl rfl rfl ?_); refine wpList_load_one 33 _ rfl rfl _ _ _ _ _ _ _ rfl (S.out.get 0 rfl) rfl Try.underlying33 rfl ?_)
        | (refine gate_ (.load 56 (.tmp 19)) rfl ?_; (first | refine gate_none rfl ?_ | refine gate_if rfl rfl rfl ?_); refine wpList_load_at rfl 56 _ rfl (ad.add (m * 10)) [.int .i64 n.f0, .string n.f1, .string n.f2, .string n.f3, .int .u64 n.f4.f0, .int .u64 n.f4.f1, .int .u64 n.f5.f0, .int .u64 n.f5.f1, .int .i64 n.f6, .int .i64 n.f7] _ rfl (HCE.out.below S.out.below) Try.underlying56 rfl (by kernel_rfl) ?_)
        | (refine gate_ (.store 56 (.tmp 8) (.tmp 20)) rfl ?_; refine wpList_store_all rfl 56 _ _ rfl _ #[.int .i64 n.f0, .string n.f1, .string n.f2, .string n.f3, .int .u64 n.f4.f0, .int .u64 n.f4.f1, .int .u64 n.f5.f0, .int .u64 n.f5.f1, .int .i64 n.f6, .int .i64 n.f7] _ _ rfl rfl (heap_alloc_new _ _) rfl (by kernel_rfl) (by simp [Value.oneCell']) ?_; intro w3 hb3 hg3 hz3; replace S := Aside0.mk (S.out.made hg3 hb3); clear hb3 hg3 hz3)
        | (refine gate_ (.load 36 (.tmp 3)) rfl ?_; refine Aside0.out ?_)
        | fail)
      refine Aside0.mk ?_
      obtain ⟨cl, hcl⟩ : ∃ cl, calledF c out n.f1 = cl := ⟨_, rfl⟩
      obtain ⟨ea, hea⟩ : ∃ ea, eqA n.f5 k.f1 = ea := ⟨_, rfl⟩
      obtain ⟨wi, hwi⟩ : ∃ wi, withinF c n.f2 k.f1 = wi := ⟨_, rfl⟩
      have HCL := Aside0.mk hcl
      have HEA := Aside0.mk hea
      have HWIB := Aside0.mk hwi
      obtain ⟨b4, hb4⟩ : ∃ b4, is4F n.f4 = b4 := ⟨_, rfl⟩
      obtain ⟨b5, hb5⟩ : ∃ b5, is4F k.f1 = b5 := ⟨_, rfl⟩
      have HI4 := Aside0.mk (fun W => show Calls Try.prog 57 #[.agg #[.int .u64 n.f4.f0, .int .u64 n.f4.f1]] W (fun e w' => e = .returned (.bool b4) ∧ Below W.heap.size W w') by rw [← hb4]; exact refis4_any _ _ W)
      have HI5 := Aside0.mk (fun W => show Calls Try.prog 57 #[.agg #[.int .u64 k.f1.f0, .int .u64 k.f1.f1]] W (fun e w' => e = .returned (.bool b5) ∧ Below W.heap.size W w') by rw [← hb5]; exact refis4_any _ _ W)
      have HS0 := Aside0.mk (show srcB c out k n = (cl && ((n.f0 == 3 && ea) || (n.f0 == 1 && (wi && (b4 == b5))))) by unfold srcB; rw [hcl, hea, hwi, hb4, hb5])
      clear hb4 hb5 hcl hea hwi
      have hx31 : (n.f0 == 3) = true → (n.f0 == 1) = false := by intro h; simp at h ⊢; omega
      cases cl with
      | false =>
        have HNO := Aside0.mk (show srcB c out k n = false by rw [HS0.out]; rfl)
        clear hx31
        go_wp2_with (first
          | (refine gate_ (.load 39 (.tmp 31)) rfl ?_; (first | refine gate_none rfl ?_ | refine gate_if rfl rfl rfl ?_); refine wpList_load_blk rfl 39 _ rfl _ _ 2 [.int .u64 n.f5.f0, .int .u64 n.f5.f1] _ _ _ _ rfl (S.out.get 2 rfl) rfl Try.underlying39 rfl (by kernel_rfl) ?_)
          | (refine gate_ (.load 39 (.tmp 33)) rfl ?_; (first | refine gate_none rfl ?_ | refine gate_if rfl rfl rfl ?_); refine wpList_load_blk rfl 39 _ rfl _ _ 2 [.int .u64 k.f1.f0, .int .u64 k.f1.f1] _ _ _ _ rfl (S.out.get 1 rfl) rfl Try.underlying39 rfl (by kernel_rfl) ?_)
          | (refine gate_dst (N := 35) rfl ?_; (first | refine gate_none rfl ?_ | refine gate_if rfl rfl rfl ?_); refine wpList_eql39 rfl _ _ _ rfl n.f5 k.f1 rfl rfl ?_; rw [HEA.out])
          | ((first | refine gate_none rfl ?_ | refine gate_if rfl rfl rfl ?_); refine wpList_load_one 3 _ rfl rfl _ _ _ _ _ _ _ rfl (S.out.get 2 rfl) rfl Try.underlying3 rfl ?_)
          | ((first | refine gate_none rfl ?_ | refine gate_if rfl rfl rfl ?_); refine wpList_load_one 9 _ rfl rfl _ _ _ _ _ _ _ rfl (S.out.get 2 rfl) rfl Try.underlying9 rfl ?_)
          | (refine gate_ (.load 36 (.tmp 3)) rfl ?_; (first | refine gate_none rfl ?_ | refine gate_if rfl rfl rfl ?_); refine wpList_load_row rfl 36 _ rfl _ rfl _ #[.slice A0 c.f0.length c0, .slice A1 c.f1.length c1, .slice A2 c.f2.length c2, .slice A3 c.f3.length c3, .slice A4 c.f4.length c4, .slice (some ad) c.f5.length c5, .slice A6 c.f6.length c6, .int .i64 c.f7] _ _ (S.out.get 0 rfl) Try.underlying36 rfl (by kernel_rfl) ?_)
          | (go_at_call 74; (with_reducible refine (HCA.out _ HCL.out _ S.out.below).mono ?_); rintro e w9 ⟨rfl, hb9⟩; replace S := Aside0.mk (S.out.call hb9); clear hb9)
          | fail)
        go_roundw
        case rel => exact ⟨m + 1, by omega, by go_num, ⟨none_succ HX.out HNO.out HN.out⟩, ⟨S.out.erase 2⟩⟩
        case measure => simp [intOf]; omega
      | true =>
        cases h3 : n.f0 == 3 with
        | true =>
          have h1 := hx31 h3
          clear hx31
          cases ea with
          | true =>
            have H := Aside0.mk (show sourceF c out k = m from idxF_at HX.out (show srcB c out k n = true by rw [HS0.out, h3]; rfl) HN.out)
            clear h1
            go_wp2_with (first
          | (refine gate_ (.load 39 (.tmp 31)) rfl ?_; (first | refine gate_none rfl ?_ | refine gate_if rfl rfl rfl ?_); refine wpList_load_blk rfl 39 _ rfl _ _ 2 [.int .u64 n.f5.f0, .int .u64 n.f5.f1] _ _ _ _ rfl (S.out.get 2 rfl) rfl Try.underlying39 rfl (by kernel_rfl) ?_)
          | (refine gate_ (.load 39 (.tmp 33)) rfl ?_; (first | refine gate_none rfl ?_ | refine gate_if rfl rfl rfl ?_); refine wpList_load_blk rfl 39 _ rfl _ _ 2 [.int .u64 k.f1.f0, .int .u64 k.f1.f1] _ _ _ _ rfl (S.out.get 1 rfl) rfl Try.underlying39 rfl (by kernel_rfl) ?_)
          | (refine gate_dst (N := 35) rfl ?_; (first | refine gate_none rfl ?_ | refine gate_if rfl rfl rfl ?_); refine wpList_eql39 rfl _ _ _ rfl n.f5 k.f1 rfl rfl ?_; rw [HEA.out])
          | ((first | refine gate_none rfl ?_ | refine gate_if rfl rfl rfl ?_); refine wpList_load_one 3 _ rfl rfl _ _ _ _ _ _ _ rfl (S.out.get 2 rfl) rfl Try.underlying3 rfl ?_)
          | ((first | refine gate_none rfl ?_ | refine gate_if rfl rfl rfl ?_); refine wpList_load_one 9 _ rfl rfl _ _ _ _ _ _ _ rfl (S.out.get 2 rfl) rfl Try.underlying9 rfl ?_)
          | (refine gate_ (.load 36 (.tmp 3)) rfl ?_; (first | refine gate_none rfl ?_ | refine gate_if rfl rfl rfl ?_); refine wpList_load_row rfl 36 _ rfl _ rfl _ #[.slice A0 c.f0.length c0, .slice A1 c.f1.length c1, .slice A2 c.f2.length c2, .slice A3 c.f3.length c3, .slice A4 c.f4.length c4, .slice (some ad) c.f5.length c5, .slice A6 c.f6.length c6, .int .i64 c.f7] _ _ (S.out.get 0 rfl) Try.underlying36 rfl (by kernel_rfl) ?_)
          | (go_at_call 74; (with_reducible refine (HCA.out _ HCL.out _ S.out.below).mono ?_); rintro e w9 ⟨rfl, hb9⟩; replace S := Aside0.mk (S.out.call hb9); clear hb9)
          | fail)
            go_ret
            exact ⟨by rw [H.out]; rfl, S.out.below⟩
          | false =>
            have HNO := Aside0.mk (show srcB c out k n = false by rw [HS0.out, h3, h1]; rfl)
            go_wp2_with (first
          | (refine gate_ (.load 39 (.tmp 31)) rfl ?_; (first | refine gate_none rfl ?_ | refine gate_if rfl rfl rfl ?_); refine wpList_load_blk rfl 39 _ rfl _ _ 2 [.int .u64 n.f5.f0, .int .u64 n.f5.f1] _ _ _ _ rfl (S.out.get 2 rfl) rfl Try.underlying39 rfl (by kernel_rfl) ?_)
          | (refine gate_ (.load 39 (.tmp 33)) rfl ?_; (first | refine gate_none rfl ?_ | refine gate_if rfl rfl rfl ?_); refine wpList_load_blk rfl 39 _ rfl _ _ 2 [.int .u64 k.f1.f0, .int .u64 k.f1.f1] _ _ _ _ rfl (S.out.get 1 rfl) rfl Try.underlying39 rfl (by kernel_rfl) ?_)
          | (refine gate_dst (N := 35) rfl ?_; (first | refine gate_none rfl ?_ | refine gate_if rfl rfl rfl ?_); refine wpList_eql39 rfl _ _ _ rfl n.f5 k.f1 rfl rfl ?_; rw [HEA.out])
          | ((first | refine gate_none rfl ?_ | refine gate_if rfl rfl rfl ?_); refine wpList_load_one 3 _ rfl rfl _ _ _ _ _ _ _ rfl (S.out.get 2 rfl) rfl Try.underlying3 rfl ?_)
          | ((first | refine gate_none rfl ?_ | refine gate_if rfl rfl rfl ?_); refine wpList_load_one 9 _ rfl rfl _ _ _ _ _ _ _ rfl (S.out.get 2 rfl) rfl Try.underlying9 rfl ?_)
          | (refine gate_ (.load 36 (.tmp 3)) rfl ?_; (first | refine gate_none rfl ?_ | refine gate_if rfl rfl rfl ?_); refine wpList_load_row rfl 36 _ rfl _ rfl _ #[.slice A0 c.f0.length c0, .slice A1 c.f1.length c1, .slice A2 c.f2.length c2, .slice A3 c.f3.length c3, .slice A4 c.f4.length c4, .slice (some ad) c.f5.length c5, .slice A6 c.f6.length c6, .int .i64 c.f7] _ _ (S.out.get 0 rfl) Try.underlying36 rfl (by kernel_rfl) ?_)
          | (go_at_call 74; (with_reducible refine (HCA.out _ HCL.out _ S.out.below).mono ?_); rintro e w9 ⟨rfl, hb9⟩; replace S := Aside0.mk (S.out.call hb9); clear hb9)
          | fail)
            refine wp_region_later (by kernel_rfl) (by kernel_rfl) ?_
            have S2 := S
            repeat (first
              | go_big_quiet_skip
              | (refine quiet_load_row 36 (.tmp 3) rfl rfl _ #[.slice A0 c.f0.length c0, .slice A1 c.f1.length c1, .slice A2 c.f2.length c2, .slice A3 c.f3.length c3, .slice A4 c.f4.length c4, .slice (some ad) c.f5.length c5, .slice A6 c.f6.length c6, .int .i64 c.f7] 36 (0, 0) _ rfl (later_blk (S2.out.get 0 rfl)) Try.underlying36 rfl (by kernel_rfl) ?_; go_frame)
              | (refine quiet_load_blk 39 (.tmp 45) rfl rfl _ _ 2 [.int .u64 k.f1.f0, .int .u64 k.f1.f1] _ _ _ _ rfl (later_blk (S2.out.get 1 rfl)) rfl Try.underlying39 rfl (by kernel_rfl) ?_; go_frame)
              | (refine quiet_load_blk 39 (.tmp 50) rfl rfl _ _ 2 [.int .u64 n.f4.f0, .int .u64 n.f4.f1] _ _ _ _ rfl (later_blk (S2.out.get 2 rfl)) rfl Try.underlying39 rfl (by kernel_rfl) ?_; go_frame)
              | (refine quiet_load_blk 39 (.tmp 53) rfl rfl _ _ 2 [.int .u64 k.f1.f0, .int .u64 k.f1.f1] _ _ _ _ rfl (later_blk (S2.out.get 1 rfl)) rfl Try.underlying39 rfl (by kernel_rfl) ?_; go_frame)
              | (refine quiet_load_one 3 _ rfl rfl _ _ _ _ _ _ _ rfl (later_blk (S2.out.get 2 rfl)) rfl Try.underlying3 rfl ?_; go_frame)
              | (refine quiet_load_one 9 _ rfl rfl _ _ _ _ _ _ _ rfl (later_blk (S2.out.get 2 rfl)) rfl Try.underlying9 rfl ?_; go_frame)
              | go_big_quiet_step ((first | (go_at_call 75; with_reducible exact later_of (HWI.out _ HWIB.out _ (below_then S2.out.below S2.out.below.size (Later.below _)))) | (go_at_call 57; with_reducible exact later_of (HI4.out _)) | (go_at_call 57; with_reducible exact later_of (HI5.out _))))
              | quiet_step (fail))
            refine wpQuiet_nil ?_
            intro w7 hw7
            clear S2
            replace S := Aside0.mk (S.out.call (later_below hw7))
            clear hw7
            go_wp2
            go_roundw
            case rel => exact ⟨m + 1, by omega, by go_num, ⟨none_succ HX.out HNO.out HN.out⟩, ⟨S.out.erase 2⟩⟩
            case measure => simp [intOf]; omega
        | false =>
          clear hx31
          cases h1 : n.f0 == 1 with
          | false =>
            have HNO := Aside0.mk (show srcB c out k n = false by rw [HS0.out, h3, h1]; rfl)
            go_wp2_with (first
          | (refine gate_ (.load 39 (.tmp 31)) rfl ?_; (first | refine gate_none rfl ?_ | refine gate_if rfl rfl rfl ?_); refine wpList_load_blk rfl 39 _ rfl _ _ 2 [.int .u64 n.f5.f0, .int .u64 n.f5.f1] _ _ _ _ rfl (S.out.get 2 rfl) rfl Try.underlying39 rfl (by kernel_rfl) ?_)
          | (refine gate_ (.load 39 (.tmp 33)) rfl ?_; (first | refine gate_none rfl ?_ | refine gate_if rfl rfl rfl ?_); refine wpList_load_blk rfl 39 _ rfl _ _ 2 [.int .u64 k.f1.f0, .int .u64 k.f1.f1] _ _ _ _ rfl (S.out.get 1 rfl) rfl Try.underlying39 rfl (by kernel_rfl) ?_)
          | (refine gate_dst (N := 35) rfl ?_; (first | refine gate_none rfl ?_ | refine gate_if rfl rfl rfl ?_); refine wpList_eql39 rfl _ _ _ rfl n.f5 k.f1 rfl rfl ?_; rw [HEA.out])
          | ((first | refine gate_none rfl ?_ | refine gate_if rfl rfl rfl ?_); refine wpList_load_one 3 _ rfl rfl _ _ _ _ _ _ _ rfl (S.out.get 2 rfl) rfl Try.underlying3 rfl ?_)
          | ((first | refine gate_none rfl ?_ | refine gate_if rfl rfl rfl ?_); refine wpList_load_one 9 _ rfl rfl _ _ _ _ _ _ _ rfl (S.out.get 2 rfl) rfl Try.underlying9 rfl ?_)
          | (refine gate_ (.load 36 (.tmp 3)) rfl ?_; (first | refine gate_none rfl ?_ | refine gate_if rfl rfl rfl ?_); refine wpList_load_row rfl 36 _ rfl _ rfl _ #[.slice A0 c.f0.length c0, .slice A1 c.f1.length c1, .slice A2 c.f2.length c2, .slice A3 c.f3.length c3, .slice A4 c.f4.length c4, .slice (some ad) c.f5.length c5, .slice A6 c.f6.length c6, .int .i64 c.f7] _ _ (S.out.get 0 rfl) Try.underlying36 rfl (by kernel_rfl) ?_)
          | (go_at_call 74; (with_reducible refine (HCA.out _ HCL.out _ S.out.below).mono ?_); rintro e w9 ⟨rfl, hb9⟩; replace S := Aside0.mk (S.out.call hb9); clear hb9)
          | fail)
            refine wp_region_later (by kernel_rfl) (by kernel_rfl) ?_
            have S2 := S
            repeat (first
              | go_big_quiet_skip
              | (refine quiet_load_row 36 (.tmp 3) rfl rfl _ #[.slice A0 c.f0.length c0, .slice A1 c.f1.length c1, .slice A2 c.f2.length c2, .slice A3 c.f3.length c3, .slice A4 c.f4.length c4, .slice (some ad) c.f5.length c5, .slice A6 c.f6.length c6, .int .i64 c.f7] 36 (0, 0) _ rfl (later_blk (S2.out.get 0 rfl)) Try.underlying36 rfl (by kernel_rfl) ?_; go_frame)
              | (refine quiet_load_blk 39 (.tmp 45) rfl rfl _ _ 2 [.int .u64 k.f1.f0, .int .u64 k.f1.f1] _ _ _ _ rfl (later_blk (S2.out.get 1 rfl)) rfl Try.underlying39 rfl (by kernel_rfl) ?_; go_frame)
              | (refine quiet_load_blk 39 (.tmp 50) rfl rfl _ _ 2 [.int .u64 n.f4.f0, .int .u64 n.f4.f1] _ _ _ _ rfl (later_blk (S2.out.get 2 rfl)) rfl Try.underlying39 rfl (by kernel_rfl) ?_; go_frame)
              | (refine quiet_load_blk 39 (.tmp 53) rfl rfl _ _ 2 [.int .u64 k.f1.f0, .int .u64 k.f1.f1] _ _ _ _ rfl (later_blk (S2.out.get 1 rfl)) rfl Try.underlying39 rfl (by kernel_rfl) ?_; go_frame)
              | (refine quiet_load_one 3 _ rfl rfl _ _ _ _ _ _ _ rfl (later_blk (S2.out.get 2 rfl)) rfl Try.underlying3 rfl ?_; go_frame)
              | (refine quiet_load_one 9 _ rfl rfl _ _ _ _ _ _ _ rfl (later_blk (S2.out.get 2 rfl)) rfl Try.underlying9 rfl ?_; go_frame)
              | go_big_quiet_step ((first | (go_at_call 75; with_reducible exact later_of (HWI.out _ HWIB.out _ (below_then S2.out.below S2.out.below.size (Later.below _)))) | (go_at_call 57; with_reducible exact later_of (HI4.out _)) | (go_at_call 57; with_reducible exact later_of (HI5.out _))))
              | quiet_step (fail))
            refine wpQuiet_nil ?_
            intro w7 hw7
            clear S2
            replace S := Aside0.mk (S.out.call (later_below hw7))
            clear hw7
            go_wp2
            go_roundw
            case rel => exact ⟨m + 1, by omega, by go_num, ⟨none_succ HX.out HNO.out HN.out⟩, ⟨S.out.erase 2⟩⟩
            case measure => simp [intOf]; omega
          | true =>
            cases wi with
            | false =>
              have HNO := Aside0.mk (show srcB c out k n = false by rw [HS0.out, h3, h1]; rfl)
              go_wp2_with (first
          | (refine gate_ (.load 39 (.tmp 31)) rfl ?_; (first | refine gate_none rfl ?_ | refine gate_if rfl rfl rfl ?_); refine wpList_load_blk rfl 39 _ rfl _ _ 2 [.int .u64 n.f5.f0, .int .u64 n.f5.f1] _ _ _ _ rfl (S.out.get 2 rfl) rfl Try.underlying39 rfl (by kernel_rfl) ?_)
          | (refine gate_ (.load 39 (.tmp 33)) rfl ?_; (first | refine gate_none rfl ?_ | refine gate_if rfl rfl rfl ?_); refine wpList_load_blk rfl 39 _ rfl _ _ 2 [.int .u64 k.f1.f0, .int .u64 k.f1.f1] _ _ _ _ rfl (S.out.get 1 rfl) rfl Try.underlying39 rfl (by kernel_rfl) ?_)
          | (refine gate_dst (N := 35) rfl ?_; (first | refine gate_none rfl ?_ | refine gate_if rfl rfl rfl ?_); refine wpList_eql39 rfl _ _ _ rfl n.f5 k.f1 rfl rfl ?_; rw [HEA.out])
          | ((first | refine gate_none rfl ?_ | refine gate_if rfl rfl rfl ?_); refine wpList_load_one 3 _ rfl rfl _ _ _ _ _ _ _ rfl (S.out.get 2 rfl) rfl Try.underlying3 rfl ?_)
          | ((first | refine gate_none rfl ?_ | refine gate_if rfl rfl rfl ?_); refine wpList_load_one 9 _ rfl rfl _ _ _ _ _ _ _ rfl (S.out.get 2 rfl) rfl Try.underlying9 rfl ?_)
          | (refine gate_ (.load 36 (.tmp 3)) rfl ?_; (first | refine gate_none rfl ?_ | refine gate_if rfl rfl rfl ?_); refine wpList_load_row rfl 36 _ rfl _ rfl _ #[.slice A0 c.f0.length c0, .slice A1 c.f1.length c1, .slice A2 c.f2.length c2, .slice A3 c.f3.length c3, .slice A4 c.f4.length c4, .slice (some ad) c.f5.length c5, .slice A6 c.f6.length c6, .int .i64 c.f7] _ _ (S.out.get 0 rfl) Try.underlying36 rfl (by kernel_rfl) ?_)
          | (go_at_call 74; (with_reducible refine (HCA.out _ HCL.out _ S.out.below).mono ?_); rintro e w9 ⟨rfl, hb9⟩; replace S := Aside0.mk (S.out.call hb9); clear hb9)
          | fail)
              refine wp_region_later (by kernel_rfl) (by kernel_rfl) ?_
              have S2 := S
              repeat (first
                | go_big_quiet_skip
                | (refine quiet_load_row 36 (.tmp 3) rfl rfl _ #[.slice A0 c.f0.length c0, .slice A1 c.f1.length c1, .slice A2 c.f2.length c2, .slice A3 c.f3.length c3, .slice A4 c.f4.length c4, .slice (some ad) c.f5.length c5, .slice A6 c.f6.length c6, .int .i64 c.f7] 36 (0, 0) _ rfl (later_blk (S2.out.get 0 rfl)) Try.underlying36 rfl (by kernel_rfl) ?_; go_frame)
                | (refine quiet_load_blk 39 (.tmp 45) rfl rfl _ _ 2 [.int .u64 k.f1.f0, .int .u64 k.f1.f1] _ _ _ _ rfl (later_blk (S2.out.get 1 rfl)) rfl Try.underlying39 rfl (by kernel_rfl) ?_; go_frame)
                | (refine quiet_load_blk 39 (.tmp 50) rfl rfl _ _ 2 [.int .u64 n.f4.f0, .int .u64 n.f4.f1] _ _ _ _ rfl (later_blk (S2.out.get 2 rfl)) rfl Try.underlying39 rfl (by kernel_rfl) ?_; go_frame)
                | (refine quiet_load_blk 39 (.tmp 53) rfl rfl _ _ 2 [.int .u64 k.f1.f0, .int .u64 k.f1.f1] _ _ _ _ rfl (later_blk (S2.out.get 1 rfl)) rfl Try.underlying39 rfl (by kernel_rfl) ?_; go_frame)
                | (refine quiet_load_one 3 _ rfl rfl _ _ _ _ _ _ _ rfl (later_blk (S2.out.get 2 rfl)) rfl Try.underlying3 rfl ?_; go_frame)
                | (refine quiet_load_one 9 _ rfl rfl _ _ _ _ _ _ _ rfl (later_blk (S2.out.get 2 rfl)) rfl Try.underlying9 rfl ?_; go_frame)
                | go_big_quiet_step ((first | (go_at_call 75; with_reducible exact later_of (HWI.out _ HWIB.out _ (below_then S2.out.below S2.out.below.size (Later.below _)))) | (go_at_call 57; with_reducible exact later_of (HI4.out _)) | (go_at_call 57; with_reducible exact later_of (HI5.out _))))
                | quiet_step (fail))
              refine wpQuiet_nil ?_
              intro w7 hw7
              clear S2
              replace S := Aside0.mk (S.out.call (later_below hw7))
              clear hw7
              go_wp2
              go_roundw
              case rel => exact ⟨m + 1, by omega, by go_num, ⟨none_succ HX.out HNO.out HN.out⟩, ⟨S.out.erase 2⟩⟩
              case measure => simp [intOf]; omega
            | true =>
              go_wp2_with (first
          | (refine gate_ (.load 39 (.tmp 31)) rfl ?_; (first | refine gate_none rfl ?_ | refine gate_if rfl rfl rfl ?_); refine wpList_load_blk rfl 39 _ rfl _ _ 2 [.int .u64 n.f5.f0, .int .u64 n.f5.f1] _ _ _ _ rfl (S.out.get 2 rfl) rfl Try.underlying39 rfl (by kernel_rfl) ?_)
          | (refine gate_ (.load 39 (.tmp 33)) rfl ?_; (first | refine gate_none rfl ?_ | refine gate_if rfl rfl rfl ?_); refine wpList_load_blk rfl 39 _ rfl _ _ 2 [.int .u64 k.f1.f0, .int .u64 k.f1.f1] _ _ _ _ rfl (S.out.get 1 rfl) rfl Try.underlying39 rfl (by kernel_rfl) ?_)
          | (refine gate_dst (N := 35) rfl ?_; (first | refine gate_none rfl ?_ | refine gate_if rfl rfl rfl ?_); refine wpList_eql39 rfl _ _ _ rfl n.f5 k.f1 rfl rfl ?_; rw [HEA.out])
          | ((first | refine gate_none rfl ?_ | refine gate_if rfl rfl rfl ?_); refine wpList_load_one 3 _ rfl rfl _ _ _ _ _ _ _ rfl (S.out.get 2 rfl) rfl Try.underlying3 rfl ?_)
          | ((first | refine gate_none rfl ?_ | refine gate_if rfl rfl rfl ?_); refine wpList_load_one 9 _ rfl rfl _ _ _ _ _ _ _ rfl (S.out.get 2 rfl) rfl Try.underlying9 rfl ?_)
          | (refine gate_ (.load 36 (.tmp 3)) rfl ?_; (first | refine gate_none rfl ?_ | refine gate_if rfl rfl rfl ?_); refine wpList_load_row rfl 36 _ rfl _ rfl _ #[.slice A0 c.f0.length c0, .slice A1 c.f1.length c1, .slice A2 c.f2.length c2, .slice A3 c.f3.length c3, .slice A4 c.f4.length c4, .slice (some ad) c.f5.length c5, .slice A6 c.f6.length c6, .int .i64 c.f7] _ _ (S.out.get 0 rfl) Try.underlying36 rfl (by kernel_rfl) ?_)
          | (go_at_call 74; (with_reducible refine (HCA.out _ HCL.out _ S.out.below).mono ?_); rintro e w9 ⟨rfl, hb9⟩; replace S := Aside0.mk (S.out.call hb9); clear hb9)
          | fail)
              refine wp_region_later (by kernel_rfl) (by kernel_rfl) ?_
              have S2 := S
              repeat (first
                | go_big_quiet_skip
                | (refine quiet_load_row 36 (.tmp 3) rfl rfl _ #[.slice A0 c.f0.length c0, .slice A1 c.f1.length c1, .slice A2 c.f2.length c2, .slice A3 c.f3.length c3, .slice A4 c.f4.length c4, .slice (some ad) c.f5.length c5, .slice A6 c.f6.length c6, .int .i64 c.f7] 36 (0, 0) _ rfl (later_blk (S2.out.get 0 rfl)) Try.underlying36 rfl (by kernel_rfl) ?_; go_frame)
                | (refine quiet_load_blk 39 (.tmp 45) rfl rfl _ _ 2 [.int .u64 k.f1.f0, .int .u64 k.f1.f1] _ _ _ _ rfl (later_blk (S2.out.get 1 rfl)) rfl Try.underlying39 rfl (by kernel_rfl) ?_; go_frame)
                | (refine quiet_load_blk 39 (.tmp 50) rfl rfl _ _ 2 [.int .u64 n.f4.f0, .int .u64 n.f4.f1] _ _ _ _ rfl (later_blk (S2.out.get 2 rfl)) rfl Try.underlying39 rfl (by kernel_rfl) ?_; go_frame)
                | (refine quiet_load_blk 39 (.tmp 53) rfl rfl _ _ 2 [.int .u64 k.f1.f0, .int .u64 k.f1.f1] _ _ _ _ rfl (later_blk (S2.out.get 1 rfl)) rfl Try.underlying39 rfl (by kernel_rfl) ?_; go_frame)
                | (refine quiet_load_one 3 _ rfl rfl _ _ _ _ _ _ _ rfl (later_blk (S2.out.get 2 rfl)) rfl Try.underlying3 rfl ?_; go_frame)
                | (refine quiet_load_one 9 _ rfl rfl _ _ _ _ _ _ _ rfl (later_blk (S2.out.get 2 rfl)) rfl Try.underlying9 rfl ?_; go_frame)
                | go_big_quiet_step ((first | (go_at_call 75; with_reducible exact later_of (HWI.out _ HWIB.out _ (below_then S2.out.below S2.out.below.size (Later.below _)))) | (go_at_call 57; with_reducible exact later_of (HI4.out _)) | (go_at_call 57; with_reducible exact later_of (HI5.out _))))
                | quiet_step (fail))
              refine wpQuiet_nil ?_
              intro w7 hw7
              clear S2
              replace S := Aside0.mk (S.out.call (later_below hw7))
              clear hw7
              cases b4 <;> cases b5
              · have H := Aside0.mk (show sourceF c out k = m from idxF_at HX.out (show srcB c out k n = true by rw [HS0.out, h3, h1]; rfl) HN.out)
                go_wp2
                go_ret
                exact ⟨by rw [H.out]; rfl, S.out.below⟩
              · have HNO := Aside0.mk (show srcB c out k n = false by rw [HS0.out, h3, h1]; rfl)
                go_wp2
                go_roundw
                case rel => exact ⟨m + 1, by omega, by go_num, ⟨none_succ HX.out HNO.out HN.out⟩, ⟨S.out.erase 2⟩⟩
                case measure => simp [intOf]; omega
              · have HNO := Aside0.mk (show srcB c out k n = false by rw [HS0.out, h3, h1]; rfl)
                go_wp2
                go_roundw
                case rel => exact ⟨m + 1, by omega, by go_num, ⟨none_succ HX.out HNO.out HN.out⟩, ⟨S.out.erase 2⟩⟩
                case measure => simp [intOf]; omega
              · have H := Aside0.mk (show sourceF c out k = m from idxF_at HX.out (show srcB c out k n = true by rw [HS0.out, h3, h1]; rfl) HN.out)
                go_wp2
                go_ret
                exact ⟨by rw [H.out]; rfl, S.out.below⟩
    · have H := Aside0.mk (show sourceF c out k = -1 from idxF_none (fun j hj => HN.out j (by omega)))
      go_wp2_with (first
        | ((first | refine gate_none rfl ?_ | refine gate_if rfl rfl rfl ?_); refine wpList_load_one 33 _ rfl rfl _ _ _ _ _ _ _ rfl (S.out.get 0 rfl) rfl Try.underlying33 rfl ?_)
        | fail)
      go_ret
      exact ⟨by rw [H.out]; rfl, S.out.below⟩
end Go.Proofs.Ytgppfpfdoooijaa
