/- The law NatFree, walked: it answers true. -/
import Derived.Test.YtgppfpfdoooijaaRefMake
import Derived.Test.YtgppfpfdoooijaaEqP
import Derived.Test.YtgppfpfdoooijaaHeavy
import Derived.Test.YtgppfpfdoooijaaSlc
import Derived.Test.YtgppfpfdoooijaaPlanLaw
namespace Go.Proofs.Ytgppfpfdoooijaa
open Go.RowKit Go.Proofs.YtgppfpfdoooijaaW.PrintWords
set_option linter.unusedVariables false
set_option linter.unusedSimpArgs false
attribute [local go_sem] Later.cell_eq

theorem eqA_self (x : S39) : eqA x x = true := (eqA_iff x x).2 rfl


set_option maxRecDepth 100000 in
set_option maxHeartbeats 8000000 in
theorem natFree_any (c : S36) (cs : List Value) (inn : Int) (k : S51) (l : List S51) (A : Option Addr) (cap : Nat) (w : World) (hc : k36.K w c cs) (hf : Fits c) (hC : k51.C w A l.length l) :
    Calls Try.prog 13 #[.agg cs.toArray, .int .i64 inn, .agg #[.int .i64 k.f0, .int .u64 k.f1.f0, .int .u64 k.f1.f1, .int .u64 k.f2.f0, .int .u64 k.f2.f1, .int .i64 k.f3, .int .i64 k.f4], .slice A l.length cap] w fun e w' => e = .returned (.bool true) ∧ Below w.heap.size w w' := by
  have HK := Aside0.mk hc
  have HF := Aside0.mk hf
  have HCC := Aside0.mk hC
  have hmax : l.length ≤ 9223372036854775807 := Kd.C_max hC
  obtain ⟨A0, c0, A1, c1, A2, c2, A3, c3, A4, c4, A5, c5, A6, c6, rfl, l0, g0, l1, g1, l2, g2, l3, g3, l4, g4, l5, g5, l6, g6⟩ := k36_open hc
  clear hc hf hC l0 g0 l1 g1 l2 g2 l3 g3 l4 g4 l5 g5 l6 g6
  obtain ⟨pl, hpl⟩ : ∃ pl, pl = makeF c inn k l := ⟨_, rfl⟩
  have HM := Aside0.mk (fun W (hW : Below w.heap.size w W) => show Calls Try.prog 27 #[.agg #[.slice A0 c.f0.length c0, .slice A1 c.f1.length c1, .slice A2 c.f2.length c2, .slice A3 c.f3.length c3, .slice A4 c.f4.length c4, .slice A5 c.f5.length c5, .slice A6 c.f6.length c6, .int .i64 c.f7], .int .i64 inn, .agg #[.int .i64 k.f0, .int .u64 k.f1.f0, .int .u64 k.f1.f1, .int .u64 k.f2.f0, .int .u64 k.f2.f1, .int .i64 k.f3, .int .i64 k.f4], .slice A l.length cap] W (fun e w' => e = .returned (.tuple #[.agg (plA pl.1), .int .i64 pl.2]) ∧ Below W.heap.size W w') by
    rw [hpl]; exact make_any c _ inn k l A cap W (k36.K_below hW HK.out) (Kd.C_below HCC.out hW))
  have HR := Aside0.mk (fun W (hW : Below w.heap.size w W) => show Calls Try.prog 29 #[.agg #[.slice A0 c.f0.length c0, .slice A1 c.f1.length c1, .slice A2 c.f2.length c2, .slice A3 c.f3.length c3, .slice A4 c.f4.length c4, .slice A5 c.f5.length c5, .slice A6 c.f6.length c6, .int .i64 c.f7], .int .i64 inn, .agg #[.int .i64 k.f0, .int .u64 k.f1.f0, .int .u64 k.f1.f1, .int .u64 k.f2.f0, .int .u64 k.f2.f1, .int .i64 k.f3, .int .i64 k.f4], .slice A l.length cap] W (fun e w' => e = .returned (.tuple #[.agg (plA pl.1), .int .i64 pl.2]) ∧ Below W.heap.size W w') by
    rw [hpl]; exact refmake_any c _ inn k l A cap W (k36.K_below hW HK.out) (Kd.C_below HCC.out hW))
  have HP := Aside0.mk (make_cases c inn k l)
  rw [← hpl] at HP
  clear hpl
  go_enter Try.func13, Try.ntmps13
  go_upto_region 1 with fail
  have S := Aside0.mk (((St.nil w).alloc (.cells #[.slice A0 c.f0.length c0, .slice A1 c.f1.length c1, .slice A2 c.f2.length c2, .slice A3 c.f3.length c3, .slice A4 c.f4.length c4, .slice A5 c.f5.length c5, .slice A6 c.f6.length c6, .int .i64 c.f7] 36)).alloc (.cells #[.int .i64 k.f0, .int .u64 k.f1.f0, .int .u64 k.f1.f1, .int .u64 k.f2.f0, .int .u64 k.f2.f1, .int .i64 k.f3, .int .i64 k.f4] 51))
  simp only [World.size_alloc, List.nil_append, List.cons_append] at S
  generalize World.alloc _ _ = W0 at *
  go_wp2_with (first
    | (refine gate_ (.load 36 (.tmp 4)) rfl ?_; refine wpList_load_row rfl 36 _ rfl _ rfl 36 #[.slice A0 c.f0.length c0, .slice A1 c.f1.length c1, .slice A2 c.f2.length c2, .slice A3 c.f3.length c3, .slice A4 c.f4.length c4, .slice A5 c.f5.length c5, .slice A6 c.f6.length c6, .int .i64 c.f7] (0, 0) _ (S.out.get 0 rfl) Try.underlying36 rfl (by kernel_rfl) ?_)
    | (go_at_call 26; refine Aside0.out ?_)
    | fail)
  refine Aside0.mk ?_
  refine (heavy26_any c _ _ (k36.K_below S.out.below HK.out) HF.out).mono ?_
  rintro e w1 ⟨b, rfl, hle, hb1⟩
  replace S := Aside0.mk (S.out.call hb1)
  clear hle hb1
  cases b with
  | true =>
    go_wp2_with fail
    go_ret
    exact ⟨rfl, S.out.below⟩
  | false =>
    by_cases hmore : (256 : Int) < l.length
    · have hd : decide ((256 : Int) < l.length) = true := by simpa using hmore
      go_wp2_with fail
      go_ret
      exact ⟨rfl, S.out.below⟩
    have hd : decide ((256 : Int) < l.length) = false := by simpa using hmore
    clear hmore
    have hnn : (pl.2 == pl.2) = true := by simp
    go_upto_region 5 with (first
      | (refine gate_ (.load 36 (.tmp 4)) rfl ?_; refine wpList_load_row rfl 36 _ rfl _ rfl 36 #[.slice A0 c.f0.length c0, .slice A1 c.f1.length c1, .slice A2 c.f2.length c2, .slice A3 c.f3.length c3, .slice A4 c.f4.length c4, .slice A5 c.f5.length c5, .slice A6 c.f6.length c6, .int .i64 c.f7] (0, 0) _ (S.out.get 0 rfl) Try.underlying36 rfl (by kernel_rfl) ?_)
      | (refine gate_ (.load 51 (.tmp 6)) rfl ?_; (first | refine gate_none rfl ?_ | refine gate_if rfl rfl rfl ?_); refine wpList_load_row rfl 51 _ rfl _ rfl 51 #[.int .i64 k.f0, .int .u64 k.f1.f0, .int .u64 k.f1.f1, .int .u64 k.f2.f0, .int .u64 k.f2.f1, .int .i64 k.f3, .int .i64 k.f4] (0, 0) _ (S.out.get 1 rfl) Try.underlying51 rfl (by kernel_rfl) ?_)
      | (go_at_call 27; (with_reducible refine (HM.out _ S.out.below).mono ?_); rintro e w9 ⟨rfl, hb9⟩; replace S := Aside0.mk (S.out.call hb9); clear hb9)
      | (go_at_call 29; (with_reducible refine (HR.out _ S.out.below).mono ?_); rintro e w9 ⟨rfl, hb9⟩; replace S := Aside0.mk (S.out.call hb9); clear hb9)
      | (refine gate_ (.store 71 (.tmp 9) (.tmp 28)) rfl ?_; refine wpList_store_all rfl 71 _ _ rfl _ (plA pl.1) _ _ rfl rfl (heap_alloc_new _ _) rfl (plA_info _) (plA_one _) ?_; intro w7 hb7 hg7 hz7; replace S := Aside0.mk (S.out.made hg7 hb7); clear hb7 hg7 hz7)
      | (refine gate_ (.store 76 (.tmp 11) (.tmp 36)) rfl ?_; refine wpList_store_all rfl 76 _ _ rfl _ (plA pl.1) _ _ rfl rfl (heap_alloc_new _ _) rfl (plA_info76 _) (plA_one _) ?_; intro w8 hb8 hg8 hz8; replace S := Aside0.mk (S.out.made hg8 hb8); clear hb8 hg8 hz8)
      | fail)
    simp only [List.cons_append, List.nil_append] at S
    clear HM HR
    rcases HP.out with ⟨a, d, s, t, q, i, z, hpl, hfr⟩ | ⟨r, hr, hpl⟩
    · obtain ⟨rfl⟩ : pl = ((⟨⟨k.f0, k.f1, d, k.f3, q⟩, k, ⟨k.f0, a, d, s, t⟩, turnK ⟨k.f0, a, d, s, t⟩, turnK k, i, z⟩ : PL), 0) := hpl
      obtain ⟨hbk, hin⟩ := free_of hfr
      have HBK := Aside0.mk hbk
      have HIN := Aside0.mk hin
      clear HP hfr hbk hin hnn
      go_wp2_with fail
      obtain ⟨Wl, hWl⟩ : ∃ Wl, Wl = w8 := ⟨_, rfl⟩
      rw [← hWl] at S ⊢
      clear hWl
      go_loopw [13] (fun v wr => ∃ j : Nat, j ≤ l.length ∧ v = .int .i64 j ∧ Aside0 (Below Wl.heap.size Wl wr)) (fun v _ => l.length - (intOf v).toNat)
      case atStart => exact ⟨0, Nat.zero_le _, rfl, ⟨Below.refl _ _⟩⟩
      case round =>
        obtain ⟨j, hj, rfl, HBR⟩ := hrel
        replace S := Aside0.mk (S.out.call HBR.out)
        by_cases hlt : j < l.length
        · obtain ⟨x, hx⟩ : ∃ x, x = l.getD j z51 := ⟨_, rfl⟩
          have HX0 := Aside0.mk (HIN.out x (by rw [hx, List.getD_eq_getElem?_getD, List.getElem?_eq_getElem hlt]; exact List.getElem_mem hlt))
          obtain ⟨ad, c2', rfl, hK2, hc2'⟩ := elem_at (Kd.C_below HCC.out S.out.below) z51 j hlt
          rw [← hx] at hK2
          have e2 := k51_open hK2
          subst e2
          rw [show k51.sz = 7 from rfl] at hc2'
          have HY := Aside0.mk hc2'
          clear hx hK2 hc2'
          go_upto_region 12 with fail
          refine wp_region_later (by kernel_rfl) (by kernel_rfl) ?_
          repeat (first
            | go_big_quiet_skip
            | (refine quiet_load_at 51 (.tmp 54) rfl rfl (ad.add (j * 7)) [.int .i64 (x).f0, .int .u64 (x).f1.f0, .int .u64 (x).f1.f1, .int .u64 (x).f2.f0, .int .u64 (x).f2.f1, .int .i64 (x).f3, .int .i64 (x).f4] _ rfl (later_cells HY.out) Try.underlying51 rfl (by kernel_rfl) ?_; go_frame)
            | (refine quiet_load_blk 51 (.tmp 56) rfl rfl _ _ 7 [.int .i64 (turnK (⟨k.f0, a, d, s, t⟩ : S51)).f0, .int .u64 (turnK (⟨k.f0, a, d, s, t⟩ : S51)).f1.f0, .int .u64 (turnK (⟨k.f0, a, d, s, t⟩ : S51)).f1.f1, .int .u64 (turnK (⟨k.f0, a, d, s, t⟩ : S51)).f2.f0, .int .u64 (turnK (⟨k.f0, a, d, s, t⟩ : S51)).f2.f1, .int .i64 (turnK (⟨k.f0, a, d, s, t⟩ : S51)).f3, .int .i64 (turnK (⟨k.f0, a, d, s, t⟩ : S51)).f4] (plA (⟨⟨k.f0, k.f1, d, k.f3, q⟩, k, ⟨k.f0, a, d, s, t⟩, turnK ⟨k.f0, a, d, s, t⟩, turnK k, i, z⟩ : PL)) 71 (0, 0) _ rfl (later_blk (S.out.get 2 rfl)) (by kernel_rfl) Try.underlying51 rfl (by kernel_rfl) ?_; go_frame)
            | (refine quiet_eql51 rfl _ _ _ rfl x (turnK (⟨k.f0, a, d, s, t⟩ : S51)) rfl rfl ?_; rw [HX0.out]; go_frame)
            | go_big_quiet_step (fail)
            | fail)
          refine wpQuiet_nil ?_
          intro w8 hw8
          have HB8 := Aside0.mk (below_then HBR.out HBR.out.size (later_below hw8))
          clear hw8
          go_wp2_with fail
          go_roundw
          case rel => exact ⟨j + 1, by omega, by go_num, HB8⟩
          case measure => simp [intOf]; omega
        · obtain rfl : j = l.length := by omega
          have q4 : (k.f4 == k.f4) = true := by simp
          have q3 : (k.f3 == k.f3) = true := by simp
          have q0 : (k.f0 == k.f0) = true := by simp
          have HKK := Aside0.mk (eqK_self k)
          have HTT := Aside0.mk (eqK_self (turnK (⟨k.f0, a, d, s, t⟩ : S51)))
          clear HIN HBR
          go_upto_region 15 with (first
            | (refine gate_ (.load 51 (.tmp 59)) rfl ?_; (first | refine gate_none rfl ?_ | refine gate_if rfl rfl rfl ?_); refine wpList_load_blk rfl 51 _ rfl _ _ 7 [.int .i64 ((⟨k.f0, a, d, s, t⟩ : S51)).f0, .int .u64 ((⟨k.f0, a, d, s, t⟩ : S51)).f1.f0, .int .u64 ((⟨k.f0, a, d, s, t⟩ : S51)).f1.f1, .int .u64 ((⟨k.f0, a, d, s, t⟩ : S51)).f2.f0, .int .u64 ((⟨k.f0, a, d, s, t⟩ : S51)).f2.f1, .int .i64 ((⟨k.f0, a, d, s, t⟩ : S51)).f3, .int .i64 ((⟨k.f0, a, d, s, t⟩ : S51)).f4] (plA (⟨⟨k.f0, k.f1, d, k.f3, q⟩, k, ⟨k.f0, a, d, s, t⟩, turnK ⟨k.f0, a, d, s, t⟩, turnK k, i, z⟩ : PL)) 71 (0, 0) _ rfl (S.out.get 2 rfl) (by kernel_rfl) Try.underlying51 rfl (by kernel_rfl) ?_)
            | (go_at_call 28; (with_reducible refine (refturned_any (⟨k.f0, a, d, s, t⟩ : S51) _).mono ?_); rintro e w9 ⟨rfl, hb9⟩; replace S := Aside0.mk (S.out.call hb9); clear hb9)
            | (refine gate_ (.store 51 (.tmp 14) (.tmp 61)) rfl ?_; refine wpList_store_all rfl 51 _ _ rfl _ #[.int .i64 (turnK (⟨k.f0, a, d, s, t⟩ : S51)).f0, .int .u64 (turnK (⟨k.f0, a, d, s, t⟩ : S51)).f1.f0, .int .u64 (turnK (⟨k.f0, a, d, s, t⟩ : S51)).f1.f1, .int .u64 (turnK (⟨k.f0, a, d, s, t⟩ : S51)).f2.f0, .int .u64 (turnK (⟨k.f0, a, d, s, t⟩ : S51)).f2.f1, .int .i64 (turnK (⟨k.f0, a, d, s, t⟩ : S51)).f3, .int .i64 (turnK (⟨k.f0, a, d, s, t⟩ : S51)).f4] _ _ rfl rfl (heap_alloc_new _ _) rfl (by kernel_rfl) (by simp [Value.oneCell']) ?_; intro w7 hb7 hg7 hz7; replace S := Aside0.mk (S.out.made hg7 hb7); clear hb7 hg7 hz7)
            | fail)
          simp only [List.append]
          go_wp2_with (first
            | (refine gate_ (.load 51 (.tmp 62)) rfl ?_; (first | refine gate_none rfl ?_ | refine gate_if rfl rfl rfl ?_); refine wpList_load_blk rfl 51 _ rfl _ _ 7 [.int .i64 (turnK (⟨k.f0, a, d, s, t⟩ : S51)).f0, .int .u64 (turnK (⟨k.f0, a, d, s, t⟩ : S51)).f1.f0, .int .u64 (turnK (⟨k.f0, a, d, s, t⟩ : S51)).f1.f1, .int .u64 (turnK (⟨k.f0, a, d, s, t⟩ : S51)).f2.f0, .int .u64 (turnK (⟨k.f0, a, d, s, t⟩ : S51)).f2.f1, .int .i64 (turnK (⟨k.f0, a, d, s, t⟩ : S51)).f3, .int .i64 (turnK (⟨k.f0, a, d, s, t⟩ : S51)).f4] (plA (⟨⟨k.f0, k.f1, d, k.f3, q⟩, k, ⟨k.f0, a, d, s, t⟩, turnK ⟨k.f0, a, d, s, t⟩, turnK k, i, z⟩ : PL)) 71 (0, 0) _ rfl (S.out.get 2 rfl) (by kernel_rfl) Try.underlying51 rfl (by kernel_rfl) ?_)
            | (refine gate_ (.load 51 (.tmp 64)) rfl ?_; (first | refine gate_none rfl ?_ | refine gate_if rfl rfl rfl ?_); refine wpList_load_blk rfl 51 _ rfl _ _ 7 [.int .i64 k.f0, .int .u64 k.f1.f0, .int .u64 k.f1.f1, .int .u64 k.f2.f0, .int .u64 k.f2.f1, .int .i64 k.f3, .int .i64 k.f4] (plA (⟨⟨k.f0, k.f1, d, k.f3, q⟩, k, ⟨k.f0, a, d, s, t⟩, turnK ⟨k.f0, a, d, s, t⟩, turnK k, i, z⟩ : PL)) 71 (0, 0) _ rfl (S.out.get 2 rfl) (by kernel_rfl) Try.underlying51 rfl (by kernel_rfl) ?_)
            | (refine gate_dst (N := 66) rfl ?_; refine wpList_neq51 rfl _ _ _ rfl (turnK (⟨k.f0, a, d, s, t⟩ : S51)) k rfl rfl ?_; rw [HBK.out])
            | (refine gate_ (.load 51 (.tmp 68)) rfl ?_; (first | refine gate_none rfl ?_ | refine gate_if rfl rfl rfl ?_); refine wpList_load_blk rfl 51 _ rfl _ _ 7 [.int .i64 k.f0, .int .u64 k.f1.f0, .int .u64 k.f1.f1, .int .u64 k.f2.f0, .int .u64 k.f2.f1, .int .i64 k.f3, .int .i64 k.f4] (plA (⟨⟨k.f0, k.f1, d, k.f3, q⟩, k, ⟨k.f0, a, d, s, t⟩, turnK ⟨k.f0, a, d, s, t⟩, turnK k, i, z⟩ : PL)) 71 (0, 0) _ rfl (S.out.get 2 rfl) (by kernel_rfl) Try.underlying51 rfl (by kernel_rfl) ?_)
            | (refine gate_ (.load 51 (.tmp 6)) rfl ?_; (first | refine gate_none rfl ?_ | refine gate_if rfl rfl rfl ?_); refine wpList_load_row rfl 51 _ rfl _ rfl 51 #[.int .i64 k.f0, .int .u64 k.f1.f0, .int .u64 k.f1.f1, .int .u64 k.f2.f0, .int .u64 k.f2.f1, .int .i64 k.f3, .int .i64 k.f4] (0, 0) _ (S.out.get 1 rfl) Try.underlying51 rfl (by kernel_rfl) ?_)
            | (refine gate_dst (N := 71) rfl ?_; (first | refine gate_none rfl ?_ | refine gate_if rfl rfl rfl ?_); refine wpList_eql51 rfl _ _ _ rfl (k) (k) rfl rfl ?_; rw [HKK.out])
            | (refine gate_ (.load 51 (.tmp 74)) rfl ?_; (first | refine gate_none rfl ?_ | refine gate_if rfl rfl rfl ?_); refine wpList_load_blk rfl 51 _ rfl _ _ 7 [.int .i64 (turnK (⟨k.f0, a, d, s, t⟩ : S51)).f0, .int .u64 (turnK (⟨k.f0, a, d, s, t⟩ : S51)).f1.f0, .int .u64 (turnK (⟨k.f0, a, d, s, t⟩ : S51)).f1.f1, .int .u64 (turnK (⟨k.f0, a, d, s, t⟩ : S51)).f2.f0, .int .u64 (turnK (⟨k.f0, a, d, s, t⟩ : S51)).f2.f1, .int .i64 (turnK (⟨k.f0, a, d, s, t⟩ : S51)).f3, .int .i64 (turnK (⟨k.f0, a, d, s, t⟩ : S51)).f4] (plA (⟨⟨k.f0, k.f1, d, k.f3, q⟩, k, ⟨k.f0, a, d, s, t⟩, turnK ⟨k.f0, a, d, s, t⟩, turnK k, i, z⟩ : PL)) 71 (0, 0) _ rfl (S.out.get 2 rfl) (by kernel_rfl) Try.underlying51 rfl (by kernel_rfl) ?_)
            | (refine gate_ (.load 51 (.tmp 14)) rfl ?_; (first | refine gate_none rfl ?_ | refine gate_if rfl rfl rfl ?_); refine wpList_load_row rfl 51 _ rfl _ rfl 51 #[.int .i64 (turnK (⟨k.f0, a, d, s, t⟩ : S51)).f0, .int .u64 (turnK (⟨k.f0, a, d, s, t⟩ : S51)).f1.f0, .int .u64 (turnK (⟨k.f0, a, d, s, t⟩ : S51)).f1.f1, .int .u64 (turnK (⟨k.f0, a, d, s, t⟩ : S51)).f2.f0, .int .u64 (turnK (⟨k.f0, a, d, s, t⟩ : S51)).f2.f1, .int .i64 (turnK (⟨k.f0, a, d, s, t⟩ : S51)).f3, .int .i64 (turnK (⟨k.f0, a, d, s, t⟩ : S51)).f4] (0, 0) _ (S.out.get 4 rfl) Try.underlying51 rfl (by kernel_rfl) ?_)
            | (refine gate_dst (N := 77) rfl ?_; (first | refine gate_none rfl ?_ | refine gate_if rfl rfl rfl ?_); refine wpList_eql51 rfl _ _ _ rfl (turnK (⟨k.f0, a, d, s, t⟩ : S51)) (turnK (⟨k.f0, a, d, s, t⟩ : S51)) rfl rfl ?_; rw [HTT.out])
            | (refine gate_ (.load 39 (.tmp 81)) rfl ?_; (first | refine gate_none rfl ?_ | refine gate_if rfl rfl rfl ?_); refine wpList_load_blk rfl 39 _ rfl _ _ 2 [.int .u64 k.f2.f0, .int .u64 k.f2.f1] (plA (⟨⟨k.f0, k.f1, d, k.f3, q⟩, k, ⟨k.f0, a, d, s, t⟩, turnK ⟨k.f0, a, d, s, t⟩, turnK k, i, z⟩ : PL)) 71 (0, 0) _ rfl (S.out.get 2 rfl) (by kernel_rfl) Try.underlying39 rfl (by kernel_rfl) ?_)
            | (refine gate_ (.load 39 (.tmp 83)) rfl ?_; (first | refine gate_none rfl ?_ | refine gate_if rfl rfl rfl ?_); refine wpList_load_blk rfl 39 _ rfl _ _ 2 [.int .u64 k.f2.f0, .int .u64 k.f2.f1] #[.int .i64 k.f0, .int .u64 k.f1.f0, .int .u64 k.f1.f1, .int .u64 k.f2.f0, .int .u64 k.f2.f1, .int .i64 k.f3, .int .i64 k.f4] 51 (0, 0) _ rfl (S.out.get 1 rfl) (by kernel_rfl) Try.underlying39 rfl (by kernel_rfl) ?_)
            | (refine gate_dst (N := 85) rfl ?_; (first | refine gate_none rfl ?_ | refine gate_if rfl rfl rfl ?_); refine wpList_eql39 rfl _ _ _ rfl (k.f2) (k.f2) rfl rfl ?_; rw [eqA_self])
            | (refine gate_ (.load 39 (.tmp 89)) rfl ?_; (first | refine gate_none rfl ?_ | refine gate_if rfl rfl rfl ?_); refine wpList_load_blk rfl 39 _ rfl _ _ 2 [.int .u64 k.f1.f0, .int .u64 k.f1.f1] (plA (⟨⟨k.f0, k.f1, d, k.f3, q⟩, k, ⟨k.f0, a, d, s, t⟩, turnK ⟨k.f0, a, d, s, t⟩, turnK k, i, z⟩ : PL)) 71 (0, 0) _ rfl (S.out.get 2 rfl) (by kernel_rfl) Try.underlying39 rfl (by kernel_rfl) ?_)
            | (refine gate_ (.load 39 (.tmp 91)) rfl ?_; (first | refine gate_none rfl ?_ | refine gate_if rfl rfl rfl ?_); refine wpList_load_blk rfl 39 _ rfl _ _ 2 [.int .u64 k.f1.f0, .int .u64 k.f1.f1] #[.int .i64 k.f0, .int .u64 k.f1.f0, .int .u64 k.f1.f1, .int .u64 k.f2.f0, .int .u64 k.f2.f1, .int .i64 k.f3, .int .i64 k.f4] 51 (0, 0) _ rfl (S.out.get 1 rfl) (by kernel_rfl) Try.underlying39 rfl (by kernel_rfl) ?_)
            | (refine gate_dst (N := 93) rfl ?_; (first | refine gate_none rfl ?_ | refine gate_if rfl rfl rfl ?_); refine wpList_eql39 rfl _ _ _ rfl (k.f1) (k.f1) rfl rfl ?_; rw [eqA_self])
            | (refine gate_ (.load 3 (.tmp 97)) rfl ?_; (first | refine gate_none rfl ?_ | refine gate_if rfl rfl rfl ?_); refine wpList_load_one 3 _ rfl rfl _ _ (.int .i64 k.f4) (plA (⟨⟨k.f0, k.f1, d, k.f3, q⟩, k, ⟨k.f0, a, d, s, t⟩, turnK ⟨k.f0, a, d, s, t⟩, turnK k, i, z⟩ : PL)) 71 (0, 0) _ rfl (S.out.get 2 rfl) rfl Try.underlying3 rfl ?_)
            | (refine gate_ (.load 3 (.tmp 99)) rfl ?_; (first | refine gate_none rfl ?_ | refine gate_if rfl rfl rfl ?_); refine wpList_load_one 3 _ rfl rfl _ _ (.int .i64 k.f4) #[.int .i64 k.f0, .int .u64 k.f1.f0, .int .u64 k.f1.f1, .int .u64 k.f2.f0, .int .u64 k.f2.f1, .int .i64 k.f3, .int .i64 k.f4] 51 (0, 0) _ rfl (S.out.get 1 rfl) rfl Try.underlying3 rfl ?_)
            | (refine gate_ (.load 3 (.tmp 105)) rfl ?_; (first | refine gate_none rfl ?_ | refine gate_if rfl rfl rfl ?_); refine wpList_load_one 3 _ rfl rfl _ _ (.int .i64 k.f3) (plA (⟨⟨k.f0, k.f1, d, k.f3, q⟩, k, ⟨k.f0, a, d, s, t⟩, turnK ⟨k.f0, a, d, s, t⟩, turnK k, i, z⟩ : PL)) 71 (0, 0) _ rfl (S.out.get 2 rfl) rfl Try.underlying3 rfl ?_)
            | (refine gate_ (.load 3 (.tmp 107)) rfl ?_; (first | refine gate_none rfl ?_ | refine gate_if rfl rfl rfl ?_); refine wpList_load_one 3 _ rfl rfl _ _ (.int .i64 k.f3) #[.int .i64 k.f0, .int .u64 k.f1.f0, .int .u64 k.f1.f1, .int .u64 k.f2.f0, .int .u64 k.f2.f1, .int .i64 k.f3, .int .i64 k.f4] 51 (0, 0) _ rfl (S.out.get 1 rfl) rfl Try.underlying3 rfl ?_)
            | (refine gate_ (.load 3 (.tmp 113)) rfl ?_; (first | refine gate_none rfl ?_ | refine gate_if rfl rfl rfl ?_); refine wpList_load_one 3 _ rfl rfl _ _ (.int .i64 k.f0) (plA (⟨⟨k.f0, k.f1, d, k.f3, q⟩, k, ⟨k.f0, a, d, s, t⟩, turnK ⟨k.f0, a, d, s, t⟩, turnK k, i, z⟩ : PL)) 71 (0, 0) _ rfl (S.out.get 2 rfl) rfl Try.underlying3 rfl ?_)
            | (refine gate_ (.load 3 (.tmp 115)) rfl ?_; (first | refine gate_none rfl ?_ | refine gate_if rfl rfl rfl ?_); refine wpList_load_one 3 _ rfl rfl _ _ (.int .i64 k.f0) #[.int .i64 k.f0, .int .u64 k.f1.f0, .int .u64 k.f1.f1, .int .u64 k.f2.f0, .int .u64 k.f2.f1, .int .i64 k.f3, .int .i64 k.f4] 51 (0, 0) _ rfl (S.out.get 1 rfl) rfl Try.underlying3 rfl ?_)
            | (refine gate_ (.load 39 (.tmp 121)) rfl ?_; (first | refine gate_none rfl ?_ | refine gate_if rfl rfl rfl ?_); refine wpList_load_blk rfl 39 _ rfl _ _ 2 [.int .u64 d.f0, .int .u64 d.f1] (plA (⟨⟨k.f0, k.f1, d, k.f3, q⟩, k, ⟨k.f0, a, d, s, t⟩, turnK ⟨k.f0, a, d, s, t⟩, turnK k, i, z⟩ : PL)) 71 (0, 0) _ rfl (S.out.get 2 rfl) (by kernel_rfl) Try.underlying39 rfl (by kernel_rfl) ?_)
            | (refine gate_ (.load 39 (.tmp 124)) rfl ?_; (first | refine gate_none rfl ?_ | refine gate_if rfl rfl rfl ?_); refine wpList_load_blk rfl 39 _ rfl _ _ 2 [.int .u64 d.f0, .int .u64 d.f1] (plA (⟨⟨k.f0, k.f1, d, k.f3, q⟩, k, ⟨k.f0, a, d, s, t⟩, turnK ⟨k.f0, a, d, s, t⟩, turnK k, i, z⟩ : PL)) 71 (0, 0) _ rfl (S.out.get 2 rfl) (by kernel_rfl) Try.underlying39 rfl (by kernel_rfl) ?_)
            | (refine gate_dst (N := 126) rfl ?_; (first | refine gate_none rfl ?_ | refine gate_if rfl rfl rfl ?_); refine wpList_eql39 rfl _ _ _ rfl (d) (d) rfl rfl ?_; rw [eqA_self])
            | (refine gate_ (.load 39 (.tmp 130)) rfl ?_; (first | refine gate_none rfl ?_ | refine gate_if rfl rfl rfl ?_); refine wpList_load_blk rfl 39 _ rfl _ _ 2 [.int .u64 k.f1.f0, .int .u64 k.f1.f1] (plA (⟨⟨k.f0, k.f1, d, k.f3, q⟩, k, ⟨k.f0, a, d, s, t⟩, turnK ⟨k.f0, a, d, s, t⟩, turnK k, i, z⟩ : PL)) 71 (0, 0) _ rfl (S.out.get 2 rfl) (by kernel_rfl) Try.underlying39 rfl (by kernel_rfl) ?_)
            | (refine gate_ (.load 39 (.tmp 132)) rfl ?_; (first | refine gate_none rfl ?_ | refine gate_if rfl rfl rfl ?_); refine wpList_load_blk rfl 39 _ rfl _ _ 2 [.int .u64 k.f1.f0, .int .u64 k.f1.f1] #[.int .i64 k.f0, .int .u64 k.f1.f0, .int .u64 k.f1.f1, .int .u64 k.f2.f0, .int .u64 k.f2.f1, .int .i64 k.f3, .int .i64 k.f4] 51 (0, 0) _ rfl (S.out.get 1 rfl) (by kernel_rfl) Try.underlying39 rfl (by kernel_rfl) ?_)
            | (refine gate_dst (N := 134) rfl ?_; (first | refine gate_none rfl ?_ | refine gate_if rfl rfl rfl ?_); refine wpList_eql39 rfl _ _ _ rfl (k.f1) (k.f1) rfl rfl ?_; rw [eqA_self])
            | fail)
          go_ret
          exact ⟨rfl, S.out.below⟩
    · obtain ⟨rfl⟩ : pl = (zPL, r) := hpl
      have hr0 : (r == 0) = false := by simpa using hr
      have HEQ := Aside0.mk (eqP_self zPL)
      clear HP
      go_wp2_with (first
        | (refine gate_ (.load 71 (.tmp 9)) rfl ?_; refine wpList_load_row rfl 71 _ rfl _ rfl 71 (plA zPL) (0, 0) _ (S.out.get 2 rfl) Try.underlying71 rfl (plA_info _) ?_)
        | (refine gate_dst (N := 44) rfl ?_; refine wpList_buildTo rfl 71 _ rfl (some 44) rfl (plA zPL) (by kernel_rfl) ?_)
        | (refine gate_dst (N := 45) rfl ?_; refine wpList_eql71 rfl _ _ _ rfl zPL zPL rfl rfl ?_; rw [HEQ.out])
        | fail)
      go_ret
      exact ⟨rfl, S.out.below⟩
end Go.Proofs.Ytgppfpfdoooijaa
