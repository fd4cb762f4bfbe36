/- The maker of a plan: the route; the source. -/
import Derived.Test.YtgppfpfdoooijaaMaker
namespace Go.Proofs.Ytgppfpfdoooijaa
open Go.RowKit Go.Proofs.YtgppfpfdoooijaaW.PrintWords
set_option linter.unusedVariables false
set_option linter.unusedSimpArgs false
attribute [local go_sem] Later.cell_eq


/-- Behind route. -/
def routeM (c : S36) (m : MS) : MS := { m with ifc := (routeF c m.J.f2).1, zn := (routeF c m.J.f2).2 }
/-- What route answers. -/
def routeR (r : Int × Int) : Int := if r.1 == -1 then 8 else if r.2 == -1 then 3 else 0
set_option maxRecDepth 100000 in
set_option maxHeartbeats 4000000 in
theorem mroute_any (c : S36) (m : MS) (B : Nat) (W0 w : World) (hK : k36.K W0 c [m.v0, m.v1, m.v2, m.v3, m.v4, m.v5, m.v6, m.v7]) (hS : St W0 [(B, .cells (mkA m) 107 (0, 0))] w) (hB0 : W0.heap.size ≤ B) :
    Calls Try.prog 51 #[.pointer (some ⟨B, 0, none⟩)] w fun e w' => e = .returned (.int .i64 (routeR (routeF c m.J.f2))) ∧ St W0 [(B, .cells (mkA (routeM c m)) 107 (0, 0))] w' := by
  have S := Aside0.mk hS
  have hB := Aside0.mk hB0
  have hBl : B < w.heap.size := blk_lt (hS.get 0 rfl)
  obtain ⟨⟨p, q⟩, hd⟩ : ∃ d, d = routeF c m.J.f2 := ⟨_, rfl⟩
  have HD := Aside0.mk (fun W (hW : Below W0.heap.size W0 W) => show Calls Try.prog 18 #[.agg #[m.v0, m.v1, m.v2, m.v3, m.v4, m.v5, m.v6, m.v7], .agg #[.int .u64 m.J.f2.f0, .int .u64 m.J.f2.f1]] W (fun e w' => e = .returned (.tuple #[.int .i64 p, .int .i64 q]) ∧ Below W.heap.size W w') by have := route_any c _ m.J.f2 W (k36.K_below hW hK); rw [← hd] at this; exact this)
  have HM := Aside0.mk (show routeM c m = { m with ifc := p, zn := q } by unfold routeM; rw [← hd])
  have HR := Aside0.mk (show routeR (routeF c m.J.f2) = if p == -1 then 8 else if q == -1 then 3 else 0 by rw [← hd]; rfl)
  clear hS hd hK hB0
  go_enter Try.func51, Try.ntmps51
  go_upto_region 1 with fail
  refine Rg.plain [23, 19] (fun L w' => St W0 [(B, .cells (mkA { m with ifc := if L 19 = true then p else m.ifc, zn := if L 23 = true then q else m.zn }) 107 (0, 0))] w') (by kernel_rfl) (by kernel_rfl) (by kernel_rfl) (by kernel_rfl) ?_ ?_ ?_ ?_
  · exact S.out.drew
  · intro L w' w'' h hb
    exact h.call hb
  · intro L i w' hi hn h
    simp only [List.mem_cons, List.not_mem_nil, or_false, not_or] at hn
    rw [Rg.upd_ne (fun e => hn.1 e.symm), Rg.upd_ne (fun e => hn.2 e.symm)]
    exact h
  · apply Exists.intro
    refine ⟨?_, ?_, ?_⟩
    · intro L w' h
      have S2 := Aside0.mk h
      clear h
      simp only [Rg.cutOut, List.eraseIdx_cons_succ, List.eraseIdx_cons_zero]
      repeat (first
        | go_big_quiet_skip
        | (refine quiet_load_blk 36 (.tmp 8) rfl rfl _ _ 8 [m.v0, m.v1, m.v2, m.v3, m.v4, m.v5, m.v6, m.v7] (mkA ({ m with ifc := if L 19 = true then p else m.ifc, zn := if L 23 = true then q else m.zn })) 107 (0, 0) _ rfl (later_blk (S2.out.get 0 rfl)) rfl Try.underlying36 rfl (by kernel_rfl) ?_; go_frame)
        | (refine quiet_load_blk 39 (.tmp 14) rfl rfl _ _ 2 [.int .u64 m.J.f2.f0, .int .u64 m.J.f2.f1] (mkA ({ m with ifc := if L 19 = true then p else m.ifc, zn := if L 23 = true then q else m.zn })) 107 (0, 0) _ rfl (later_blk (S2.out.get 0 rfl)) rfl Try.underlying39 rfl (by kernel_rfl) ?_; go_frame)
        | go_big_quiet_step ((go_at_call 18; with_reducible exact later_of (HD.out _ (below_then S2.out.below S2.out.below.size (Later.below _)))))
        | fail)
      exact wpQuiet_nil rfl
    · intro i hi L w' h hw hL
      simp only [List.mem_cons, List.not_mem_nil, or_false] at hi
      rcases hi with rfl | rfl
      · refine ⟨_, rfl, ?_⟩
        refine wpList_store_blk rfl 3 _ _ rfl B 46 #[.int .i64 q] _ 107 rfl rfl (h.get 0 rfl) (Nat.le_of_ble_eq_true rfl) (by kernel_rfl) (by simp [Value.oneCell']) ?_
        intro w1 hb hg hz
        exact ⟨rfl, h.set_ 0 hg hb hB.out hne1⟩
      · refine ⟨_, rfl, ?_⟩
        refine wpList_store_blk rfl 3 _ _ rfl B 45 #[.int .i64 p] _ 107 rfl rfl (h.get 0 rfl) (Nat.le_of_ble_eq_true rfl) (by kernel_rfl) (by simp [Value.oneCell']) ?_
        intro w1 hb hg hz
        exact ⟨rfl, h.set_ 0 hg hb hB.out hne1⟩
    · intro L w5 h hall
      rw [if_pos (hall 19 (by decide)), if_pos (hall 23 (by decide))] at h
      replace S := Aside0.mk h
      clear h hall
      cases hp : p == -1 with
      | true =>
        have HP := Aside0.mk hp
        go_wp2_with (first
          | (refine gate_ (.load 3 (.tmp 29)) rfl ?_; refine wpList_load_one 3 _ rfl rfl _ _ (.int .i64 p) _ 107 (0, 0) _ rfl (S.out.get 0 rfl) rfl Try.underlying3 rfl ?_)
          | fail)
        go_ret
        exact ⟨by rw [HR.out, HP.out]; rfl, by rw [HM.out]; exact S.out⟩
      | false =>
        have HP := Aside0.mk hp
        cases hq : q == -1 with
        | true =>
          have HQ := Aside0.mk hq
          go_wp2_with (first
            | (refine gate_ (.load 3 (.tmp 29)) rfl ?_; refine wpList_load_one 3 _ rfl rfl _ _ (.int .i64 p) _ 107 (0, 0) _ rfl (S.out.get 0 rfl) rfl Try.underlying3 rfl ?_)
            | (refine gate_ (.load 3 (.tmp 36)) rfl ?_; refine wpList_load_one 3 _ rfl rfl _ _ (.int .i64 q) _ 107 (0, 0) _ rfl (S.out.get 0 rfl) rfl Try.underlying3 rfl ?_)
            | fail)
          go_ret
          exact ⟨by rw [HR.out, HP.out, HQ.out]; rfl, by rw [HM.out]; exact S.out⟩
        | false =>
          have HQ := Aside0.mk hq
          go_wp2_with (first
            | (refine gate_ (.load 3 (.tmp 29)) rfl ?_; refine wpList_load_one 3 _ rfl rfl _ _ (.int .i64 p) _ 107 (0, 0) _ rfl (S.out.get 0 rfl) rfl Try.underlying3 rfl ?_)
            | (refine gate_ (.load 3 (.tmp 36)) rfl ?_; refine wpList_load_one 3 _ rfl rfl _ _ (.int .i64 q) _ 107 (0, 0) _ rfl (S.out.get 0 rfl) rfl Try.underlying3 rfl ?_)
            | fail)
          go_ret
          exact ⟨by rw [HR.out, HP.out, HQ.out]; rfl, by rw [HM.out]; exact S.out⟩
end Go.Proofs.Ytgppfpfdoooijaa
