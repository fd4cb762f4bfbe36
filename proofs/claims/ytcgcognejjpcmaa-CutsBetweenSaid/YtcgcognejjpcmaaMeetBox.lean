/- What two boxes have in common: the program's MeetBox. -/
import Derived.Test.YtcgcognejjpcmaaBoxSet
import Derived.Test.YtcgcognejjpcmaaMid
import Derived.Great.BuildSlice
namespace Go.Proofs.Ytcgcognejjpcmaa
open Go.RowKit Go.Proofs.YtcgcognejjpcmaaW.PrintWords
set_option linter.unusedVariables false
set_option linter.unusedSimpArgs false
attribute [local go_sem] Later.cell_eq

/-- The box behind k rounds. -/
def meetK (a b : S29) (k : Nat) : S29 := bx fun j => if j < k then (meetO (rg a j) (rg b j)).1 else zr
theorem meetK_put (a b : S29) {k : Nat} (hk : k < 6) (r : S26) (hr : (meetO (rg a k) (rg b k)).1 = r) : putC (bc (meetK a b k)) (k * 4) [.int .u64 r.f0.f0, .int .u64 r.f0.f1, .int .u64 r.f1.f0, .int .u64 r.f1.f1] = bc (meetK a b (k + 1)) := by
  refine (bc_set _ r hk).trans (congrArg bc (bx_ext fun j hj => ?_))
  by_cases h : j = k
  · subst h; rw [if_pos rfl, if_pos (by omega), hr]
  · rw [if_neg h]
    by_cases h2 : j < k
    · rw [if_pos h2, if_pos (by omega)]
    · rw [if_neg h2, if_neg (by omega)]
theorem meetB_yes {a b : S29} (h : ∀ j, j < 6 → (meetO (rg a j) (rg b j)).2 = true) : meetB a b = (meetK a b 6, true) := by
  unfold meetB
  rw [if_pos (all6_yes h)]
  refine congrArg (·, true) (bx_ext fun j hj => ?_)
  rw [if_pos hj, meetO_yes (h j hj)]
theorem meetB_no {a b : S29} {k : Nat} (hk : k < 6) (h : (meetO (rg a k) (rg b k)).2 = false) : meetB a b = (z29, false) := by
  unfold meetB
  rw [if_neg (by rw [all6_no (f := fun k => (meetO (rg a k) (rg b k)).2) hk h]; decide)]
theorem ends_box {P : Program} {fn : Func} {R : Ending → World → Prop} {a : Act} {w : World} {p q : Tmp} {g : Nat} {b : S29} {v : Value} (h : fn.results = #[.cell p 29, .tmp q]) (hp : a.tmps.getD p undef = .pointer (some ⟨g, 0, none⟩)) (hq : a.tmps.getD q undef = v)
    (hg : w.heap[g]? = some (.cells (bc b) 29 (0, 0))) (hP : P = Try.prog) (hd : a.defers = []) (hR : R (.returned (.tuple #[.agg (bc b), v])) w) : bodyPost P fn R .ret a w := by
  subst hP
  have hp' : a.tmps[p]?.getD undef = .pointer (some ⟨g, 0, none⟩) := by simpa using hp
  have hq' : a.tmps[q]?.getD undef = v := by simpa using hq
  exact bodyPost_ret (v := .tuple #[.agg (bc b), v]) (by simp [results, h, hp', hq', asAddr, run_loadVar_row (P := Try.prog) w g 29 29 (bc b) (0, 0) _ hg Try.underlying29 rfl (bc_info b)]) hd hR

set_option maxHeartbeats 4000000 in
theorem meetBox_any (a b : S29) (w : World) : Calls Try.prog 19 #[.agg (bc a), .agg (bc b)] w fun e w' => e = .returned (.tuple #[.agg (bc (meetB a b).1), .bool (meetB a b).2]) ∧ Below w.heap.size w w' := by
  go_enter Try.func19, Try.ntmps19
  go_upto_region 2 with fail
  generalize hW : World.alloc _ _ = W0
  have HB0 := Aside0.mk (show Below w.heap.size w W0 by rw [← hW]; go_grown)
  have HS := Aside0.mk (show W0.heap.size = w.heap.size + 1 + 1 + 1 + 1 by rw [← hW]; simp)
  have b0 : W0.heap[w.heap.size]? = some (.cells (bc a) 29 (0, 0)) := by rw [← hW]; repeat (first | exact heap_alloc_at _ _ _ (by simp only [World.size_alloc]; done) | refine (Below.heap_alloc _ _ _ (by simp only [World.size_alloc]; omega)).trans ?_)
  have b1 : W0.heap[w.heap.size + 1]? = some (.cells (bc b) 29 (0, 0)) := by rw [← hW]; repeat (first | exact heap_alloc_at _ _ _ (by simp only [World.size_alloc]; done) | refine (Below.heap_alloc _ _ _ (by simp only [World.size_alloc]; omega)).trans ?_)
  have b2 : W0.heap[w.heap.size + 1 + 1]? = some (.cells (bc z29) 29 (0, 0)) := by rw [← hW]; exact (Below.heap_alloc _ _ _ (by simp)).trans (heap_alloc_at _ _ _ (by simp))
  have b3 : W0.heap[w.heap.size + 1 + 1 + 1]? = some (.cells (bc (meetK a b 0)) 29 (0, 0)) := by rw [← hW]; exact heap_alloc_at _ _ _ (by simp)
  have BB := Aside0.mk (And.intro b0 (And.intro b1 (And.intro b2 b3)))
  clear hW b0 b1 b2 b3
  go_wp2
  go_loopw [9] (fun v wr => ∃ k : Nat, k ≤ 6 ∧ v = .int .i64 k ∧ Aside0 (∀ j, j < k → (meetO (rg a j) (rg b j)).2 = true) ∧ Aside0 (wr.heap[w.heap.size + 1 + 1 + 1]? = some (.cells (bc (meetK a b k)) 29 (0, 0))) ∧ Aside0 (Below (w.heap.size + 1 + 1 + 1) W0 wr)) (fun v _ => 6 - (intOf v).toNat)
  case atStart => exact ⟨0, by omega, rfl, ⟨fun j hj => by omega⟩, ⟨BB.out.2.2.2⟩, ⟨Below.refl _ _⟩⟩
  case round =>
    obtain ⟨k, hk, rfl, HN, HV, HB⟩ := hrel
    have hs3 : w.heap.size + 1 + 1 + 1 < wr.heap.size := (Array.getElem?_eq_some_iff.1 HV.out).1
    have hs2 : w.heap.size + 1 + 1 < wr.heap.size := by omega
    have hs1 : w.heap.size + 1 < wr.heap.size := by omega
    have hs0 : w.heap.size < wr.heap.size := by omega
    have ba := Aside0.mk ((HB.out.block w.heap.size (by omega)).trans BB.out.1)
    have bb := Aside0.mk ((HB.out.block (w.heap.size + 1) (by omega)).trans BB.out.2.1)
    have br := Aside0.mk ((HB.out.block (w.heap.size + 1 + 1) (by omega)).trans BB.out.2.2.1)
    have HBW := Aside0.mk (show Below w.heap.size w wr from HB0.out.trans (HB.out.mono (by omega)))
    by_cases hlt : k < 6
    · go_wp2
      obtain ⟨⟨r, ok⟩, hmo⟩ : ∃ mo, mo = meetO (rg a k) (rg b k) := ⟨_, rfl⟩
      have HM := Aside0.mk (fun W => show Calls Try.prog 36 #[.agg #[.int .u64 (rg a k).f0.f0, .int .u64 (rg a k).f0.f1, .int .u64 (rg a k).f1.f0, .int .u64 (rg a k).f1.f1], .agg #[.int .u64 (rg b k).f0.f0, .int .u64 (rg b k).f0.f1, .int .u64 (rg b k).f1.f0, .int .u64 (rg b k).f1.f1]] W (fun e w' => e = .returned (.tuple #[.agg #[.int .u64 r.f0.f0, .int .u64 r.f0.f1, .int .u64 r.f1.f0, .int .u64 r.f1.f1], .bool ok]) ∧ Below W.heap.size W w') by have := meet_any (rg a k) (rg b k) W; rw [← hmo] at this; exact this)
      have HMO := Aside0.mk hmo
      clear hmo
      have HX := Aside0.mk (meetK_put a b hlt r (by rw [← HMO.out]))
      refine Rg.plain [15] (fun L w' => Below (w.heap.size + 1 + 1 + 1) wr w' ∧ w'.heap[w.heap.size + 1 + 1 + 1]? = some (.cells (if L 15 = true then bc (meetK a b (k + 1)) else bc (meetK a b k)) 29 (0, 0))) (by kernel_rfl) (by kernel_rfl) (by kernel_rfl) (by kernel_rfl) ?_ ?_ ?_ ?_
      · refine ⟨below_drew (Below.refl _ _), ?_⟩
        rw [if_neg (by decide)]; exact HV.out
      · rintro L w' w'' ⟨h1, h2⟩ hb
        have := (Array.getElem?_eq_some_iff.1 h2).1
        exact ⟨below_then h1 (by omega) hb, (hb.block _ this).trans h2⟩
      · rintro L i w' hi hn ⟨h1, h2⟩
        rw [Rg.upd_ne (fun e => hn (by simp [e]))]
        exact ⟨h1, h2⟩
      · apply Exists.intro
        refine ⟨?_, ?_, ?_⟩
        · rintro L w' ⟨hB, -⟩
          have ba' := (hB.block w.heap.size (by omega)).trans ba.out
          have bb' := (hB.block (w.heap.size + 1) (by omega)).trans bb.out
          have p0 : w'.cell? ⟨w.heap.size, k * 4, none⟩ = some (.int .u64 (rg a k).f0.f0) := by simp [World.cell?, ba', (bc_at a k hlt).1]
          have p1 : w'.cell? ⟨w.heap.size, k * 4 + 1, none⟩ = some (.int .u64 (rg a k).f0.f1) := by simp [World.cell?, ba', (bc_at a k hlt).2.1]
          have p2 : w'.cell? ⟨w.heap.size, k * 4 + 2, none⟩ = some (.int .u64 (rg a k).f1.f0) := by simp [World.cell?, ba', (bc_at a k hlt).2.2.1]
          have p3 : w'.cell? ⟨w.heap.size, k * 4 + 3, none⟩ = some (.int .u64 (rg a k).f1.f1) := by simp [World.cell?, ba', (bc_at a k hlt).2.2.2]
          have q0 : w'.cell? ⟨w.heap.size + 1, k * 4, none⟩ = some (.int .u64 (rg b k).f0.f0) := by simp [World.cell?, bb', (bc_at b k hlt).1]
          have q1 : w'.cell? ⟨w.heap.size + 1, k * 4 + 1, none⟩ = some (.int .u64 (rg b k).f0.f1) := by simp [World.cell?, bb', (bc_at b k hlt).2.1]
          have q2 : w'.cell? ⟨w.heap.size + 1, k * 4 + 2, none⟩ = some (.int .u64 (rg b k).f1.f0) := by simp [World.cell?, bb', (bc_at b k hlt).2.2.1]
          have q3 : w'.cell? ⟨w.heap.size + 1, k * 4 + 3, none⟩ = some (.int .u64 (rg b k).f1.f1) := by simp [World.cell?, bb', (bc_at b k hlt).2.2.2]
          have t0 : w.heap.size < w'.heap.size := World.block_lt_of_cell? w' _ p0
          have t1 : w.heap.size + 1 < w'.heap.size := World.block_lt_of_cell? w' _ q0
          clear ba' bb' hB
          simp only [Rg.cutOut, List.eraseIdx_cons_succ, List.eraseIdx_cons_zero]
          repeat (first | go_big_quiet_step ((go_at_call 36; exact later_of (HM.out _))) | quiet_step ((go_at_call 36; exact later_of (HM.out _))))
          exact wpQuiet_nil rfl
        · rintro i hi L w' ⟨h1, h2⟩ hw hL
          obtain rfl : i = 15 := by simpa using hi
          rw [if_neg (by rw [hL]; decide)] at h2
          refine ⟨_, rfl, ?_⟩
          refine wpList_store_blk rfl 26 _ _ rfl (w.heap.size + 1 + 1 + 1) (k * 4) #[.int .u64 r.f0.f0, .int .u64 r.f0.f1, .int .u64 r.f1.f0, .int .u64 r.f1.f1] _ _ rfl rfl h2 (by rw [bc_size]; simp; omega) (by kernel_rfl) (by simp [Value.oneCell']) ?_
          intro w1 hb hg hsz
          refine ⟨rfl, h1.trans (below_grown hg (by have := (Array.getElem?_eq_some_iff.1 h2).1; omega) (Nat.le_refl _)), ?_⟩
          rw [Rg.upd_same, if_pos rfl, ← HX.out]
          exact hb
        · rintro L w5 ⟨hB5, hV5⟩ hall
          rw [if_pos (hall 15 (by decide))] at hV5
          have HB5 := Aside0.mk (HB.out.trans (hB5.mono (by omega)))
          have HV5 := Aside0.mk hV5
          have br5 := (hB5.block _ (by omega)).trans br.out
          have HBW5 := Aside0.mk (show Below w.heap.size w w5 from HB0.out.trans (HB5.out.mono (by omega)))
          clear hB5 hV5 hall
          cases ok with
          | true =>
            go_wp2
            go_roundw
            case rel => exact ⟨k + 1, by omega, by go_num, ⟨all_succ (f := fun j => (meetO (rg a j) (rg b j)).2) HN.out (by rw [← HMO.out])⟩, ⟨HV5.out⟩, ⟨HB5.out⟩⟩
            case measure => simp [intOf]; omega
          | false =>
            have BR := Aside0.mk br5
            clear br5
            go_wp2_with (refine gate_ (.store 29 (.tmp 4) (.tmp 29)) rfl ?_; refine wpList_store_all rfl 29 _ _ rfl (w.heap.size + 1 + 1) (bc z29) _ _ rfl rfl BR.out rfl (bc_info z29) (bc_one z29) ?_; intro w6 hb6 hg6 hz6)
            refine ends_box rfl rfl rfl (b := z29) hb6 rfl rfl ?_
            rw [meetB_no hlt (by rw [← HMO.out])]
            exact ⟨rfl, HBW5.out.trans (below_grown hg6 HBW5.out.size (by omega))⟩
    · obtain rfl : k = 6 := by omega
      go_wp2_with (first
        | (refine gate_ (.load 29 (.tmp 6)) rfl ?_; refine wpList_load_row rfl 29 _ rfl (w.heap.size + 1 + 1 + 1) rfl 29 _ (0, 0) _ HV.out Try.underlying29 rfl (bc_info _) ?_)
        | (refine gate_ (.store 29 (.tmp 4) (.tmp 31)) rfl ?_; refine wpList_store_all rfl 29 _ _ rfl (w.heap.size + 1 + 1) (bc (meetK a b 6)) _ _ rfl rfl br.out rfl (bc_info _) (bc_one _) ?_; intro w6 hb6 hg6 hz6))
      refine ends_box rfl rfl rfl (b := meetK a b 6) hb6 rfl rfl ?_
      rw [meetB_yes HN.out]
      exact ⟨rfl, HBW.out.trans (below_grown hg6 HBW.out.size (by omega))⟩
end Go.Proofs.Ytcgcognejjpcmaa
