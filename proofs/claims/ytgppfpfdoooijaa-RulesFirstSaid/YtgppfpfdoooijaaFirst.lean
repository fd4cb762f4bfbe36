/- RulesAny and RulesFirst, walked: what stands first among the rules, what stands behind. -/
import Derived.Test.YtgppfpfdoooijaaRefChoose
import Derived.Test.YtgppfpfdoooijaaHeavy
namespace Go.Proofs.Ytgppfpfdoooijaa
open Go.RowKit Go.Proofs.YtgppfpfdoooijaaW.PrintWords
set_option linter.unusedVariables false
set_option linter.unusedSimpArgs false
attribute [local go_sem] Later.cell_eq

/-- The walk halts at what is marked. -/
def Marked (p : Prop) : Prop := p
theorem mark_ {p : Prop} (h : Marked p) : p := h
theorem info68 : (Try.prog.info? 68).map (fun i => (i.zero, i.size, i.bytes)) = some (some (.agg #[.string ⟨#[]⟩, .string ⟨#[]⟩, .string ⟨#[]⟩, .string ⟨#[]⟩, .string ⟨#[]⟩, .int .i64 0, .string ⟨#[]⟩, .bool false]), k68.sz, 112) := by kernel_rfl
/-- A configuration with other rules. -/
def withR (c : S36) (l : List S68) : S36 := ⟨c.f0, c.f1, c.f2, c.f3, c.f4, c.f5, l, c.f7⟩
theorem match_with (c : S36) (l : List S68) (r : S68) (h : S62) : matchF (withR c l) r h = matchF c r h := rfl
def anyR (a : Int) : S68 := ⟨anyS, anyS, anyS, anyS, anyS, a, ⟨#[]⟩, false⟩
theorem anyS_list : (anyS.toList == [97, 110, 121]) = true := by decide +kernel
theorem match_anyR (c : S36) (a : Int) (h : S62) : matchF c (anyR a) h = true := by
  have e := anyS_list
  unfold matchF zoneB withinF servesF anyR
  simp only [e]
  rfl
theorem choose_anyR (c : S36) (a : Int) (h : S62) : chooseF (withR c (anyR a :: c.f6)) h = ⟨a, 0, -1, false⟩ := by
  have hr : ruleF (withR c (anyR a :: c.f6)) h = 0 := idxF_at (k := 0) (x := anyR a) (p := fun r => matchF (withR c (anyR a :: c.f6)) r h) rfl (match_anyR _ a h) (fun j hj => by omega)
  have := choose_some (c := withR c (anyR a :: c.f6)) (h := h) (n := 0) hr.symm (by decide)
  rw [this]
  have hl : limF (withR c (anyR a :: c.f6)) (⟨#[]⟩ : ByteArray) = -1 := if_pos (by decide +kernel)
  show S64.mk a 0 (limF _ (⟨#[]⟩ : ByteArray)) false = _
  rw [hl]
/-- What is chosen of a configuration with more rules behind. -/
theorem choose_more {c : S36} {h : S62} (l : List S68) (hn : 0 ≤ ruleF c h) : chooseF (withR c (c.f6 ++ l)) h = chooseF c h := by
  have hr := idxF_range (fun r => matchF c r h) c.f6
  have e1 : ruleF (withR c (c.f6 ++ l)) h = ruleF c h := by
    unfold ruleF at hn ⊢
    unfold idxF at hn ⊢
    show (match (c.f6 ++ l).findIdx? (fun r => matchF c r h) with | some i => (i : Int) | none => -1) = _
    cases hf : c.f6.findIdx? (fun r => matchF c r h) with
    | none => rw [hf] at hn; simp at hn
    | some i => rw [List.findIdx?_append, hf]; rfl
  unfold chooseF
  rw [e1]
  have h0 : ¬ ruleF c h < 0 := by omega
  rw [of_some h0, of_some h0]
  have hlt : (ruleF c h).toNat < c.f6.length := by have : ruleF c h = idxF (fun r => matchF c r h) c.f6 := rfl; omega
  have e2 : (withR c (c.f6 ++ l)).f6.getD (ruleF c h).toNat z68 = c.f6.getD (ruleF c h).toNat z68 := by
    show (c.f6 ++ l).getD _ _ = _
    simp [List.getD_eq_getElem?_getD, List.getElem?_append_left hlt]
  rw [e2]
  rfl
theorem choose_less {c : S36} {h : S62} (l : List S68) (hn : ruleF c h < 0) : ruleF (withR c (c.f6 ++ l)) h < 0 ∨ (c.f6.length : Int) ≤ ruleF (withR c (c.f6 ++ l)) h := by
  unfold ruleF at hn ⊢
  unfold idxF at hn ⊢
  show (match (c.f6 ++ l).findIdx? (fun r => matchF c r h) with | some i => (i : Int) | none => -1) < 0 ∨ _ ≤ (match (c.f6 ++ l).findIdx? (fun r => matchF c r h) with | some i => (i : Int) | none => -1)
  cases hf : c.f6.findIdx? (fun r => matchF c r h) with
  | some i => rw [hf] at hn; simp at hn; omega
  | none =>
    rw [List.findIdx?_append, hf]
    cases hg : l.findIdx? (fun r => matchF c r h) with
    | none => left; simp
    | some i =>
      right
      show (c.f6.length : Int) ≤ ((i + c.f6.length : Nat) : Int)
      omega
theorem choose_rule (c : S36) (h : S62) : (chooseF c h).f1 = ruleF c h := by
  unfold chooseF ofF
  split
  · have hr := idxF_range (fun r => matchF c r h) c.f6
    have : ruleF c h = idxF (fun r => matchF c r h) c.f6 := rfl
    show (-1 : Int) = _
    omega
  · rfl


set_option maxHeartbeats 8000000 in
theorem any_any (c : S36) (cs : List Value) (h : S62) (act : Int) (w : World) (hc : k36.K w c cs) (hf : Fits c) :
    Calls Try.prog 9 #[.agg cs.toArray, .agg #[.int .i64 h.f0, .int .i64 h.f1, .int .i64 h.f2.f0, .int .u64 h.f2.f1.f0, .int .u64 h.f2.f1.f1, .int .u64 h.f2.f2.f0, .int .u64 h.f2.f2.f1, .int .i64 h.f2.f3, .int .i64 h.f2.f4], .int .i64 act] w fun e w' => e = .returned (.bool true) ∧ Below w.heap.size w w' := by
  have HK := Aside0.mk hc
  obtain ⟨A0, c0, A1, c1, A2, c2, A3, c3, A4, c4, A5, c5, A6, c6, rfl, l0, g0, l1, g1, l2, g2, l3, g3, l4, g4, l5, g5, l6, g6⟩ := k36_open hc
  have HG0 := Aside0.mk g0
  have HG1 := Aside0.mk g1
  have HG2 := Aside0.mk g2
  have HG3 := Aside0.mk g3
  have HG4 := Aside0.mk g4
  have HG5 := Aside0.mk g5
  have HG6 := Aside0.mk g6
  have HL := Aside0.mk (And.intro l0 (And.intro l1 (And.intro l2 (And.intro l3 (And.intro l4 l5)))))
  have HF := Aside0.mk hf
  clear hc hf g0 g1 g2 g3 g4 g5 g6
  go_enter Try.func9, Try.ntmps9
  go_wp2_with fail
  have HB0 := Aside0.mk (show Below w.heap.size w ((w.alloc (.cells #[.slice A0 c.f0.length c0, .slice A1 c.f1.length c1, .slice A2 c.f2.length c2, .slice A3 c.f3.length c3, .slice A4 c.f4.length c4, .slice A5 c.f5.length c5, .slice A6 c.f6.length c6, .int .i64 c.f7] 36)).alloc (.cells #[.int .i64 h.f0, .int .i64 h.f1, .int .i64 h.f2.f0, .int .u64 h.f2.f1.f0, .int .u64 h.f2.f1.f1, .int .u64 h.f2.f2.f0, .int .u64 h.f2.f2.f1, .int .i64 h.f2.f3, .int .i64 h.f2.f4] 62)) by go_grown)
  refine (heavy17_any c _ _ (k36.K_below HB0.out HK.out) HF.out).mono ?_
  rintro e w1 ⟨b, rfl, hle, hb1⟩
  have HB1 := Aside0.mk (below2 hb1)
  have hs1 : w.heap.size + 1 < w1.heap.size := by have := hb1.size; simp at this; omega
  have hs10 : w.heap.size < w1.heap.size := by omega
  have b0 : w1.heap[w.heap.size]? = some (.cells #[.slice A0 c.f0.length c0, .slice A1 c.f1.length c1, .slice A2 c.f2.length c2, .slice A3 c.f3.length c3, .slice A4 c.f4.length c4, .slice A5 c.f5.length c5, .slice A6 c.f6.length c6, .int .i64 c.f7] 36 (0, 0)) := (hb1.block _ (by simp; omega)).trans ((Below.heap_alloc _ _ _ (by simp)).trans (heap_alloc_new w _))
  have b1 : w1.heap[w.heap.size + 1]? = some (.cells #[.int .i64 h.f0, .int .i64 h.f1, .int .i64 h.f2.f0, .int .u64 h.f2.f1.f0, .int .u64 h.f2.f1.f1, .int .u64 h.f2.f2.f0, .int .u64 h.f2.f2.f1, .int .i64 h.f2.f3, .int .i64 h.f2.f4] 62 (0, 0)) := (hb1.block _ (by simp)).trans (heap_alloc_at _ _ _ (by simp))
  have BB := Aside0.mk (And.intro b0 b1)
  have hc0 := (show w1.cell? ⟨w.heap.size, 0, none⟩ = some (.slice A0 c.f0.length c0) by simp [World.cell?, b0])
  have hc1 := (show w1.cell? ⟨w.heap.size, 1, none⟩ = some (.slice A1 c.f1.length c1) by simp [World.cell?, b0])
  have hc2 := (show w1.cell? ⟨w.heap.size, 2, none⟩ = some (.slice A2 c.f2.length c2) by simp [World.cell?, b0])
  have hc3 := (show w1.cell? ⟨w.heap.size, 3, none⟩ = some (.slice A3 c.f3.length c3) by simp [World.cell?, b0])
  have hc4 := (show w1.cell? ⟨w.heap.size, 4, none⟩ = some (.slice A4 c.f4.length c4) by simp [World.cell?, b0])
  have hc5 := (show w1.cell? ⟨w.heap.size, 5, none⟩ = some (.slice A5 c.f5.length c5) by simp [World.cell?, b0])
  have hc6 := (show w1.cell? ⟨w.heap.size, 6, none⟩ = some (.slice A6 c.f6.length c6) by simp [World.cell?, b0])
  have hc7 := (show w1.cell? ⟨w.heap.size, 7, none⟩ = some (.int .i64 c.f7) by simp [World.cell?, b0])
  have hh0 := (show w1.cell? ⟨w.heap.size + 1, 0, none⟩ = some (.int .i64 h.f0) by simp [World.cell?, b1])
  have hh1 := (show w1.cell? ⟨w.heap.size + 1, 1, none⟩ = some (.int .i64 h.f1) by simp [World.cell?, b1])
  have hh2 := (show w1.cell? ⟨w.heap.size + 1, 2, none⟩ = some (.int .i64 h.f2.f0) by simp [World.cell?, b1])
  have hh3 := (show w1.cell? ⟨w.heap.size + 1, 3, none⟩ = some (.int .u64 h.f2.f1.f0) by simp [World.cell?, b1])
  have hh4 := (show w1.cell? ⟨w.heap.size + 1, 4, none⟩ = some (.int .u64 h.f2.f1.f1) by simp [World.cell?, b1])
  have hh5 := (show w1.cell? ⟨w.heap.size + 1, 5, none⟩ = some (.int .u64 h.f2.f2.f0) by simp [World.cell?, b1])
  have hh6 := (show w1.cell? ⟨w.heap.size + 1, 6, none⟩ = some (.int .u64 h.f2.f2.f1) by simp [World.cell?, b1])
  have hh7 := (show w1.cell? ⟨w.heap.size + 1, 7, none⟩ = some (.int .i64 h.f2.f3) by simp [World.cell?, b1])
  have hh8 := (show w1.cell? ⟨w.heap.size + 1, 8, none⟩ = some (.int .i64 h.f2.f4) by simp [World.cell?, b1])
  clear hb1 b0 b1
  cases b with
  | true =>
    clear hle
    go_wp2
    go_ret
    exact ⟨rfl, HB1.out⟩
  | false =>
    have hlen : c.f6.length ≤ 4096 := by have := hle rfl; unfold lens at this; omega
    have HLE := Aside0.mk hlen
    clear hle hlen
    have hs11 : w.heap.size < w1.heap.size + 1 := by omega
    obtain ⟨D, hD⟩ : ∃ D, D = w1.heap.size := ⟨_, rfl⟩
    go_wp2_with (at_builtin; refine mark_ ?_)
    unfold Marked
    refine Kd.R_append k68 (w0 := w) w.heap.size rfl (.tmp 13) (.tmp 16) 34 68 (.agg #[.string ⟨#[]⟩, .string ⟨#[]⟩, .string ⟨#[]⟩, .string ⟨#[]⟩, .string ⟨#[]⟩, .int .i64 0, .string ⟨#[]⟩, .bool false]) 112 rfl Try.underlying34 info68 rfl (by decide) (by omega) (.slice none 0 0) [] (anyR act) [.string ⟨#[97, 110, 121]⟩, .string ⟨#[97, 110, 121]⟩, .string ⟨#[97, 110, 121]⟩, .string ⟨#[97, 110, 121]⟩, .string ⟨#[97, 110, 121]⟩, .int .i64 act, .string ⟨#[]⟩, .bool false] (fun k => k ≠ D) (fun _ => False) rfl (show Value.slice (some ⟨w1.heap.size + 1, 0, none⟩) 1 1 = _ by rw [World.size_alloc]) (k68_mkM _ _ _ (anyR act)) (fun _ hk => hk.elim) (fun k hk => by rw [hD]; simp at hk; omega) (Kd.R_nil _ _ _ _ _) (HB1.out.alloc HB1.out.size _) (by simp; omega) (by decide) ?_
    intro v1 w2 hR2 hb2 hg2 hat2
    replace hR2 : k68.R 68 w2 w.heap.size (fun k => k ≠ D) v1 [anyR act] := hR2
    obtain ⟨Av, cv, rfl, hle2, _⟩ := Kd.R_reads hR2
    have bd : w2.heap[D]? = some (.cells #[.slice A0 c.f0.length c0, .slice A1 c.f1.length c1, .slice A2 c.f2.length c2, .slice A3 c.f3.length c3, .slice A4 c.f4.length c4, .slice A5 c.f5.length c5, .slice none 0 0, .int .i64 c.f7] 36 (0, 0)) := by rw [hD]; exact (hg2.block _ (by simp) (by simp [Value.ownBlock])).trans (heap_alloc_new _ _)
    have bh : w2.heap[w.heap.size + 1]? = some (.cells #[.int .i64 h.f0, .int .i64 h.f1, .int .i64 h.f2.f0, .int .u64 h.f2.f1.f0, .int .u64 h.f2.f1.f1, .int .u64 h.f2.f2.f0, .int .u64 h.f2.f2.f1, .int .i64 h.f2.f3, .int .i64 h.f2.f4] 62 (0, 0)) := (hg2.block _ (by simp; omega) (by simp [Value.ownBlock])).trans ((Below.heap_alloc _ _ _ hs1).trans BB.out.2)
    have bc : w2.heap[w.heap.size]? = some (.cells #[.slice A0 c.f0.length c0, .slice A1 c.f1.length c1, .slice A2 c.f2.length c2, .slice A3 c.f3.length c3, .slice A4 c.f4.length c4, .slice A5 c.f5.length c5, .slice A6 c.f6.length c6, .int .i64 c.f7] 36 (0, 0)) := (hg2.block _ (by simp; omega) (by simp [Value.ownBlock])).trans ((Below.heap_alloc _ _ _ hs10).trans BB.out.1)
    clear hc0 hc1 hc2 hc3 hc4 hc5 hc6 hc7 hh0 hh1 hh2 hh3 hh4 hh5 hh6 hh7 hh8 hat2 hg2
    have d0 := (show w2.cell? ⟨D, 0, none⟩ = some (.slice A0 c.f0.length c0) by simp [World.cell?, bd])
    have d1 := (show w2.cell? ⟨D, 1, none⟩ = some (.slice A1 c.f1.length c1) by simp [World.cell?, bd])
    have d2 := (show w2.cell? ⟨D, 2, none⟩ = some (.slice A2 c.f2.length c2) by simp [World.cell?, bd])
    have d3 := (show w2.cell? ⟨D, 3, none⟩ = some (.slice A3 c.f3.length c3) by simp [World.cell?, bd])
    have d4 := (show w2.cell? ⟨D, 4, none⟩ = some (.slice A4 c.f4.length c4) by simp [World.cell?, bd])
    have d5 := (show w2.cell? ⟨D, 5, none⟩ = some (.slice A5 c.f5.length c5) by simp [World.cell?, bd])
    have d6 := (show w2.cell? ⟨D, 6, none⟩ = some (.slice none 0 0) by simp [World.cell?, bd])
    have d7 := (show w2.cell? ⟨D, 7, none⟩ = some (.int .i64 c.f7) by simp [World.cell?, bd])
    have dz : w2.frozen? ⟨D, 6, none⟩ = false := by simp [World.frozen?, bd]
    have cc6 := (show w2.cell? ⟨w.heap.size, 6, none⟩ = some (.slice A6 c.f6.length c6) by simp [World.cell?, bc])
    have hDw : w.heap.size + 1 < D := by omega
    have hD2 : D < w2.heap.size := World.block_lt_of_cell? w2 _ d0
    have hne : w.heap.size ≠ D := by omega
    rw [← hD]
    have HD := Aside0.mk hD
    clear hD
    go_wp2_with (at_builtin; refine mark_ ?_)
    have HB3 := Aside0.mk (show Below w.heap.size w (w2.setCell ⟨D, 6, none⟩ (.slice Av 1 cv)) from hb2.setCell (by simp; omega) _)
    have hb6 : D < (w2.setCell ⟨D, 6, none⟩ (.slice Av 1 cv)).heap.size := by rw [World.size_setCell]; exact hD2
    have bd2 : (w2.setCell ⟨D, 6, none⟩ (.slice Av 1 cv)).heap[D]? = some (.cells #[.slice A0 c.f0.length c0, .slice A1 c.f1.length c1, .slice A2 c.f2.length c2, .slice A3 c.f3.length c3, .slice A4 c.f4.length c4, .slice A5 c.f5.length c5, .slice Av 1 cv, .int .i64 c.f7] 36 (0, 0)) := (heap_setCell_same _ _ _ _ _ _ bd).trans rfl
    have bh2 : (w2.setCell ⟨D, 6, none⟩ (.slice Av 1 cv)).heap[w.heap.size + 1]? = some (.cells #[.int .i64 h.f0, .int .i64 h.f1, .int .i64 h.f2.f0, .int .u64 h.f2.f1.f0, .int .u64 h.f2.f1.f1, .int .u64 h.f2.f2.f0, .int .u64 h.f2.f2.f1, .int .i64 h.f2.f3, .int .i64 h.f2.f4] 62 (0, 0)) := (Below.heap_setCell _ _ _ _ (by simp; omega)).trans bh
    have hne2 := Kd.R_away hR2 (g := D) (fun k hk => hk)
    have hneh := Kd.R_ne hR2 bh (by decide)
    have hHL := (Array.getElem?_eq_some_iff.1 bh2).1
    unfold Marked
    refine Kd.R_append_rows k68 (w0 := w) (Rr := k68.K (w2.setCell ⟨D, 6, none⟩ (.slice Av 1 cv))) w.heap.size rfl (.tmp 20) (.tmp 22) 34 68 (.agg #[.string ⟨#[]⟩, .string ⟨#[]⟩, .string ⟨#[]⟩, .string ⟨#[]⟩, .string ⟨#[]⟩, .int .i64 0, .string ⟨#[]⟩, .bool false]) 112 rfl Try.underlying34 info68 rfl (by decide) (by omega) (.slice Av 1 cv) [anyR act] c.f6 A6 c.f6.length c6 (fun k => k ≠ D) (fun _ => False) rfl rfl (Kd.R_far hR2 (p := ⟨D, 6, none⟩) (fun k hk => hk) _) (Kd.C_below HG6.out HB3.out) (fun x cs hk => by rw [k68_open hk]; exact k68_mkM _ _ _ x) (fun _ hk => hk.elim) (fun k hk => by omega) HB3.out HB3.out.size (by have := HLE.out; simp; omega) ?_
    intro v2 w3 hR3 hb3 hg3 hat3
    obtain ⟨A', cv2, rfl, hle3, _⟩ := Kd.R_reads hR3
    obtain ⟨L, hL⟩ : ∃ L, L = ([anyR act] ++ c.f6).length := ⟨_, rfl⟩
    rw [← hL] at hR3 hle3 ⊢
    have bd3 := (hg3.block D hb6 hne2).trans bd2
    have bh3 := (hg3.block _ hHL hneh).trans bh2
    have HLL := Aside0.mk hL
    have HR3 := Aside0.mk hR3
    have HB3' := Aside0.mk hb3
    have HLE3 := Aside0.mk hle3
    clear hR2 hb2 bd bd2 bh bh2 bc hne2 hneh hHL hb6 hg3 hat3 hR3 hb3 hL d0 d1 d2 d3 d4 d5 d6 d7 dz cc6 hle3
    have d0 := (show w3.cell? ⟨D, 0, none⟩ = some (.slice A0 c.f0.length c0) by simp [World.cell?, bd3])
    have d1 := (show w3.cell? ⟨D, 1, none⟩ = some (.slice A1 c.f1.length c1) by simp [World.cell?, bd3])
    have d2 := (show w3.cell? ⟨D, 2, none⟩ = some (.slice A2 c.f2.length c2) by simp [World.cell?, bd3])
    have d3 := (show w3.cell? ⟨D, 3, none⟩ = some (.slice A3 c.f3.length c3) by simp [World.cell?, bd3])
    have d4 := (show w3.cell? ⟨D, 4, none⟩ = some (.slice A4 c.f4.length c4) by simp [World.cell?, bd3])
    have d5 := (show w3.cell? ⟨D, 5, none⟩ = some (.slice A5 c.f5.length c5) by simp [World.cell?, bd3])
    have d6 := (show w3.cell? ⟨D, 6, none⟩ = some (.slice Av 1 cv) by simp [World.cell?, bd3])
    have d7 := (show w3.cell? ⟨D, 7, none⟩ = some (.int .i64 c.f7) by simp [World.cell?, bd3])
    have hh0 := (show w3.cell? ⟨w.heap.size + 1, 0, none⟩ = some (.int .i64 h.f0) by simp [World.cell?, bh3])
    have hh1 := (show w3.cell? ⟨w.heap.size + 1, 1, none⟩ = some (.int .i64 h.f1) by simp [World.cell?, bh3])
    have hh2 := (show w3.cell? ⟨w.heap.size + 1, 2, none⟩ = some (.int .i64 h.f2.f0) by simp [World.cell?, bh3])
    have hh3 := (show w3.cell? ⟨w.heap.size + 1, 3, none⟩ = some (.int .u64 h.f2.f1.f0) by simp [World.cell?, bh3])
    have hh4 := (show w3.cell? ⟨w.heap.size + 1, 4, none⟩ = some (.int .u64 h.f2.f1.f1) by simp [World.cell?, bh3])
    have hh5 := (show w3.cell? ⟨w.heap.size + 1, 5, none⟩ = some (.int .u64 h.f2.f2.f0) by simp [World.cell?, bh3])
    have hh6 := (show w3.cell? ⟨w.heap.size + 1, 6, none⟩ = some (.int .u64 h.f2.f2.f1) by simp [World.cell?, bh3])
    have hh7 := (show w3.cell? ⟨w.heap.size + 1, 7, none⟩ = some (.int .i64 h.f2.f3) by simp [World.cell?, bh3])
    have hh8 := (show w3.cell? ⟨w.heap.size + 1, 8, none⟩ = some (.int .i64 h.f2.f4) by simp [World.cell?, bh3])
    have dz : w3.frozen? ⟨D, 6, none⟩ = false := by simp [World.frozen?, bd3]
    have hD3 : D < w3.heap.size := World.block_lt_of_cell? w3 _ d0
    clear bd3 bh3
    go_wp2_with fail
    have HBF := Aside0.mk (show Below w.heap.size w (w3.setCell ⟨D, 6, none⟩ (.slice A' L cv2)) from HB3'.out.setCell (by simp; omega) _)
    obtain ⟨AF, cF, hAF, hlF, hCF⟩ := Kd.R_reads (Kd.R_far HR3.out (p := ⟨D, 6, none⟩) (fun k hk => hk) (.slice A' L cv2))
    injection hAF with e1 e2 e3
    subst e1 e3
    have hch := choose_any (withR c (anyR act :: c.f6)) _ h _ (k36_mk (w3.setCell ⟨D, 6, none⟩ (.slice A' L cv2)) (withR c (anyR act :: c.f6)) HL.out.1 (Kd.C_below HG0.out HBF.out) HL.out.2.1 (Kd.C_below HG1.out HBF.out) HL.out.2.2.1 (Kd.C_below HG2.out HBF.out) HL.out.2.2.2.1 (Kd.C_below HG3.out HBF.out) HL.out.2.2.2.2.1 (Kd.C_below HG4.out HBF.out) HL.out.2.2.2.2.2 (Kd.C_below HG5.out HBF.out) hlF hCF)
    rw [choose_anyR] at hch
    rw [show (withR c (anyR act :: c.f6)).f6.length = L from HLL.out.symm] at hch
    refine hch.mono ?_
    rintro e w5 ⟨rfl, hb5⟩
    go_wp2
    go_ret
    exact ⟨by simp, below_then HBF.out HBF.out.size hb5⟩
end Go.Proofs.Ytgppfpfdoooijaa
