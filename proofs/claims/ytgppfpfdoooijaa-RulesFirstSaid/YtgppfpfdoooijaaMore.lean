/- RulesFirst, walked: the first rule that matches decides, whatever rules are put behind it. -/
import Derived.Test.YtgppfpfdoooijaaFirst
namespace Go.Proofs.Ytgppfpfdoooijaa
open Go.RowKit Go.Proofs.YtgppfpfdoooijaaW.PrintWords
set_option linter.unusedVariables false
set_option linter.unusedSimpArgs false
attribute [local go_sem] Later.cell_eq

/-- What the law compares at its end: X is chosen of the rules, Y of the rules with more behind. -/
theorem first_end (c : S36) (h : S62) (l : List S68) :
    (decide (0 ≤ (chooseF c h).f1) = true ∧ chooseF (withR c (c.f6 ++ l)) h = chooseF c h) ∨
    (decide (0 ≤ (chooseF c h).f1) = false ∧ decide ((chooseF (withR c (c.f6 ++ l)) h).f1 < 0) = true ∧ chooseF (withR c (c.f6 ++ l)) h = chooseF c h) ∨
    (decide (0 ≤ (chooseF c h).f1) = false ∧ decide ((chooseF (withR c (c.f6 ++ l)) h).f1 < 0) = false ∧ decide ((c.f6.length : Int) ≤ (chooseF (withR c (c.f6 ++ l)) h).f1) = true) := by
  rw [choose_rule, choose_rule]
  by_cases h0 : 0 ≤ ruleF c h
  · exact .inl ⟨by simpa using h0, choose_more l h0⟩
  · have h1 : ruleF c h < 0 := by omega
    rcases choose_less l h1 with h2 | h2
    · refine .inr (.inl ⟨by simpa using h0, by simpa using h2, ?_⟩)
      rw [choose_none (c := c) rfl h1, choose_none (c := withR c (c.f6 ++ l)) rfl h2]
      rfl
    · exact .inr (.inr ⟨by simpa using h0, by simp; omega, by simpa using h2⟩)

set_option maxHeartbeats 8000000 in
theorem first_any (c : S36) (cs : List Value) (h : S62) (l : List S68) (Am : Option Addr) (cm : Nat) (w : World) (hc : k36.K w c cs) (hf : Fits c) (hlm : l.length ≤ cm) (hCm : k68.C w Am l.length l) :
    Calls Try.prog 8 #[.agg cs.toArray, .agg #[.int .i64 h.f0, .int .i64 h.f1, .int .i64 h.f2.f0, .int .u64 h.f2.f1.f0, .int .u64 h.f2.f1.f1, .int .u64 h.f2.f2.f0, .int .u64 h.f2.f2.f1, .int .i64 h.f2.f3, .int .i64 h.f2.f4], .slice Am l.length cm] w fun e w' => e = .returned (.bool true) ∧ Below w.heap.size w w' := by
  have hmaxm : l.length ≤ 9223372036854775807 := Kd.C_max hCm
  have HM := Aside0.mk hCm
  have HK := Aside0.mk hc
  obtain ⟨A0, c0, A1, c1, A2, c2, A3, c3, A4, c4, A5, c5, A6, c6, rfl, l0, g0, l1, g1, l2, g2, l3, g3, l4, g4, l5, g5, l6, g6⟩ := k36_open hc
  have HG0 := Aside0.mk g0
  have HG1 := Aside0.mk g1
  have HG2 := Aside0.mk g2
  have HG3 := Aside0.mk g3
  have HG4 := Aside0.mk g4
  have HG5 := Aside0.mk g5
  have HG6 := Aside0.mk g6
  have HL := Aside0.mk (And.intro l0 (And.intro l1 (And.intro l2 (And.intro l3 (And.intro l4 l5)))))
  have HF := Aside0.mk hf
  clear hc hf g0 g1 g2 g3 g4 g5 g6 hCm
  obtain ⟨X, hX⟩ : ∃ X, X = chooseF c h := ⟨_, rfl⟩
  obtain ⟨Y, hY⟩ : ∃ Y, Y = chooseF (withR c (c.f6 ++ l)) h := ⟨_, rfl⟩
  have HE := first_end c h l
  rw [← hX, ← hY] at HE
  have HE0 := Aside0.mk HE
  clear HE
  have HCX := Aside0.mk (fun (W : World) (hW : Below w.heap.size w W) => show Calls Try.prog 24 #[.agg #[.slice A0 c.f0.length c0, .slice A1 c.f1.length c1, .slice A2 c.f2.length c2, .slice A3 c.f3.length c3, .slice A4 c.f4.length c4, .slice A5 c.f5.length c5, .slice A6 c.f6.length c6, .int .i64 c.f7], .agg #[.int .i64 h.f0, .int .i64 h.f1, .int .i64 h.f2.f0, .int .u64 h.f2.f1.f0, .int .u64 h.f2.f1.f1, .int .u64 h.f2.f2.f0, .int .u64 h.f2.f2.f1, .int .i64 h.f2.f3, .int .i64 h.f2.f4]] W (fun e w' => e = .returned (.agg #[.int .i64 X.f0, .int .i64 X.f1, .int .i64 X.f2, .bool X.f3]) ∧ Below W.heap.size W w') by rw [hX]; exact choose_any c _ h W (k36.K_below hW HK.out))
  have HRX := Aside0.mk (fun (W : World) (hW : Below w.heap.size w W) => show Calls Try.prog 25 #[.agg #[.slice A0 c.f0.length c0, .slice A1 c.f1.length c1, .slice A2 c.f2.length c2, .slice A3 c.f3.length c3, .slice A4 c.f4.length c4, .slice A5 c.f5.length c5, .slice A6 c.f6.length c6, .int .i64 c.f7], .agg #[.int .i64 h.f0, .int .i64 h.f1, .int .i64 h.f2.f0, .int .u64 h.f2.f1.f0, .int .u64 h.f2.f1.f1, .int .u64 h.f2.f2.f0, .int .u64 h.f2.f2.f1, .int .i64 h.f2.f3, .int .i64 h.f2.f4]] W (fun e w' => e = .returned (.agg #[.int .i64 X.f0, .int .i64 X.f1, .int .i64 X.f2, .bool X.f3]) ∧ Below W.heap.size W w') by rw [hX]; exact refchoose_any c _ h W (k36.K_below hW HK.out))
  have HYE := Aside0.mk hY
  clear hX hY
  go_enter Try.func8, Try.ntmps8
  go_wp2_with fail
  have HB0 := Aside0.mk (show Below w.heap.size w ((w.alloc (.cells #[.slice A0 c.f0.length c0, .slice A1 c.f1.length c1, .slice A2 c.f2.length c2, .slice A3 c.f3.length c3, .slice A4 c.f4.length c4, .slice A5 c.f5.length c5, .slice A6 c.f6.length c6, .int .i64 c.f7] 36)).alloc (.cells #[.int .i64 h.f0, .int .i64 h.f1, .int .i64 h.f2.f0, .int .u64 h.f2.f1.f0, .int .u64 h.f2.f1.f1, .int .u64 h.f2.f2.f0, .int .u64 h.f2.f2.f1, .int .i64 h.f2.f3, .int .i64 h.f2.f4] 62)) by go_grown)
  refine (heavy17_any c _ _ (k36.K_below HB0.out HK.out) HF.out).mono ?_
  rintro e w1 ⟨b, rfl, hle, hb1⟩
  have HB1 := Aside0.mk (below2 hb1)
  have hs1 : w.heap.size + 1 < w1.heap.size := by have := hb1.size; simp at this; omega
  have hs10 : w.heap.size < w1.heap.size := by omega
  have b0 : w1.heap[w.heap.size]? = some (.cells #[.slice A0 c.f0.length c0, .slice A1 c.f1.length c1, .slice A2 c.f2.length c2, .slice A3 c.f3.length c3, .slice A4 c.f4.length c4, .slice A5 c.f5.length c5, .slice A6 c.f6.length c6, .int .i64 c.f7] 36 (0, 0)) := (hb1.block _ (by simp; omega)).trans ((Below.heap_alloc _ _ _ (by simp)).trans (heap_alloc_new w _))
  have b1 : w1.heap[w.heap.size + 1]? = some (.cells #[.int .i64 h.f0, .int .i64 h.f1, .int .i64 h.f2.f0, .int .u64 h.f2.f1.f0, .int .u64 h.f2.f1.f1, .int .u64 h.f2.f2.f0, .int .u64 h.f2.f2.f1, .int .i64 h.f2.f3, .int .i64 h.f2.f4] 62 (0, 0)) := (hb1.block _ (by simp)).trans (heap_alloc_at _ _ _ (by simp))
  have BB := Aside0.mk (And.intro b0 b1)
  have hc0 := (show w1.cell? ⟨w.heap.size, 0, none⟩ = some (.slice A0 c.f0.length c0) by simp [World.cell?, b0])
  have hc1 := (show w1.cell? ⟨w.heap.size, 1, none⟩ = some (.slice A1 c.f1.length c1) by simp [World.cell?, b0])
  have hc2 := (show w1.cell? ⟨w.heap.size, 2, none⟩ = some (.slice A2 c.f2.length c2) by simp [World.cell?, b0])
  have hc3 := (show w1.cell? ⟨w.heap.size, 3, none⟩ = some (.slice A3 c.f3.length c3) by simp [World.cell?, b0])
  have hc4 := (show w1.cell? ⟨w.heap.size, 4, none⟩ = some (.slice A4 c.f4.length c4) by simp [World.cell?, b0])
  have hc5 := (show w1.cell? ⟨w.heap.size, 5, none⟩ = some (.slice A5 c.f5.length c5) by simp [World.cell?, b0])
  have hc6 := (show w1.cell? ⟨w.heap.size, 6, none⟩ = some (.slice A6 c.f6.length c6) by simp [World.cell?, b0])
  have hc7 := (show w1.cell? ⟨w.heap.size, 7, none⟩ = some (.int .i64 c.f7) by simp [World.cell?, b0])
  have hh0 := (show w1.cell? ⟨w.heap.size + 1, 0, none⟩ = some (.int .i64 h.f0) by simp [World.cell?, b1])
  have hh1 := (show w1.cell? ⟨w.heap.size + 1, 1, none⟩ = some (.int .i64 h.f1) by simp [World.cell?, b1])
  have hh2 := (show w1.cell? ⟨w.heap.size + 1, 2, none⟩ = some (.int .i64 h.f2.f0) by simp [World.cell?, b1])
  have hh3 := (show w1.cell? ⟨w.heap.size + 1, 3, none⟩ = some (.int .u64 h.f2.f1.f0) by simp [World.cell?, b1])
  have hh4 := (show w1.cell? ⟨w.heap.size + 1, 4, none⟩ = some (.int .u64 h.f2.f1.f1) by simp [World.cell?, b1])
  have hh5 := (show w1.cell? ⟨w.heap.size + 1, 5, none⟩ = some (.int .u64 h.f2.f2.f0) by simp [World.cell?, b1])
  have hh6 := (show w1.cell? ⟨w.heap.size + 1, 6, none⟩ = some (.int .u64 h.f2.f2.f1) by simp [World.cell?, b1])
  have hh7 := (show w1.cell? ⟨w.heap.size + 1, 7, none⟩ = some (.int .i64 h.f2.f3) by simp [World.cell?, b1])
  have hh8 := (show w1.cell? ⟨w.heap.size + 1, 8, none⟩ = some (.int .i64 h.f2.f4) by simp [World.cell?, b1])
  clear hb1 b0 b1
  cases b with
  | true =>
    clear hle
    go_wp2
    go_ret
    exact ⟨rfl, HB1.out⟩
  | false =>
  have hlen : c.f6.length ≤ 4096 := by have := hle rfl; unfold lens at this; omega
  have HLE := Aside0.mk hlen
  clear hle hlen
  by_cases hmore : (256 : Int) < l.length
  · have hd : decide ((256 : Int) < l.length) = true := by simpa using hmore
    go_wp2
    go_ret
    exact ⟨rfl, HB1.out⟩
  have hd : decide ((256 : Int) < l.length) = false := by simpa using hmore
  have HMORE := Aside0.mk (show l.length ≤ 256 by omega)
  clear hmore
  go_wp2_with fail
  refine (HCX.out _ HB1.out).mono ?_
  rintro e w2 ⟨rfl, hb2⟩
  have HB2 := Aside0.mk (below_then HB1.out HB1.out.size hb2)
  have b0 := (hb2.block _ hs10).trans BB.out.1
  have b1 := (hb2.block _ hs1).trans BB.out.2
  have BB2 := Aside0.mk (And.intro b0 b1)
  have hs2 : w.heap.size + 1 < w2.heap.size := by have := hb2.size; omega
  have hs20 : w.heap.size < w2.heap.size := by omega
  clear hc0 hc1 hc2 hc3 hc4 hc5 hc6 hc7 hh0 hh1 hh2 hh3 hh4 hh5 hh6 hh7 hh8
  have hc0 := (show w2.cell? ⟨w.heap.size, 0, none⟩ = some (.slice A0 c.f0.length c0) by simp [World.cell?, b0])
  have hc1 := (show w2.cell? ⟨w.heap.size, 1, none⟩ = some (.slice A1 c.f1.length c1) by simp [World.cell?, b0])
  have hc2 := (show w2.cell? ⟨w.heap.size, 2, none⟩ = some (.slice A2 c.f2.length c2) by simp [World.cell?, b0])
  have hc3 := (show w2.cell? ⟨w.heap.size, 3, none⟩ = some (.slice A3 c.f3.length c3) by simp [World.cell?, b0])
  have hc4 := (show w2.cell? ⟨w.heap.size, 4, none⟩ = some (.slice A4 c.f4.length c4) by simp [World.cell?, b0])
  have hc5 := (show w2.cell? ⟨w.heap.size, 5, none⟩ = some (.slice A5 c.f5.length c5) by simp [World.cell?, b0])
  have hc6 := (show w2.cell? ⟨w.heap.size, 6, none⟩ = some (.slice A6 c.f6.length c6) by simp [World.cell?, b0])
  have hc7 := (show w2.cell? ⟨w.heap.size, 7, none⟩ = some (.int .i64 c.f7) by simp [World.cell?, b0])
  have hh0 := (show w2.cell? ⟨w.heap.size + 1, 0, none⟩ = some (.int .i64 h.f0) by simp [World.cell?, b1])
  have hh1 := (show w2.cell? ⟨w.heap.size + 1, 1, none⟩ = some (.int .i64 h.f1) by simp [World.cell?, b1])
  have hh2 := (show w2.cell? ⟨w.heap.size + 1, 2, none⟩ = some (.int .i64 h.f2.f0) by simp [World.cell?, b1])
  have hh3 := (show w2.cell? ⟨w.heap.size + 1, 3, none⟩ = some (.int .u64 h.f2.f1.f0) by simp [World.cell?, b1])
  have hh4 := (show w2.cell? ⟨w.heap.size + 1, 4, none⟩ = some (.int .u64 h.f2.f1.f1) by simp [World.cell?, b1])
  have hh5 := (show w2.cell? ⟨w.heap.size + 1, 5, none⟩ = some (.int .u64 h.f2.f2.f0) by simp [World.cell?, b1])
  have hh6 := (show w2.cell? ⟨w.heap.size + 1, 6, none⟩ = some (.int .u64 h.f2.f2.f1) by simp [World.cell?, b1])
  have hh7 := (show w2.cell? ⟨w.heap.size + 1, 7, none⟩ = some (.int .i64 h.f2.f3) by simp [World.cell?, b1])
  have hh8 := (show w2.cell? ⟨w.heap.size + 1, 8, none⟩ = some (.int .i64 h.f2.f4) by simp [World.cell?, b1])
  clear hb2 b0 b1
  obtain ⟨G, hG⟩ : ∃ G, G = w2.heap.size := ⟨_, rfl⟩
  go_upto_region 4 with fail
  have HBA := Aside0.mk (show Below w.heap.size w (w2.alloc (.cells #[.int .i64 X.f0, .int .i64 X.f1, .int .i64 X.f2, .bool X.f3] 64)) from HB2.out.alloc HB2.out.size _)
  refine wp_region_later (by kernel_rfl) (by kernel_rfl) ?_
  repeat (first | go_big_quiet_step ((go_at_call 25; exact later_of (HRX.out _ (below_then HBA.out HBA.out.size (Later.below _))))) | quiet_step ((go_at_call 25; exact later_of (HRX.out _ (below_then HBA.out HBA.out.size (Later.below _))))))
  refine wpQuiet_nil ?_
  intro w3 hw3
  have hb3 := later_below hw3
  have HB3 := Aside0.mk (below_then HBA.out HBA.out.size hb3)
  have b0 := (hb3.block _ (by simp; omega)).trans ((Below.heap_alloc _ _ _ hs20).trans BB2.out.1)
  have b1 := (hb3.block _ (by simp; omega)).trans ((Below.heap_alloc _ _ _ hs2).trans BB2.out.2)
  have bx := (hb3.block G (by rw [hG]; simp)).trans (heap_alloc_at _ _ _ hG)
  have BB3 := Aside0.mk (And.intro b0 (And.intro b1 bx))
  have hs3 : G < w3.heap.size := (Array.getElem?_eq_some_iff.1 bx).1
  have hG1 : w.heap.size + 1 < G := by omega
  have HGD := Aside0.mk hG
  clear hc0 hc1 hc2 hc3 hc4 hc5 hc6 hc7 hh0 hh1 hh2 hh3 hh4 hh5 hh6 hh7 hh8
  have hc0 := (show w3.cell? ⟨w.heap.size, 0, none⟩ = some (.slice A0 c.f0.length c0) by simp [World.cell?, b0])
  have hc1 := (show w3.cell? ⟨w.heap.size, 1, none⟩ = some (.slice A1 c.f1.length c1) by simp [World.cell?, b0])
  have hc2 := (show w3.cell? ⟨w.heap.size, 2, none⟩ = some (.slice A2 c.f2.length c2) by simp [World.cell?, b0])
  have hc3 := (show w3.cell? ⟨w.heap.size, 3, none⟩ = some (.slice A3 c.f3.length c3) by simp [World.cell?, b0])
  have hc4 := (show w3.cell? ⟨w.heap.size, 4, none⟩ = some (.slice A4 c.f4.length c4) by simp [World.cell?, b0])
  have hc5 := (show w3.cell? ⟨w.heap.size, 5, none⟩ = some (.slice A5 c.f5.length c5) by simp [World.cell?, b0])
  have hc6 := (show w3.cell? ⟨w.heap.size, 6, none⟩ = some (.slice A6 c.f6.length c6) by simp [World.cell?, b0])
  have hc7 := (show w3.cell? ⟨w.heap.size, 7, none⟩ = some (.int .i64 c.f7) by simp [World.cell?, b0])
  rw [← hG]
  clear hw3 hb3 b0 b1 bx hG
  have hs30 : w.heap.size < w3.heap.size := by omega
  have hs31 : w.heap.size < w3.heap.size + 1 := by omega
  obtain ⟨D, hD⟩ : ∃ D, D = w3.heap.size := ⟨_, rfl⟩
  go_wp2_with (at_builtin; refine mark_ ?_)
  unfold Marked
  refine Kd.R_append_rows k68 (w0 := w) (Rr := k68.K (w3.alloc (.cells #[.slice A0 c.f0.length c0, .slice A1 c.f1.length c1, .slice A2 c.f2.length c2, .slice A3 c.f3.length c3, .slice A4 c.f4.length c4, .slice A5 c.f5.length c5, .slice none 0 0, .int .i64 c.f7] 36))) w.heap.size rfl (.tmp 28) (.tmp 30) 34 68 (.agg #[.string ⟨#[]⟩, .string ⟨#[]⟩, .string ⟨#[]⟩, .string ⟨#[]⟩, .string ⟨#[]⟩, .int .i64 0, .string ⟨#[]⟩, .bool false]) 112 rfl Try.underlying34 info68 rfl (by decide) (by omega) (.slice none 0 0) [] c.f6 A6 c.f6.length c6 (fun k => k ≠ D) (fun _ => False) rfl rfl (Kd.R_nil _ _ _ _ _) (Kd.C_below HG6.out (HB3.out.alloc HB3.out.size _)) (fun x cs hk => by rw [k68_open hk]; exact k68_mkM _ _ _ x) (fun _ hk => hk.elim) (fun k hk => by rw [hD]; simp at hk; omega) (HB3.out.alloc HB3.out.size _) (by simp; omega) (by have := HLE.out; simp; omega) ?_
  intro v1 w4 hR4 hb4 hg4 hat4
  replace hR4 : k68.R 68 w4 w.heap.size (fun k => k ≠ D) v1 c.f6 := hR4
  obtain ⟨Av, cv, rfl, hle4, _⟩ := Kd.R_reads hR4
  have bd : w4.heap[D]? = some (.cells #[.slice A0 c.f0.length c0, .slice A1 c.f1.length c1, .slice A2 c.f2.length c2, .slice A3 c.f3.length c3, .slice A4 c.f4.length c4, .slice A5 c.f5.length c5, .slice none 0 0, .int .i64 c.f7] 36 (0, 0)) := by rw [hD]; exact (hg4.block _ (by simp) (by simp [Value.ownBlock])).trans (heap_alloc_new _ _)
  have bc : w4.heap[w.heap.size]? = some (.cells #[.slice A0 c.f0.length c0, .slice A1 c.f1.length c1, .slice A2 c.f2.length c2, .slice A3 c.f3.length c3, .slice A4 c.f4.length c4, .slice A5 c.f5.length c5, .slice A6 c.f6.length c6, .int .i64 c.f7] 36 (0, 0)) := (hg4.block _ (by simp; omega) (by simp [Value.ownBlock])).trans ((Below.heap_alloc _ _ _ (by omega)).trans BB3.out.1)
  have bh : w4.heap[w.heap.size + 1]? = some (.cells #[.int .i64 h.f0, .int .i64 h.f1, .int .i64 h.f2.f0, .int .u64 h.f2.f1.f0, .int .u64 h.f2.f1.f1, .int .u64 h.f2.f2.f0, .int .u64 h.f2.f2.f1, .int .i64 h.f2.f3, .int .i64 h.f2.f4] 62 (0, 0)) := (hg4.block _ (by simp; omega) (by simp [Value.ownBlock])).trans ((Below.heap_alloc _ _ _ (by omega)).trans BB3.out.2.1)
  have bx : w4.heap[G]? = some (.cells #[.int .i64 X.f0, .int .i64 X.f1, .int .i64 X.f2, .bool X.f3] 64 (0, 0)) := (hg4.block _ (by simp; omega) (by simp [Value.ownBlock])).trans ((Below.heap_alloc _ _ _ (by omega)).trans BB3.out.2.2)
  have hGD : G < D := by omega
  clear hc0 hc1 hc2 hc3 hc4 hc5 hc6 hc7 hat4 hg4
  have d0 := (show w4.cell? ⟨D, 0, none⟩ = some (.slice A0 c.f0.length c0) by simp [World.cell?, bd])
  have d1 := (show w4.cell? ⟨D, 1, none⟩ = some (.slice A1 c.f1.length c1) by simp [World.cell?, bd])
  have d2 := (show w4.cell? ⟨D, 2, none⟩ = some (.slice A2 c.f2.length c2) by simp [World.cell?, bd])
  have d3 := (show w4.cell? ⟨D, 3, none⟩ = some (.slice A3 c.f3.length c3) by simp [World.cell?, bd])
  have d4 := (show w4.cell? ⟨D, 4, none⟩ = some (.slice A4 c.f4.length c4) by simp [World.cell?, bd])
  have d5 := (show w4.cell? ⟨D, 5, none⟩ = some (.slice A5 c.f5.length c5) by simp [World.cell?, bd])
  have d6 := (show w4.cell? ⟨D, 6, none⟩ = some (.slice none 0 0) by simp [World.cell?, bd])
  have d7 := (show w4.cell? ⟨D, 7, none⟩ = some (.int .i64 c.f7) by simp [World.cell?, bd])
  have dz : w4.frozen? ⟨D, 6, none⟩ = false := by simp [World.frozen?, bd]
  have hDw : w.heap.size + 1 < D := by omega
  have hD2 : D < w4.heap.size := World.block_lt_of_cell? w4 _ d0
  rw [← hD]
  have HD := Aside0.mk hD
  clear hD
  go_wp2_with (at_builtin; refine mark_ ?_)
  have HB5 := Aside0.mk (show Below w.heap.size w (w4.setCell ⟨D, 6, none⟩ (.slice Av c.f6.length cv)) from hb4.setCell (by simp; omega) _)
  have hb6 : D < (w4.setCell ⟨D, 6, none⟩ (.slice Av c.f6.length cv)).heap.size := by rw [World.size_setCell]; exact hD2
  have bd2 : (w4.setCell ⟨D, 6, none⟩ (.slice Av c.f6.length cv)).heap[D]? = some (.cells #[.slice A0 c.f0.length c0, .slice A1 c.f1.length c1, .slice A2 c.f2.length c2, .slice A3 c.f3.length c3, .slice A4 c.f4.length c4, .slice A5 c.f5.length c5, .slice Av c.f6.length cv, .int .i64 c.f7] 36 (0, 0)) := (heap_setCell_same _ _ _ _ _ _ bd).trans rfl
  have bh2 : (w4.setCell ⟨D, 6, none⟩ (.slice Av c.f6.length cv)).heap[w.heap.size + 1]? = some (.cells #[.int .i64 h.f0, .int .i64 h.f1, .int .i64 h.f2.f0, .int .u64 h.f2.f1.f0, .int .u64 h.f2.f1.f1, .int .u64 h.f2.f2.f0, .int .u64 h.f2.f2.f1, .int .i64 h.f2.f3, .int .i64 h.f2.f4] 62 (0, 0)) := (Below.heap_setCell _ _ _ _ (by simp; omega)).trans bh
  have bc2 : (w4.setCell ⟨D, 6, none⟩ (.slice Av c.f6.length cv)).heap[w.heap.size]? = some (.cells #[.slice A0 c.f0.length c0, .slice A1 c.f1.length c1, .slice A2 c.f2.length c2, .slice A3 c.f3.length c3, .slice A4 c.f4.length c4, .slice A5 c.f5.length c5, .slice A6 c.f6.length c6, .int .i64 c.f7] 36 (0, 0)) := (Below.heap_setCell _ _ _ _ (by simp; omega)).trans bc
  have bx2 : (w4.setCell ⟨D, 6, none⟩ (.slice Av c.f6.length cv)).heap[G]? = some (.cells #[.int .i64 X.f0, .int .i64 X.f1, .int .i64 X.f2, .bool X.f3] 64 (0, 0)) := (Below.heap_setCell _ _ _ _ (by simp; omega)).trans bx
  have hne2 := Kd.R_away hR4 (g := D) (fun k hk => hk)
  have hneh := Kd.R_ne hR4 bh (by decide)
  have hnec := Kd.R_ne hR4 bc (by decide)
  have hnex := Kd.R_ne hR4 bx (by decide)
  unfold Marked
  refine Kd.R_append_rows k68 (w0 := w) (Rr := k68.K (w4.setCell ⟨D, 6, none⟩ (.slice Av c.f6.length cv))) w.heap.size rfl (.tmp 34) (.tmp 35) 34 68 (.agg #[.string ⟨#[]⟩, .string ⟨#[]⟩, .string ⟨#[]⟩, .string ⟨#[]⟩, .string ⟨#[]⟩, .int .i64 0, .string ⟨#[]⟩, .bool false]) 112 rfl Try.underlying34 info68 rfl (by decide) (by omega) (.slice Av c.f6.length cv) c.f6 l Am l.length cm (fun k => k ≠ D) (fun _ => False) rfl rfl (Kd.R_far hR4 (p := ⟨D, 6, none⟩) (fun k hk => hk) _) (Kd.C_below HM.out HB5.out) (fun x cs hk => by rw [k68_open hk]; exact k68_mkM _ _ _ x) (fun _ hk => hk.elim) (fun k hk => by omega) HB5.out HB5.out.size (by have := HLE.out; have := HMORE.out; omega) ?_
  intro v2 w6 hR6 hb6' hg6 hat6
  obtain ⟨A', cv2, rfl, hle6, _⟩ := Kd.R_reads hR6
  obtain ⟨L, hL⟩ : ∃ L, L = (c.f6 ++ l).length := ⟨_, rfl⟩
  rw [← hL] at hR6 hle6 ⊢
  have bd3 := (hg6.block D hb6 hne2).trans bd2
  have bh3 := (hg6.block _ (Array.getElem?_eq_some_iff.1 bh2).1 hneh).trans bh2
  have bc3 := (hg6.block _ (Array.getElem?_eq_some_iff.1 bc2).1 hnec).trans bc2
  have bx3 := (hg6.block _ (Array.getElem?_eq_some_iff.1 bx2).1 hnex).trans bx2
  have HLL := Aside0.mk hL
  have HR6 := Aside0.mk hR6
  have HB6 := Aside0.mk hb6'
  have HLE6 := Aside0.mk hle6
  clear hR4 hb4 bd bd2 bh bh2 bc bc2 bx bx2 hne2 hneh hnec hnex hb6 hg6 hat6 hR6 hb6' hL dz hle6 d0 d1 d2 d3 d4 d5 d6 d7
  have d0 := (show w6.cell? ⟨D, 0, none⟩ = some (.slice A0 c.f0.length c0) by simp [World.cell?, bd3])
  have d1 := (show w6.cell? ⟨D, 1, none⟩ = some (.slice A1 c.f1.length c1) by simp [World.cell?, bd3])
  have d2 := (show w6.cell? ⟨D, 2, none⟩ = some (.slice A2 c.f2.length c2) by simp [World.cell?, bd3])
  have d3 := (show w6.cell? ⟨D, 3, none⟩ = some (.slice A3 c.f3.length c3) by simp [World.cell?, bd3])
  have d4 := (show w6.cell? ⟨D, 4, none⟩ = some (.slice A4 c.f4.length c4) by simp [World.cell?, bd3])
  have d5 := (show w6.cell? ⟨D, 5, none⟩ = some (.slice A5 c.f5.length c5) by simp [World.cell?, bd3])
  have d6 := (show w6.cell? ⟨D, 6, none⟩ = some (.slice Av c.f6.length cv) by simp [World.cell?, bd3])
  have d7 := (show w6.cell? ⟨D, 7, none⟩ = some (.int .i64 c.f7) by simp [World.cell?, bd3])
  have hh0 := (show w6.cell? ⟨w.heap.size + 1, 0, none⟩ = some (.int .i64 h.f0) by simp [World.cell?, bh3])
  have hh1 := (show w6.cell? ⟨w.heap.size + 1, 1, none⟩ = some (.int .i64 h.f1) by simp [World.cell?, bh3])
  have hh2 := (show w6.cell? ⟨w.heap.size + 1, 2, none⟩ = some (.int .i64 h.f2.f0) by simp [World.cell?, bh3])
  have hh3 := (show w6.cell? ⟨w.heap.size + 1, 3, none⟩ = some (.int .u64 h.f2.f1.f0) by simp [World.cell?, bh3])
  have hh4 := (show w6.cell? ⟨w.heap.size + 1, 4, none⟩ = some (.int .u64 h.f2.f1.f1) by simp [World.cell?, bh3])
  have hh5 := (show w6.cell? ⟨w.heap.size + 1, 5, none⟩ = some (.int .u64 h.f2.f2.f0) by simp [World.cell?, bh3])
  have hh6 := (show w6.cell? ⟨w.heap.size + 1, 6, none⟩ = some (.int .u64 h.f2.f2.f1) by simp [World.cell?, bh3])
  have hh7 := (show w6.cell? ⟨w.heap.size + 1, 7, none⟩ = some (.int .i64 h.f2.f3) by simp [World.cell?, bh3])
  have hh8 := (show w6.cell? ⟨w.heap.size + 1, 8, none⟩ = some (.int .i64 h.f2.f4) by simp [World.cell?, bh3])
  have dz : w6.frozen? ⟨D, 6, none⟩ = false := by simp [World.frozen?, bd3]
  have hD6 : D < w6.heap.size := World.block_lt_of_cell? w6 _ d0
  have BC := Aside0.mk (And.intro bc3 bx3)
  clear bd3 bh3 bc3 bx3
  go_wp2_with fail
  have HBF := Aside0.mk (show Below w.heap.size w (w6.setCell ⟨D, 6, none⟩ (.slice A' L cv2)) from HB6.out.setCell (by simp; omega) _)
  obtain ⟨AF, cF, hAF, hlF, hCF⟩ := Kd.R_reads (Kd.R_far HR6.out (p := ⟨D, 6, none⟩) (fun k hk => hk) (.slice A' L cv2))
  injection hAF with e1 e2 e3
  subst e1 e3
  have hch := choose_any (withR c (c.f6 ++ l)) _ h _ (k36_mk (w6.setCell ⟨D, 6, none⟩ (.slice A' L cv2)) (withR c (c.f6 ++ l)) HL.out.1 (Kd.C_below HG0.out HBF.out) HL.out.2.1 (Kd.C_below HG1.out HBF.out) HL.out.2.2.1 (Kd.C_below HG2.out HBF.out) HL.out.2.2.2.1 (Kd.C_below HG3.out HBF.out) HL.out.2.2.2.2.1 (Kd.C_below HG4.out HBF.out) HL.out.2.2.2.2.2 (Kd.C_below HG5.out HBF.out) hlF hCF)
  rw [← HYE.out] at hch
  rw [show (withR c (c.f6 ++ l)).f6.length = L from HLL.out.symm] at hch
  refine hch.mono ?_
  rintro e w7 ⟨rfl, hb7⟩
  clear hch hCF hlF
  have bc7 := (hb7.block w.heap.size (by rw [World.size_setCell]; omega)).trans ((Below.heap_setCell _ _ _ _ (by simp; omega)).trans BC.out.1)
  have bx7 := (hb7.block G (by rw [World.size_setCell]; omega)).trans ((Below.heap_setCell _ _ _ _ (by simp; omega)).trans BC.out.2)
  have HB7 := Aside0.mk (below_then HBF.out HBF.out.size hb7)
  clear hb7 dz d0 d1 d2 d3 d4 d5 d6 d7 hh0 hh1 hh2 hh3 hh4 hh5 hh6 hh7 hh8
  have x0 := (show w7.cell? ⟨G, 0, none⟩ = some (.int .i64 X.f0) by simp [World.cell?, bx7])
  have x1 := (show w7.cell? ⟨G, 1, none⟩ = some (.int .i64 X.f1) by simp [World.cell?, bx7])
  have x2 := (show w7.cell? ⟨G, 2, none⟩ = some (.int .i64 X.f2) by simp [World.cell?, bx7])
  have x3 := (show w7.cell? ⟨G, 3, none⟩ = some (.bool X.f3) by simp [World.cell?, bx7])
  have r6 : w7.cell? ⟨w.heap.size, 6, none⟩ = some (.slice A6 c.f6.length c6) := by simp [World.cell?, bc7]
  have hs7 : G < w7.heap.size := World.block_lt_of_cell? w7 _ x0
  have hs70 : w.heap.size < w7.heap.size := by omega
  clear bc7 bx7
  rcases HE0.out with ⟨e1, e2⟩ | ⟨e1, e2, e3⟩ | ⟨e1, e2, e3⟩
  · rw [e2]
    have hq : (X.f0 == X.f0) = true := by simp
    clear e2
    go_wp2
    go_ret
    exact ⟨by simp, HB7.out.alloc HB7.out.size _⟩
  · rw [e3] at e2 ⊢
    clear e3
    go_wp2
    go_ret
    exact ⟨by simp, HB7.out.alloc HB7.out.size _⟩
  · go_wp2
    go_ret
    exact ⟨by simp, HB7.out.alloc HB7.out.size _⟩
end Go.Proofs.Ytgppfpfdoooijaa
