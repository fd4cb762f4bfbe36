/- Does a rule match a header: the document's Matches. -/
import Derived.Test.YtgppfpfdoooijaaMatch
namespace Go.Proofs.Ytgppfpfdoooijaa
open Go.RowKit Go.Proofs.YtgppfpfdoooijaaW.PrintWords
set_option linter.unusedVariables false
set_option linter.unusedSimpArgs false
attribute [local go_sem] Later.cell_eq

set_option maxHeartbeats 16000000 in
theorem refmatch_any (c : S36) (cs : List Value) (r : S68) (h : S62) (w : World) (hc : k36.K w c cs) :
    Calls Try.prog 47 #[.agg cs.toArray, .agg #[.string r.f0, .string r.f1, .string r.f2, .string r.f3, .string r.f4, .int .i64 r.f5, .string r.f6, .bool r.f7], .agg #[.int .i64 h.f0, .int .i64 h.f1, .int .i64 h.f2.f0, .int .u64 h.f2.f1.f0, .int .u64 h.f2.f1.f1, .int .u64 h.f2.f2.f0, .int .u64 h.f2.f2.f1, .int .i64 h.f2.f3, .int .i64 h.f2.f4]] w fun e w' =>
      e = .returned (.bool (matchF c r h)) ∧ Below w.heap.size w w' := by
  have HK := Aside0.mk hc
  obtain ⟨A0, c0, A1, c1, A2, c2, A3, c3, A4, c4, A5, c5, A6, c6, rfl, l0, g0, l1, g1, l2, g2, l3, g3, l4, g4, l5, g5, l6, g6⟩ := k36_open hc
  clear hc g0 g1 g2 g3 g4 g5 g6
  have C0 := Aside0.mk (fun (b : Bool) (hb : calledF c h.f0 r.f0 = b) (W : World) (hW : Below w.heap.size w W) => show Calls Try.prog 74 #[.agg #[.slice A0 c.f0.length c0, .slice A1 c.f1.length c1, .slice A2 c.f2.length c2, .slice A3 c.f3.length c3, .slice A4 c.f4.length c4, .slice A5 c.f5.length c5, .slice A6 c.f6.length c6, .int .i64 c.f7], .int .i64 h.f0, .string r.f0] W (fun e w' => e = .returned (.bool b) ∧ Below W.heap.size W w') by rw [← hb]; exact named_any c _ h.f0 r.f0 W (k36.K_below hW HK.out))
  have C1 := Aside0.mk (fun (b : Bool) (hb : calledF c h.f1 r.f1 = b) (W : World) (hW : Below w.heap.size w W) => show Calls Try.prog 74 #[.agg #[.slice A0 c.f0.length c0, .slice A1 c.f1.length c1, .slice A2 c.f2.length c2, .slice A3 c.f3.length c3, .slice A4 c.f4.length c4, .slice A5 c.f5.length c5, .slice A6 c.f6.length c6, .int .i64 c.f7], .int .i64 h.f1, .string r.f1] W (fun e w' => e = .returned (.bool b) ∧ Below W.heap.size W w') by rw [← hb]; exact named_any c _ h.f1 r.f1 W (k36.K_below hW HK.out))
  have C2 := Aside0.mk (fun (b : Bool) (hb : withinF c r.f2 h.f2.f1 = b) (W : World) (hW : Below w.heap.size w W) => show Calls Try.prog 75 #[.agg #[.slice A0 c.f0.length c0, .slice A1 c.f1.length c1, .slice A2 c.f2.length c2, .slice A3 c.f3.length c3, .slice A4 c.f4.length c4, .slice A5 c.f5.length c5, .slice A6 c.f6.length c6, .int .i64 c.f7], .string r.f2, .agg #[.int .u64 h.f2.f1.f0, .int .u64 h.f2.f1.f1]] W (fun e w' => e = .returned (.bool b) ∧ Below W.heap.size W w') by rw [← hb]; exact refwithin_any c _ r.f2 h.f2.f1 W (k36.K_below hW HK.out))
  have C3 := Aside0.mk (fun (b : Bool) (hb : withinF c r.f3 h.f2.f2 = b) (W : World) (hW : Below w.heap.size w W) => show Calls Try.prog 75 #[.agg #[.slice A0 c.f0.length c0, .slice A1 c.f1.length c1, .slice A2 c.f2.length c2, .slice A3 c.f3.length c3, .slice A4 c.f4.length c4, .slice A5 c.f5.length c5, .slice A6 c.f6.length c6, .int .i64 c.f7], .string r.f3, .agg #[.int .u64 h.f2.f2.f0, .int .u64 h.f2.f2.f1]] W (fun e w' => e = .returned (.bool b) ∧ Below W.heap.size W w') by rw [← hb]; exact refwithin_any c _ r.f3 h.f2.f2 W (k36.K_below hW HK.out))
  have C4 := Aside0.mk (fun (b : Bool) (hb : servesF c r.f4 h.f2 = b) (W : World) (hW : Below w.heap.size w W) => show Calls Try.prog 76 #[.agg #[.slice A0 c.f0.length c0, .slice A1 c.f1.length c1, .slice A2 c.f2.length c2, .slice A3 c.f3.length c3, .slice A4 c.f4.length c4, .slice A5 c.f5.length c5, .slice A6 c.f6.length c6, .int .i64 c.f7], .string r.f4, .agg #[.int .i64 h.f2.f0, .int .u64 h.f2.f1.f0, .int .u64 h.f2.f1.f1, .int .u64 h.f2.f2.f0, .int .u64 h.f2.f2.f1, .int .i64 h.f2.f3, .int .i64 h.f2.f4]] W (fun e w' => e = .returned (.bool b) ∧ Below W.heap.size W w') by rw [← hb]; exact refserves_any c _ r.f4 h.f2 W (k36.K_below hW HK.out))
  have HB0 := Aside0.mk (show Below w.heap.size w (((w.alloc (.cells #[.slice A0 c.f0.length c0, .slice A1 c.f1.length c1, .slice A2 c.f2.length c2, .slice A3 c.f3.length c3, .slice A4 c.f4.length c4, .slice A5 c.f5.length c5, .slice A6 c.f6.length c6, .int .i64 c.f7] 36)).alloc (.cells #[.string r.f0, .string r.f1, .string r.f2, .string r.f3, .string r.f4, .int .i64 r.f5, .string r.f6, .bool r.f7] 68)).alloc (.cells #[.int .i64 h.f0, .int .i64 h.f1, .int .i64 h.f2.f0, .int .u64 h.f2.f1.f0, .int .u64 h.f2.f1.f1, .int .u64 h.f2.f2.f0, .int .u64 h.f2.f2.f1, .int .i64 h.f2.f3, .int .i64 h.f2.f4] 62)) by go_grown)
  go_enter Try.func47, Try.ntmps47
  cases p0 : r.f0.toList == [97, 110, 121] with
  | true =>
    cases p1 : r.f1.toList == [97, 110, 121] with
    | true =>
      go_wp2_with fail
      cases v2 : withinF c r.f2 h.f2.f1 with
      | false =>
        refine (C2.out _ v2 _ HB0.out).mono ?_
        rintro e w1 ⟨rfl, hb⟩
        obtain ⟨hcc1, hff1⟩ := bcell hb
        have hs12 : w.heap.size + 1 + 1 < w1.heap.size := by have := hb.size; simp at this; omega
        have hs11 : w.heap.size + 1 < w1.heap.size := by omega
        have hs10 : w.heap.size < w1.heap.size := by omega
        have HB1 := Aside0.mk (show Below w.heap.size w w1 from HB0.out.trans (hb.mono (by simp; omega)))
        clear hb
        have H := Aside0.mk (show matchF c r h = false by unfold matchF zoneB; simp [p0, p1, v2])
        go_wp2
        go_ret
        exact ⟨by rw [H.out]; rfl, HB1.out⟩
      | true =>
        refine (C2.out _ v2 _ HB0.out).mono ?_
        rintro e w1 ⟨rfl, hb⟩
        obtain ⟨hcc1, hff1⟩ := bcell hb
        have hs12 : w.heap.size + 1 + 1 < w1.heap.size := by have := hb.size; simp at this; omega
        have hs11 : w.heap.size + 1 < w1.heap.size := by omega
        have hs10 : w.heap.size < w1.heap.size := by omega
        have HB1 := Aside0.mk (show Below w.heap.size w w1 from HB0.out.trans (hb.mono (by simp; omega)))
        clear hb
        go_wp2_with fail
        cases v3 : withinF c r.f3 h.f2.f2 with
        | false =>
          refine (C3.out _ v3 _ HB1.out).mono ?_
          rintro e w2 ⟨rfl, hb⟩
          obtain ⟨hcc2, hff2⟩ := bcell hb
          have hs22 : w.heap.size + 1 + 1 < w2.heap.size := by have := hb.size; omega
          have hs21 : w.heap.size + 1 < w2.heap.size := by omega
          have hs20 : w.heap.size < w2.heap.size := by omega
          have HB2 := Aside0.mk (below_then HB1.out HB1.out.size hb)
          clear hb
          have H := Aside0.mk (show matchF c r h = false by unfold matchF zoneB; simp [p0, p1, v2, v3])
          go_wp2
          go_ret
          exact ⟨by rw [H.out]; rfl, HB2.out⟩
        | true =>
          refine (C3.out _ v3 _ HB1.out).mono ?_
          rintro e w2 ⟨rfl, hb⟩
          obtain ⟨hcc2, hff2⟩ := bcell hb
          have hs22 : w.heap.size + 1 + 1 < w2.heap.size := by have := hb.size; omega
          have hs21 : w.heap.size + 1 < w2.heap.size := by omega
          have hs20 : w.heap.size < w2.heap.size := by omega
          have HB2 := Aside0.mk (below_then HB1.out HB1.out.size hb)
          clear hb
          go_wp2_with fail
          cases v4 : servesF c r.f4 h.f2 with
          | false =>
            refine (C4.out _ v4 _ HB2.out).mono ?_
            rintro e w3 ⟨rfl, hb⟩
            obtain ⟨hcc3, hff3⟩ := bcell hb
            have hs32 : w.heap.size + 1 + 1 < w3.heap.size := by have := hb.size; omega
            have hs31 : w.heap.size + 1 < w3.heap.size := by omega
            have hs30 : w.heap.size < w3.heap.size := by omega
            have HB3 := Aside0.mk (below_then HB2.out HB2.out.size hb)
            clear hb
            have H := Aside0.mk (show matchF c r h = false by unfold matchF zoneB; simp [p0, p1, v2, v3, v4])
            go_wp2
            go_ret
            exact ⟨by rw [H.out]; rfl, HB3.out⟩
          | true =>
            refine (C4.out _ v4 _ HB2.out).mono ?_
            rintro e w3 ⟨rfl, hb⟩
            obtain ⟨hcc3, hff3⟩ := bcell hb
            have hs32 : w.heap.size + 1 + 1 < w3.heap.size := by have := hb.size; omega
            have hs31 : w.heap.size + 1 < w3.heap.size := by omega
            have hs30 : w.heap.size < w3.heap.size := by omega
            have HB3 := Aside0.mk (below_then HB2.out HB2.out.size hb)
            clear hb
            have H := Aside0.mk (show matchF c r h = true by unfold matchF zoneB; simp [p0, p1, v2, v3, v4])
            go_wp2
            go_ret
            exact ⟨by rw [H.out]; rfl, HB3.out⟩
    | false =>
      go_wp2_with fail
      cases v1 : calledF c h.f1 r.f1 with
      | false =>
        refine (C1.out _ v1 _ HB0.out).mono ?_
        rintro e w1 ⟨rfl, hb⟩
        obtain ⟨hcc1, hff1⟩ := bcell hb
        have hs12 : w.heap.size + 1 + 1 < w1.heap.size := by have := hb.size; simp at this; omega
        have hs11 : w.heap.size + 1 < w1.heap.size := by omega
        have hs10 : w.heap.size < w1.heap.size := by omega
        have HB1 := Aside0.mk (show Below w.heap.size w w1 from HB0.out.trans (hb.mono (by simp; omega)))
        clear hb
        have H := Aside0.mk (show matchF c r h = false by unfold matchF zoneB; simp [p0, p1, v1])
        go_wp2
        go_ret
        exact ⟨by rw [H.out]; rfl, HB1.out⟩
      | true =>
        refine (C1.out _ v1 _ HB0.out).mono ?_
        rintro e w1 ⟨rfl, hb⟩
        obtain ⟨hcc1, hff1⟩ := bcell hb
        have hs12 : w.heap.size + 1 + 1 < w1.heap.size := by have := hb.size; simp at this; omega
        have hs11 : w.heap.size + 1 < w1.heap.size := by omega
        have hs10 : w.heap.size < w1.heap.size := by omega
        have HB1 := Aside0.mk (show Below w.heap.size w w1 from HB0.out.trans (hb.mono (by simp; omega)))
        clear hb
        go_wp2_with fail
        cases v2 : withinF c r.f2 h.f2.f1 with
        | false =>
          refine (C2.out _ v2 _ HB1.out).mono ?_
          rintro e w2 ⟨rfl, hb⟩
          obtain ⟨hcc2, hff2⟩ := bcell hb
          have hs22 : w.heap.size + 1 + 1 < w2.heap.size := by have := hb.size; omega
          have hs21 : w.heap.size + 1 < w2.heap.size := by omega
          have hs20 : w.heap.size < w2.heap.size := by omega
          have HB2 := Aside0.mk (below_then HB1.out HB1.out.size hb)
          clear hb
          have H := Aside0.mk (show matchF c r h = false by unfold matchF zoneB; simp [p0, p1, v1, v2])
          go_wp2
          go_ret
          exact ⟨by rw [H.out]; rfl, HB2.out⟩
        | true =>
          refine (C2.out _ v2 _ HB1.out).mono ?_
          rintro e w2 ⟨rfl, hb⟩
          obtain ⟨hcc2, hff2⟩ := bcell hb
          have hs22 : w.heap.size + 1 + 1 < w2.heap.size := by have := hb.size; omega
          have hs21 : w.heap.size + 1 < w2.heap.size := by omega
          have hs20 : w.heap.size < w2.heap.size := by omega
          have HB2 := Aside0.mk (below_then HB1.out HB1.out.size hb)
          clear hb
          go_wp2_with fail
          cases v3 : withinF c r.f3 h.f2.f2 with
          | false =>
            refine (C3.out _ v3 _ HB2.out).mono ?_
            rintro e w3 ⟨rfl, hb⟩
            obtain ⟨hcc3, hff3⟩ := bcell hb
            have hs32 : w.heap.size + 1 + 1 < w3.heap.size := by have := hb.size; omega
            have hs31 : w.heap.size + 1 < w3.heap.size := by omega
            have hs30 : w.heap.size < w3.heap.size := by omega
            have HB3 := Aside0.mk (below_then HB2.out HB2.out.size hb)
            clear hb
            have H := Aside0.mk (show matchF c r h = false by unfold matchF zoneB; simp [p0, p1, v1, v2, v3])
            go_wp2
            go_ret
            exact ⟨by rw [H.out]; rfl, HB3.out⟩
          | true =>
            refine (C3.out _ v3 _ HB2.out).mono ?_
            rintro e w3 ⟨rfl, hb⟩
            obtain ⟨hcc3, hff3⟩ := bcell hb
            have hs32 : w.heap.size + 1 + 1 < w3.heap.size := by have := hb.size; omega
            have hs31 : w.heap.size + 1 < w3.heap.size := by omega
            have hs30 : w.heap.size < w3.heap.size := by omega
            have HB3 := Aside0.mk (below_then HB2.out HB2.out.size hb)
            clear hb
            go_wp2_with fail
            cases v4 : servesF c r.f4 h.f2 with
            | false =>
              refine (C4.out _ v4 _ HB3.out).mono ?_
              rintro e w4 ⟨rfl, hb⟩
              obtain ⟨hcc4, hff4⟩ := bcell hb
              have hs42 : w.heap.size + 1 + 1 < w4.heap.size := by have := hb.size; omega
              have hs41 : w.heap.size + 1 < w4.heap.size := by omega
              have hs40 : w.heap.size < w4.heap.size := by omega
              have HB4 := Aside0.mk (below_then HB3.out HB3.out.size hb)
              clear hb
              have H := Aside0.mk (show matchF c r h = false by unfold matchF zoneB; simp [p0, p1, v1, v2, v3, v4])
              go_wp2
              go_ret
              exact ⟨by rw [H.out]; rfl, HB4.out⟩
            | true =>
              refine (C4.out _ v4 _ HB3.out).mono ?_
              rintro e w4 ⟨rfl, hb⟩
              obtain ⟨hcc4, hff4⟩ := bcell hb
              have hs42 : w.heap.size + 1 + 1 < w4.heap.size := by have := hb.size; omega
              have hs41 : w.heap.size + 1 < w4.heap.size := by omega
              have hs40 : w.heap.size < w4.heap.size := by omega
              have HB4 := Aside0.mk (below_then HB3.out HB3.out.size hb)
              clear hb
              have H := Aside0.mk (show matchF c r h = true by unfold matchF zoneB; simp [p0, p1, v1, v2, v3, v4])
              go_wp2
              go_ret
              exact ⟨by rw [H.out]; rfl, HB4.out⟩
  | false =>
    go_wp2_with fail
    cases v0 : calledF c h.f0 r.f0 with
    | false =>
      refine (C0.out _ v0 _ HB0.out).mono ?_
      rintro e w1 ⟨rfl, hb⟩
      obtain ⟨hcc1, hff1⟩ := bcell hb
      have hs12 : w.heap.size + 1 + 1 < w1.heap.size := by have := hb.size; simp at this; omega
      have hs11 : w.heap.size + 1 < w1.heap.size := by omega
      have hs10 : w.heap.size < w1.heap.size := by omega
      have HB1 := Aside0.mk (show Below w.heap.size w w1 from HB0.out.trans (hb.mono (by simp; omega)))
      clear hb
      have H := Aside0.mk (show matchF c r h = false by unfold matchF zoneB; simp [p0, v0])
      go_wp2
      go_ret
      exact ⟨by rw [H.out]; rfl, HB1.out⟩
    | true =>
      refine (C0.out _ v0 _ HB0.out).mono ?_
      rintro e w1 ⟨rfl, hb⟩
      obtain ⟨hcc1, hff1⟩ := bcell hb
      have hs12 : w.heap.size + 1 + 1 < w1.heap.size := by have := hb.size; simp at this; omega
      have hs11 : w.heap.size + 1 < w1.heap.size := by omega
      have hs10 : w.heap.size < w1.heap.size := by omega
      have HB1 := Aside0.mk (show Below w.heap.size w w1 from HB0.out.trans (hb.mono (by simp; omega)))
      clear hb
      cases p1 : r.f1.toList == [97, 110, 121] with
      | true =>
        go_wp2_with fail
        cases v2 : withinF c r.f2 h.f2.f1 with
        | false =>
          refine (C2.out _ v2 _ HB1.out).mono ?_
          rintro e w2 ⟨rfl, hb⟩
          obtain ⟨hcc2, hff2⟩ := bcell hb
          have hs22 : w.heap.size + 1 + 1 < w2.heap.size := by have := hb.size; omega
          have hs21 : w.heap.size + 1 < w2.heap.size := by omega
          have hs20 : w.heap.size < w2.heap.size := by omega
          have HB2 := Aside0.mk (below_then HB1.out HB1.out.size hb)
          clear hb
          have H := Aside0.mk (show matchF c r h = false by unfold matchF zoneB; simp [p0, v0, p1, v2])
          go_wp2
          go_ret
          exact ⟨by rw [H.out]; rfl, HB2.out⟩
        | true =>
          refine (C2.out _ v2 _ HB1.out).mono ?_
          rintro e w2 ⟨rfl, hb⟩
          obtain ⟨hcc2, hff2⟩ := bcell hb
          have hs22 : w.heap.size + 1 + 1 < w2.heap.size := by have := hb.size; omega
          have hs21 : w.heap.size + 1 < w2.heap.size := by omega
          have hs20 : w.heap.size < w2.heap.size := by omega
          have HB2 := Aside0.mk (below_then HB1.out HB1.out.size hb)
          clear hb
          go_wp2_with fail
          cases v3 : withinF c r.f3 h.f2.f2 with
          | false =>
            refine (C3.out _ v3 _ HB2.out).mono ?_
            rintro e w3 ⟨rfl, hb⟩
            obtain ⟨hcc3, hff3⟩ := bcell hb
            have hs32 : w.heap.size + 1 + 1 < w3.heap.size := by have := hb.size; omega
            have hs31 : w.heap.size + 1 < w3.heap.size := by omega
            have hs30 : w.heap.size < w3.heap.size := by omega
            have HB3 := Aside0.mk (below_then HB2.out HB2.out.size hb)
            clear hb
            have H := Aside0.mk (show matchF c r h = false by unfold matchF zoneB; simp [p0, v0, p1, v2, v3])
            go_wp2
            go_ret
            exact ⟨by rw [H.out]; rfl, HB3.out⟩
          | true =>
            refine (C3.out _ v3 _ HB2.out).mono ?_
            rintro e w3 ⟨rfl, hb⟩
            obtain ⟨hcc3, hff3⟩ := bcell hb
            have hs32 : w.heap.size + 1 + 1 < w3.heap.size := by have := hb.size; omega
            have hs31 : w.heap.size + 1 < w3.heap.size := by omega
            have hs30 : w.heap.size < w3.heap.size := by omega
            have HB3 := Aside0.mk (below_then HB2.out HB2.out.size hb)
            clear hb
            go_wp2_with fail
            cases v4 : servesF c r.f4 h.f2 with
            | false =>
              refine (C4.out _ v4 _ HB3.out).mono ?_
              rintro e w4 ⟨rfl, hb⟩
              obtain ⟨hcc4, hff4⟩ := bcell hb
              have hs42 : w.heap.size + 1 + 1 < w4.heap.size := by have := hb.size; omega
              have hs41 : w.heap.size + 1 < w4.heap.size := by omega
              have hs40 : w.heap.size < w4.heap.size := by omega
              have HB4 := Aside0.mk (below_then HB3.out HB3.out.size hb)
              clear hb
              have H := Aside0.mk (show matchF c r h = false by unfold matchF zoneB; simp [p0, v0, p1, v2, v3, v4])
              go_wp2
              go_ret
              exact ⟨by rw [H.out]; rfl, HB4.out⟩
            | true =>
              refine (C4.out _ v4 _ HB3.out).mono ?_
              rintro e w4 ⟨rfl, hb⟩
              obtain ⟨hcc4, hff4⟩ := bcell hb
              have hs42 : w.heap.size + 1 + 1 < w4.heap.size := by have := hb.size; omega
              have hs41 : w.heap.size + 1 < w4.heap.size := by omega
              have hs40 : w.heap.size < w4.heap.size := by omega
              have HB4 := Aside0.mk (below_then HB3.out HB3.out.size hb)
              clear hb
              have H := Aside0.mk (show matchF c r h = true by unfold matchF zoneB; simp [p0, v0, p1, v2, v3, v4])
              go_wp2
              go_ret
              exact ⟨by rw [H.out]; rfl, HB4.out⟩
      | false =>
        go_wp2_with fail
        cases v1 : calledF c h.f1 r.f1 with
        | false =>
          refine (C1.out _ v1 _ HB1.out).mono ?_
          rintro e w2 ⟨rfl, hb⟩
          obtain ⟨hcc2, hff2⟩ := bcell hb
          have hs22 : w.heap.size + 1 + 1 < w2.heap.size := by have := hb.size; omega
          have hs21 : w.heap.size + 1 < w2.heap.size := by omega
          have hs20 : w.heap.size < w2.heap.size := by omega
          have HB2 := Aside0.mk (below_then HB1.out HB1.out.size hb)
          clear hb
          have H := Aside0.mk (show matchF c r h = false by unfold matchF zoneB; simp [p0, v0, p1, v1])
          go_wp2
          go_ret
          exact ⟨by rw [H.out]; rfl, HB2.out⟩
        | true =>
          refine (C1.out _ v1 _ HB1.out).mono ?_
          rintro e w2 ⟨rfl, hb⟩
          obtain ⟨hcc2, hff2⟩ := bcell hb
          have hs22 : w.heap.size + 1 + 1 < w2.heap.size := by have := hb.size; omega
          have hs21 : w.heap.size + 1 < w2.heap.size := by omega
          have hs20 : w.heap.size < w2.heap.size := by omega
          have HB2 := Aside0.mk (below_then HB1.out HB1.out.size hb)
          clear hb
          go_wp2_with fail
          cases v2 : withinF c r.f2 h.f2.f1 with
          | false =>
            refine (C2.out _ v2 _ HB2.out).mono ?_
            rintro e w3 ⟨rfl, hb⟩
            obtain ⟨hcc3, hff3⟩ := bcell hb
            have hs32 : w.heap.size + 1 + 1 < w3.heap.size := by have := hb.size; omega
            have hs31 : w.heap.size + 1 < w3.heap.size := by omega
            have hs30 : w.heap.size < w3.heap.size := by omega
            have HB3 := Aside0.mk (below_then HB2.out HB2.out.size hb)
            clear hb
            have H := Aside0.mk (show matchF c r h = false by unfold matchF zoneB; simp [p0, v0, p1, v1, v2])
            go_wp2
            go_ret
            exact ⟨by rw [H.out]; rfl, HB3.out⟩
          | true =>
            refine (C2.out _ v2 _ HB2.out).mono ?_
            rintro e w3 ⟨rfl, hb⟩
            obtain ⟨hcc3, hff3⟩ := bcell hb
            have hs32 : w.heap.size + 1 + 1 < w3.heap.size := by have := hb.size; omega
            have hs31 : w.heap.size + 1 < w3.heap.size := by omega
            have hs30 : w.heap.size < w3.heap.size := by omega
            have HB3 := Aside0.mk (below_then HB2.out HB2.out.size hb)
            clear hb
            go_wp2_with fail
            cases v3 : withinF c r.f3 h.f2.f2 with
            | false =>
              refine (C3.out _ v3 _ HB3.out).mono ?_
              rintro e w4 ⟨rfl, hb⟩
              obtain ⟨hcc4, hff4⟩ := bcell hb
              have hs42 : w.heap.size + 1 + 1 < w4.heap.size := by have := hb.size; omega
              have hs41 : w.heap.size + 1 < w4.heap.size := by omega
              have hs40 : w.heap.size < w4.heap.size := by omega
              have HB4 := Aside0.mk (below_then HB3.out HB3.out.size hb)
              clear hb
              have H := Aside0.mk (show matchF c r h = false by unfold matchF zoneB; simp [p0, v0, p1, v1, v2, v3])
              go_wp2
              go_ret
              exact ⟨by rw [H.out]; rfl, HB4.out⟩
            | true =>
              refine (C3.out _ v3 _ HB3.out).mono ?_
              rintro e w4 ⟨rfl, hb⟩
              obtain ⟨hcc4, hff4⟩ := bcell hb
              have hs42 : w.heap.size + 1 + 1 < w4.heap.size := by have := hb.size; omega
              have hs41 : w.heap.size + 1 < w4.heap.size := by omega
              have hs40 : w.heap.size < w4.heap.size := by omega
              have HB4 := Aside0.mk (below_then HB3.out HB3.out.size hb)
              clear hb
              go_wp2_with fail
              cases v4 : servesF c r.f4 h.f2 with
              | false =>
                refine (C4.out _ v4 _ HB4.out).mono ?_
                rintro e w5 ⟨rfl, hb⟩
                obtain ⟨hcc5, hff5⟩ := bcell hb
                have hs52 : w.heap.size + 1 + 1 < w5.heap.size := by have := hb.size; omega
                have hs51 : w.heap.size + 1 < w5.heap.size := by omega
                have hs50 : w.heap.size < w5.heap.size := by omega
                have HB5 := Aside0.mk (below_then HB4.out HB4.out.size hb)
                clear hb
                have H := Aside0.mk (show matchF c r h = false by unfold matchF zoneB; simp [p0, v0, p1, v1, v2, v3, v4])
                go_wp2
                go_ret
                exact ⟨by rw [H.out]; rfl, HB5.out⟩
              | true =>
                refine (C4.out _ v4 _ HB4.out).mono ?_
                rintro e w5 ⟨rfl, hb⟩
                obtain ⟨hcc5, hff5⟩ := bcell hb
                have hs52 : w.heap.size + 1 + 1 < w5.heap.size := by have := hb.size; omega
                have hs51 : w.heap.size + 1 < w5.heap.size := by omega
                have hs50 : w.heap.size < w5.heap.size := by omega
                have HB5 := Aside0.mk (below_then HB4.out HB4.out.size hb)
                clear hb
                have H := Aside0.mk (show matchF c r h = true by unfold matchF zoneB; simp [p0, v0, p1, v1, v2, v3, v4])
                go_wp2
                go_ret
                exact ⟨by rw [H.out]; rfl, HB5.out⟩
end Go.Proofs.Ytgppfpfdoooijaa
