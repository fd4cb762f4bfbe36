/- The library's Compact at addresses: of equal ones side by side the first stays. -/
import Derived.Test.YtcgcognejjpcmaaRow
import Derived.Test.YtcgcognejjpcmaaSort
namespace Go.Proofs.Ytcgcognejjpcmaa
open Go.RowKit Go.Proofs.YtcgcognejjpcmaaW.PrintWords
set_option linter.unusedVariables false
set_option linter.unusedSimpArgs false
attribute [local go_sem] Later.cell_eq

/-- Does place j stay? -/
def keepsA (xs : List S24) (j : Nat) : Bool := j == 0 || !eqA (xs.getD j z24) (xs.getD (j - 1) z24)
/-- What stays of the first n. -/
def comp (xs : List S24) : Nat → List S24
  | 0 => []
  | n + 1 => comp xs n ++ (if keepsA xs n = true then [xs.getD n z24] else [])
theorem comp_yes {xs : List S24} {n : Nat} (h : keepsA xs n = true) : comp xs (n + 1) = comp xs n ++ [xs.getD n z24] := by rw [comp, if_pos h]
theorem comp_no {xs : List S24} {n : Nat} (h : keepsA xs n = false) : comp xs (n + 1) = comp xs n := by rw [comp, if_neg (by rw [h]; decide), List.append_nil]
theorem comp_all {xs : List S24} : ∀ {k : Nat}, k ≤ xs.length → (∀ j, j < k → keepsA xs j = true) → comp xs k = xs.take k
  | 0, _, _ => by simp [comp]
  | k + 1, hk, h => by
    rw [comp_yes (h k (by omega)), comp_all (by omega) fun j hj => h j (by omega), List.take_add_one, List.getElem?_eq_getElem (by omega), List.getD_eq_getElem?_getD, List.getElem?_eq_getElem (by omega)]
    rfl
theorem keeps_succ {xs : List S24} {p : Nat} : keepsA xs (p + 1) = !eqA (xs.getD (p + 1) z24) (xs.getD p z24) := by simp [keepsA]
theorem comp_le (xs : List S24) : ∀ n, (comp xs n).length ≤ n
  | 0 => Nat.le_refl 0
  | n + 1 => by
    have := comp_le xs n
    rw [comp, List.length_append]
    split <;> simp <;> omega
theorem keeps_one {xs : List S24} : ∀ j, j < 0 + 1 → keepsA xs j = true := by
  intro j hj
  obtain rfl : j = 0 := by omega
  rfl
theorem ea_len (x : S24) : (ea x).length = 2 := rfl
theorem ea_one (x : S24) : (ea x).toArray.all (·.oneCell') = true := by simp [ea, Value.oneCell']

/-- How the row stands when places behind k0 have been looked at up to k0 + q + 1. -/
def CompAt (xs : List S24) (k0 q kk : Nat) (ys : List S24) : Prop := ys.length = xs.length ∧ kk = (comp xs (k0 + q + 1)).length ∧ ys.take kk = comp xs (k0 + q + 1) ∧ kk ≤ k0 + q ∧ ∀ j, k0 + q ≤ j → ys.getD j z24 = xs.getD j z24
theorem comp_start {xs : List S24} {k0 : Nat} (h : comp xs (k0 + 1) = xs.take k0) (hk : k0 ≤ xs.length) : CompAt xs k0 0 k0 xs := ⟨rfl, by rw [Nat.add_zero, h, List.length_take]; omega, by rw [Nat.add_zero, h], by omega, fun _ _ => rfl⟩
theorem comp_skip {xs ys : List S24} {k0 q kk : Nat} (h : CompAt xs k0 q kk ys) (hk : keepsA xs (k0 + q + 1) = false) : CompAt xs k0 (q + 1) kk ys := by
  obtain ⟨h1, h2, h3, h4, h5⟩ := h
  refine ⟨h1, ?_, ?_, by omega, fun j hj => h5 j (by omega)⟩
  · rw [← Nat.add_assoc, comp_no hk]; exact h2
  · rw [← Nat.add_assoc, comp_no hk]; exact h3
theorem comp_put {xs ys : List S24} {k0 q kk : Nat} (h : CompAt xs k0 q kk ys) (hk : keepsA xs (k0 + q + 1) = true) (hl : k0 + q + 1 < xs.length) : CompAt xs k0 (q + 1) (kk + 1) (ys.set kk (xs.getD (k0 + (q + 1)) z24)) := by
  obtain ⟨h1, h2, h3, h4, h5⟩ := h
  have e := comp_yes hk
  refine ⟨by simpa using h1, ?_, ?_, by omega, fun j hj => ?_⟩
  · rw [← Nat.add_assoc, e, List.length_append, ← h2]; rfl
  · rw [← Nat.add_assoc, e, ← h3, List.take_add_one, List.take_set_of_le (by omega), List.getElem?_set_self (by omega)]
    rfl
  · rw [← h5 j (by omega), List.getD_eq_getElem?_getD, List.getElem?_set_ne (by omega), ← List.getD_eq_getElem?_getD]
theorem comp_end {xs ys : List S24} {k0 q kk n : Nat} (h : CompAt xs k0 q kk ys) (hn : xs.length = n) (he : k0 + q + 1 = n) : kk = (comp xs n).length ∧ ys.take kk = comp xs n := by
  obtain ⟨h1, h2, h3, h4, h5⟩ := h
  rw [he] at h2 h3
  exact ⟨h2, h3⟩
theorem gb_below {w w1 : World} {g : Nat} (h : Below w.heap.size w w1) : w.grownBy w1 (some g) := ⟨h.os, h.tape, h.output, h.size, fun k hk _ => h.block k hk⟩
theorem zero_list (n : Nat) : (List.replicate n z24).flatMap ea = List.replicate (n * 2) (.int .u64 0) := by
  induction n with
  | zero => rfl
  | succ n ih =>
    rw [List.replicate_succ, List.flatMap_cons, ih, show (n + 1) * 2 = 2 + n * 2 by omega, ← List.replicate_append_replicate]
    rfl
theorem zero_one (n : Nat) : ∀ v ∈ (List.replicate n z24).flatMap ea, v.oneCell' = true := by
  intro v hv
  rw [zero_list] at hv
  rw [List.eq_of_mem_replicate hv]
  rfl
theorem zero_cells (n : Nat) : (Builtin.zeroCells (Value.agg #[.int .u64 0, .int .u64 0]).cells n).toList = (List.replicate n z24).flatMap ea := by
  rw [zero_list]
  apply List.ext_getElem
  · simp [Builtin.zeroCells, Value.cells, Nat.mul_comm]
  · intro i h1 h2
    have h : i % 2 = 0 ∨ i % 2 = 1 := by omega
    simp only [Builtin.zeroCells, Value.cells, Array.toList_map, Array.toList_range, List.getElem_map, List.getElem_range, List.getElem_replicate]
    rcases h with h | h <;> simp [h]
set_option maxRecDepth 100000 in
set_option maxHeartbeats 8000000 in
theorem compact_any (xs : List S24) (rest : List Value) (g cap : Nat) (w : World) (hrow : w.heap[g]? = some (.cells (rowG ea xs rest) 24 (0, 0))) (hcap : xs.length ≤ cap) (hmx : xs.length ≤ 9223372036854775807) :
    Calls Try.prog 67 #[.slice (some ⟨g, 0, none⟩) xs.length cap] w fun e w' => e = .returned (.slice (some ⟨g, 0, none⟩) (comp xs xs.length).length cap) ∧ w.grownBy w' (some g) ∧ ∃ ys rest', ys.take (comp xs xs.length).length = comp xs xs.length ∧ (comp xs xs.length).length ≤ ys.length ∧ w'.heap[g]? = some (.cells (rowG ea ys rest') 24 (0, 0)) := by
  have HR := Aside0.mk hrow
  obtain ⟨n, hn⟩ : ∃ n, xs.length = n := ⟨_, rfl⟩
  have HN := Aside0.mk hn
  rw [hn] at hcap hmx
  rw [hn]
  clear hrow hn
  by_cases h2 : n < 2
  · have hall : comp xs n = xs := by
      have hk : ∀ j, j < n → keepsA xs j = true := fun j hj => by
        obtain rfl : j = 0 := (by omega)
        rfl
      rw [comp_all (by have := HN.out; omega) hk, ← HN.out, List.take_length]
    have HALL := Aside0.mk hall
    clear hall
    go_enter Try.func67, Try.ntmps67
    go_wp2
    go_ret
    exact ⟨by rw [HALL.out, HN.out]; rfl, World.grownBy.refl _ _, xs, rest, by rw [HALL.out, List.take_length], by rw [HALL.out]; exact Nat.le_refl _, HR.out⟩
  · go_enter Try.func67, Try.ntmps67
    go_wp2
    go_loopw [3] (fun v wr => ∃ p : Nat, p < n ∧ v = .int .i64 ((p : Int) + 1) ∧ Aside0 (∀ j, j < p + 1 → keepsA xs j = true) ∧ Aside0 (Below w.heap.size w wr)) (fun v _ => n - (intOf v).toNat)
    case atStart => exact ⟨0, by omega, rfl, ⟨keeps_one⟩, ⟨Below.refl _ _⟩⟩
    case round =>
      obtain ⟨p, hp, rfl, HA, HB⟩ := hrel
      have hrw := (HB.out.block g (blk_lt HR.out)).trans HR.out
      have HRW := Aside0.mk hrw
      clear hrw
      by_cases hlt : p + 1 < n
      · obtain ⟨x, hx⟩ : ∃ x, x = xs.getD (p + 1) z24 := ⟨_, rfl⟩
        obtain ⟨y, hy⟩ : ∃ y, y = xs.getD p z24 := ⟨_, rfl⟩
        obtain ⟨b, hb⟩ : ∃ b, eqA x y = b := ⟨_, rfl⟩
        have Hx := Aside0.mk (show ((rowG ea xs rest).extract ((p + 1) * 2) ((p + 1) * 2 + 2)).toList = [.int .u64 x.f0, .int .u64 x.f1] by rw [hx]; exact rowG_get ea_len (by have := HN.out; omega) z24)
        have Hy := Aside0.mk (show ((rowG ea xs rest).extract (p * 2) (p * 2 + 2)).toList = [.int .u64 y.f0, .int .u64 y.f1] by rw [hy]; exact rowG_get ea_len (by have := HN.out; omega) z24)
        have HK := Aside0.mk (show keepsA xs (p + 1) = !b by rw [keeps_succ, ← hx, ← hy, hb])
        have HBB := Aside0.mk hb
        clear hx hy hb
        go_upto_region 6 with fail
        refine wp_region_later (by kernel_rfl) (by kernel_rfl) ?_
        repeat (first
          | go_big_quiet_skip
          | (refine quiet_load_blk 24 (.tmp 18) rfl rfl g ((p + 1) * 2) 2 [.int .u64 x.f0, .int .u64 x.f1] (rowG ea xs rest) 24 (0, 0) _ rfl (later_blk HRW.out) (Hx.out) Try.underlying24 rfl (by kernel_rfl) ?_; go_frame)
          | (refine quiet_load_blk 24 (.tmp 23) rfl rfl g (p * 2) 2 [.int .u64 y.f0, .int .u64 y.f1] (rowG ea xs rest) 24 (0, 0) _ rfl (later_blk HRW.out) (Hy.out) Try.underlying24 rfl (by kernel_rfl) ?_; go_frame)
          | (refine q_eql24 rfl _ _ _ rfl x y rfl rfl ?_; rw [HBB.out]; go_frame)
          | go_big_quiet_step (fail)
          | fail)
        refine wpQuiet_nil ?_
        intro w8 hw8
        have HB8 := Aside0.mk (below_then HB.out HB.out.size (later_below hw8))
        clear hw8
        cases b with
        | false =>
          go_wp2
          go_roundw
          case rel => exact ⟨p + 1, by omega, by go_num, ⟨all_succ HA.out (by rw [HK.out]; rfl)⟩, HB8⟩
          case measure => simp [intOf]; omega
        | true =>
          have HNO := Aside0.mk (show comp xs (p + 1 + 1) = xs.take (p + 1) by rw [comp_no (by rw [HK.out]; rfl), comp_all (by have := HN.out; omega) HA.out])
          have HR8 := Aside0.mk ((HB8.out.block g (blk_lt HR.out)).trans HR.out)
          have HB9 := Aside0.mk (World.grownBy.refl w8 (some g))
          go_wp2
          generalize decide ((p : Int) + 1 < (n : Int)) = b13
          generalize decide ((n : Int) < 2) = b8
          go_loopw [3, 5] (fun v3 v5 wj => ∃ (kk q : Nat) (ys : List S24), q + 1 ≤ n - (p + 1) ∧ kk < n ∧ v3 = .int .i64 kk ∧ v5 = .int .i64 ((q : Int) + 1) ∧ Aside0 (CompAt xs (p + 1) q kk ys) ∧ Aside0 (w8.grownBy wj (some g)) ∧ Aside0 (wj.heap[g]? = some (.cells (rowG ea ys rest) 24 (0, 0)))) (fun _ v _ => n - (p + 1) - (intOf v).toNat)
          case atStart => exact ⟨p + 1, 0, xs, by omega, by omega, by simp, rfl, ⟨comp_start HNO.out (by have := HN.out; omega)⟩, HB9, HR8⟩
          case round =>
            clear HB9
            obtain ⟨kk, q, ys, hq, hkn, rfl, rfl, HC, HG, HRW2⟩ := hrel
            by_cases hql : q + 1 < n - (p + 1)
            · obtain ⟨u, hu⟩ : ∃ u, u = xs.getD (p + 1 + (q + 1)) z24 := ⟨_, rfl⟩
              obtain ⟨v, hv⟩ : ∃ v, v = xs.getD (p + 1 + q) z24 := ⟨_, rfl⟩
              obtain ⟨b2, hb2⟩ : ∃ b2, eqA u v = b2 := ⟨_, rfl⟩
              have Hu := Aside0.mk (show ((rowG ea ys rest).extract ((p + 1) * 2 + (q + 1) * 2) ((p + 1) * 2 + (q + 1) * 2 + 2)).toList = [.int .u64 u.f0, .int .u64 u.f1] by
                rw [hu, ← Nat.add_mul, ← HC.out.2.2.2.2 _ (by omega)]; exact rowG_get ea_len (by have := HN.out; have := HC.out.1; omega) z24)
              have Hv := Aside0.mk (show ((rowG ea ys rest).extract ((p + 1) * 2 + q * 2) ((p + 1) * 2 + q * 2 + 2)).toList = [.int .u64 v.f0, .int .u64 v.f1] by
                rw [hv, ← Nat.add_mul, ← HC.out.2.2.2.2 _ (by omega)]; exact rowG_get ea_len (by have := HN.out; have := HC.out.1; omega) z24)
              have HK2 := Aside0.mk (show keepsA xs (p + 1 + q + 1) = !b2 by rw [keeps_succ, Nat.add_assoc, ← hu, ← hv, hb2])
              have HB2 := Aside0.mk hb2
              have HU := Aside0.mk hu
              clear hu hv hb2
              go_upto_region 11 with fail
              refine wp_region_later (by kernel_rfl) (by kernel_rfl) ?_
              repeat (first
                | go_big_quiet_skip
                | (refine quiet_load_blk 24 (.tmp 37) rfl rfl g ((p + 1) * 2 + (q + 1) * 2) 2 [.int .u64 u.f0, .int .u64 u.f1] (rowG ea ys rest) 24 (0, 0) _ rfl (later_blk HRW2.out) (Hu.out) Try.underlying24 rfl (by kernel_rfl) ?_; go_frame)
                | (refine quiet_load_blk 24 (.tmp 42) rfl rfl g ((p + 1) * 2 + q * 2) 2 [.int .u64 v.f0, .int .u64 v.f1] (rowG ea ys rest) 24 (0, 0) _ rfl (later_blk HRW2.out) (Hv.out) Try.underlying24 rfl (by kernel_rfl) ?_; go_frame)
                | (refine q_neq24 rfl _ _ _ rfl u v rfl rfl ?_; rw [HB2.out]; go_frame)
                | go_big_quiet_step (fail)
                | fail)
              refine wpQuiet_nil ?_
              intro w9 hw9
              have HR9 := Aside0.mk (((later_below hw9).block g (blk_lt HRW2.out)).trans HRW2.out)
              have HG9 := Aside0.mk (HG.out.trans (gb_below (later_below hw9)))
              clear hw9
              cases b2 with
              | true =>
                go_wp2
                go_roundw
                case rel => exact ⟨kk, q + 1, ys, by omega, hkn, rfl, by go_num, ⟨comp_skip HC.out (by rw [HK2.out]; rfl)⟩, HG9, HR9⟩
                case measure => simp [intOf]; omega
              | false =>
                go_upto_region 13 with (first
                  | (refine gate_ (.load 24 (.tmp 49)) rfl ?_; refine wpList_load_blk rfl 24 _ rfl g ((p + 1) * 2 + (q + 1) * 2) 2 [.int .u64 u.f0, .int .u64 u.f1] (rowG ea ys rest) 24 (0, 0) _ rfl HR9.out Hu.out Try.underlying24 rfl (by kernel_rfl) ?_)
                  | (refine gate_ (.store 24 (.tmp 51) (.tmp 50)) rfl ?_; refine wpList_store_blk rfl 24 _ _ rfl g (kk * 2) #[.int .u64 u.f0, .int .u64 u.f1] _ 24 rfl rfl HR9.out (by rw [rowG_size ea_len, HC.out.1, HN.out]; simp; omega) (by kernel_rfl) (by simp [Value.oneCell']) ?_; intro w10 hb10 hg10 hz10; replace HR9 := Aside0.mk (hb10.trans (congrArg (fun c => some (Obj.cells c 24 (0, 0))) (rowG_set ea_len (by rw [HC.out.1, HN.out]; exact hkn) u))); replace HG9 := Aside0.mk (HG9.out.trans hg10); clear hb10 hg10 hz10)
                  | fail)
                go_frame
                go_wp2
                go_roundw
                case rel => exact ⟨kk + 1, q + 1, ys.set kk u, by omega, by have := HC.out.2.2.2.1; omega, by go_num, by go_num, ⟨by rw [HU.out]; exact comp_put HC.out (by rw [HK2.out]; rfl) (by have := HN.out; omega)⟩, HG9, HR9⟩
                case measure => simp [intOf]; omega
            · have hsz : kk * 2 + ((List.replicate (n - kk) z24).flatMap ea).length ≤ (rowG ea ys rest).size := by
                rw [flat_len ea_len, rowG_size ea_len, HC.out.1, HN.out, List.length_replicate, ← Nat.add_mul, show kk + (n - kk) = n by omega]
                omega
              have hcl : ∀ ty, (Builtin.clear_ #[68] ty #[.slice (some ⟨g, kk * 2, none⟩) (n - kk) (cap - kk)]).run Try.prog wr = .ok (.tuple #[]) (wr.setCells g (kk * 2) ((List.replicate (n - kk) z24).flatMap ea)) := fun ty =>
                run_clear_blk wr 68 24 ty _ Try.underlying68 Try.zeroValue24 g (kk * 2) (n - kk) (cap - kk) _ (zero_cells _) _ 24 (by omega) HRW2.out hsz (zero_one _)
              have HX := Aside0.mk (comp_end HC.out (by have := HN.out; omega) (show p + 1 + q + 1 = n by omega))
              have HRX := Aside0.mk ((heap_setCells ((List.replicate (n - kk) z24).flatMap ea) _ (kk * 2) wr HRW2.out).trans (congrArg (fun c => some (Obj.cells c 24 (0, 0))) (rowG_put ea_len (by rw [HC.out.1, HN.out, List.length_replicate]; omega))))
              have HGX := Aside0.mk (HG.out.trans (grown_setCells (g := g) ((List.replicate (n - kk) z24).flatMap ea) (kk * 2) wr))
              go_wp2
              go_ret
              refine ⟨by rw [← HX.out.1]; rfl, (gb_below HB8.out).trans HGX.out, _, rest, ?_, ?_, HRX.out⟩
              · rw [← HX.out.1, List.append_assoc, List.take_append_of_le_length (by rw [List.length_take, HC.out.1, HN.out]; omega), List.take_take, Nat.min_self, HX.out.2]
              · rw [← HX.out.1, List.length_append, List.length_append, List.length_take, HC.out.1, HN.out]; omega
      · obtain rfl : n = p + 1 := by omega
        have hall : comp xs (p + 1) = xs := by rw [comp_all (by have := HN.out; omega) HA.out, ← HN.out, List.take_length]
        have HALL := Aside0.mk hall
        clear hall
        go_wp2
        go_ret
        exact ⟨by rw [HALL.out, HN.out]; rfl, ⟨HB.out.os, HB.out.tape, HB.out.output, HB.out.size, fun k hk _ => HB.out.block k hk⟩, xs, rest, by rw [HALL.out, List.take_length], by rw [HALL.out]; exact Nat.le_refl _, HRW.out⟩
set_option maxHeartbeats 1000000 in
theorem compact_none (A : Option Addr) (cap : Nat) (w : World) : Calls Try.prog 67 #[.slice A 0 cap] w fun e w' => e = .returned (.slice A 0 cap) ∧ w = w' := by
  go_enter Try.func67, Try.ntmps67
  go_wp2
  go_ret
  exact ⟨rfl, rfl⟩
end Go.Proofs.Ytcgcognejjpcmaa
