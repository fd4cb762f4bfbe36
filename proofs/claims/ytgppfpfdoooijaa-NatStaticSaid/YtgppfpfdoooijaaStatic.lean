/- RulesStatic, walked: a static translation turns one way what it turns back the other way. -/
import Derived.Test.YtgppfpfdoooijaaSource
namespace Go.Proofs.Ytgppfpfdoooijaa
open Go.RowKit Go.Proofs.YtgppfpfdoooijaaW.PrintWords
set_option linter.unusedVariables false
set_option linter.unusedSimpArgs false
attribute [local go_sem] Later.cell_eq

/-- One thing alone in a row. -/
theorem C_one {α : Type} {d : Kd α} {W : World} {b : Nat} {x : α} {cs : List Value} (hK : d.K W x cs) (hc : ∀ j u, cs[j]? = some u → W.cell? ⟨b, j, none⟩ = some u) : d.C W (some ⟨b, 0, none⟩) 1 [x] := by
  refine ⟨rfl, by decide, fun _ => ⟨_, rfl, fun j p hj => ?_⟩⟩
  have hj0 : j = 0 := by
    have := (List.getElem?_eq_some_iff.1 hj).1
    simp at this; exact this
  subst hj0
  obtain rfl : x = p := by simpa using hj
  refine ⟨cs, d.K_len hK, hK, fun j u hu => ?_⟩
  have := hc j u hu
  rcases j with _ | j <;> simpa [Addr.add] using this

theorem heap_alloc_at (w : World) (o : Obj) (n : Nat) (h : n = w.heap.size) : (w.alloc o).heap[n]? = some o := by subst h; exact heap_alloc_new w o
theorem heap_drew_ (w : World) (n : Nat) : w.drew.heap[n]? = w.heap[n]? := rfl
/-- The cells at a row's beginning. -/
theorem row_at {W : World} {b : Nat} {l : List Value} {r : Array Value} {t : TypeId} {z : Nat × Nat} (h : W.heap[b]? = some (.cells (l.toArray ++ r) t z)) : ∀ j u, l[j]? = some u → W.cell? ⟨b, j, none⟩ = some u := by
  intro j u hu
  have hj : j < l.length := (List.getElem?_eq_some_iff.1 hu).1
  simp only [World.cell?, h]
  rw [Array.getElem?_append_left (by simpa using hj)]
  simpa using hu
def outS : ByteArray := ⟨#[111, 117, 116]⟩
def noS : ByteArray := ⟨#[]⟩
/-- The configuration that the law builds. -/
def natS (o i : S39) : S56 := ⟨3, outS, noS, noS, o, i, 0, 0⟩
def cfgS (o i : S39) : S36 := ⟨[⟨outS, z39, []⟩], [], [], [], [], [natS o i], [], 0⟩
def k1S (o : S39) (k : S51) : S51 := ⟨k.f0, k.f1, o, k.f3, k.f4⟩
def k2S (o i : S39) (k : S51) : S51 := ⟨k.f0, i, o, k.f3, k.f4⟩
theorem static_dest (o i : S39) (k : S51) : destF (cfgS o i) (k1S o k) = (i, k.f4, 0) := by
  have := dest_at (c := cfgS o i) (k := k1S o k) (m := 0) (n := natS o i) rfl (by simp [destB, eqA, natS, k1S]) (fun j hj => by omega)
  rw [this]
  simp [natS, portD, k1S]
theorem static_src0 (o i : S39) (k : S51) : sourceF (cfgS o i) 0 (k2S o i k) = 0 := by
  unfold sourceF
  exact idxF_at (k := 0) (x := natS o i) rfl (by simp [srcB, calledF, cfgS, eqA, natS, k2S]) (fun j hj => by omega)
theorem static_src1 (o i : S39) (k : S51) : sourceF (cfgS o i) 1 (k2S o i k) = -1 := by
  unfold sourceF
  refine idxF_none ?_
  intro j hj y hy
  simp [srcB, calledF, cfgS]
theorem static_K {W : World} {b b' : Nat} (o i : S39) {n n' : Nat} (hn : 1 ≤ n) (hn' : 1 ≤ n') (h : ∀ j u, [Value.string outS, .int .u64 0, .int .u64 0, .slice none 0 0][j]? = some u → W.cell? ⟨b, j, none⟩ = some u)
    (h' : ∀ j u, [Value.int .i64 3, .string outS, .string noS, .string noS, .int .u64 o.f0, .int .u64 o.f1, .int .u64 i.f0, .int .u64 i.f1, .int .i64 0, .int .i64 0][j]? = some u → W.cell? ⟨b', j, none⟩ = some u) :
    k36.K W (cfgS o i) [.slice (some ⟨b, 0, none⟩) 1 n, .slice none 0 0, .slice none 0 0, .slice none 0 0, .slice none 0 0, .slice (some ⟨b', 0, none⟩) 1 n', .slice none 0 0, .int .i64 0] :=
  k36_mk W (cfgS o i) hn (C_one (k54_mk W ⟨outS, z39, []⟩ (Nat.le_refl 0) (Kd.C_nil _ W)) h) (Nat.le_refl 0) (Kd.C_nil _ W) (Nat.le_refl 0) (Kd.C_nil _ W) (Nat.le_refl 0) (Kd.C_nil _ W) (Nat.le_refl 0) (Kd.C_nil _ W)
    hn' (C_one (k56_mk W (natS o i)) h') (Nat.le_refl 0) (Kd.C_nil _ W)

set_option maxHeartbeats 8000000 in
theorem static_any (o i : S39) (k : S51) (w : World) :
    Calls Try.prog 7 #[.agg #[.int .u64 o.f0, .int .u64 o.f1], .agg #[.int .u64 i.f0, .int .u64 i.f1], .agg #[.int .i64 k.f0, .int .u64 k.f1.f0, .int .u64 k.f1.f1, .int .u64 k.f2.f0, .int .u64 k.f2.f1, .int .i64 k.f3, .int .i64 k.f4]] w fun e w' => e = .returned (.bool true) ∧ Below w.heap.size w w' := by
  have HD := Aside0.mk (fun cs W (h : k36.K W (cfgS o i) cs) => by have := dest_any (cfgS o i) cs (k1S o k) W h; rw [static_dest] at this; exact this)
  have HS0 := Aside0.mk (fun cs W (h : k36.K W (cfgS o i) cs) => by have := source_any (cfgS o i) cs 0 (k2S o i k) W h; rw [static_src0] at this; exact this)
  have HS1 := Aside0.mk (fun cs W (h : k36.K W (cfgS o i) cs) => by have := source_any (cfgS o i) cs 1 (k2S o i k) W h; rw [static_src1] at this; exact this)
  have n1 : 1 ≤ (Question.appendCap 1 0 54).cut (w.tape w.drawn (Question.appendCap 1 0 54)) := grownCap_ge w 1 0 54
  have n2 : 1 ≤ (Question.appendCap 1 0 56).cut (w.tape (w.drawn + 1) (Question.appendCap 1 0 56)) := grownCap_ge w.drew 1 0 56
  have N1 := Aside0.mk n1
  have N2 := Aside0.mk n2
  clear n1 n2
  go_enter Try.func7, Try.ntmps7
  go_wp2_with fail
  generalize (Question.appendCap 1 0 54).cut (w.tape w.drawn (Question.appendCap 1 0 54)) = m1 at *
  generalize (Question.appendCap 1 0 56).cut (w.tape (w.drawn + 1) (Question.appendCap 1 0 56)) = m2 at *
  obtain ⟨W1, hW1⟩ : ∃ W1, W1 = ((((((((w.alloc (.cells #[.int .u64 o.f0, .int .u64 o.f1] 39)).alloc (.cells #[.int .u64 i.f0, .int .u64 i.f1] 39)).alloc (.cells #[.int .i64 k.f0, .int .u64 k.f1.f0, .int .u64 k.f1.f1, .int .u64 o.f0, .int .u64 o.f1, .int .i64 k.f3, .int .i64 k.f4] 51)).alloc
    (.cells #[.slice (some ⟨w.heap.size + 1 + 1 + 1 + 1 + 1, 0, none⟩) 1 m1, .slice none 0 0, .slice none 0 0, .slice none 0 0, .slice none 0 0, .slice (some ⟨w.heap.size + 1 + 1 + 1 + 1 + 1 + 1 + 1, 0, none⟩) 1 m2, .slice none 0 0, .int .i64 0] 36)).alloc
    (.cells #[.string ⟨#[111, 117, 116]⟩, .int .u64 0, .int .u64 0, .slice none 0 0] 54)).alloc
    (.cells (#[.string ⟨#[111, 117, 116]⟩, .int .u64 0, .int .u64 0, .slice none 0 0] ++ Builtin.zeroCells #[.string ⟨#[]⟩, .int .u64 0, .int .u64 0, .slice none 0 0] (m1 - 1)) 54)).alloc
    (.cells #[.int .i64 3, .string ⟨#[111, 117, 116]⟩, .string ⟨#[]⟩, .string ⟨#[]⟩, .int .u64 o.f0, .int .u64 o.f1, .int .u64 i.f0, .int .u64 i.f1, .int .i64 0, .int .i64 0] 56)).alloc
    (.cells (#[.int .i64 3, .string ⟨#[111, 117, 116]⟩, .string ⟨#[]⟩, .string ⟨#[]⟩, .int .u64 o.f0, .int .u64 o.f1, .int .u64 i.f0, .int .u64 i.f1, .int .i64 0, .int .i64 0] ++
      Builtin.zeroCells #[.int .i64 0, .string ⟨#[]⟩, .string ⟨#[]⟩, .string ⟨#[]⟩, .int .u64 0, .int .u64 0, .int .u64 0, .int .u64 0, .int .i64 0, .int .i64 0] (m2 - 1)) 56)).drew.drew := ⟨_, rfl⟩
  rw [← hW1]
  have HB1 := Aside0.mk (show Below w.heap.size w W1 by rw [hW1]; go_grown)
  have HZ := Aside0.mk (show W1.heap.size = w.heap.size + 1 + 1 + 1 + 1 + 1 + 1 + 1 + 1 by rw [hW1]; simp)
  have b1 : W1.heap[w.heap.size + 1]? = some (.cells #[.int .u64 i.f0, .int .u64 i.f1] 39 (0, 0)) := by rw [hW1]; repeat (first | refine (heap_drew_ _ _).trans ?_ | exact heap_alloc_at _ _ _ (by simp only [World.size_alloc]) | refine (Below.heap_alloc _ _ _ (by simp only [World.size_alloc]; omega)).trans ?_)
  have b2 : W1.heap[w.heap.size + 1 + 1]? = some (.cells #[.int .i64 k.f0, .int .u64 k.f1.f0, .int .u64 k.f1.f1, .int .u64 o.f0, .int .u64 o.f1, .int .i64 k.f3, .int .i64 k.f4] 51 (0, 0)) := by rw [hW1]; repeat (first | refine (heap_drew_ _ _).trans ?_ | exact heap_alloc_at _ _ _ (by simp only [World.size_alloc]) | refine (Below.heap_alloc _ _ _ (by simp only [World.size_alloc]; omega)).trans ?_)
  have b3 : W1.heap[w.heap.size + 1 + 1 + 1]? = some (.cells #[.slice (some ⟨w.heap.size + 1 + 1 + 1 + 1 + 1, 0, none⟩) 1 m1, .slice none 0 0, .slice none 0 0, .slice none 0 0, .slice none 0 0, .slice (some ⟨w.heap.size + 1 + 1 + 1 + 1 + 1 + 1 + 1, 0, none⟩) 1 m2, .slice none 0 0, .int .i64 0] 36 (0, 0)) := by rw [hW1]; repeat (first | refine (heap_drew_ _ _).trans ?_ | exact heap_alloc_at _ _ _ (by simp only [World.size_alloc]) | refine (Below.heap_alloc _ _ _ (by simp only [World.size_alloc]; omega)).trans ?_)
  have b5 : W1.heap[w.heap.size + 1 + 1 + 1 + 1 + 1]? = some (.cells (#[.string ⟨#[111, 117, 116]⟩, .int .u64 0, .int .u64 0, .slice none 0 0] ++ Builtin.zeroCells #[.string ⟨#[]⟩, .int .u64 0, .int .u64 0, .slice none 0 0] (m1 - 1)) 54 (0, 0)) := by rw [hW1]; repeat (first | refine (heap_drew_ _ _).trans ?_ | exact heap_alloc_at _ _ _ (by simp only [World.size_alloc]) | refine (Below.heap_alloc _ _ _ (by simp only [World.size_alloc]; omega)).trans ?_)
  have b7 : W1.heap[w.heap.size + 1 + 1 + 1 + 1 + 1 + 1 + 1]? = some (.cells (#[.int .i64 3, .string ⟨#[111, 117, 116]⟩, .string ⟨#[]⟩, .string ⟨#[]⟩, .int .u64 o.f0, .int .u64 o.f1, .int .u64 i.f0, .int .u64 i.f1, .int .i64 0, .int .i64 0] ++
      Builtin.zeroCells #[.int .i64 0, .string ⟨#[]⟩, .string ⟨#[]⟩, .string ⟨#[]⟩, .int .u64 0, .int .u64 0, .int .u64 0, .int .u64 0, .int .i64 0, .int .i64 0] (m2 - 1)) 56 (0, 0)) := by rw [hW1]; repeat (first | refine (heap_drew_ _ _).trans ?_ | exact heap_alloc_at _ _ _ (by simp only [World.size_alloc]) | refine (Below.heap_alloc _ _ _ (by simp only [World.size_alloc]; omega)).trans ?_)
  clear hW1
  have B5 := Aside0.mk (row_at b5)
  have B7 := Aside0.mk (row_at b7)
  clear b5 b7
  refine (HD.out _ _ (static_K o i N1.out N2.out B5.out B7.out)).mono ?_
  rintro e w2 ⟨rfl, hb2⟩
  have hs2 : w.heap.size + 1 + 1 + 1 + 1 + 1 + 1 + 1 < w2.heap.size := by have := hb2.size; have := HZ.out; omega
  replace b1 := (hb2.block _ (by have := HZ.out; omega)).trans b1
  replace b2 := (hb2.block _ (by have := HZ.out; omega)).trans b2
  replace b3 := (hb2.block _ (by have := HZ.out; omega)).trans b3
  have D5 := Aside0.mk (fun j u hj => pw_cell_below hb2 (B5.out j u hj))
  have D7 := Aside0.mk (fun j u hj => pw_cell_below hb2 (B7.out j u hj))
  have HB2 := Aside0.mk (below_then HB1.out HB1.out.size hb2)
  clear hb2 HB1 HZ B5 B7
  have i0 : w2.cell? ⟨w.heap.size + 1, 0, none⟩ = some (.int .u64 i.f0) := by simp [World.cell?, b1]
  have i1 : w2.cell? ⟨w.heap.size + 1, 1, none⟩ = some (.int .u64 i.f1) := by simp [World.cell?, b1]
  have k0 : w2.cell? ⟨w.heap.size + 1 + 1, 0, none⟩ = some (.int .i64 k.f0) := by simp [World.cell?, b2]
  have k1 : w2.cell? ⟨w.heap.size + 1 + 1, 1, none⟩ = some (.int .u64 k.f1.f0) := by simp [World.cell?, b2]
  have k2 : w2.cell? ⟨w.heap.size + 1 + 1, 2, none⟩ = some (.int .u64 k.f1.f1) := by simp [World.cell?, b2]
  have k3 : w2.cell? ⟨w.heap.size + 1 + 1, 3, none⟩ = some (.int .u64 o.f0) := by simp [World.cell?, b2]
  have k4 : w2.cell? ⟨w.heap.size + 1 + 1, 4, none⟩ = some (.int .u64 o.f1) := by simp [World.cell?, b2]
  have k5 : w2.cell? ⟨w.heap.size + 1 + 1, 5, none⟩ = some (.int .i64 k.f3) := by simp [World.cell?, b2]
  have k6 : w2.cell? ⟨w.heap.size + 1 + 1, 6, none⟩ = some (.int .i64 k.f4) := by simp [World.cell?, b2]
  have z1 : w2.frozen? ⟨w.heap.size + 1 + 1, 1, none⟩ = false := by simp [World.frozen?, b2]
  have z2 : w2.frozen? ⟨w.heap.size + 1 + 1, 2, none⟩ = false := by simp [World.frozen?, b2]
  have c0 : w2.cell? ⟨w.heap.size + 1 + 1 + 1, 0, none⟩ = some (.slice (some ⟨w.heap.size + 1 + 1 + 1 + 1 + 1, 0, none⟩) 1 m1) := by simp [World.cell?, b3]
  have c1 : w2.cell? ⟨w.heap.size + 1 + 1 + 1, 1, none⟩ = some (.slice none 0 0) := by simp [World.cell?, b3]
  have c2 : w2.cell? ⟨w.heap.size + 1 + 1 + 1, 2, none⟩ = some (.slice none 0 0) := by simp [World.cell?, b3]
  have c3 : w2.cell? ⟨w.heap.size + 1 + 1 + 1, 3, none⟩ = some (.slice none 0 0) := by simp [World.cell?, b3]
  have c4 : w2.cell? ⟨w.heap.size + 1 + 1 + 1, 4, none⟩ = some (.slice none 0 0) := by simp [World.cell?, b3]
  have c5 : w2.cell? ⟨w.heap.size + 1 + 1 + 1, 5, none⟩ = some (.slice (some ⟨w.heap.size + 1 + 1 + 1 + 1 + 1 + 1 + 1, 0, none⟩) 1 m2) := by simp [World.cell?, b3]
  have c6 : w2.cell? ⟨w.heap.size + 1 + 1 + 1, 6, none⟩ = some (.slice none 0 0) := by simp [World.cell?, b3]
  have c7 : w2.cell? ⟨w.heap.size + 1 + 1 + 1, 7, none⟩ = some (.int .i64 0) := by simp [World.cell?, b3]
  clear b1 b2 b3
  have hs23 : w.heap.size + 1 + 1 + 1 < w2.heap.size := by omega
  have hs22 : w.heap.size + 1 + 1 < w2.heap.size := by omega
  have hs21 : w.heap.size + 1 < w2.heap.size := by omega
  go_wp2_with fail
  have E5 := Aside0.mk (fun j u hj => pw_cell_below ((Below.refl _ ((w2.setCell ⟨w.heap.size + 1 + 1, 1, none⟩ (.int .u64 i.f0)).setCell ⟨w.heap.size + 1 + 1, 2, none⟩ (.int .u64 i.f1))).alloc (Nat.le_refl _) (.cells #[.int .u64 i.f0, .int .u64 i.f1] 39))
    ((World.cell?_setCell_other _ _ _ _ (by intro h; injection h; omega)).trans ((World.cell?_setCell_other _ _ _ _ (by intro h; injection h; omega)).trans (D5.out j u hj))))
  have E7 := Aside0.mk (fun j u hj => pw_cell_below ((Below.refl _ ((w2.setCell ⟨w.heap.size + 1 + 1, 1, none⟩ (.int .u64 i.f0)).setCell ⟨w.heap.size + 1 + 1, 2, none⟩ (.int .u64 i.f1))).alloc (Nat.le_refl _) (.cells #[.int .u64 i.f0, .int .u64 i.f1] 39))
    ((World.cell?_setCell_other _ _ _ _ (by intro h; injection h; omega)).trans ((World.cell?_setCell_other _ _ _ _ (by intro h; injection h; omega)).trans (D7.out j u hj))))
  refine (HS0.out _ _ (static_K o i N1.out N2.out E5.out E7.out)).mono ?_
  rintro e w4 ⟨rfl, hb4⟩
  have F5 := Aside0.mk (fun j u hj => pw_cell_below hb4 (E5.out j u hj))
  have F7 := Aside0.mk (fun j u hj => pw_cell_below hb4 (E7.out j u hj))
  have HB4 := Aside0.mk (below_then (show Below w.heap.size w (((w2.setCell ⟨w.heap.size + 1 + 1, 1, none⟩ (.int .u64 i.f0)).setCell ⟨w.heap.size + 1 + 1, 2, none⟩ (.int .u64 i.f1)).alloc (.cells #[.int .u64 i.f0, .int .u64 i.f1] 39)) by have HH := HB2.out; go_grown) (by have := HB2.out.size; simp; omega) hb4)
  have t04 : w4.cell? ⟨w2.heap.size, 0, none⟩ = some (.int .u64 i.f0) := pw_cell_below hb4 (by simp [go_sem, hs21, hs22, hs23])
  have t14 : w4.cell? ⟨w2.heap.size, 1, none⟩ = some (.int .u64 i.f1) := pw_cell_below hb4 (by simp [go_sem, hs21, hs22, hs23])
  have i04 : w4.cell? ⟨w.heap.size + 1, 0, none⟩ = some (.int .u64 i.f0) := pw_cell_below hb4 (by simp [go_sem, hs21, hs22, hs23, i0])
  have i14 : w4.cell? ⟨w.heap.size + 1, 1, none⟩ = some (.int .u64 i.f1) := pw_cell_below hb4 (by simp [go_sem, hs21, hs22, hs23, i1])
  have k04 : w4.cell? ⟨w.heap.size + 1 + 1, 0, none⟩ = some (.int .i64 k.f0) := pw_cell_below hb4 (by simp [go_sem, hs21, hs22, hs23, k0])
  have k14 : w4.cell? ⟨w.heap.size + 1 + 1, 1, none⟩ = some (.int .u64 i.f0) := pw_cell_below hb4 (by simp [go_sem, hs21, hs22, hs23, k1, k2])
  have k24 : w4.cell? ⟨w.heap.size + 1 + 1, 2, none⟩ = some (.int .u64 i.f1) := pw_cell_below hb4 (by simp [go_sem, hs21, hs22, hs23, k1, k2])
  have k34 : w4.cell? ⟨w.heap.size + 1 + 1, 3, none⟩ = some (.int .u64 o.f0) := pw_cell_below hb4 (by simp [go_sem, hs21, hs22, hs23, k3])
  have k44 : w4.cell? ⟨w.heap.size + 1 + 1, 4, none⟩ = some (.int .u64 o.f1) := pw_cell_below hb4 (by simp [go_sem, hs21, hs22, hs23, k4])
  have k54 : w4.cell? ⟨w.heap.size + 1 + 1, 5, none⟩ = some (.int .i64 k.f3) := pw_cell_below hb4 (by simp [go_sem, hs21, hs22, hs23, k5])
  have k64 : w4.cell? ⟨w.heap.size + 1 + 1, 6, none⟩ = some (.int .i64 k.f4) := pw_cell_below hb4 (by simp [go_sem, hs21, hs22, hs23, k6])
  have c04 : w4.cell? ⟨w.heap.size + 1 + 1 + 1, 0, none⟩ = some (.slice (some ⟨w.heap.size + 1 + 1 + 1 + 1 + 1, 0, none⟩) 1 m1) := pw_cell_below hb4 (by simp [go_sem, hs21, hs22, hs23, c0])
  have c14 : w4.cell? ⟨w.heap.size + 1 + 1 + 1, 1, none⟩ = some (.slice none 0 0) := pw_cell_below hb4 (by simp [go_sem, hs21, hs22, hs23, c1])
  have c24 : w4.cell? ⟨w.heap.size + 1 + 1 + 1, 2, none⟩ = some (.slice none 0 0) := pw_cell_below hb4 (by simp [go_sem, hs21, hs22, hs23, c2])
  have c34 : w4.cell? ⟨w.heap.size + 1 + 1 + 1, 3, none⟩ = some (.slice none 0 0) := pw_cell_below hb4 (by simp [go_sem, hs21, hs22, hs23, c3])
  have c44 : w4.cell? ⟨w.heap.size + 1 + 1 + 1, 4, none⟩ = some (.slice none 0 0) := pw_cell_below hb4 (by simp [go_sem, hs21, hs22, hs23, c4])
  have c54 : w4.cell? ⟨w.heap.size + 1 + 1 + 1, 5, none⟩ = some (.slice (some ⟨w.heap.size + 1 + 1 + 1 + 1 + 1 + 1 + 1, 0, none⟩) 1 m2) := pw_cell_below hb4 (by simp [go_sem, hs21, hs22, hs23, c5])
  have c64 : w4.cell? ⟨w.heap.size + 1 + 1 + 1, 6, none⟩ = some (.slice none 0 0) := pw_cell_below hb4 (by simp [go_sem, hs21, hs22, hs23, c6])
  have c74 : w4.cell? ⟨w.heap.size + 1 + 1 + 1, 7, none⟩ = some (.int .i64 0) := pw_cell_below hb4 (by simp [go_sem, hs21, hs22, hs23, c7])
  have hs4 : w2.heap.size < w4.heap.size := World.block_lt_of_cell? w4 _ t04
  have hs43 : w.heap.size + 1 + 1 + 1 < w4.heap.size := by omega
  have hs42 : w.heap.size + 1 + 1 < w4.heap.size := by omega
  have hs41 : w.heap.size + 1 < w4.heap.size := by omega
  clear hb4 D5 D7 E5 E7
  go_wp2_with (go_at_call 23; refine (HS1.out _ _ (static_K o i N1.out N2.out F5.out F7.out)).mono ?_; rintro e w5 ⟨rfl, hb5⟩)
  go_ret
  exact ⟨rfl, below_then HB4.out HB4.out.size hb5⟩
end Go.Proofs.Ytgppfpfdoooijaa
