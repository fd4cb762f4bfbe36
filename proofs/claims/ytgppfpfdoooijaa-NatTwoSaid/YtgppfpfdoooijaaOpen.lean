/- An argument of one of the seat's types, opened: it reads as a value of its kind; its whole numbers are of their kinds, its slices no greater than the form's own reach. -/
import Derived.Test.YtgppfpfdoooijaaKinds
import Derived.ProofKit
import Derived.SizedLaws
import Derived.Deep.Slices
namespace Go.Proofs.Ytgppfpfdoooijaa
open Go.RowKit Go.Proofs.YtgppfpfdoooijaaW.PrintWords Go.ChangeShapes Go.WideShapes Go.Deep
set_option linter.unusedVariables false
set_option linter.unusedSimpArgs false

def Opens {H α : Type} (enc : TypeId × Value → H) (W : World) (t : TypeId) (d : Kd α) (ok : α → Prop) : Prop :=
  ∀ (fuel : Nat) (cs : List Value) (x : DataW H × List MemPlace), DataW.trod enc Try.prog W 0 (fun _ => true) true fuel t cs = some x → (∀ n ∈ x.1.weights Try.prog t, n ≤ reachBytes) → ∃ a, d.K W a cs ∧ ok a

section
variable {H α β : Type} {enc : TypeId × Value → H} {W : World}
theorem opens_int {t : TypeId} {k : IntKind} (ht : Try.prog.underlying t = some (.int k)) : Opens enc W t (Kd.int k) (fun n => (Lit.int k n).wf = true) := by
  intro fuel cs x h _
  obtain ⟨n, rfl, _, hw⟩ := DataW.trod_int ht h
  exact ⟨n, rfl, hw⟩
theorem opens_bool {t : TypeId} (ht : Try.prog.underlying t = some .bool) : Opens enc W t Kd.bool (fun _ => True) := by
  intro fuel cs x h _
  obtain ⟨b, rfl, _⟩ := DataW.trod_bool ht h
  exact ⟨b, rfl, trivial⟩
theorem opens_string {t : TypeId} (ht : Try.prog.underlying t = some .string) : Opens enc W t Kd.string (fun s => s.size ≤ maxLen) := by
  intro fuel cs x h _
  obtain ⟨s, rfl, _, hs⟩ := DataW.trod_string ht h
  exact ⟨s, rfl, hs⟩
theorem weightsAll_mem {e : TypeId} {n : Nat} : ∀ {l : List (DataW H)} {d : DataW H}, d ∈ l → n ∈ d.weights Try.prog e → n ∈ DataW.weightsAll Try.prog e l
  | d0 :: l, d, hd, hn => by
    simp only [DataW.weightsAll, List.mem_append]
    rcases List.mem_cons.1 hd with rfl | hd
    · exact .inl hn
    · exact .inr (weightsAll_mem hd hn)
theorem opens_slice {t e : TypeId} {d : Kd α} {ok : α → Prop} {b : Nat} (ht : Try.prog.underlying t = some (.slice e)) (he : Opens enc W e d ok) (hs : Try.prog.cellsOf e = d.sz) (hb : Try.prog.bytesOf e = b) :
    Opens enc W t (Kd.slice e d) (fun xs => xs.length * b ≤ reachBytes ∧ ∀ x ∈ xs, ok x) := by
  intro fuel cs x h hw
  rcases open_slice ht h with ⟨rfl, _⟩ | ⟨a, len, cap, m, n, D, Pl, rfl, _, hl, hc, hm, hx, hi⟩
  · exact ⟨[], ⟨none, 0, rfl, Nat.le_refl _, Kd.C_nil d W⟩, by simp, by simp⟩
  · have hmc : m = cap := by simpa using hm
    subst hmc
    have hwx : ∀ n ∈ x.1.weights Try.prog t, n ≤ reachBytes := hw
    rw [hx] at hwx
    have hlen : (len + (m - len)) * b ≤ reachBytes := hwx _ (by simp [DataW.weights, ht, hb])
    have hel : ∀ i : Fin len, ∃ (y : α), ok y ∧ ∃ cs', cs'.length = d.sz ∧ d.K W y cs' ∧ ∀ j u, cs'[j]? = some u → W.cell? (a.add (i.1 * d.sz + j)) = some u := by
      intro i
      obtain ⟨cs', hcs, ht'⟩ := hi i.1 (by have := i.2; omega)
      obtain ⟨y, hK, hok⟩ := he n cs' _ ht' (fun q hq => hwx q (by
        simp only [DataW.weights, ht, List.mem_cons, List.mem_append]
        exact .inr (.inl (weightsAll_mem (List.mem_map.2 ⟨i.1, List.mem_range.2 i.2, rfl⟩) hq))))
      obtain ⟨_, hl', hat⟩ := World.cells?_some hcs
      refine ⟨y, hok, cs', d.K_len hK, hK, fun j u hu => ?_⟩
      have hj : j < Try.prog.cellsOf e := by have := (List.getElem?_eq_some_iff.1 hu).1; omega
      have := hat j hj
      rw [hs] at this
      rw [← Go.Deep.add_add, this, hu]
    let f : Fin len → α := fun i => (hel i).choose
    have hf1 : ∀ i, ok (f i) := fun i => (hel i).choose_spec.1
    have hf2 : ∀ i : Fin len, ∃ cs', cs'.length = d.sz ∧ d.K W (f i) cs' ∧ ∀ j u, cs'[j]? = some u → W.cell? (a.add (i.1 * d.sz + j)) = some u := fun i => (hel i).choose_spec.2
    clear_value f
    have hfl : (List.ofFn f).length = len := by simp
    refine ⟨List.ofFn f, ⟨some a, m, by rw [hfl], by rw [hfl]; exact hl, ?_⟩, ?_, ?_⟩
    · refine ⟨rfl, by rw [hfl]; simp only [maxLen] at hc; omega, fun _ => ⟨a, rfl, fun j p hj => ?_⟩⟩
      obtain ⟨hjl, hp⟩ := List.getElem?_eq_some_iff.1 hj
      have hp' : f ⟨j, by rw [hfl] at hjl; exact hjl⟩ = p := by simpa using hp
      obtain ⟨cs', h1, h2, h3⟩ := hf2 ⟨j, by rw [hfl] at hjl; exact hjl⟩
      rw [hp'] at h2
      exact ⟨cs', h1, h2, h3⟩
    · rw [hfl]; exact Nat.le_trans (Nat.mul_le_mul_right _ (by omega)) hlen
    · intro y hy
      obtain ⟨i, rfl⟩ := List.mem_ofFn.1 hy
      exact hf1 i
theorem pair_at {a : Kd α} {b : Kd β} {x : α} {y : β} {cs : List Value} (s : Nat) (h0 : a.K W x (cs.take s)) (h1 : b.K W y (cs.drop s)) : (Kd.pair a b).K W (x, y) cs := ⟨_, _, (List.take_append_drop s cs).symm, h0, h1⟩
end

/-- What is known of a value of type 39 that came in. -/
def Ok39 (x : S39) : Prop := (Lit.int .u64 x.f0).wf = true ∧ (Lit.int .u64 x.f1).wf = true
theorem opens39 {H : Type} {enc : TypeId × Value → H} {W : World} : Opens enc W 39 k39 Ok39 := by
  intro fuel cs x h hw
  obtain ⟨xs, n, _, hx, hl, hlen, hf⟩ := DataW.trod_struct Try.underlying39 h
  have hl' : cs.length = 2 := hl.trans (by kernel_rfl)
  match xs, hlen with
  | [y0, y1], _ =>
    have hwx : ∀ n ∈ x.1.weights Try.prog 39, n ≤ reachBytes := hw
    rw [hx] at hwx
    have e0 : DataW.trod enc Try.prog W 0 (fun _ => true) true n 37 ((cs.drop 0).take (Try.prog.cellsOf 37)) = some y0 := hf 0 _ rfl
    rw [show Try.prog.cellsOf 37 = 1 from by kernel_rfl] at e0
    obtain ⟨a0, K0, o0⟩ := (opens_int Try.underlying37) n _ y0 e0 (fun q hq => hwx q (by
      simp only [DataW.weights, Try.underlying39, List.map_cons, List.map_nil, DataW.weightsEach, List.mem_append]
      exact .inl hq))
    have e1 : DataW.trod enc Try.prog W 0 (fun _ => true) true n 37 ((cs.drop 1).take (Try.prog.cellsOf 37)) = some y1 := hf 1 _ rfl
    rw [show Try.prog.cellsOf 37 = 1 from by kernel_rfl] at e1
    obtain ⟨a1, K1, o1⟩ := (opens_int Try.underlying37) n _ y1 e1 (fun q hq => hwx q (by
      simp only [DataW.weights, Try.underlying39, List.map_cons, List.map_nil, DataW.weightsEach, List.mem_append]
      exact .inr (.inl hq)))
    have E0 : (cs.drop 0).take 1 = (cs.take 1) := by simp [List.drop_drop]
    have L0 := E0 ▸ K0
    have E1 : (cs.drop 1).take 1 = (cs.drop 1) := by rw [List.take_of_length_le (by rw [List.length_drop]; omega)] <;> simp [List.drop_drop]
    have L1 := E1 ▸ K1
    exact ⟨⟨a0, a1⟩, pair_at 1 L0 (L1), o0, o1⟩

/-- What is known of a value of type 44 that came in. -/
def Ok44 (x : S44) : Prop := Ok39 x.f0 ∧ Ok39 x.f1
theorem opens44 {H : Type} {enc : TypeId × Value → H} {W : World} : Opens enc W 44 k44 Ok44 := by
  intro fuel cs x h hw
  obtain ⟨xs, n, _, hx, hl, hlen, hf⟩ := DataW.trod_struct Try.underlying44 h
  have hl' : cs.length = 4 := hl.trans (by kernel_rfl)
  match xs, hlen with
  | [y0, y1], _ =>
    have hwx : ∀ n ∈ x.1.weights Try.prog 44, n ≤ reachBytes := hw
    rw [hx] at hwx
    have e0 : DataW.trod enc Try.prog W 0 (fun _ => true) true n 39 ((cs.drop 0).take (Try.prog.cellsOf 39)) = some y0 := hf 0 _ rfl
    rw [show Try.prog.cellsOf 39 = 2 from by kernel_rfl] at e0
    obtain ⟨a0, K0, o0⟩ := opens39 n _ y0 e0 (fun q hq => hwx q (by
      simp only [DataW.weights, Try.underlying44, List.map_cons, List.map_nil, DataW.weightsEach, List.mem_append]
      exact .inl hq))
    have e1 : DataW.trod enc Try.prog W 0 (fun _ => true) true n 39 ((cs.drop 2).take (Try.prog.cellsOf 39)) = some y1 := hf 1 _ rfl
    rw [show Try.prog.cellsOf 39 = 2 from by kernel_rfl] at e1
    obtain ⟨a1, K1, o1⟩ := opens39 n _ y1 e1 (fun q hq => hwx q (by
      simp only [DataW.weights, Try.underlying44, List.map_cons, List.map_nil, DataW.weightsEach, List.mem_append]
      exact .inr (.inl hq)))
    have E0 : (cs.drop 0).take 2 = (cs.take 2) := by simp [List.drop_drop]
    have L0 := E0 ▸ K0
    have E1 : (cs.drop 2).take 2 = (cs.drop 2) := by rw [List.take_of_length_le (by rw [List.length_drop]; omega)] <;> simp [List.drop_drop]
    have L1 := E1 ▸ K1
    exact ⟨⟨a0, a1⟩, pair_at 2 L0 (L1), o0, o1⟩

/-- What is known of a value of type 54 that came in. -/
def Ok54 (x : S54) : Prop := x.f0.size ≤ maxLen ∧ Ok39 x.f1 ∧ (x.f2.length * 8 ≤ reachBytes ∧ ∀ y ∈ x.f2, (Lit.int .i64 y).wf = true)
theorem opens54 {H : Type} {enc : TypeId × Value → H} {W : World} : Opens enc W 54 k54 Ok54 := by
  intro fuel cs x h hw
  obtain ⟨xs, n, _, hx, hl, hlen, hf⟩ := DataW.trod_struct Try.underlying54 h
  have hl' : cs.length = 4 := hl.trans (by kernel_rfl)
  match xs, hlen with
  | [y0, y1, y2], _ =>
    have hwx : ∀ n ∈ x.1.weights Try.prog 54, n ≤ reachBytes := hw
    rw [hx] at hwx
    have e0 : DataW.trod enc Try.prog W 0 (fun _ => true) true n 9 ((cs.drop 0).take (Try.prog.cellsOf 9)) = some y0 := hf 0 _ rfl
    rw [show Try.prog.cellsOf 9 = 1 from by kernel_rfl] at e0
    obtain ⟨a0, K0, o0⟩ := (opens_string Try.underlying9) n _ y0 e0 (fun q hq => hwx q (by
      simp only [DataW.weights, Try.underlying54, List.map_cons, List.map_nil, DataW.weightsEach, List.mem_append]
      exact .inl hq))
    have e1 : DataW.trod enc Try.prog W 0 (fun _ => true) true n 39 ((cs.drop 1).take (Try.prog.cellsOf 39)) = some y1 := hf 1 _ rfl
    rw [show Try.prog.cellsOf 39 = 2 from by kernel_rfl] at e1
    obtain ⟨a1, K1, o1⟩ := opens39 n _ y1 e1 (fun q hq => hwx q (by
      simp only [DataW.weights, Try.underlying54, List.map_cons, List.map_nil, DataW.weightsEach, List.mem_append]
      exact .inr (.inl hq)))
    have e2 : DataW.trod enc Try.prog W 0 (fun _ => true) true n 52 ((cs.drop 3).take (Try.prog.cellsOf 52)) = some y2 := hf 2 _ rfl
    rw [show Try.prog.cellsOf 52 = 1 from by kernel_rfl] at e2
    obtain ⟨a2, K2, o2⟩ := (opens_slice Try.underlying52 (opens_int Try.underlying3) (by kernel_rfl) (by kernel_rfl)) n _ y2 e2 (fun q hq => hwx q (by
      simp only [DataW.weights, Try.underlying54, List.map_cons, List.map_nil, DataW.weightsEach, List.mem_append]
      exact .inr (.inr (.inl hq))))
    have E0 : (cs.drop 0).take 1 = (cs.take 1) := by simp [List.drop_drop]
    have L0 := E0 ▸ K0
    have E1 : (cs.drop 1).take 2 = ((cs.drop 1).take 2) := by simp [List.drop_drop]
    have L1 := E1 ▸ K1
    have E2 : (cs.drop 3).take 1 = ((cs.drop 1).drop 2) := by rw [List.take_of_length_le (by rw [List.length_drop]; omega)] <;> simp [List.drop_drop]
    have L2 := E2 ▸ K2
    exact ⟨⟨a0, a1, a2⟩, pair_at 1 L0 (pair_at 2 L1 (L2)), o0, o1, o2⟩

/-- What is known of a value of type 85 that came in. -/
def Ok85 (x : S85) : Prop := x.f0.size ≤ maxLen ∧ (x.f1.length * 32 ≤ reachBytes ∧ ∀ y ∈ x.f1, Ok44 y)
theorem opens85 {H : Type} {enc : TypeId × Value → H} {W : World} : Opens enc W 85 k85 Ok85 := by
  intro fuel cs x h hw
  obtain ⟨xs, n, _, hx, hl, hlen, hf⟩ := DataW.trod_struct Try.underlying85 h
  have hl' : cs.length = 2 := hl.trans (by kernel_rfl)
  match xs, hlen with
  | [y0, y1], _ =>
    have hwx : ∀ n ∈ x.1.weights Try.prog 85, n ≤ reachBytes := hw
    rw [hx] at hwx
    have e0 : DataW.trod enc Try.prog W 0 (fun _ => true) true n 9 ((cs.drop 0).take (Try.prog.cellsOf 9)) = some y0 := hf 0 _ rfl
    rw [show Try.prog.cellsOf 9 = 1 from by kernel_rfl] at e0
    obtain ⟨a0, K0, o0⟩ := (opens_string Try.underlying9) n _ y0 e0 (fun q hq => hwx q (by
      simp only [DataW.weights, Try.underlying85, List.map_cons, List.map_nil, DataW.weightsEach, List.mem_append]
      exact .inl hq))
    have e1 : DataW.trod enc Try.prog W 0 (fun _ => true) true n 83 ((cs.drop 1).take (Try.prog.cellsOf 83)) = some y1 := hf 1 _ rfl
    rw [show Try.prog.cellsOf 83 = 1 from by kernel_rfl] at e1
    obtain ⟨a1, K1, o1⟩ := (opens_slice Try.underlying83 opens44 (by kernel_rfl) (by kernel_rfl)) n _ y1 e1 (fun q hq => hwx q (by
      simp only [DataW.weights, Try.underlying85, List.map_cons, List.map_nil, DataW.weightsEach, List.mem_append]
      exact .inr (.inl hq)))
    have E0 : (cs.drop 0).take 1 = (cs.take 1) := by simp [List.drop_drop]
    have L0 := E0 ▸ K0
    have E1 : (cs.drop 1).take 1 = (cs.drop 1) := by rw [List.take_of_length_le (by rw [List.length_drop]; omega)] <;> simp [List.drop_drop]
    have L1 := E1 ▸ K1
    exact ⟨⟨a0, a1⟩, pair_at 1 L0 (L1), o0, o1⟩

/-- What is known of a value of type 116 that came in. -/
def Ok116 (x : S116) : Prop := x.f0.size ≤ maxLen ∧ (Lit.int .i64 x.f1).wf = true ∧ (Lit.int .i64 x.f2).wf = true ∧ (Lit.int .i64 x.f3).wf = true
theorem opens116 {H : Type} {enc : TypeId × Value → H} {W : World} : Opens enc W 116 k116 Ok116 := by
  intro fuel cs x h hw
  obtain ⟨xs, n, _, hx, hl, hlen, hf⟩ := DataW.trod_struct Try.underlying116 h
  have hl' : cs.length = 4 := hl.trans (by kernel_rfl)
  match xs, hlen with
  | [y0, y1, y2, y3], _ =>
    have hwx : ∀ n ∈ x.1.weights Try.prog 116, n ≤ reachBytes := hw
    rw [hx] at hwx
    have e0 : DataW.trod enc Try.prog W 0 (fun _ => true) true n 9 ((cs.drop 0).take (Try.prog.cellsOf 9)) = some y0 := hf 0 _ rfl
    rw [show Try.prog.cellsOf 9 = 1 from by kernel_rfl] at e0
    obtain ⟨a0, K0, o0⟩ := (opens_string Try.underlying9) n _ y0 e0 (fun q hq => hwx q (by
      simp only [DataW.weights, Try.underlying116, List.map_cons, List.map_nil, DataW.weightsEach, List.mem_append]
      exact .inl hq))
    have e1 : DataW.trod enc Try.prog W 0 (fun _ => true) true n 3 ((cs.drop 1).take (Try.prog.cellsOf 3)) = some y1 := hf 1 _ rfl
    rw [show Try.prog.cellsOf 3 = 1 from by kernel_rfl] at e1
    obtain ⟨a1, K1, o1⟩ := (opens_int Try.underlying3) n _ y1 e1 (fun q hq => hwx q (by
      simp only [DataW.weights, Try.underlying116, List.map_cons, List.map_nil, DataW.weightsEach, List.mem_append]
      exact .inr (.inl hq)))
    have e2 : DataW.trod enc Try.prog W 0 (fun _ => true) true n 3 ((cs.drop 2).take (Try.prog.cellsOf 3)) = some y2 := hf 2 _ rfl
    rw [show Try.prog.cellsOf 3 = 1 from by kernel_rfl] at e2
    obtain ⟨a2, K2, o2⟩ := (opens_int Try.underlying3) n _ y2 e2 (fun q hq => hwx q (by
      simp only [DataW.weights, Try.underlying116, List.map_cons, List.map_nil, DataW.weightsEach, List.mem_append]
      exact .inr (.inr (.inl hq))))
    have e3 : DataW.trod enc Try.prog W 0 (fun _ => true) true n 3 ((cs.drop 3).take (Try.prog.cellsOf 3)) = some y3 := hf 3 _ rfl
    rw [show Try.prog.cellsOf 3 = 1 from by kernel_rfl] at e3
    obtain ⟨a3, K3, o3⟩ := (opens_int Try.underlying3) n _ y3 e3 (fun q hq => hwx q (by
      simp only [DataW.weights, Try.underlying116, List.map_cons, List.map_nil, DataW.weightsEach, List.mem_append]
      exact .inr (.inr (.inr (.inl hq)))))
    have E0 : (cs.drop 0).take 1 = (cs.take 1) := by simp [List.drop_drop]
    have L0 := E0 ▸ K0
    have E1 : (cs.drop 1).take 1 = ((cs.drop 1).take 1) := by simp [List.drop_drop]
    have L1 := E1 ▸ K1
    have E2 : (cs.drop 2).take 1 = (((cs.drop 1).drop 1).take 1) := by simp [List.drop_drop]
    have L2 := E2 ▸ K2
    have E3 : (cs.drop 3).take 1 = (((cs.drop 1).drop 1).drop 1) := by rw [List.take_of_length_le (by rw [List.length_drop]; omega)] <;> simp [List.drop_drop]
    have L3 := E3 ▸ K3
    exact ⟨⟨a0, a1, a2, a3⟩, pair_at 1 L0 (pair_at 1 L1 (pair_at 1 L2 (L3))), o0, o1, o2, o3⟩

/-- What is known of a value of type 102 that came in. -/
def Ok102 (x : S102) : Prop := x.f0.size ≤ maxLen ∧ (Lit.int .i64 x.f1).wf = true ∧ (Lit.int .i64 x.f2).wf = true ∧ True
theorem opens102 {H : Type} {enc : TypeId × Value → H} {W : World} : Opens enc W 102 k102 Ok102 := by
  intro fuel cs x h hw
  obtain ⟨xs, n, _, hx, hl, hlen, hf⟩ := DataW.trod_struct Try.underlying102 h
  have hl' : cs.length = 4 := hl.trans (by kernel_rfl)
  match xs, hlen with
  | [y0, y1, y2, y3], _ =>
    have hwx : ∀ n ∈ x.1.weights Try.prog 102, n ≤ reachBytes := hw
    rw [hx] at hwx
    have e0 : DataW.trod enc Try.prog W 0 (fun _ => true) true n 9 ((cs.drop 0).take (Try.prog.cellsOf 9)) = some y0 := hf 0 _ rfl
    rw [show Try.prog.cellsOf 9 = 1 from by kernel_rfl] at e0
    obtain ⟨a0, K0, o0⟩ := (opens_string Try.underlying9) n _ y0 e0 (fun q hq => hwx q (by
      simp only [DataW.weights, Try.underlying102, List.map_cons, List.map_nil, DataW.weightsEach, List.mem_append]
      exact .inl hq))
    have e1 : DataW.trod enc Try.prog W 0 (fun _ => true) true n 3 ((cs.drop 1).take (Try.prog.cellsOf 3)) = some y1 := hf 1 _ rfl
    rw [show Try.prog.cellsOf 3 = 1 from by kernel_rfl] at e1
    obtain ⟨a1, K1, o1⟩ := (opens_int Try.underlying3) n _ y1 e1 (fun q hq => hwx q (by
      simp only [DataW.weights, Try.underlying102, List.map_cons, List.map_nil, DataW.weightsEach, List.mem_append]
      exact .inr (.inl hq)))
    have e2 : DataW.trod enc Try.prog W 0 (fun _ => true) true n 3 ((cs.drop 2).take (Try.prog.cellsOf 3)) = some y2 := hf 2 _ rfl
    rw [show Try.prog.cellsOf 3 = 1 from by kernel_rfl] at e2
    obtain ⟨a2, K2, o2⟩ := (opens_int Try.underlying3) n _ y2 e2 (fun q hq => hwx q (by
      simp only [DataW.weights, Try.underlying102, List.map_cons, List.map_nil, DataW.weightsEach, List.mem_append]
      exact .inr (.inr (.inl hq))))
    have e3 : DataW.trod enc Try.prog W 0 (fun _ => true) true n 4 ((cs.drop 3).take (Try.prog.cellsOf 4)) = some y3 := hf 3 _ rfl
    rw [show Try.prog.cellsOf 4 = 1 from by kernel_rfl] at e3
    obtain ⟨a3, K3, o3⟩ := (opens_bool Try.underlying4) n _ y3 e3 (fun q hq => hwx q (by
      simp only [DataW.weights, Try.underlying102, List.map_cons, List.map_nil, DataW.weightsEach, List.mem_append]
      exact .inr (.inr (.inr (.inl hq)))))
    have E0 : (cs.drop 0).take 1 = (cs.take 1) := by simp [List.drop_drop]
    have L0 := E0 ▸ K0
    have E1 : (cs.drop 1).take 1 = ((cs.drop 1).take 1) := by simp [List.drop_drop]
    have L1 := E1 ▸ K1
    have E2 : (cs.drop 2).take 1 = (((cs.drop 1).drop 1).take 1) := by simp [List.drop_drop]
    have L2 := E2 ▸ K2
    have E3 : (cs.drop 3).take 1 = (((cs.drop 1).drop 1).drop 1) := by rw [List.take_of_length_le (by rw [List.length_drop]; omega)] <;> simp [List.drop_drop]
    have L3 := E3 ▸ K3
    exact ⟨⟨a0, a1, a2, a3⟩, pair_at 1 L0 (pair_at 1 L1 (pair_at 1 L2 (L3))), o0, o1, o2, o3⟩

/-- What is known of a value of type 46 that came in. -/
def Ok46 (x : S46) : Prop := Ok44 x.f0 ∧ (Lit.int .i64 x.f1).wf = true ∧ (Lit.int .i64 x.f2).wf = true
theorem opens46 {H : Type} {enc : TypeId × Value → H} {W : World} : Opens enc W 46 k46 Ok46 := by
  intro fuel cs x h hw
  obtain ⟨xs, n, _, hx, hl, hlen, hf⟩ := DataW.trod_struct Try.underlying46 h
  have hl' : cs.length = 6 := hl.trans (by kernel_rfl)
  match xs, hlen with
  | [y0, y1, y2], _ =>
    have hwx : ∀ n ∈ x.1.weights Try.prog 46, n ≤ reachBytes := hw
    rw [hx] at hwx
    have e0 : DataW.trod enc Try.prog W 0 (fun _ => true) true n 44 ((cs.drop 0).take (Try.prog.cellsOf 44)) = some y0 := hf 0 _ rfl
    rw [show Try.prog.cellsOf 44 = 4 from by kernel_rfl] at e0
    obtain ⟨a0, K0, o0⟩ := opens44 n _ y0 e0 (fun q hq => hwx q (by
      simp only [DataW.weights, Try.underlying46, List.map_cons, List.map_nil, DataW.weightsEach, List.mem_append]
      exact .inl hq))
    have e1 : DataW.trod enc Try.prog W 0 (fun _ => true) true n 3 ((cs.drop 4).take (Try.prog.cellsOf 3)) = some y1 := hf 1 _ rfl
    rw [show Try.prog.cellsOf 3 = 1 from by kernel_rfl] at e1
    obtain ⟨a1, K1, o1⟩ := (opens_int Try.underlying3) n _ y1 e1 (fun q hq => hwx q (by
      simp only [DataW.weights, Try.underlying46, List.map_cons, List.map_nil, DataW.weightsEach, List.mem_append]
      exact .inr (.inl hq)))
    have e2 : DataW.trod enc Try.prog W 0 (fun _ => true) true n 3 ((cs.drop 5).take (Try.prog.cellsOf 3)) = some y2 := hf 2 _ rfl
    rw [show Try.prog.cellsOf 3 = 1 from by kernel_rfl] at e2
    obtain ⟨a2, K2, o2⟩ := (opens_int Try.underlying3) n _ y2 e2 (fun q hq => hwx q (by
      simp only [DataW.weights, Try.underlying46, List.map_cons, List.map_nil, DataW.weightsEach, List.mem_append]
      exact .inr (.inr (.inl hq))))
    have E0 : (cs.drop 0).take 4 = (cs.take 4) := by simp [List.drop_drop]
    have L0 := E0 ▸ K0
    have E1 : (cs.drop 4).take 1 = ((cs.drop 4).take 1) := by simp [List.drop_drop]
    have L1 := E1 ▸ K1
    have E2 : (cs.drop 5).take 1 = ((cs.drop 4).drop 1) := by rw [List.take_of_length_le (by rw [List.length_drop]; omega)] <;> simp [List.drop_drop]
    have L2 := E2 ▸ K2
    exact ⟨⟨a0, a1, a2⟩, pair_at 4 L0 (pair_at 1 L1 (L2)), o0, o1, o2⟩

/-- What is known of a value of type 56 that came in. -/
def Ok56 (x : S56) : Prop := (Lit.int .i64 x.f0).wf = true ∧ x.f1.size ≤ maxLen ∧ x.f2.size ≤ maxLen ∧ x.f3.size ≤ maxLen ∧ Ok39 x.f4 ∧ Ok39 x.f5 ∧ (Lit.int .i64 x.f6).wf = true ∧ (Lit.int .i64 x.f7).wf = true
theorem opens56 {H : Type} {enc : TypeId × Value → H} {W : World} : Opens enc W 56 k56 Ok56 := by
  intro fuel cs x h hw
  obtain ⟨xs, n, _, hx, hl, hlen, hf⟩ := DataW.trod_struct Try.underlying56 h
  have hl' : cs.length = 10 := hl.trans (by kernel_rfl)
  match xs, hlen with
  | [y0, y1, y2, y3, y4, y5, y6, y7], _ =>
    have hwx : ∀ n ∈ x.1.weights Try.prog 56, n ≤ reachBytes := hw
    rw [hx] at hwx
    have e0 : DataW.trod enc Try.prog W 0 (fun _ => true) true n 3 ((cs.drop 0).take (Try.prog.cellsOf 3)) = some y0 := hf 0 _ rfl
    rw [show Try.prog.cellsOf 3 = 1 from by kernel_rfl] at e0
    obtain ⟨a0, K0, o0⟩ := (opens_int Try.underlying3) n _ y0 e0 (fun q hq => hwx q (by
      simp only [DataW.weights, Try.underlying56, List.map_cons, List.map_nil, DataW.weightsEach, List.mem_append]
      exact .inl hq))
    have e1 : DataW.trod enc Try.prog W 0 (fun _ => true) true n 9 ((cs.drop 1).take (Try.prog.cellsOf 9)) = some y1 := hf 1 _ rfl
    rw [show Try.prog.cellsOf 9 = 1 from by kernel_rfl] at e1
    obtain ⟨a1, K1, o1⟩ := (opens_string Try.underlying9) n _ y1 e1 (fun q hq => hwx q (by
      simp only [DataW.weights, Try.underlying56, List.map_cons, List.map_nil, DataW.weightsEach, List.mem_append]
      exact .inr (.inl hq)))
    have e2 : DataW.trod enc Try.prog W 0 (fun _ => true) true n 9 ((cs.drop 2).take (Try.prog.cellsOf 9)) = some y2 := hf 2 _ rfl
    rw [show Try.prog.cellsOf 9 = 1 from by kernel_rfl] at e2
    obtain ⟨a2, K2, o2⟩ := (opens_string Try.underlying9) n _ y2 e2 (fun q hq => hwx q (by
      simp only [DataW.weights, Try.underlying56, List.map_cons, List.map_nil, DataW.weightsEach, List.mem_append]
      exact .inr (.inr (.inl hq))))
    have e3 : DataW.trod enc Try.prog W 0 (fun _ => true) true n 9 ((cs.drop 3).take (Try.prog.cellsOf 9)) = some y3 := hf 3 _ rfl
    rw [show Try.prog.cellsOf 9 = 1 from by kernel_rfl] at e3
    obtain ⟨a3, K3, o3⟩ := (opens_string Try.underlying9) n _ y3 e3 (fun q hq => hwx q (by
      simp only [DataW.weights, Try.underlying56, List.map_cons, List.map_nil, DataW.weightsEach, List.mem_append]
      exact .inr (.inr (.inr (.inl hq)))))
    have e4 : DataW.trod enc Try.prog W 0 (fun _ => true) true n 39 ((cs.drop 4).take (Try.prog.cellsOf 39)) = some y4 := hf 4 _ rfl
    rw [show Try.prog.cellsOf 39 = 2 from by kernel_rfl] at e4
    obtain ⟨a4, K4, o4⟩ := opens39 n _ y4 e4 (fun q hq => hwx q (by
      simp only [DataW.weights, Try.underlying56, List.map_cons, List.map_nil, DataW.weightsEach, List.mem_append]
      exact .inr (.inr (.inr (.inr (.inl hq))))))
    have e5 : DataW.trod enc Try.prog W 0 (fun _ => true) true n 39 ((cs.drop 6).take (Try.prog.cellsOf 39)) = some y5 := hf 5 _ rfl
    rw [show Try.prog.cellsOf 39 = 2 from by kernel_rfl] at e5
    obtain ⟨a5, K5, o5⟩ := opens39 n _ y5 e5 (fun q hq => hwx q (by
      simp only [DataW.weights, Try.underlying56, List.map_cons, List.map_nil, DataW.weightsEach, List.mem_append]
      exact .inr (.inr (.inr (.inr (.inr (.inl hq)))))))
    have e6 : DataW.trod enc Try.prog W 0 (fun _ => true) true n 3 ((cs.drop 8).take (Try.prog.cellsOf 3)) = some y6 := hf 6 _ rfl
    rw [show Try.prog.cellsOf 3 = 1 from by kernel_rfl] at e6
    obtain ⟨a6, K6, o6⟩ := (opens_int Try.underlying3) n _ y6 e6 (fun q hq => hwx q (by
      simp only [DataW.weights, Try.underlying56, List.map_cons, List.map_nil, DataW.weightsEach, List.mem_append]
      exact .inr (.inr (.inr (.inr (.inr (.inr (.inl hq))))))))
    have e7 : DataW.trod enc Try.prog W 0 (fun _ => true) true n 3 ((cs.drop 9).take (Try.prog.cellsOf 3)) = some y7 := hf 7 _ rfl
    rw [show Try.prog.cellsOf 3 = 1 from by kernel_rfl] at e7
    obtain ⟨a7, K7, o7⟩ := (opens_int Try.underlying3) n _ y7 e7 (fun q hq => hwx q (by
      simp only [DataW.weights, Try.underlying56, List.map_cons, List.map_nil, DataW.weightsEach, List.mem_append]
      exact .inr (.inr (.inr (.inr (.inr (.inr (.inr (.inl hq)))))))))
    have E0 : (cs.drop 0).take 1 = (cs.take 1) := by simp [List.drop_drop]
    have L0 := E0 ▸ K0
    have E1 : (cs.drop 1).take 1 = ((cs.drop 1).take 1) := by simp [List.drop_drop]
    have L1 := E1 ▸ K1
    have E2 : (cs.drop 2).take 1 = (((cs.drop 1).drop 1).take 1) := by simp [List.drop_drop]
    have L2 := E2 ▸ K2
    have E3 : (cs.drop 3).take 1 = ((((cs.drop 1).drop 1).drop 1).take 1) := by simp [List.drop_drop]
    have L3 := E3 ▸ K3
    have E4 : (cs.drop 4).take 2 = (((((cs.drop 1).drop 1).drop 1).drop 1).take 2) := by simp [List.drop_drop]
    have L4 := E4 ▸ K4
    have E5 : (cs.drop 6).take 2 = ((((((cs.drop 1).drop 1).drop 1).drop 1).drop 2).take 2) := by simp [List.drop_drop]
    have L5 := E5 ▸ K5
    have E6 : (cs.drop 8).take 1 = (((((((cs.drop 1).drop 1).drop 1).drop 1).drop 2).drop 2).take 1) := by simp [List.drop_drop]
    have L6 := E6 ▸ K6
    have E7 : (cs.drop 9).take 1 = (((((((cs.drop 1).drop 1).drop 1).drop 1).drop 2).drop 2).drop 1) := by rw [List.take_of_length_le (by rw [List.length_drop]; omega)] <;> simp [List.drop_drop]
    have L7 := E7 ▸ K7
    exact ⟨⟨a0, a1, a2, a3, a4, a5, a6, a7⟩, pair_at 1 L0 (pair_at 1 L1 (pair_at 1 L2 (pair_at 1 L3 (pair_at 2 L4 (pair_at 2 L5 (pair_at 1 L6 (L7))))))), o0, o1, o2, o3, o4, o5, o6, o7⟩

/-- What is known of a value of type 68 that came in. -/
def Ok68 (x : S68) : Prop := x.f0.size ≤ maxLen ∧ x.f1.size ≤ maxLen ∧ x.f2.size ≤ maxLen ∧ x.f3.size ≤ maxLen ∧ x.f4.size ≤ maxLen ∧ (Lit.int .i64 x.f5).wf = true ∧ x.f6.size ≤ maxLen ∧ True
theorem opens68 {H : Type} {enc : TypeId × Value → H} {W : World} : Opens enc W 68 k68 Ok68 := by
  intro fuel cs x h hw
  obtain ⟨xs, n, _, hx, hl, hlen, hf⟩ := DataW.trod_struct Try.underlying68 h
  have hl' : cs.length = 8 := hl.trans (by kernel_rfl)
  match xs, hlen with
  | [y0, y1, y2, y3, y4, y5, y6, y7], _ =>
    have hwx : ∀ n ∈ x.1.weights Try.prog 68, n ≤ reachBytes := hw
    rw [hx] at hwx
    have e0 : DataW.trod enc Try.prog W 0 (fun _ => true) true n 9 ((cs.drop 0).take (Try.prog.cellsOf 9)) = some y0 := hf 0 _ rfl
    rw [show Try.prog.cellsOf 9 = 1 from by kernel_rfl] at e0
    obtain ⟨a0, K0, o0⟩ := (opens_string Try.underlying9) n _ y0 e0 (fun q hq => hwx q (by
      simp only [DataW.weights, Try.underlying68, List.map_cons, List.map_nil, DataW.weightsEach, List.mem_append]
      exact .inl hq))
    have e1 : DataW.trod enc Try.prog W 0 (fun _ => true) true n 9 ((cs.drop 1).take (Try.prog.cellsOf 9)) = some y1 := hf 1 _ rfl
    rw [show Try.prog.cellsOf 9 = 1 from by kernel_rfl] at e1
    obtain ⟨a1, K1, o1⟩ := (opens_string Try.underlying9) n _ y1 e1 (fun q hq => hwx q (by
      simp only [DataW.weights, Try.underlying68, List.map_cons, List.map_nil, DataW.weightsEach, List.mem_append]
      exact .inr (.inl hq)))
    have e2 : DataW.trod enc Try.prog W 0 (fun _ => true) true n 9 ((cs.drop 2).take (Try.prog.cellsOf 9)) = some y2 := hf 2 _ rfl
    rw [show Try.prog.cellsOf 9 = 1 from by kernel_rfl] at e2
    obtain ⟨a2, K2, o2⟩ := (opens_string Try.underlying9) n _ y2 e2 (fun q hq => hwx q (by
      simp only [DataW.weights, Try.underlying68, List.map_cons, List.map_nil, DataW.weightsEach, List.mem_append]
      exact .inr (.inr (.inl hq))))
    have e3 : DataW.trod enc Try.prog W 0 (fun _ => true) true n 9 ((cs.drop 3).take (Try.prog.cellsOf 9)) = some y3 := hf 3 _ rfl
    rw [show Try.prog.cellsOf 9 = 1 from by kernel_rfl] at e3
    obtain ⟨a3, K3, o3⟩ := (opens_string Try.underlying9) n _ y3 e3 (fun q hq => hwx q (by
      simp only [DataW.weights, Try.underlying68, List.map_cons, List.map_nil, DataW.weightsEach, List.mem_append]
      exact .inr (.inr (.inr (.inl hq)))))
    have e4 : DataW.trod enc Try.prog W 0 (fun _ => true) true n 9 ((cs.drop 4).take (Try.prog.cellsOf 9)) = some y4 := hf 4 _ rfl
    rw [show Try.prog.cellsOf 9 = 1 from by kernel_rfl] at e4
    obtain ⟨a4, K4, o4⟩ := (opens_string Try.underlying9) n _ y4 e4 (fun q hq => hwx q (by
      simp only [DataW.weights, Try.underlying68, List.map_cons, List.map_nil, DataW.weightsEach, List.mem_append]
      exact .inr (.inr (.inr (.inr (.inl hq))))))
    have e5 : DataW.trod enc Try.prog W 0 (fun _ => true) true n 3 ((cs.drop 5).take (Try.prog.cellsOf 3)) = some y5 := hf 5 _ rfl
    rw [show Try.prog.cellsOf 3 = 1 from by kernel_rfl] at e5
    obtain ⟨a5, K5, o5⟩ := (opens_int Try.underlying3) n _ y5 e5 (fun q hq => hwx q (by
      simp only [DataW.weights, Try.underlying68, List.map_cons, List.map_nil, DataW.weightsEach, List.mem_append]
      exact .inr (.inr (.inr (.inr (.inr (.inl hq)))))))
    have e6 : DataW.trod enc Try.prog W 0 (fun _ => true) true n 9 ((cs.drop 6).take (Try.prog.cellsOf 9)) = some y6 := hf 6 _ rfl
    rw [show Try.prog.cellsOf 9 = 1 from by kernel_rfl] at e6
    obtain ⟨a6, K6, o6⟩ := (opens_string Try.underlying9) n _ y6 e6 (fun q hq => hwx q (by
      simp only [DataW.weights, Try.underlying68, List.map_cons, List.map_nil, DataW.weightsEach, List.mem_append]
      exact .inr (.inr (.inr (.inr (.inr (.inr (.inl hq))))))))
    have e7 : DataW.trod enc Try.prog W 0 (fun _ => true) true n 4 ((cs.drop 7).take (Try.prog.cellsOf 4)) = some y7 := hf 7 _ rfl
    rw [show Try.prog.cellsOf 4 = 1 from by kernel_rfl] at e7
    obtain ⟨a7, K7, o7⟩ := (opens_bool Try.underlying4) n _ y7 e7 (fun q hq => hwx q (by
      simp only [DataW.weights, Try.underlying68, List.map_cons, List.map_nil, DataW.weightsEach, List.mem_append]
      exact .inr (.inr (.inr (.inr (.inr (.inr (.inr (.inl hq)))))))))
    have E0 : (cs.drop 0).take 1 = (cs.take 1) := by simp [List.drop_drop]
    have L0 := E0 ▸ K0
    have E1 : (cs.drop 1).take 1 = ((cs.drop 1).take 1) := by simp [List.drop_drop]
    have L1 := E1 ▸ K1
    have E2 : (cs.drop 2).take 1 = (((cs.drop 1).drop 1).take 1) := by simp [List.drop_drop]
    have L2 := E2 ▸ K2
    have E3 : (cs.drop 3).take 1 = ((((cs.drop 1).drop 1).drop 1).take 1) := by simp [List.drop_drop]
    have L3 := E3 ▸ K3
    have E4 : (cs.drop 4).take 1 = (((((cs.drop 1).drop 1).drop 1).drop 1).take 1) := by simp [List.drop_drop]
    have L4 := E4 ▸ K4
    have E5 : (cs.drop 5).take 1 = ((((((cs.drop 1).drop 1).drop 1).drop 1).drop 1).take 1) := by simp [List.drop_drop]
    have L5 := E5 ▸ K5
    have E6 : (cs.drop 6).take 1 = (((((((cs.drop 1).drop 1).drop 1).drop 1).drop 1).drop 1).take 1) := by simp [List.drop_drop]
    have L6 := E6 ▸ K6
    have E7 : (cs.drop 7).take 1 = (((((((cs.drop 1).drop 1).drop 1).drop 1).drop 1).drop 1).drop 1) := by rw [List.take_of_length_le (by rw [List.length_drop]; omega)] <;> simp [List.drop_drop]
    have L7 := E7 ▸ K7
    exact ⟨⟨a0, a1, a2, a3, a4, a5, a6, a7⟩, pair_at 1 L0 (pair_at 1 L1 (pair_at 1 L2 (pair_at 1 L3 (pair_at 1 L4 (pair_at 1 L5 (pair_at 1 L6 (L7))))))), o0, o1, o2, o3, o4, o5, o6, o7⟩

/-- What is known of a value of type 51 that came in. -/
def Ok51 (x : S51) : Prop := (Lit.int .i64 x.f0).wf = true ∧ Ok39 x.f1 ∧ Ok39 x.f2 ∧ (Lit.int .i64 x.f3).wf = true ∧ (Lit.int .i64 x.f4).wf = true
theorem opens51 {H : Type} {enc : TypeId × Value → H} {W : World} : Opens enc W 51 k51 Ok51 := by
  intro fuel cs x h hw
  obtain ⟨xs, n, _, hx, hl, hlen, hf⟩ := DataW.trod_struct Try.underlying51 h
  have hl' : cs.length = 7 := hl.trans (by kernel_rfl)
  match xs, hlen with
  | [y0, y1, y2, y3, y4], _ =>
    have hwx : ∀ n ∈ x.1.weights Try.prog 51, n ≤ reachBytes := hw
    rw [hx] at hwx
    have e0 : DataW.trod enc Try.prog W 0 (fun _ => true) true n 3 ((cs.drop 0).take (Try.prog.cellsOf 3)) = some y0 := hf 0 _ rfl
    rw [show Try.prog.cellsOf 3 = 1 from by kernel_rfl] at e0
    obtain ⟨a0, K0, o0⟩ := (opens_int Try.underlying3) n _ y0 e0 (fun q hq => hwx q (by
      simp only [DataW.weights, Try.underlying51, List.map_cons, List.map_nil, DataW.weightsEach, List.mem_append]
      exact .inl hq))
    have e1 : DataW.trod enc Try.prog W 0 (fun _ => true) true n 39 ((cs.drop 1).take (Try.prog.cellsOf 39)) = some y1 := hf 1 _ rfl
    rw [show Try.prog.cellsOf 39 = 2 from by kernel_rfl] at e1
    obtain ⟨a1, K1, o1⟩ := opens39 n _ y1 e1 (fun q hq => hwx q (by
      simp only [DataW.weights, Try.underlying51, List.map_cons, List.map_nil, DataW.weightsEach, List.mem_append]
      exact .inr (.inl hq)))
    have e2 : DataW.trod enc Try.prog W 0 (fun _ => true) true n 39 ((cs.drop 3).take (Try.prog.cellsOf 39)) = some y2 := hf 2 _ rfl
    rw [show Try.prog.cellsOf 39 = 2 from by kernel_rfl] at e2
    obtain ⟨a2, K2, o2⟩ := opens39 n _ y2 e2 (fun q hq => hwx q (by
      simp only [DataW.weights, Try.underlying51, List.map_cons, List.map_nil, DataW.weightsEach, List.mem_append]
      exact .inr (.inr (.inl hq))))
    have e3 : DataW.trod enc Try.prog W 0 (fun _ => true) true n 3 ((cs.drop 5).take (Try.prog.cellsOf 3)) = some y3 := hf 3 _ rfl
    rw [show Try.prog.cellsOf 3 = 1 from by kernel_rfl] at e3
    obtain ⟨a3, K3, o3⟩ := (opens_int Try.underlying3) n _ y3 e3 (fun q hq => hwx q (by
      simp only [DataW.weights, Try.underlying51, List.map_cons, List.map_nil, DataW.weightsEach, List.mem_append]
      exact .inr (.inr (.inr (.inl hq)))))
    have e4 : DataW.trod enc Try.prog W 0 (fun _ => true) true n 3 ((cs.drop 6).take (Try.prog.cellsOf 3)) = some y4 := hf 4 _ rfl
    rw [show Try.prog.cellsOf 3 = 1 from by kernel_rfl] at e4
    obtain ⟨a4, K4, o4⟩ := (opens_int Try.underlying3) n _ y4 e4 (fun q hq => hwx q (by
      simp only [DataW.weights, Try.underlying51, List.map_cons, List.map_nil, DataW.weightsEach, List.mem_append]
      exact .inr (.inr (.inr (.inr (.inl hq))))))
    have E0 : (cs.drop 0).take 1 = (cs.take 1) := by simp [List.drop_drop]
    have L0 := E0 ▸ K0
    have E1 : (cs.drop 1).take 2 = ((cs.drop 1).take 2) := by simp [List.drop_drop]
    have L1 := E1 ▸ K1
    have E2 : (cs.drop 3).take 2 = (((cs.drop 1).drop 2).take 2) := by simp [List.drop_drop]
    have L2 := E2 ▸ K2
    have E3 : (cs.drop 5).take 1 = ((((cs.drop 1).drop 2).drop 2).take 1) := by simp [List.drop_drop]
    have L3 := E3 ▸ K3
    have E4 : (cs.drop 6).take 1 = ((((cs.drop 1).drop 2).drop 2).drop 1) := by rw [List.take_of_length_le (by rw [List.length_drop]; omega)] <;> simp [List.drop_drop]
    have L4 := E4 ▸ K4
    exact ⟨⟨a0, a1, a2, a3, a4⟩, pair_at 1 L0 (pair_at 2 L1 (pair_at 2 L2 (pair_at 1 L3 (L4)))), o0, o1, o2, o3, o4⟩

/-- What is known of a value of type 36 that came in. -/
def Ok36 (x : S36) : Prop := (x.f0.length * 56 ≤ reachBytes ∧ ∀ y ∈ x.f0, Ok54 y) ∧ (x.f1.length * 40 ≤ reachBytes ∧ ∀ y ∈ x.f1, Ok85 y) ∧ (x.f2.length * 40 ≤ reachBytes ∧ ∀ y ∈ x.f2, Ok116 y) ∧ (x.f3.length * 40 ≤ reachBytes ∧ ∀ y ∈ x.f3, Ok102 y) ∧ (x.f4.length * 48 ≤ reachBytes ∧ ∀ y ∈ x.f4, Ok46 y) ∧ (x.f5.length * 104 ≤ reachBytes ∧ ∀ y ∈ x.f5, Ok56 y) ∧ (x.f6.length * 112 ≤ reachBytes ∧ ∀ y ∈ x.f6, Ok68 y) ∧ (Lit.int .i64 x.f7).wf = true
theorem opens36 {H : Type} {enc : TypeId × Value → H} {W : World} : Opens enc W 36 k36 Ok36 := by
  intro fuel cs x h hw
  obtain ⟨xs, n, _, hx, hl, hlen, hf⟩ := DataW.trod_struct Try.underlying36 h
  have hl' : cs.length = 8 := hl.trans (by kernel_rfl)
  match xs, hlen with
  | [y0, y1, y2, y3, y4, y5, y6, y7], _ =>
    have hwx : ∀ n ∈ x.1.weights Try.prog 36, n ≤ reachBytes := hw
    rw [hx] at hwx
    have e0 : DataW.trod enc Try.prog W 0 (fun _ => true) true n 28 ((cs.drop 0).take (Try.prog.cellsOf 28)) = some y0 := hf 0 _ rfl
    rw [show Try.prog.cellsOf 28 = 1 from by kernel_rfl] at e0
    obtain ⟨a0, K0, o0⟩ := (opens_slice Try.underlying28 opens54 (by kernel_rfl) (by kernel_rfl)) n _ y0 e0 (fun q hq => hwx q (by
      simp only [DataW.weights, Try.underlying36, List.map_cons, List.map_nil, DataW.weightsEach, List.mem_append]
      exact .inl hq))
    have e1 : DataW.trod enc Try.prog W 0 (fun _ => true) true n 29 ((cs.drop 1).take (Try.prog.cellsOf 29)) = some y1 := hf 1 _ rfl
    rw [show Try.prog.cellsOf 29 = 1 from by kernel_rfl] at e1
    obtain ⟨a1, K1, o1⟩ := (opens_slice Try.underlying29 opens85 (by kernel_rfl) (by kernel_rfl)) n _ y1 e1 (fun q hq => hwx q (by
      simp only [DataW.weights, Try.underlying36, List.map_cons, List.map_nil, DataW.weightsEach, List.mem_append]
      exact .inr (.inl hq)))
    have e2 : DataW.trod enc Try.prog W 0 (fun _ => true) true n 30 ((cs.drop 2).take (Try.prog.cellsOf 30)) = some y2 := hf 2 _ rfl
    rw [show Try.prog.cellsOf 30 = 1 from by kernel_rfl] at e2
    obtain ⟨a2, K2, o2⟩ := (opens_slice Try.underlying30 opens116 (by kernel_rfl) (by kernel_rfl)) n _ y2 e2 (fun q hq => hwx q (by
      simp only [DataW.weights, Try.underlying36, List.map_cons, List.map_nil, DataW.weightsEach, List.mem_append]
      exact .inr (.inr (.inl hq))))
    have e3 : DataW.trod enc Try.prog W 0 (fun _ => true) true n 31 ((cs.drop 3).take (Try.prog.cellsOf 31)) = some y3 := hf 3 _ rfl
    rw [show Try.prog.cellsOf 31 = 1 from by kernel_rfl] at e3
    obtain ⟨a3, K3, o3⟩ := (opens_slice Try.underlying31 opens102 (by kernel_rfl) (by kernel_rfl)) n _ y3 e3 (fun q hq => hwx q (by
      simp only [DataW.weights, Try.underlying36, List.map_cons, List.map_nil, DataW.weightsEach, List.mem_append]
      exact .inr (.inr (.inr (.inl hq)))))
    have e4 : DataW.trod enc Try.prog W 0 (fun _ => true) true n 32 ((cs.drop 4).take (Try.prog.cellsOf 32)) = some y4 := hf 4 _ rfl
    rw [show Try.prog.cellsOf 32 = 1 from by kernel_rfl] at e4
    obtain ⟨a4, K4, o4⟩ := (opens_slice Try.underlying32 opens46 (by kernel_rfl) (by kernel_rfl)) n _ y4 e4 (fun q hq => hwx q (by
      simp only [DataW.weights, Try.underlying36, List.map_cons, List.map_nil, DataW.weightsEach, List.mem_append]
      exact .inr (.inr (.inr (.inr (.inl hq))))))
    have e5 : DataW.trod enc Try.prog W 0 (fun _ => true) true n 33 ((cs.drop 5).take (Try.prog.cellsOf 33)) = some y5 := hf 5 _ rfl
    rw [show Try.prog.cellsOf 33 = 1 from by kernel_rfl] at e5
    obtain ⟨a5, K5, o5⟩ := (opens_slice Try.underlying33 opens56 (by kernel_rfl) (by kernel_rfl)) n _ y5 e5 (fun q hq => hwx q (by
      simp only [DataW.weights, Try.underlying36, List.map_cons, List.map_nil, DataW.weightsEach, List.mem_append]
      exact .inr (.inr (.inr (.inr (.inr (.inl hq)))))))
    have e6 : DataW.trod enc Try.prog W 0 (fun _ => true) true n 34 ((cs.drop 6).take (Try.prog.cellsOf 34)) = some y6 := hf 6 _ rfl
    rw [show Try.prog.cellsOf 34 = 1 from by kernel_rfl] at e6
    obtain ⟨a6, K6, o6⟩ := (opens_slice Try.underlying34 opens68 (by kernel_rfl) (by kernel_rfl)) n _ y6 e6 (fun q hq => hwx q (by
      simp only [DataW.weights, Try.underlying36, List.map_cons, List.map_nil, DataW.weightsEach, List.mem_append]
      exact .inr (.inr (.inr (.inr (.inr (.inr (.inl hq))))))))
    have e7 : DataW.trod enc Try.prog W 0 (fun _ => true) true n 3 ((cs.drop 7).take (Try.prog.cellsOf 3)) = some y7 := hf 7 _ rfl
    rw [show Try.prog.cellsOf 3 = 1 from by kernel_rfl] at e7
    obtain ⟨a7, K7, o7⟩ := (opens_int Try.underlying3) n _ y7 e7 (fun q hq => hwx q (by
      simp only [DataW.weights, Try.underlying36, List.map_cons, List.map_nil, DataW.weightsEach, List.mem_append]
      exact .inr (.inr (.inr (.inr (.inr (.inr (.inr (.inl hq)))))))))
    have E0 : (cs.drop 0).take 1 = (cs.take 1) := by simp [List.drop_drop]
    have L0 := E0 ▸ K0
    have E1 : (cs.drop 1).take 1 = ((cs.drop 1).take 1) := by simp [List.drop_drop]
    have L1 := E1 ▸ K1
    have E2 : (cs.drop 2).take 1 = (((cs.drop 1).drop 1).take 1) := by simp [List.drop_drop]
    have L2 := E2 ▸ K2
    have E3 : (cs.drop 3).take 1 = ((((cs.drop 1).drop 1).drop 1).take 1) := by simp [List.drop_drop]
    have L3 := E3 ▸ K3
    have E4 : (cs.drop 4).take 1 = (((((cs.drop 1).drop 1).drop 1).drop 1).take 1) := by simp [List.drop_drop]
    have L4 := E4 ▸ K4
    have E5 : (cs.drop 5).take 1 = ((((((cs.drop 1).drop 1).drop 1).drop 1).drop 1).take 1) := by simp [List.drop_drop]
    have L5 := E5 ▸ K5
    have E6 : (cs.drop 6).take 1 = (((((((cs.drop 1).drop 1).drop 1).drop 1).drop 1).drop 1).take 1) := by simp [List.drop_drop]
    have L6 := E6 ▸ K6
    have E7 : (cs.drop 7).take 1 = (((((((cs.drop 1).drop 1).drop 1).drop 1).drop 1).drop 1).drop 1) := by rw [List.take_of_length_le (by rw [List.length_drop]; omega)] <;> simp [List.drop_drop]
    have L7 := E7 ▸ K7
    exact ⟨⟨a0, a1, a2, a3, a4, a5, a6, a7⟩, pair_at 1 L0 (pair_at 1 L1 (pair_at 1 L2 (pair_at 1 L3 (pair_at 1 L4 (pair_at 1 L5 (pair_at 1 L6 (L7))))))), o0, o1, o2, o3, o4, o5, o6, o7⟩

/-- What is known of a value of type 62 that came in. -/
def Ok62 (x : S62) : Prop := (Lit.int .i64 x.f0).wf = true ∧ (Lit.int .i64 x.f1).wf = true ∧ Ok51 x.f2
theorem opens62 {H : Type} {enc : TypeId × Value → H} {W : World} : Opens enc W 62 k62 Ok62 := by
  intro fuel cs x h hw
  obtain ⟨xs, n, _, hx, hl, hlen, hf⟩ := DataW.trod_struct Try.underlying62 h
  have hl' : cs.length = 9 := hl.trans (by kernel_rfl)
  match xs, hlen with
  | [y0, y1, y2], _ =>
    have hwx : ∀ n ∈ x.1.weights Try.prog 62, n ≤ reachBytes := hw
    rw [hx] at hwx
    have e0 : DataW.trod enc Try.prog W 0 (fun _ => true) true n 3 ((cs.drop 0).take (Try.prog.cellsOf 3)) = some y0 := hf 0 _ rfl
    rw [show Try.prog.cellsOf 3 = 1 from by kernel_rfl] at e0
    obtain ⟨a0, K0, o0⟩ := (opens_int Try.underlying3) n _ y0 e0 (fun q hq => hwx q (by
      simp only [DataW.weights, Try.underlying62, List.map_cons, List.map_nil, DataW.weightsEach, List.mem_append]
      exact .inl hq))
    have e1 : DataW.trod enc Try.prog W 0 (fun _ => true) true n 3 ((cs.drop 1).take (Try.prog.cellsOf 3)) = some y1 := hf 1 _ rfl
    rw [show Try.prog.cellsOf 3 = 1 from by kernel_rfl] at e1
    obtain ⟨a1, K1, o1⟩ := (opens_int Try.underlying3) n _ y1 e1 (fun q hq => hwx q (by
      simp only [DataW.weights, Try.underlying62, List.map_cons, List.map_nil, DataW.weightsEach, List.mem_append]
      exact .inr (.inl hq)))
    have e2 : DataW.trod enc Try.prog W 0 (fun _ => true) true n 51 ((cs.drop 2).take (Try.prog.cellsOf 51)) = some y2 := hf 2 _ rfl
    rw [show Try.prog.cellsOf 51 = 7 from by kernel_rfl] at e2
    obtain ⟨a2, K2, o2⟩ := opens51 n _ y2 e2 (fun q hq => hwx q (by
      simp only [DataW.weights, Try.underlying62, List.map_cons, List.map_nil, DataW.weightsEach, List.mem_append]
      exact .inr (.inr (.inl hq))))
    have E0 : (cs.drop 0).take 1 = (cs.take 1) := by simp [List.drop_drop]
    have L0 := E0 ▸ K0
    have E1 : (cs.drop 1).take 1 = ((cs.drop 1).take 1) := by simp [List.drop_drop]
    have L1 := E1 ▸ K1
    have E2 : (cs.drop 2).take 7 = ((cs.drop 1).drop 1) := by rw [List.take_of_length_le (by rw [List.length_drop]; omega)] <;> simp [List.drop_drop]
    have L2 := E2 ▸ K2
    exact ⟨⟨a0, a1, a2⟩, pair_at 1 L0 (pair_at 1 L1 (L2)), o0, o1, o2⟩

set_option maxRecDepth 100000 in
/-- An argument of a struct type: its value is an aggregate whose cells read as a value of its kind. -/
theorem open_arg {H α : Type} {enc : TypeId × Value → H} {W : World} {t : TypeId} {k : Kd α} {ok : α → Prop} {b0 : Nat} {fs : Array Field} {v : Value} {d : DataW H} {p : List MemPlace} (hs : Try.prog.underlying t = some (.struct fs))
    (ho : Opens enc W t k ok) (hv : Value.okWide Try.prog W .any b0 t v) (h : DataW.Trod enc Try.prog W 0 (fun _ => true) true t v d p) (hw : ∀ n ∈ d.weights Try.prog t, n ≤ reachBytes) :
    ∃ (a : α) (cs : List Value), v = Value.agg (List.toArray cs) ∧ k.K W a cs ∧ ok a := by
  obtain ⟨arr, rfl, _⟩ := okWide_struct hs hv
  obtain ⟨fuel, hf⟩ := h
  obtain ⟨a, hK, hok⟩ := ho fuel _ _ hf hw
  exact ⟨a, arr.toList, rfl, hK, hok⟩
theorem reach_of {H : Type} {ts : List TypeId} {ds : List (DataW H)} (h : (DataW.weightsEach Try.prog ts ds).all (· ≤ reachBytes) = true) {j : Nat} {t : TypeId} {d : DataW H} (ht : ts[j]? = some t) (hd : ds[j]? = some d) : ∀ n ∈ d.weights Try.prog t, n ≤ reachBytes :=
  fun n hn => of_decide_eq_true (List.all_eq_true.1 h n (DataW.weights_mem_each ht hd n hn))
end Go.Proofs.Ytgppfpfdoooijaa

