/- An argument of one of the seat's types, opened: it reads as a value of its kind; its whole numbers are of their kinds, its slices no greater than the form's own reach. -/
import Derived.Test.YtcgcognejjpcmaaKinds
import Derived.ProofKit
import Derived.SizedLaws
import Derived.Deep.Slices
import Derived.OpenShut
namespace Go.Proofs.Ytcgcognejjpcmaa
open Go.RowKit Go.Proofs.YtcgcognejjpcmaaW.PrintWords Go.ChangeShapes Go.WideShapes Go.Deep
set_option linter.unusedVariables false
set_option linter.unusedSimpArgs false

def Opens {H α : Type} (enc : TypeId × Value → H) (W : World) (t : TypeId) (d : Kd α) (ok : α → Prop) : Prop :=
  ∀ (fuel : Nat) (cs : List Value) (x : DataW H × List MemPlace), DataW.trod enc Try.prog W 0 (fun _ => true) true fuel t cs = some x → (∀ n ∈ x.1.weights Try.prog t, n ≤ reachBytes) → ∃ a, d.K W a cs ∧ ok a

section
variable {H α β : Type} {enc : TypeId × Value → H} {W : World}
theorem opens_int {t : TypeId} {k : IntKind} (ht : Try.prog.underlying t = some (.int k)) : Opens enc W t (Kd.int k) (fun n => (Lit.int k n).wf = true) := by
  intro fuel cs x h _
  obtain ⟨n, rfl, _, hw⟩ := DataW.trod_int ht h
  exact ⟨n, rfl, hw⟩
theorem opens_bool {t : TypeId} (ht : Try.prog.underlying t = some .bool) : Opens enc W t Kd.bool (fun _ => True) := by
  intro fuel cs x h _
  obtain ⟨b, rfl, _⟩ := DataW.trod_bool ht h
  exact ⟨b, rfl, trivial⟩
theorem opens_string {t : TypeId} (ht : Try.prog.underlying t = some .string) : Opens enc W t Kd.string (fun s => s.size ≤ maxLen) := by
  intro fuel cs x h _
  obtain ⟨s, rfl, _, hs⟩ := DataW.trod_string ht h
  exact ⟨s, rfl, hs⟩
theorem weightsAll_mem {e : TypeId} {n : Nat} : ∀ {l : List (DataW H)} {d : DataW H}, d ∈ l → n ∈ d.weights Try.prog e → n ∈ DataW.weightsAll Try.prog e l
  | d0 :: l, d, hd, hn => by
    simp only [DataW.weightsAll, List.mem_append]
    rcases List.mem_cons.1 hd with rfl | hd
    · exact .inl hn
    · exact .inr (weightsAll_mem hd hn)
theorem opens_slice {t e : TypeId} {d : Kd α} {ok : α → Prop} {b : Nat} (ht : Try.prog.underlying t = some (.slice e)) (he : Opens enc W e d ok) (hs : Try.prog.cellsOf e = d.sz) (hb : Try.prog.bytesOf e = b) :
    Opens enc W t (Kd.slice e d) (fun xs => xs.length * b ≤ reachBytes ∧ ∀ x ∈ xs, ok x) := by
  intro fuel cs x h hw
  rcases open_slice ht h with ⟨rfl, _⟩ | ⟨a, len, cap, m, n, D, Pl, rfl, _, hl, hc, hm, hx, hi⟩
  · exact ⟨[], ⟨none, 0, rfl, Nat.le_refl _, Kd.C_nil d W⟩, by simp, by simp⟩
  · have hmc : m = cap := by simpa using hm
    subst hmc
    have hwx : ∀ n ∈ x.1.weights Try.prog t, n ≤ reachBytes := hw
    rw [hx] at hwx
    have hlen : (len + (m - len)) * b ≤ reachBytes := hwx _ (by simp [DataW.weights, ht, hb])
    have hel : ∀ i : Fin len, ∃ (y : α), ok y ∧ ∃ cs', cs'.length = d.sz ∧ d.K W y cs' ∧ ∀ j u, cs'[j]? = some u → W.cell? (a.add (i.1 * d.sz + j)) = some u := by
      intro i
      obtain ⟨cs', hcs, ht'⟩ := hi i.1 (by have := i.2; omega)
      obtain ⟨y, hK, hok⟩ := he n cs' _ ht' (fun q hq => hwx q (by
        simp only [DataW.weights, ht, List.mem_cons, List.mem_append]
        exact .inr (.inl (weightsAll_mem (List.mem_map.2 ⟨i.1, List.mem_range.2 i.2, rfl⟩) hq))))
      obtain ⟨_, hl', hat⟩ := World.cells?_some hcs
      refine ⟨y, hok, cs', d.K_len hK, hK, fun j u hu => ?_⟩
      have hj : j < Try.prog.cellsOf e := by have := (List.getElem?_eq_some_iff.1 hu).1; omega
      have := hat j hj
      rw [hs] at this
      rw [← Go.Deep.add_add, this, hu]
    let f : Fin len → α := fun i => (hel i).choose
    have hf1 : ∀ i, ok (f i) := fun i => (hel i).choose_spec.1
    have hf2 : ∀ i : Fin len, ∃ cs', cs'.length = d.sz ∧ d.K W (f i) cs' ∧ ∀ j u, cs'[j]? = some u → W.cell? (a.add (i.1 * d.sz + j)) = some u := fun i => (hel i).choose_spec.2
    clear_value f
    have hfl : (List.ofFn f).length = len := by simp
    refine ⟨List.ofFn f, ⟨some a, m, by rw [hfl], by rw [hfl]; exact hl, ?_⟩, ?_, ?_⟩
    · refine ⟨rfl, by rw [hfl]; simp only [maxLen] at hc; omega, fun _ => ⟨a, rfl, fun j p hj => ?_⟩⟩
      obtain ⟨hjl, hp⟩ := List.getElem?_eq_some_iff.1 hj
      have hp' : f ⟨j, by rw [hfl] at hjl; exact hjl⟩ = p := by simpa using hp
      obtain ⟨cs', h1, h2, h3⟩ := hf2 ⟨j, by rw [hfl] at hjl; exact hjl⟩
      rw [hp'] at h2
      exact ⟨cs', h1, h2, h3⟩
    · rw [hfl]; exact Nat.le_trans (Nat.mul_le_mul_right _ (by omega)) hlen
    · intro y hy
      obtain ⟨i, rfl⟩ := List.mem_ofFn.1 hy
      exact hf1 i
theorem pair_at {a : Kd α} {b : Kd β} {x : α} {y : β} {cs : List Value} (s : Nat) (h0 : a.K W x (cs.take s)) (h1 : b.K W y (cs.drop s)) : (Kd.pair a b).K W (x, y) cs := ⟨_, _, (List.take_append_drop s cs).symm, h0, h1⟩
end

theorem opens_six {H α : Type} {enc : TypeId × Value → H} {W : World} {t e : TypeId} {d : Kd α} {ok : α → Prop} {s : Nat} (ht : Try.prog.underlying t = some (.array 6 e)) (he : Opens enc W e d ok) (hs : Try.prog.cellsOf e = s) (hd : d.sz = s) (hc : Try.prog.cellsOf t = 6 * s)
    (fuel : Nat) (cs : List Value) (x : DataW H × List MemPlace) (h : DataW.trod enc Try.prog W 0 (fun _ => true) true fuel t cs = some x) (hw : ∀ n ∈ x.1.weights Try.prog t, n ≤ reachBytes) :
    ∃ a0 a1 a2 a3 a4 a5, (Kd.pair d (Kd.pair d (Kd.pair d (Kd.pair d (Kd.pair d d))))).K W (a0, a1, a2, a3, a4, a5) cs ∧ ok a0 ∧ ok a1 ∧ ok a2 ∧ ok a3 ∧ ok a4 ∧ ok a5 := by
  obtain ⟨xs, n, _, hx, hl, hlen, hf⟩ := DataW.trod_array ht h
  have hwx : ∀ n ∈ x.1.weights Try.prog t, n ≤ reachBytes := hw
  rw [hx] at hwx
  have hl' : cs.length = 6 * s := hl.trans hc
  have el : ∀ i, i < 6 → ∃ a, d.K W a ((cs.drop (i * s)).take s) ∧ ok a := by
    intro i hi
    have h1 := hf i hi
    rw [hs, List.getElem?_eq_getElem (by omega)] at h1
    obtain ⟨a, hK, ho⟩ := he n _ _ h1 (fun q hq => hwx q (by
      simp only [DataW.weights, ht]
      exact weightsAll_mem (List.mem_map.2 ⟨_, List.getElem_mem (by omega), rfl⟩) hq))
    exact ⟨a, hK, ho⟩
  obtain ⟨a0, K0, o0⟩ := el 0 (by omega)
  obtain ⟨a1, K1, o1⟩ := el 1 (by omega)
  obtain ⟨a2, K2, o2⟩ := el 2 (by omega)
  obtain ⟨a3, K3, o3⟩ := el 3 (by omega)
  obtain ⟨a4, K4, o4⟩ := el 4 (by omega)
  obtain ⟨a5, K5, o5⟩ := el 5 (by omega)
  have E0 : (cs.drop (0 * s)).take s = cs.take s := by simp
  have E1 : (cs.drop (1 * s)).take s = (cs.drop s).take s := by simp
  have E2 : (cs.drop (2 * s)).take s = ((cs.drop s).drop s).take s := by rw [List.drop_drop, show s + s = 2 * s by omega]
  have E3 : (cs.drop (3 * s)).take s = (((cs.drop s).drop s).drop s).take s := by rw [List.drop_drop, List.drop_drop, show s + (s + s) = 3 * s by omega]
  have E4 : (cs.drop (4 * s)).take s = ((((cs.drop s).drop s).drop s).drop s).take s := by rw [List.drop_drop, List.drop_drop, List.drop_drop, show s + (s + (s + s)) = 4 * s by omega]
  have E5 : (cs.drop (5 * s)).take s = ((((cs.drop s).drop s).drop s).drop s).drop s := by rw [List.drop_drop, List.drop_drop, List.drop_drop, List.drop_drop, show s + (s + (s + (s + s))) = 5 * s by omega, List.take_of_length_le (by rw [List.length_drop]; omega)]
  exact ⟨a0, a1, a2, a3, a4, a5, pair_at s (E0 ▸ K0) (pair_at s (E1 ▸ K1) (pair_at s (E2 ▸ K2) (pair_at s (E3 ▸ K3) (pair_at s (E4 ▸ K4) (E5 ▸ K5))))), o0, o1, o2, o3, o4, o5⟩

/-- What is known of a value of type 24 that came in. -/
def Ok24 (x : S24) : Prop := (Lit.int .u64 x.f0).wf = true ∧ (Lit.int .u64 x.f1).wf = true
theorem opens24 {H : Type} {enc : TypeId × Value → H} {W : World} : Opens enc W 24 k24 Ok24 := by
  intro fuel cs x h hw
  obtain ⟨xs, n, _, hx, hl, hlen, hf⟩ := DataW.trod_struct Try.underlying24 h
  have hl' : cs.length = 2 := hl.trans (by kernel_rfl)
  match xs, hlen with
  | [y0, y1], _ =>
    have hwx : ∀ n ∈ x.1.weights Try.prog 24, n ≤ reachBytes := hw
    rw [hx] at hwx
    have e0 : DataW.trod enc Try.prog W 0 (fun _ => true) true n 22 ((cs.drop 0).take (Try.prog.cellsOf 22)) = some y0 := hf 0 _ rfl
    rw [show Try.prog.cellsOf 22 = 1 from by kernel_rfl] at e0
    obtain ⟨a0, K0, o0⟩ := (opens_int Try.underlying22) n _ y0 e0 (fun q hq => hwx q (by
      simp only [DataW.weights, Try.underlying24, List.map_cons, List.map_nil, DataW.weightsEach, List.mem_append]
      exact .inl hq))
    have e1 : DataW.trod enc Try.prog W 0 (fun _ => true) true n 22 ((cs.drop 1).take (Try.prog.cellsOf 22)) = some y1 := hf 1 _ rfl
    rw [show Try.prog.cellsOf 22 = 1 from by kernel_rfl] at e1
    obtain ⟨a1, K1, o1⟩ := (opens_int Try.underlying22) n _ y1 e1 (fun q hq => hwx q (by
      simp only [DataW.weights, Try.underlying24, List.map_cons, List.map_nil, DataW.weightsEach, List.mem_append]
      exact .inr (.inl hq)))
    have E0 : (cs.drop 0).take 1 = (cs.take 1) := by simp [List.drop_drop]
    have L0 := E0 ▸ K0
    have E1 : (cs.drop 1).take 1 = (cs.drop 1) := by rw [List.take_of_length_le (by rw [List.length_drop]; omega)] <;> simp [List.drop_drop]
    have L1 := E1 ▸ K1
    exact ⟨⟨a0, a1⟩, pair_at 1 L0 (L1), o0, o1⟩

/-- What is known of a value of type 26 that came in. -/
def Ok26 (x : S26) : Prop := Ok24 x.f0 ∧ Ok24 x.f1
theorem opens26 {H : Type} {enc : TypeId × Value → H} {W : World} : Opens enc W 26 k26 Ok26 := by
  intro fuel cs x h hw
  obtain ⟨xs, n, _, hx, hl, hlen, hf⟩ := DataW.trod_struct Try.underlying26 h
  have hl' : cs.length = 4 := hl.trans (by kernel_rfl)
  match xs, hlen with
  | [y0, y1], _ =>
    have hwx : ∀ n ∈ x.1.weights Try.prog 26, n ≤ reachBytes := hw
    rw [hx] at hwx
    have e0 : DataW.trod enc Try.prog W 0 (fun _ => true) true n 24 ((cs.drop 0).take (Try.prog.cellsOf 24)) = some y0 := hf 0 _ rfl
    rw [show Try.prog.cellsOf 24 = 2 from by kernel_rfl] at e0
    obtain ⟨a0, K0, o0⟩ := opens24 n _ y0 e0 (fun q hq => hwx q (by
      simp only [DataW.weights, Try.underlying26, List.map_cons, List.map_nil, DataW.weightsEach, List.mem_append]
      exact .inl hq))
    have e1 : DataW.trod enc Try.prog W 0 (fun _ => true) true n 24 ((cs.drop 2).take (Try.prog.cellsOf 24)) = some y1 := hf 1 _ rfl
    rw [show Try.prog.cellsOf 24 = 2 from by kernel_rfl] at e1
    obtain ⟨a1, K1, o1⟩ := opens24 n _ y1 e1 (fun q hq => hwx q (by
      simp only [DataW.weights, Try.underlying26, List.map_cons, List.map_nil, DataW.weightsEach, List.mem_append]
      exact .inr (.inl hq)))
    have E0 : (cs.drop 0).take 2 = (cs.take 2) := by simp [List.drop_drop]
    have L0 := E0 ▸ K0
    have E1 : (cs.drop 2).take 2 = (cs.drop 2) := by rw [List.take_of_length_le (by rw [List.length_drop]; omega)] <;> simp [List.drop_drop]
    have L1 := E1 ▸ K1
    exact ⟨⟨a0, a1⟩, pair_at 2 L0 (L1), o0, o1⟩

/-- What is known of a value of type 29 that came in. -/
def Ok29 (x : S29) : Prop := Ok26 x.f0 ∧ Ok26 x.f1 ∧ Ok26 x.f2 ∧ Ok26 x.f3 ∧ Ok26 x.f4 ∧ Ok26 x.f5
theorem opens29 {H : Type} {enc : TypeId × Value → H} {W : World} : Opens enc W 29 k29 Ok29 := by
  intro fuel cs x h hw
  obtain ⟨xs, n, _, hx, hl, hlen, hf⟩ := DataW.trod_struct Try.underlying29 h
  have hl' : cs.length = 24 := hl.trans (by kernel_rfl)
  match xs, hlen with
  | [y0], _ =>
    have hwx : ∀ n ∈ x.1.weights Try.prog 29, n ≤ reachBytes := hw
    rw [hx] at hwx
    have e0 : DataW.trod enc Try.prog W 0 (fun _ => true) true n 27 ((cs.drop 0).take (Try.prog.cellsOf 27)) = some y0 := hf 0 _ rfl
    rw [show Try.prog.cellsOf 27 = 24 from by kernel_rfl, List.drop_zero, List.take_of_length_le (by omega)] at e0
    obtain ⟨a0, a1, a2, a3, a4, a5, hK, o0, o1, o2, o3, o4, o5⟩ := opens_six Try.underlying27 opens26 (s := 4) (by kernel_rfl) (by kernel_rfl) (by kernel_rfl) n cs y0 e0 (fun q hq => hwx q (by
      simp only [DataW.weights, Try.underlying29, List.map_cons, List.map_nil, DataW.weightsEach, List.mem_append]
      exact .inl hq))
    exact ⟨⟨a0, a1, a2, a3, a4, a5⟩, hK, o0, o1, o2, o3, o4, o5⟩

/-- What is known of a value of type 54 that came in. -/
def Ok54 (x : S54) : Prop := Ok24 x.f0 ∧ Ok24 x.f1 ∧ Ok24 x.f2 ∧ Ok24 x.f3 ∧ Ok24 x.f4 ∧ Ok24 x.f5
theorem opens54 {H : Type} {enc : TypeId × Value → H} {W : World} : Opens enc W 54 k54 Ok54 := by
  intro fuel cs x h hw
  obtain ⟨xs, n, _, hx, hl, hlen, hf⟩ := DataW.trod_struct Try.underlying54 h
  have hl' : cs.length = 12 := hl.trans (by kernel_rfl)
  match xs, hlen with
  | [y0], _ =>
    have hwx : ∀ n ∈ x.1.weights Try.prog 54, n ≤ reachBytes := hw
    rw [hx] at hwx
    have e0 : DataW.trod enc Try.prog W 0 (fun _ => true) true n 52 ((cs.drop 0).take (Try.prog.cellsOf 52)) = some y0 := hf 0 _ rfl
    rw [show Try.prog.cellsOf 52 = 12 from by kernel_rfl, List.drop_zero, List.take_of_length_le (by omega)] at e0
    obtain ⟨a0, a1, a2, a3, a4, a5, hK, o0, o1, o2, o3, o4, o5⟩ := opens_six Try.underlying52 opens24 (s := 2) (by kernel_rfl) (by kernel_rfl) (by kernel_rfl) n cs y0 e0 (fun q hq => hwx q (by
      simp only [DataW.weights, Try.underlying54, List.map_cons, List.map_nil, DataW.weightsEach, List.mem_append]
      exact .inl hq))
    exact ⟨⟨a0, a1, a2, a3, a4, a5⟩, hK, o0, o1, o2, o3, o4, o5⟩

/-- What is known of a value of type 38 that came in. -/
def Ok38 (x : S38) : Prop := Ok29 x.f0 ∧ (Lit.int .i64 x.f1).wf = true
theorem opens38 {H : Type} {enc : TypeId × Value → H} {W : World} : Opens enc W 38 k38 Ok38 := by
  intro fuel cs x h hw
  obtain ⟨xs, n, _, hx, hl, hlen, hf⟩ := DataW.trod_struct Try.underlying38 h
  have hl' : cs.length = 25 := hl.trans (by kernel_rfl)
  match xs, hlen with
  | [y0, y1], _ =>
    have hwx : ∀ n ∈ x.1.weights Try.prog 38, n ≤ reachBytes := hw
    rw [hx] at hwx
    have e0 : DataW.trod enc Try.prog W 0 (fun _ => true) true n 29 ((cs.drop 0).take (Try.prog.cellsOf 29)) = some y0 := hf 0 _ rfl
    rw [show Try.prog.cellsOf 29 = 24 from by kernel_rfl] at e0
    obtain ⟨a0, K0, o0⟩ := opens29 n _ y0 e0 (fun q hq => hwx q (by
      simp only [DataW.weights, Try.underlying38, List.map_cons, List.map_nil, DataW.weightsEach, List.mem_append]
      exact .inl hq))
    have e1 : DataW.trod enc Try.prog W 0 (fun _ => true) true n 3 ((cs.drop 24).take (Try.prog.cellsOf 3)) = some y1 := hf 1 _ rfl
    rw [show Try.prog.cellsOf 3 = 1 from by kernel_rfl] at e1
    obtain ⟨a1, K1, o1⟩ := (opens_int Try.underlying3) n _ y1 e1 (fun q hq => hwx q (by
      simp only [DataW.weights, Try.underlying38, List.map_cons, List.map_nil, DataW.weightsEach, List.mem_append]
      exact .inr (.inl hq)))
    have E0 : (cs.drop 0).take 24 = (cs.take 24) := by simp [List.drop_drop]
    have L0 := E0 ▸ K0
    have E1 : (cs.drop 24).take 1 = (cs.drop 24) := by rw [List.take_of_length_le (by rw [List.length_drop]; omega)] <;> simp [List.drop_drop]
    have L1 := E1 ▸ K1
    exact ⟨⟨a0, a1⟩, pair_at 24 L0 (L1), o0, o1⟩

set_option maxRecDepth 100000 in
/-- An argument of a struct type: its value is an aggregate whose cells read as a value of its kind. -/
theorem open_arg {H α : Type} {enc : TypeId × Value → H} {W : World} {t : TypeId} {k : Kd α} {ok : α → Prop} {b0 : Nat} {fs : Array Field} {v : Value} {d : DataW H} {p : List MemPlace} (hs : Try.prog.underlying t = some (.struct fs))
    (ho : Opens enc W t k ok) (hv : Value.okWide Try.prog W .any b0 t v) (h : DataW.Trod enc Try.prog W 0 (fun _ => true) true t v d p) (hw : ∀ n ∈ d.weights Try.prog t, n ≤ reachBytes) :
    ∃ (a : α) (cs : List Value), v = Value.agg (List.toArray cs) ∧ k.K W a cs ∧ ok a := by
  obtain ⟨arr, rfl, _⟩ := okWide_struct hs hv
  obtain ⟨fuel, hf⟩ := h
  obtain ⟨a, hK, hok⟩ := ho fuel _ _ hf hw
  exact ⟨a, arr.toList, rfl, hK, hok⟩
theorem reach_of {H : Type} {ts : List TypeId} {ds : List (DataW H)} (h : (DataW.weightsEach Try.prog ts ds).all (· ≤ reachBytes) = true) {j : Nat} {t : TypeId} {d : DataW H} (ht : ts[j]? = some t) (hd : ds[j]? = some d) : ∀ n ∈ d.weights Try.prog t, n ≤ reachBytes :=
  fun n hn => of_decide_eq_true (List.all_eq_true.1 h n (DataW.weights_mem_each ht hd n hn))
end Go.Proofs.Ytcgcognejjpcmaa

