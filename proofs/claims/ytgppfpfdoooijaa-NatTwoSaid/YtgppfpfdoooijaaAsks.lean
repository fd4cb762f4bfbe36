/- The small questions of the rules, the program's and the document's: is a protocol ported, is an address an old one, is a zone's number one of a name; the closures that compare a name. -/
import Derived.Test.YtgppfpfdoooijaaZone
namespace Go.Proofs.Ytgppfpfdoooijaa
open Go.RowKit Go.Proofs.YtgppfpfdoooijaaW.PrintWords
set_option linter.unusedVariables false
set_option linter.unusedSimpArgs false
attribute [local go_sem] Later.cell_eq

/-- The name of everything. -/
def anyS : ByteArray := ⟨#[97, 110, 121]⟩
def portedB (p : Int) : Bool := p == 6 || p == 17
theorem ported_any (p : Int) (w : World) : Calls Try.prog 36 #[.int .i64 p] w fun e w' => e = .returned (.bool (portedB p)) ∧ w = w' := by
  cases h : p == 6 with
  | true => 
    have H := Aside0.mk (show portedB p = true by unfold portedB; rw [h]; rfl)
    go_enter Try.func36, Try.ntmps36
    go_wp2
    go_ret
    exact ⟨by rw [H.out]; rfl, rfl⟩
  | false =>
    have H := Aside0.mk (show portedB p = (p == 17) by unfold portedB; rw [h]; rfl)
    go_enter Try.func36, Try.ntmps36
    go_wp2
    go_ret
    exact ⟨by rw [H.out]; rfl, rfl⟩
theorem refported_any (p : Int) (w : World) : Calls Try.prog 79 #[.int .i64 p] w fun e w' => e = .returned (.bool (portedB p)) ∧ w = w' := by
  cases h : p == 6 with
  | true => 
    have H := Aside0.mk (show portedB p = true by unfold portedB; rw [h]; rfl)
    go_enter Try.func79, Try.ntmps79
    go_wp2
    go_ret
    exact ⟨by rw [H.out]; rfl, rfl⟩
  | false =>
    have H := Aside0.mk (show portedB p = (p == 17) by unfold portedB; rw [h]; rfl)
    go_enter Try.func79, Try.ntmps79
    go_wp2
    go_ret
    exact ⟨by rw [H.out]; rfl, rfl⟩

def is4F (a : S39) : Bool := a.f0 == 0 && (decide (281470681743360 ≤ a.f1) && decide (a.f1 ≤ 281474976710655))
theorem is4_any (hi lo : Int) (w : World) : Calls Try.prog 41 #[.agg #[.int .u64 hi, .int .u64 lo]] w fun e w' => e = .returned (.bool (is4F ⟨hi, lo⟩)) ∧ Below w.heap.size w w' := by
  cases h : hi == 0 with
  | false =>
    have H := Aside0.mk (show is4F ⟨hi, lo⟩ = false by unfold is4F; rw [h]; rfl)
    go_enter Try.func41, Try.ntmps41
    go_wp2
    go_ret
    exact ⟨by rw [H.out]; rfl, (Below.refl _ _).alloc (Nat.le_refl _) _⟩
  | true =>
    have H := Aside0.mk (show is4F ⟨hi, lo⟩ = (decide (281470681743360 ≤ lo) && decide (lo ≤ 281474976710655)) by unfold is4F; rw [h]; rfl)
    go_enter Try.func41, Try.ntmps41
    go_wp2
    go_ret
    exact ⟨by
      rw [H.out]
      show Ending.returned (.bool (lo / 4294967296 == 65535)) = _
      congr 2
      rw [Bool.eq_iff_iff]; simp only [beq_iff_eq, Bool.and_eq_true, decide_eq_true_eq]; omega, (Below.refl _ _).alloc (Nat.le_refl _) _⟩
theorem refis4_any (hi lo : Int) (w : World) : Calls Try.prog 57 #[.agg #[.int .u64 hi, .int .u64 lo]] w fun e w' => e = .returned (.bool (is4F ⟨hi, lo⟩)) ∧ Below w.heap.size w w' := by
  cases h : hi == 0 with
  | false =>
    have H := Aside0.mk (show is4F ⟨hi, lo⟩ = false by unfold is4F; rw [h]; rfl)
    go_enter Try.func57, Try.ntmps57
    go_wp2
    go_ret
    exact ⟨by rw [H.out]; rfl, (Below.refl _ _).alloc (Nat.le_refl _) _⟩
  | true =>
    cases h2 : decide (281470681743360 ≤ lo) with
    | false =>
      have H := Aside0.mk (show is4F ⟨hi, lo⟩ = false by unfold is4F; simp only [h2]; simp)
      go_enter Try.func57, Try.ntmps57
      go_wp2
      go_ret
      exact ⟨by rw [H.out]; rfl, (Below.refl _ _).alloc (Nat.le_refl _) _⟩
    | true =>
      have H := Aside0.mk (show is4F ⟨hi, lo⟩ = decide (lo ≤ 281474976710655) by unfold is4F; simp only [h, h2]; simp)
      go_enter Try.func57, Try.ntmps57
      go_wp2
      go_ret
      exact ⟨by rw [H.out]; rfl, (Below.refl _ _).alloc (Nat.le_refl _) _⟩

/-- Is a zone's number one of a name? -/
def calledF (c : S36) (out : Int) (name : ByteArray) : Bool := decide (0 ≤ out) && (decide (out < c.f0.length) && (c.f0.getD out.toNat z54).f0.toList == name.toList)
set_option maxHeartbeats 1000000 in
theorem called_any (c : S36) (cs : List Value) (out : Int) (name : ByteArray) (w : World) (hc : k36.K w c cs) :
    Calls Try.prog 39 #[.agg cs.toArray, .int .i64 out, .string name] w fun e w' => e = .returned (.bool (calledF c out name)) ∧ Below w.heap.size w w' := by
  obtain ⟨A0, c0, A1, c1, A2, c2, A3, c3, A4, c4, A5, c5, A6, c6, rfl, l0, g0, _⟩ := k36_open hc
  have hmax : c.f0.length ≤ 9223372036854775807 := Kd.C_max g0
  have HG := Aside0.mk g0
  clear hc g0
  by_cases h1 : 0 ≤ out
  · by_cases h2 : out < c.f0.length
    · have H := Aside0.mk (show calledF c out name = ((c.f0.getD out.toNat z54).f0.toList == name.toList) by unfold calledF; simp [h1, h2])
      have hd1 : decide (0 ≤ out) = true := by simpa using h1
      have hd2 : decide (out < c.f0.length) = true := by simpa using h2
      obtain ⟨ad, B3, d3, rfl, q0, _⟩ := at_T54 (Kd.C_alloc HG.out (.cells #[.slice A0 c.f0.length c0, .slice A1 c.f1.length c1, .slice A2 c.f2.length c2, .slice A3 c.f3.length c3, .slice A4 c.f4.length c4, .slice A5 c.f5.length c5, .slice A6 c.f6.length c6, .int .i64 c.f7] 36)) out h1 h2
      unfold rd_T54 at q0
      generalize (c.f0.getD out.toNat z54).f0 = nm at *
      go_enter Try.func39, Try.ntmps39
      go_wp2
      go_ret
      exact ⟨by rw [H.out]; rfl, (Below.refl _ _).alloc (Nat.le_refl _) _⟩
    · have H := Aside0.mk (show calledF c out name = false by unfold calledF; simp [h2])
      have hd1 : decide (0 ≤ out) = true := by simpa using h1
      have hd2 : decide (out < c.f0.length) = false := by simpa using h2
      clear h2
      go_enter Try.func39, Try.ntmps39
      go_wp2
      go_ret
      exact ⟨by rw [H.out]; rfl, (Below.refl _ _).alloc (Nat.le_refl _) _⟩
  · have H := Aside0.mk (show calledF c out name = false by unfold calledF; simp [h1])
    have hd1 : decide (0 ≤ out) = false := by simpa using h1
    clear h1
    go_enter Try.func39, Try.ntmps39
    go_wp2
    go_ret
    exact ⟨by rw [H.out]; rfl, (Below.refl _ _).alloc (Nat.le_refl _) _⟩
set_option maxHeartbeats 1000000 in
theorem named_any (c : S36) (cs : List Value) (out : Int) (name : ByteArray) (w : World) (hc : k36.K w c cs) :
    Calls Try.prog 74 #[.agg cs.toArray, .int .i64 out, .string name] w fun e w' => e = .returned (.bool (calledF c out name)) ∧ Below w.heap.size w w' := by
  obtain ⟨A0, c0, A1, c1, A2, c2, A3, c3, A4, c4, A5, c5, A6, c6, rfl, l0, g0, _⟩ := k36_open hc
  have hmax : c.f0.length ≤ 9223372036854775807 := Kd.C_max g0
  have HG := Aside0.mk g0
  clear hc g0
  by_cases h1 : 0 ≤ out
  · by_cases h2 : out < c.f0.length
    · have H := Aside0.mk (show calledF c out name = ((c.f0.getD out.toNat z54).f0.toList == name.toList) by unfold calledF; simp [h1, h2])
      have hd1 : decide (0 ≤ out) = true := by simpa using h1
      have hd2 : decide (out < c.f0.length) = true := by simpa using h2
      obtain ⟨ad, B3, d3, rfl, q0, _⟩ := at_T54 (Kd.C_alloc HG.out (.cells #[.slice A0 c.f0.length c0, .slice A1 c.f1.length c1, .slice A2 c.f2.length c2, .slice A3 c.f3.length c3, .slice A4 c.f4.length c4, .slice A5 c.f5.length c5, .slice A6 c.f6.length c6, .int .i64 c.f7] 36)) out h1 h2
      unfold rd_T54 at q0
      generalize (c.f0.getD out.toNat z54).f0 = nm at *
      go_enter Try.func74, Try.ntmps74
      go_wp2
      go_ret
      exact ⟨by rw [H.out]; rfl, (Below.refl _ _).alloc (Nat.le_refl _) _⟩
    · have H := Aside0.mk (show calledF c out name = false by unfold calledF; simp [h2])
      have hd1 : decide (0 ≤ out) = true := by simpa using h1
      have hd2 : decide (out < c.f0.length) = false := by simpa using h2
      clear h2
      go_enter Try.func74, Try.ntmps74
      go_wp2
      go_ret
      exact ⟨by rw [H.out]; rfl, (Below.refl _ _).alloc (Nat.le_refl _) _⟩
  · have H := Aside0.mk (show calledF c out name = false by unfold calledF; simp [h1])
    have hd1 : decide (0 ≤ out) = false := by simpa using h1
    clear h1
    go_enter Try.func74, Try.ntmps74
    go_wp2
    go_ret
    exact ⟨by rw [H.out]; rfl, (Below.refl _ _).alloc (Nat.le_refl _) _⟩

theorem enters66 : EntersAt 66 := enters_at Try.func66 (by kernel_rfl) rfl
theorem enters64 : EntersAt 64 := enters_at Try.func64 (by kernel_rfl) rfl
theorem enters68 : EntersAt 68 := enters_at Try.func68 (by kernel_rfl) rfl
theorem within1_any (o : S85) (cs : List Value) (name : ByteArray) (B : Nat) (w : World) (hz : k85.K w o cs) (hB : w.cell? ⟨B, 0, none⟩ = some (.string name)) :
    Calls Try.prog 66 #[.agg cs.toArray, .pointer (some ⟨B, 0, none⟩)] w fun e w' => e = .returned (.bool (o.f0.toList == name.toList)) ∧ Below w.heap.size w w' := by
  obtain ⟨A3, c3, rfl, l3, g3⟩ := k85_open hz
  have hlt : B < w.heap.size := World.block_lt_of_cell? w _ hB
  clear hz g3
  go_enter Try.func66, Try.ntmps66
  go_wp2
  go_ret
  exact ⟨rfl, (Below.refl _ _).alloc (Nat.le_refl _) _⟩
theorem serves1_any (o : S116) (cs : List Value) (name : ByteArray) (B : Nat) (w : World) (hz : k116.K w o cs) (hB : w.cell? ⟨B, 0, none⟩ = some (.string name)) :
    Calls Try.prog 64 #[.agg cs.toArray, .pointer (some ⟨B, 0, none⟩)] w fun e w' => e = .returned (.bool (o.f0.toList == name.toList)) ∧ Below w.heap.size w w' := by
  obtain rfl := k116_open hz
  have hlt : B < w.heap.size := World.block_lt_of_cell? w _ hB
  clear hz
  go_enter Try.func64, Try.ntmps64
  go_wp2
  go_ret
  exact ⟨rfl, (Below.refl _ _).alloc (Nat.le_refl _) _⟩
theorem within2_any (r : S44) (cs : List Value) (a : S39) (B : Nat) (w : World) (hz : k44.K w r cs) (hB : w.cell? ⟨B, 0, none⟩ = some (.int .u64 a.f0)) (hB1 : w.cell? ⟨B, 1, none⟩ = some (.int .u64 a.f1)) :
    Calls Try.prog 68 #[.agg cs.toArray, .pointer (some ⟨B, 0, none⟩)] w fun e w' => e = .returned (.bool (hasR r a)) ∧ Below w.heap.size w w' := by
  obtain rfl := k44_open hz
  have hlt : B < w.heap.size := World.block_lt_of_cell? w _ hB
  clear hz
  have HA := Aside0.mk (fun W => has_any r.f0.f0 r.f0.f1 r.f1.f0 r.f1.f1 a.f0 a.f1 W)
  go_enter Try.func68, Try.ntmps68
  go_wp2_with (go_at_call 30; refine (HA.out _).mono ?_; rintro e w' ⟨rfl, hb⟩)
  go_ret
  exact ⟨rfl, later_alloc (Below.refl _ _) hb⟩

set_option maxHeartbeats 1000000 in
/-- Has one of a row's ranges an address? -/
theorem containsR_any (l : List S44) (A : Option Addr) (c : Nat) (g : Nat) (q : Value) (p : S44 → Bool) (w : World) (eg : EntersAt g) (hC : k44.C w A l.length l)
    (hp : ∀ (x : S44) (cs : List Value) (W : World), Below w.heap.size w W → k44.K W x cs → Calls Try.prog g #[.agg cs.toArray, q] W fun e W' => e = .returned (.bool (p x)) ∧ Below W.heap.size W W') :
    Calls Try.prog 67 #[.slice A l.length c, .func (.func g) #[] #[q]] w fun e w' => e = .returned (.bool (l.any p)) ∧ Below w.heap.size w w' := by
  have HI := Aside0.mk (fun (n : Int) (hn : n = idxF p l) => by have h := idx44 l A c g q p w eg hC hp; rw [← hn] at h; exact h)
  have HA := Aside0.mk (idxF_any p l)
  generalize idxF p l = n at *
  have HJ := Aside0.mk (HI.out n rfl)
  clear HI hC hp eg
  go_enter Try.func67, Try.ntmps67
  go_wp2_with (go_at_call 83; refine (HJ.out).mono ?_; rintro e w' ⟨rfl, hb⟩)
  go_ret
  exact ⟨by rw [← HA.out]; rfl, hb⟩
end Go.Proofs.Ytgppfpfdoooijaa
