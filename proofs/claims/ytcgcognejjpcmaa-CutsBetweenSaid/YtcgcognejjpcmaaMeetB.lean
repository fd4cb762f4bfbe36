/- What two ranges have in common: the program's Meet. -/
import Derived.Test.YtcgcognejjpcmaaMeet
import Derived.Test.YtcgcognejjpcmaaInv
namespace Go.Proofs.Ytcgcognejjpcmaa
open Go.RowKit Go.Proofs.YtcgcognejjpcmaaW.PrintWords
set_option linter.unusedVariables false
set_option linter.unusedSimpArgs false
attribute [local go_sem] Later.cell_eq

def meetFrame (a b : S26) (n : Nat) (listed : Array Bool) (g : Nat) : Array Value := #[.agg #[.int .u64 a.f0.f0, .int .u64 a.f0.f1, .int .u64 a.f1.f0, .int .u64 a.f1.f1],
  .agg #[.int .u64 b.f0.f0, .int .u64 b.f0.f1, .int .u64 b.f1.f0, .int .u64 b.f1.f1],
  .pointer (some ⟨n, 0, none⟩),
  .pointer (some ⟨n + 1, 0, none⟩),
  .pointer (some ⟨n + 1 + 1, 0, none⟩),
  .bool false,
  (if listed.getD 11 true = true then (.pointer (some ⟨g, 0, none⟩) : Value) else undef),
  (if listed.getD 0 true = true then (.pointer (some ⟨n, 0, none⟩) : Value) else undef),
  (if listed.getD 1 true = true then (.agg #[.int .u64 (a.f0).f0, .int .u64 (a.f0).f1] : Value) else undef),
  (if listed.getD 2 true = true then (.pointer (some ⟨n + 1, 0, none⟩) : Value) else undef),
  (if listed.getD 3 true = true then (.agg #[.int .u64 (b.f0).f0, .int .u64 (b.f0).f1] : Value) else undef),
  (if listed.getD 4 true = true then (.agg #[.int .u64 (maxA a.f0 b.f0).f0, .int .u64 (maxA a.f0 b.f0).f1] : Value) else undef),
  (if listed.getD 5 true = true then (.pointer (some ⟨n, 2, none⟩) : Value) else undef),
  (if listed.getD 6 true = true then (.agg #[.int .u64 (a.f1).f0, .int .u64 (a.f1).f1] : Value) else undef),
  (if listed.getD 7 true = true then (.pointer (some ⟨n + 1, 2, none⟩) : Value) else undef),
  (if listed.getD 8 true = true then (.agg #[.int .u64 (b.f1).f0, .int .u64 (b.f1).f1] : Value) else undef),
  (if listed.getD 9 true = true then (.agg #[.int .u64 (minA a.f1 b.f1).f0, .int .u64 (minA a.f1 b.f1).f1] : Value) else undef),
  (if listed.getD 10 true = true then (.agg #[.int .u64 (maxA a.f0 b.f0).f0, .int .u64 (maxA a.f0 b.f0).f1, .int .u64 (minA a.f1 b.f1).f0, .int .u64 (minA a.f1 b.f1).f1] : Value) else undef),
  undef,
  undef,
  undef,
  undef]
structure MeetJ (a b : S26) (n : Nat) (W0 : World) (listed : Array Bool) (x : Act) (w' : World) (g : Nat) : Prop where
  size : listed.size = 13
  act : x = ⟨meetFrame a b n listed g, []⟩
  bel : Below W0.heap.size W0 w'
  made : listed.getD 11 true = true → W0.heap.size ≤ g ∧ w'.heap[g]? = some (.cells (if listed.getD 12 true = true then #[.int .u64 (maxA a.f0 b.f0).f0, .int .u64 (maxA a.f0 b.f0).f1, .int .u64 (minA a.f1 b.f1).f0, .int .u64 (minA a.f1 b.f1).f1] else #[.int .u64 0, .int .u64 0, .int .u64 0, .int .u64 0]) 26 (0, 0))
  late : listed.getD 12 true = true → listed.getD 11 true = true
theorem set_same {listed : Array Bool} {i : Nat} (h : i < listed.size) : (listed.setIfInBounds i true).getD i true = true := by simp [Array.getD, h]

def meetO (a b : S26) : S26 × Bool := if noneR (meetR a b) = true then (zr, false) else (meetR a b, true)
set_option maxRecDepth 20000 in
set_option maxHeartbeats 8000000 in
theorem meet_any (a b : S26) (w : World) : Calls Try.prog 36 #[.agg #[.int .u64 a.f0.f0, .int .u64 a.f0.f1, .int .u64 a.f1.f0, .int .u64 a.f1.f1], .agg #[.int .u64 b.f0.f0, .int .u64 b.f0.f1, .int .u64 b.f1.f0, .int .u64 b.f1.f1]] w fun e w' =>
    e = .returned (.tuple #[.agg #[.int .u64 (meetO a b).1.f0.f0, .int .u64 (meetO a b).1.f0.f1, .int .u64 (meetO a b).1.f1.f0, .int .u64 (meetO a b).1.f1.f1], .bool (meetO a b).2]) ∧ Below w.heap.size w w' := by
  go_enter Try.func36, Try.ntmps36
  go_wp2
  obtain ⟨W0, hW0⟩ : ∃ W0, W0 = ((w.alloc (.cells #[.int .u64 a.f0.f0, .int .u64 a.f0.f1, .int .u64 a.f1.f0, .int .u64 a.f1.f1] 26)).alloc (.cells #[.int .u64 b.f0.f0, .int .u64 b.f0.f1, .int .u64 b.f1.f0, .int .u64 b.f1.f1] 26)).alloc (.cells #[.int .u64 0, .int .u64 0, .int .u64 0, .int .u64 0] 26) := ⟨_, rfl⟩
  rw [← hW0]
  have HB0 := Aside0.mk (show Below w.heap.size w W0 by rw [hW0]; go_grown)
  have hsz : W0.heap.size = w.heap.size + 1 + 1 + 1 := by rw [hW0]; simp
  have hbr : W0.heap[w.heap.size + 1 + 1]? = some (.cells #[.int .u64 0, .int .u64 0, .int .u64 0, .int .u64 0] 26 (0, 0)) := by rw [hW0]; exact heap_alloc_at _ _ _ (by simp)
  have a0 : W0.cell? ⟨w.heap.size, 0, none⟩ = some (.int .u64 a.f0.f0) := by rw [hW0]; simp [go_sem]
  have a1 : W0.cell? ⟨w.heap.size, 1, none⟩ = some (.int .u64 a.f0.f1) := by rw [hW0]; simp [go_sem]
  have a2 : W0.cell? ⟨w.heap.size, 2, none⟩ = some (.int .u64 a.f1.f0) := by rw [hW0]; simp [go_sem]
  have a3 : W0.cell? ⟨w.heap.size, 3, none⟩ = some (.int .u64 a.f1.f1) := by rw [hW0]; simp [go_sem]
  have a4 : W0.cell? ⟨w.heap.size + 1, 0, none⟩ = some (.int .u64 b.f0.f0) := by rw [hW0]; simp [go_sem]
  have a5 : W0.cell? ⟨w.heap.size + 1, 1, none⟩ = some (.int .u64 b.f0.f1) := by rw [hW0]; simp [go_sem]
  have a6 : W0.cell? ⟨w.heap.size + 1, 2, none⟩ = some (.int .u64 b.f1.f0) := by rw [hW0]; simp [go_sem]
  have a7 : W0.cell? ⟨w.heap.size + 1, 3, none⟩ = some (.int .u64 b.f1.f1) := by rw [hW0]; simp [go_sem]
  obtain ⟨n, hn⟩ : ∃ n, n = w.heap.size := ⟨_, rfl⟩
  have HN := Aside0.mk hn
  rw [← hn] at hsz hbr a0 a1 a2 a3 a4 a5 a6 a7 ⊢
  have HS := Aside0.mk hsz
  have HBR := Aside0.mk hbr
  clear hW0 hn hsz hbr
  refine wp_region_inv (fun listed x w' => ∃ g, MeetJ a b n W0 listed x w' g) (by kernel_rfl) (by kernel_rfl) ?_ ?_ ?_ ?_
  · exact ⟨0, ⟨by simp, by simp [meetFrame], below_drew (Below.refl _ _), by simp, by simp⟩⟩
  · rintro listed x w' ⟨g, h⟩; exact h.size
  · rintro listed x w' i o ⟨g, hJ⟩ ho hl hd
    have hi : i < 13 := (Array.getElem?_eq_some_iff.1 ho).1
    obtain ⟨hs, rfl, hB, hM, hLate⟩ := hJ
    have c0 := pw_cell_below hB a0
    have c1 := pw_cell_below hB a1
    have c2 := pw_cell_below hB a2
    have c3 := pw_cell_below hB a3
    have c4 := pw_cell_below hB a4
    have c5 := pw_cell_below hB a5
    have c6 := pw_cell_below hB a6
    have c7 := pw_cell_below hB a7
    have hlt : n + 1 < w'.heap.size := World.block_lt_of_cell? w' _ c4
    have hlt0 : n < w'.heap.size := by omega
    have HBd := Aside0.mk hB
    have HMd := Aside0.mk hM
    have HLd := Aside0.mk hLate
    clear hB hM hLate a0 a1 a2 a3 a4 a5 a6 a7
    rcases (show i = 0 ∨ i = 1 ∨ i = 2 ∨ i = 3 ∨ i = 4 ∨ i = 5 ∨ i = 6 ∨ i = 7 ∨ i = 8 ∨ i = 9 ∨ i = 10 ∨ i = 11 ∨ i = 12 by omega) with rfl | rfl | rfl | rfl | rfl | rfl | rfl | rfl | rfl | rfl | rfl | rfl | rfl
    · obtain rfl := Option.some.inj ho
      clear ho hd
      unfold meetFrame
      simp only [hl, if_true, Bool.false_eq_true, if_false]
      obtain ⟨x6, h6⟩ : ∃ x, x = (if listed.getD 11 true = true then (.pointer (some ⟨g, 0, none⟩) : Value) else undef) := ⟨_, rfl⟩
      rw [← h6]
      have H6 := Aside0.mk h6
      clear h6
      obtain ⟨x8, h8⟩ : ∃ x, x = (if listed.getD 1 true = true then (.agg #[.int .u64 (a.f0).f0, .int .u64 (a.f0).f1] : Value) else undef) := ⟨_, rfl⟩
      rw [← h8]
      have H8 := Aside0.mk h8
      clear h8
      obtain ⟨x9, h9⟩ : ∃ x, x = (if listed.getD 2 true = true then (.pointer (some ⟨n + 1, 0, none⟩) : Value) else undef) := ⟨_, rfl⟩
      rw [← h9]
      have H9 := Aside0.mk h9
      clear h9
      obtain ⟨x10, h10⟩ : ∃ x, x = (if listed.getD 3 true = true then (.agg #[.int .u64 (b.f0).f0, .int .u64 (b.f0).f1] : Value) else undef) := ⟨_, rfl⟩
      rw [← h10]
      have H10 := Aside0.mk h10
      clear h10
      obtain ⟨x11, h11⟩ : ∃ x, x = (if listed.getD 4 true = true then (.agg #[.int .u64 (maxA a.f0 b.f0).f0, .int .u64 (maxA a.f0 b.f0).f1] : Value) else undef) := ⟨_, rfl⟩
      rw [← h11]
      have H11 := Aside0.mk h11
      clear h11
      obtain ⟨x12, h12⟩ : ∃ x, x = (if listed.getD 5 true = true then (.pointer (some ⟨n, 2, none⟩) : Value) else undef) := ⟨_, rfl⟩
      rw [← h12]
      have H12 := Aside0.mk h12
      clear h12
      obtain ⟨x13, h13⟩ : ∃ x, x = (if listed.getD 6 true = true then (.agg #[.int .u64 (a.f1).f0, .int .u64 (a.f1).f1] : Value) else undef) := ⟨_, rfl⟩
      rw [← h13]
      have H13 := Aside0.mk h13
      clear h13
      obtain ⟨x14, h14⟩ : ∃ x, x = (if listed.getD 7 true = true then (.pointer (some ⟨n + 1, 2, none⟩) : Value) else undef) := ⟨_, rfl⟩
      rw [← h14]
      have H14 := Aside0.mk h14
      clear h14
      obtain ⟨x15, h15⟩ : ∃ x, x = (if listed.getD 8 true = true then (.agg #[.int .u64 (b.f1).f0, .int .u64 (b.f1).f1] : Value) else undef) := ⟨_, rfl⟩
      rw [← h15]
      have H15 := Aside0.mk h15
      clear h15
      obtain ⟨x16, h16⟩ : ∃ x, x = (if listed.getD 9 true = true then (.agg #[.int .u64 (minA a.f1 b.f1).f0, .int .u64 (minA a.f1 b.f1).f1] : Value) else undef) := ⟨_, rfl⟩
      rw [← h16]
      have H16 := Aside0.mk h16
      clear h16
      obtain ⟨x17, h17⟩ : ∃ x, x = (if listed.getD 10 true = true then (.agg #[.int .u64 (maxA a.f0 b.f0).f0, .int .u64 (maxA a.f0 b.f0).f1, .int .u64 (minA a.f1 b.f1).f0, .int .u64 (minA a.f1 b.f1).f1] : Value) else undef) := ⟨_, rfl⟩
      rw [← h17]
      have H17 := Aside0.mk h17
      clear h17
      go_wp2_with (first | (go_at_call 61; refine (greater_any a.f0 b.f0 _).mono ?_; rintro e w2 ⟨rfl, hb2⟩) | (go_at_call 62; refine (lesser_any a.f1 b.f1 _).mono ?_; rintro e w2 ⟨rfl, hb2⟩))
      show ∃ g, MeetJ a b n W0 _ _ _ g
      refine ⟨g, ⟨by simp [hs], ?_, HBd.out, ?_, ?_⟩⟩
      · unfold meetFrame
        have e1 : (listed.setIfInBounds 0 true).getD 1 true = listed.getD 1 true := getD_set_ne true (by decide)
        have e2 : (listed.setIfInBounds 0 true).getD 2 true = listed.getD 2 true := getD_set_ne true (by decide)
        have e3 : (listed.setIfInBounds 0 true).getD 3 true = listed.getD 3 true := getD_set_ne true (by decide)
        have e4 : (listed.setIfInBounds 0 true).getD 4 true = listed.getD 4 true := getD_set_ne true (by decide)
        have e5 : (listed.setIfInBounds 0 true).getD 5 true = listed.getD 5 true := getD_set_ne true (by decide)
        have e6 : (listed.setIfInBounds 0 true).getD 6 true = listed.getD 6 true := getD_set_ne true (by decide)
        have e7 : (listed.setIfInBounds 0 true).getD 7 true = listed.getD 7 true := getD_set_ne true (by decide)
        have e8 : (listed.setIfInBounds 0 true).getD 8 true = listed.getD 8 true := getD_set_ne true (by decide)
        have e9 : (listed.setIfInBounds 0 true).getD 9 true = listed.getD 9 true := getD_set_ne true (by decide)
        have e10 : (listed.setIfInBounds 0 true).getD 10 true = listed.getD 10 true := getD_set_ne true (by decide)
        have e11 : (listed.setIfInBounds 0 true).getD 11 true = listed.getD 11 true := getD_set_ne true (by decide)
        have e12 : (listed.setIfInBounds 0 true).getD 12 true = listed.getD 12 true := getD_set_ne true (by decide)
        have ek : (listed.setIfInBounds 0 true).getD 0 true = true := set_same (by omega)
        rw [H6.out, H8.out, H9.out, H10.out, H11.out, H12.out, H13.out, H14.out, H15.out, H16.out, H17.out]
        simp only [e1, e2, e3, e4, e5, e6, e7, e8, e9, e10, e11, e12, ek, if_true]
      · intro h
        rw [getD_set_ne true (by decide)] at h
        rw [getD_set_ne true (by decide)]
        exact ⟨(HMd.out h).1, (HMd.out h).2⟩
      · intro h
        rw [getD_set_ne true (by decide)] at h ⊢
        exact HLd.out h
    · obtain rfl := Option.some.inj ho
      have d0 : listed.getD 0 true = true := hd ⟨0, .data⟩ (by simp) rfl
      clear ho hd
      unfold meetFrame
      simp only [hl, d0, if_true, Bool.false_eq_true, if_false]
      obtain ⟨x6, h6⟩ : ∃ x, x = (if listed.getD 11 true = true then (.pointer (some ⟨g, 0, none⟩) : Value) else undef) := ⟨_, rfl⟩
      rw [← h6]
      have H6 := Aside0.mk h6
      clear h6
      obtain ⟨x9, h9⟩ : ∃ x, x = (if listed.getD 2 true = true then (.pointer (some ⟨n + 1, 0, none⟩) : Value) else undef) := ⟨_, rfl⟩
      rw [← h9]
      have H9 := Aside0.mk h9
      clear h9
      obtain ⟨x10, h10⟩ : ∃ x, x = (if listed.getD 3 true = true then (.agg #[.int .u64 (b.f0).f0, .int .u64 (b.f0).f1] : Value) else undef) := ⟨_, rfl⟩
      rw [← h10]
      have H10 := Aside0.mk h10
      clear h10
      obtain ⟨x11, h11⟩ : ∃ x, x = (if listed.getD 4 true = true then (.agg #[.int .u64 (maxA a.f0 b.f0).f0, .int .u64 (maxA a.f0 b.f0).f1] : Value) else undef) := ⟨_, rfl⟩
      rw [← h11]
      have H11 := Aside0.mk h11
      clear h11
      obtain ⟨x12, h12⟩ : ∃ x, x = (if listed.getD 5 true = true then (.pointer (some ⟨n, 2, none⟩) : Value) else undef) := ⟨_, rfl⟩
      rw [← h12]
      have H12 := Aside0.mk h12
      clear h12
      obtain ⟨x13, h13⟩ : ∃ x, x = (if listed.getD 6 true = true then (.agg #[.int .u64 (a.f1).f0, .int .u64 (a.f1).f1] : Value) else undef) := ⟨_, rfl⟩
      rw [← h13]
      have H13 := Aside0.mk h13
      clear h13
      obtain ⟨x14, h14⟩ : ∃ x, x = (if listed.getD 7 true = true then (.pointer (some ⟨n + 1, 2, none⟩) : Value) else undef) := ⟨_, rfl⟩
      rw [← h14]
      have H14 := Aside0.mk h14
      clear h14
      obtain ⟨x15, h15⟩ : ∃ x, x = (if listed.getD 8 true = true then (.agg #[.int .u64 (b.f1).f0, .int .u64 (b.f1).f1] : Value) else undef) := ⟨_, rfl⟩
      rw [← h15]
      have H15 := Aside0.mk h15
      clear h15
      obtain ⟨x16, h16⟩ : ∃ x, x = (if listed.getD 9 true = true then (.agg #[.int .u64 (minA a.f1 b.f1).f0, .int .u64 (minA a.f1 b.f1).f1] : Value) else undef) := ⟨_, rfl⟩
      rw [← h16]
      have H16 := Aside0.mk h16
      clear h16
      obtain ⟨x17, h17⟩ : ∃ x, x = (if listed.getD 10 true = true then (.agg #[.int .u64 (maxA a.f0 b.f0).f0, .int .u64 (maxA a.f0 b.f0).f1, .int .u64 (minA a.f1 b.f1).f0, .int .u64 (minA a.f1 b.f1).f1] : Value) else undef) := ⟨_, rfl⟩
      rw [← h17]
      have H17 := Aside0.mk h17
      clear h17
      go_wp2_with (first | (go_at_call 61; refine (greater_any a.f0 b.f0 _).mono ?_; rintro e w2 ⟨rfl, hb2⟩) | (go_at_call 62; refine (lesser_any a.f1 b.f1 _).mono ?_; rintro e w2 ⟨rfl, hb2⟩))
      show ∃ g, MeetJ a b n W0 _ _ _ g
      refine ⟨g, ⟨by simp [hs], ?_, HBd.out, ?_, ?_⟩⟩
      · unfold meetFrame
        have e0 : (listed.setIfInBounds 1 true).getD 0 true = listed.getD 0 true := getD_set_ne true (by decide)
        have e2 : (listed.setIfInBounds 1 true).getD 2 true = listed.getD 2 true := getD_set_ne true (by decide)
        have e3 : (listed.setIfInBounds 1 true).getD 3 true = listed.getD 3 true := getD_set_ne true (by decide)
        have e4 : (listed.setIfInBounds 1 true).getD 4 true = listed.getD 4 true := getD_set_ne true (by decide)
        have e5 : (listed.setIfInBounds 1 true).getD 5 true = listed.getD 5 true := getD_set_ne true (by decide)
        have e6 : (listed.setIfInBounds 1 true).getD 6 true = listed.getD 6 true := getD_set_ne true (by decide)
        have e7 : (listed.setIfInBounds 1 true).getD 7 true = listed.getD 7 true := getD_set_ne true (by decide)
        have e8 : (listed.setIfInBounds 1 true).getD 8 true = listed.getD 8 true := getD_set_ne true (by decide)
        have e9 : (listed.setIfInBounds 1 true).getD 9 true = listed.getD 9 true := getD_set_ne true (by decide)
        have e10 : (listed.setIfInBounds 1 true).getD 10 true = listed.getD 10 true := getD_set_ne true (by decide)
        have e11 : (listed.setIfInBounds 1 true).getD 11 true = listed.getD 11 true := getD_set_ne true (by decide)
        have e12 : (listed.setIfInBounds 1 true).getD 12 true = listed.getD 12 true := getD_set_ne true (by decide)
        have ek : (listed.setIfInBounds 1 true).getD 1 true = true := set_same (by omega)
        rw [H6.out, H9.out, H10.out, H11.out, H12.out, H13.out, H14.out, H15.out, H16.out, H17.out]
        simp only [e0, e2, e3, e4, e5, e6, e7, e8, e9, e10, e11, e12, ek, d0, if_true]
      · intro h
        rw [getD_set_ne true (by decide)] at h
        rw [getD_set_ne true (by decide)]
        exact ⟨(HMd.out h).1, (HMd.out h).2⟩
      · intro h
        rw [getD_set_ne true (by decide)] at h ⊢
        exact HLd.out h
    · obtain rfl := Option.some.inj ho
      clear ho hd
      unfold meetFrame
      simp only [hl, if_true, Bool.false_eq_true, if_false]
      obtain ⟨x6, h6⟩ : ∃ x, x = (if listed.getD 11 true = true then (.pointer (some ⟨g, 0, none⟩) : Value) else undef) := ⟨_, rfl⟩
      rw [← h6]
      have H6 := Aside0.mk h6
      clear h6
      obtain ⟨x7, h7⟩ : ∃ x, x = (if listed.getD 0 true = true then (.pointer (some ⟨n, 0, none⟩) : Value) else undef) := ⟨_, rfl⟩
      rw [← h7]
      have H7 := Aside0.mk h7
      clear h7
      obtain ⟨x8, h8⟩ : ∃ x, x = (if listed.getD 1 true = true then (.agg #[.int .u64 (a.f0).f0, .int .u64 (a.f0).f1] : Value) else undef) := ⟨_, rfl⟩
      rw [← h8]
      have H8 := Aside0.mk h8
      clear h8
      obtain ⟨x10, h10⟩ : ∃ x, x = (if listed.getD 3 true = true then (.agg #[.int .u64 (b.f0).f0, .int .u64 (b.f0).f1] : Value) else undef) := ⟨_, rfl⟩
      rw [← h10]
      have H10 := Aside0.mk h10
      clear h10
      obtain ⟨x11, h11⟩ : ∃ x, x = (if listed.getD 4 true = true then (.agg #[.int .u64 (maxA a.f0 b.f0).f0, .int .u64 (maxA a.f0 b.f0).f1] : Value) else undef) := ⟨_, rfl⟩
      rw [← h11]
      have H11 := Aside0.mk h11
      clear h11
      obtain ⟨x12, h12⟩ : ∃ x, x = (if listed.getD 5 true = true then (.pointer (some ⟨n, 2, none⟩) : Value) else undef) := ⟨_, rfl⟩
      rw [← h12]
      have H12 := Aside0.mk h12
      clear h12
      obtain ⟨x13, h13⟩ : ∃ x, x = (if listed.getD 6 true = true then (.agg #[.int .u64 (a.f1).f0, .int .u64 (a.f1).f1] : Value) else undef) := ⟨_, rfl⟩
      rw [← h13]
      have H13 := Aside0.mk h13
      clear h13
      obtain ⟨x14, h14⟩ : ∃ x, x = (if listed.getD 7 true = true then (.pointer (some ⟨n + 1, 2, none⟩) : Value) else undef) := ⟨_, rfl⟩
      rw [← h14]
      have H14 := Aside0.mk h14
      clear h14
      obtain ⟨x15, h15⟩ : ∃ x, x = (if listed.getD 8 true = true then (.agg #[.int .u64 (b.f1).f0, .int .u64 (b.f1).f1] : Value) else undef) := ⟨_, rfl⟩
      rw [← h15]
      have H15 := Aside0.mk h15
      clear h15
      obtain ⟨x16, h16⟩ : ∃ x, x = (if listed.getD 9 true = true then (.agg #[.int .u64 (minA a.f1 b.f1).f0, .int .u64 (minA a.f1 b.f1).f1] : Value) else undef) := ⟨_, rfl⟩
      rw [← h16]
      have H16 := Aside0.mk h16
      clear h16
      obtain ⟨x17, h17⟩ : ∃ x, x = (if listed.getD 10 true = true then (.agg #[.int .u64 (maxA a.f0 b.f0).f0, .int .u64 (maxA a.f0 b.f0).f1, .int .u64 (minA a.f1 b.f1).f0, .int .u64 (minA a.f1 b.f1).f1] : Value) else undef) := ⟨_, rfl⟩
      rw [← h17]
      have H17 := Aside0.mk h17
      clear h17
      go_wp2_with (first | (go_at_call 61; refine (greater_any a.f0 b.f0 _).mono ?_; rintro e w2 ⟨rfl, hb2⟩) | (go_at_call 62; refine (lesser_any a.f1 b.f1 _).mono ?_; rintro e w2 ⟨rfl, hb2⟩))
      show ∃ g, MeetJ a b n W0 _ _ _ g
      refine ⟨g, ⟨by simp [hs], ?_, HBd.out, ?_, ?_⟩⟩
      · unfold meetFrame
        have e0 : (listed.setIfInBounds 2 true).getD 0 true = listed.getD 0 true := getD_set_ne true (by decide)
        have e1 : (listed.setIfInBounds 2 true).getD 1 true = listed.getD 1 true := getD_set_ne true (by decide)
        have e3 : (listed.setIfInBounds 2 true).getD 3 true = listed.getD 3 true := getD_set_ne true (by decide)
        have e4 : (listed.setIfInBounds 2 true).getD 4 true = listed.getD 4 true := getD_set_ne true (by decide)
        have e5 : (listed.setIfInBounds 2 true).getD 5 true = listed.getD 5 true := getD_set_ne true (by decide)
        have e6 : (listed.setIfInBounds 2 true).getD 6 true = listed.getD 6 true := getD_set_ne true (by decide)
        have e7 : (listed.setIfInBounds 2 true).getD 7 true = listed.getD 7 true := getD_set_ne true (by decide)
        have e8 : (listed.setIfInBounds 2 true).getD 8 true = listed.getD 8 true := getD_set_ne true (by decide)
        have e9 : (listed.setIfInBounds 2 true).getD 9 true = listed.getD 9 true := getD_set_ne true (by decide)
        have e10 : (listed.setIfInBounds 2 true).getD 10 true = listed.getD 10 true := getD_set_ne true (by decide)
        have e11 : (listed.setIfInBounds 2 true).getD 11 true = listed.getD 11 true := getD_set_ne true (by decide)
        have e12 : (listed.setIfInBounds 2 true).getD 12 true = listed.getD 12 true := getD_set_ne true (by decide)
        have ek : (listed.setIfInBounds 2 true).getD 2 true = true := set_same (by omega)
        rw [H6.out, H7.out, H8.out, H10.out, H11.out, H12.out, H13.out, H14.out, H15.out, H16.out, H17.out]
        simp only [e0, e1, e3, e4, e5, e6, e7, e8, e9, e10, e11, e12, ek, if_true]
      · intro h
        rw [getD_set_ne true (by decide)] at h
        rw [getD_set_ne true (by decide)]
        exact ⟨(HMd.out h).1, (HMd.out h).2⟩
      · intro h
        rw [getD_set_ne true (by decide)] at h ⊢
        exact HLd.out h
    · obtain rfl := Option.some.inj ho
      have d2 : listed.getD 2 true = true := hd ⟨2, .data⟩ (by simp) rfl
      clear ho hd
      unfold meetFrame
      simp only [hl, d2, if_true, Bool.false_eq_true, if_false]
      obtain ⟨x6, h6⟩ : ∃ x, x = (if listed.getD 11 true = true then (.pointer (some ⟨g, 0, none⟩) : Value) else undef) := ⟨_, rfl⟩
      rw [← h6]
      have H6 := Aside0.mk h6
      clear h6
      obtain ⟨x7, h7⟩ : ∃ x, x = (if listed.getD 0 true = true then (.pointer (some ⟨n, 0, none⟩) : Value) else undef) := ⟨_, rfl⟩
      rw [← h7]
      have H7 := Aside0.mk h7
      clear h7
      obtain ⟨x8, h8⟩ : ∃ x, x = (if listed.getD 1 true = true then (.agg #[.int .u64 (a.f0).f0, .int .u64 (a.f0).f1] : Value) else undef) := ⟨_, rfl⟩
      rw [← h8]
      have H8 := Aside0.mk h8
      clear h8
      obtain ⟨x11, h11⟩ : ∃ x, x = (if listed.getD 4 true = true then (.agg #[.int .u64 (maxA a.f0 b.f0).f0, .int .u64 (maxA a.f0 b.f0).f1] : Value) else undef) := ⟨_, rfl⟩
      rw [← h11]
      have H11 := Aside0.mk h11
      clear h11
      obtain ⟨x12, h12⟩ : ∃ x, x = (if listed.getD 5 true = true then (.pointer (some ⟨n, 2, none⟩) : Value) else undef) := ⟨_, rfl⟩
      rw [← h12]
      have H12 := Aside0.mk h12
      clear h12
      obtain ⟨x13, h13⟩ : ∃ x, x = (if listed.getD 6 true = true then (.agg #[.int .u64 (a.f1).f0, .int .u64 (a.f1).f1] : Value) else undef) := ⟨_, rfl⟩
      rw [← h13]
      have H13 := Aside0.mk h13
      clear h13
      obtain ⟨x14, h14⟩ : ∃ x, x = (if listed.getD 7 true = true then (.pointer (some ⟨n + 1, 2, none⟩) : Value) else undef) := ⟨_, rfl⟩
      rw [← h14]
      have H14 := Aside0.mk h14
      clear h14
      obtain ⟨x15, h15⟩ : ∃ x, x = (if listed.getD 8 true = true then (.agg #[.int .u64 (b.f1).f0, .int .u64 (b.f1).f1] : Value) else undef) := ⟨_, rfl⟩
      rw [← h15]
      have H15 := Aside0.mk h15
      clear h15
      obtain ⟨x16, h16⟩ : ∃ x, x = (if listed.getD 9 true = true then (.agg #[.int .u64 (minA a.f1 b.f1).f0, .int .u64 (minA a.f1 b.f1).f1] : Value) else undef) := ⟨_, rfl⟩
      rw [← h16]
      have H16 := Aside0.mk h16
      clear h16
      obtain ⟨x17, h17⟩ : ∃ x, x = (if listed.getD 10 true = true then (.agg #[.int .u64 (maxA a.f0 b.f0).f0, .int .u64 (maxA a.f0 b.f0).f1, .int .u64 (minA a.f1 b.f1).f0, .int .u64 (minA a.f1 b.f1).f1] : Value) else undef) := ⟨_, rfl⟩
      rw [← h17]
      have H17 := Aside0.mk h17
      clear h17
      go_wp2_with (first | (go_at_call 61; refine (greater_any a.f0 b.f0 _).mono ?_; rintro e w2 ⟨rfl, hb2⟩) | (go_at_call 62; refine (lesser_any a.f1 b.f1 _).mono ?_; rintro e w2 ⟨rfl, hb2⟩))
      show ∃ g, MeetJ a b n W0 _ _ _ g
      refine ⟨g, ⟨by simp [hs], ?_, HBd.out, ?_, ?_⟩⟩
      · unfold meetFrame
        have e0 : (listed.setIfInBounds 3 true).getD 0 true = listed.getD 0 true := getD_set_ne true (by decide)
        have e1 : (listed.setIfInBounds 3 true).getD 1 true = listed.getD 1 true := getD_set_ne true (by decide)
        have e2 : (listed.setIfInBounds 3 true).getD 2 true = listed.getD 2 true := getD_set_ne true (by decide)
        have e4 : (listed.setIfInBounds 3 true).getD 4 true = listed.getD 4 true := getD_set_ne true (by decide)
        have e5 : (listed.setIfInBounds 3 true).getD 5 true = listed.getD 5 true := getD_set_ne true (by decide)
        have e6 : (listed.setIfInBounds 3 true).getD 6 true = listed.getD 6 true := getD_set_ne true (by decide)
        have e7 : (listed.setIfInBounds 3 true).getD 7 true = listed.getD 7 true := getD_set_ne true (by decide)
        have e8 : (listed.setIfInBounds 3 true).getD 8 true = listed.getD 8 true := getD_set_ne true (by decide)
        have e9 : (listed.setIfInBounds 3 true).getD 9 true = listed.getD 9 true := getD_set_ne true (by decide)
        have e10 : (listed.setIfInBounds 3 true).getD 10 true = listed.getD 10 true := getD_set_ne true (by decide)
        have e11 : (listed.setIfInBounds 3 true).getD 11 true = listed.getD 11 true := getD_set_ne true (by decide)
        have e12 : (listed.setIfInBounds 3 true).getD 12 true = listed.getD 12 true := getD_set_ne true (by decide)
        have ek : (listed.setIfInBounds 3 true).getD 3 true = true := set_same (by omega)
        rw [H6.out, H7.out, H8.out, H11.out, H12.out, H13.out, H14.out, H15.out, H16.out, H17.out]
        simp only [e0, e1, e2, e4, e5, e6, e7, e8, e9, e10, e11, e12, ek, d2, if_true]
      · intro h
        rw [getD_set_ne true (by decide)] at h
        rw [getD_set_ne true (by decide)]
        exact ⟨(HMd.out h).1, (HMd.out h).2⟩
      · intro h
        rw [getD_set_ne true (by decide)] at h ⊢
        exact HLd.out h
    · obtain rfl := Option.some.inj ho
      have d1 : listed.getD 1 true = true := hd ⟨1, .data⟩ (by simp) rfl
      have d3 : listed.getD 3 true = true := hd ⟨3, .data⟩ (by simp) rfl
      clear ho hd
      unfold meetFrame
      simp only [hl, d1, d3, if_true, Bool.false_eq_true, if_false]
      obtain ⟨x6, h6⟩ : ∃ x, x = (if listed.getD 11 true = true then (.pointer (some ⟨g, 0, none⟩) : Value) else undef) := ⟨_, rfl⟩
      rw [← h6]
      have H6 := Aside0.mk h6
      clear h6
      obtain ⟨x7, h7⟩ : ∃ x, x = (if listed.getD 0 true = true then (.pointer (some ⟨n, 0, none⟩) : Value) else undef) := ⟨_, rfl⟩
      rw [← h7]
      have H7 := Aside0.mk h7
      clear h7
      obtain ⟨x9, h9⟩ : ∃ x, x = (if listed.getD 2 true = true then (.pointer (some ⟨n + 1, 0, none⟩) : Value) else undef) := ⟨_, rfl⟩
      rw [← h9]
      have H9 := Aside0.mk h9
      clear h9
      obtain ⟨x12, h12⟩ : ∃ x, x = (if listed.getD 5 true = true then (.pointer (some ⟨n, 2, none⟩) : Value) else undef) := ⟨_, rfl⟩
      rw [← h12]
      have H12 := Aside0.mk h12
      clear h12
      obtain ⟨x13, h13⟩ : ∃ x, x = (if listed.getD 6 true = true then (.agg #[.int .u64 (a.f1).f0, .int .u64 (a.f1).f1] : Value) else undef) := ⟨_, rfl⟩
      rw [← h13]
      have H13 := Aside0.mk h13
      clear h13
      obtain ⟨x14, h14⟩ : ∃ x, x = (if listed.getD 7 true = true then (.pointer (some ⟨n + 1, 2, none⟩) : Value) else undef) := ⟨_, rfl⟩
      rw [← h14]
      have H14 := Aside0.mk h14
      clear h14
      obtain ⟨x15, h15⟩ : ∃ x, x = (if listed.getD 8 true = true then (.agg #[.int .u64 (b.f1).f0, .int .u64 (b.f1).f1] : Value) else undef) := ⟨_, rfl⟩
      rw [← h15]
      have H15 := Aside0.mk h15
      clear h15
      obtain ⟨x16, h16⟩ : ∃ x, x = (if listed.getD 9 true = true then (.agg #[.int .u64 (minA a.f1 b.f1).f0, .int .u64 (minA a.f1 b.f1).f1] : Value) else undef) := ⟨_, rfl⟩
      rw [← h16]
      have H16 := Aside0.mk h16
      clear h16
      obtain ⟨x17, h17⟩ : ∃ x, x = (if listed.getD 10 true = true then (.agg #[.int .u64 (maxA a.f0 b.f0).f0, .int .u64 (maxA a.f0 b.f0).f1, .int .u64 (minA a.f1 b.f1).f0, .int .u64 (minA a.f1 b.f1).f1] : Value) else undef) := ⟨_, rfl⟩
      rw [← h17]
      have H17 := Aside0.mk h17
      clear h17
      go_wp2_with (first | (go_at_call 61; refine (greater_any a.f0 b.f0 _).mono ?_; rintro e w2 ⟨rfl, hb2⟩) | (go_at_call 62; refine (lesser_any a.f1 b.f1 _).mono ?_; rintro e w2 ⟨rfl, hb2⟩))
      show ∃ g, MeetJ a b n W0 _ _ _ g
      refine ⟨g, ⟨by simp [hs], ?_, below_then HBd.out HBd.out.size hb2, ?_, ?_⟩⟩
      · unfold meetFrame
        have e0 : (listed.setIfInBounds 4 true).getD 0 true = listed.getD 0 true := getD_set_ne true (by decide)
        have e1 : (listed.setIfInBounds 4 true).getD 1 true = listed.getD 1 true := getD_set_ne true (by decide)
        have e2 : (listed.setIfInBounds 4 true).getD 2 true = listed.getD 2 true := getD_set_ne true (by decide)
        have e3 : (listed.setIfInBounds 4 true).getD 3 true = listed.getD 3 true := getD_set_ne true (by decide)
        have e5 : (listed.setIfInBounds 4 true).getD 5 true = listed.getD 5 true := getD_set_ne true (by decide)
        have e6 : (listed.setIfInBounds 4 true).getD 6 true = listed.getD 6 true := getD_set_ne true (by decide)
        have e7 : (listed.setIfInBounds 4 true).getD 7 true = listed.getD 7 true := getD_set_ne true (by decide)
        have e8 : (listed.setIfInBounds 4 true).getD 8 true = listed.getD 8 true := getD_set_ne true (by decide)
        have e9 : (listed.setIfInBounds 4 true).getD 9 true = listed.getD 9 true := getD_set_ne true (by decide)
        have e10 : (listed.setIfInBounds 4 true).getD 10 true = listed.getD 10 true := getD_set_ne true (by decide)
        have e11 : (listed.setIfInBounds 4 true).getD 11 true = listed.getD 11 true := getD_set_ne true (by decide)
        have e12 : (listed.setIfInBounds 4 true).getD 12 true = listed.getD 12 true := getD_set_ne true (by decide)
        have ek : (listed.setIfInBounds 4 true).getD 4 true = true := set_same (by omega)
        rw [H6.out, H7.out, H9.out, H12.out, H13.out, H14.out, H15.out, H16.out, H17.out]
        simp only [e0, e1, e2, e3, e5, e6, e7, e8, e9, e10, e11, e12, ek, d1, d3, if_true]
      · intro h
        rw [getD_set_ne true (by decide)] at h
        rw [getD_set_ne true (by decide)]
        exact ⟨(HMd.out h).1, (hb2.block _ (Array.getElem?_eq_some_iff.1 (HMd.out h).2).1).trans (HMd.out h).2⟩
      · intro h
        rw [getD_set_ne true (by decide)] at h ⊢
        exact HLd.out h
    · obtain rfl := Option.some.inj ho
      clear ho hd
      unfold meetFrame
      simp only [hl, if_true, Bool.false_eq_true, if_false]
      obtain ⟨x6, h6⟩ : ∃ x, x = (if listed.getD 11 true = true then (.pointer (some ⟨g, 0, none⟩) : Value) else undef) := ⟨_, rfl⟩
      rw [← h6]
      have H6 := Aside0.mk h6
      clear h6
      obtain ⟨x7, h7⟩ : ∃ x, x = (if listed.getD 0 true = true then (.pointer (some ⟨n, 0, none⟩) : Value) else undef) := ⟨_, rfl⟩
      rw [← h7]
      have H7 := Aside0.mk h7
      clear h7
      obtain ⟨x8, h8⟩ : ∃ x, x = (if listed.getD 1 true = true then (.agg #[.int .u64 (a.f0).f0, .int .u64 (a.f0).f1] : Value) else undef) := ⟨_, rfl⟩
      rw [← h8]
      have H8 := Aside0.mk h8
      clear h8
      obtain ⟨x9, h9⟩ : ∃ x, x = (if listed.getD 2 true = true then (.pointer (some ⟨n + 1, 0, none⟩) : Value) else undef) := ⟨_, rfl⟩
      rw [← h9]
      have H9 := Aside0.mk h9
      clear h9
      obtain ⟨x10, h10⟩ : ∃ x, x = (if listed.getD 3 true = true then (.agg #[.int .u64 (b.f0).f0, .int .u64 (b.f0).f1] : Value) else undef) := ⟨_, rfl⟩
      rw [← h10]
      have H10 := Aside0.mk h10
      clear h10
      obtain ⟨x11, h11⟩ : ∃ x, x = (if listed.getD 4 true = true then (.agg #[.int .u64 (maxA a.f0 b.f0).f0, .int .u64 (maxA a.f0 b.f0).f1] : Value) else undef) := ⟨_, rfl⟩
      rw [← h11]
      have H11 := Aside0.mk h11
      clear h11
      obtain ⟨x13, h13⟩ : ∃ x, x = (if listed.getD 6 true = true then (.agg #[.int .u64 (a.f1).f0, .int .u64 (a.f1).f1] : Value) else undef) := ⟨_, rfl⟩
      rw [← h13]
      have H13 := Aside0.mk h13
      clear h13
      obtain ⟨x14, h14⟩ : ∃ x, x = (if listed.getD 7 true = true then (.pointer (some ⟨n + 1, 2, none⟩) : Value) else undef) := ⟨_, rfl⟩
      rw [← h14]
      have H14 := Aside0.mk h14
      clear h14
      obtain ⟨x15, h15⟩ : ∃ x, x = (if listed.getD 8 true = true then (.agg #[.int .u64 (b.f1).f0, .int .u64 (b.f1).f1] : Value) else undef) := ⟨_, rfl⟩
      rw [← h15]
      have H15 := Aside0.mk h15
      clear h15
      obtain ⟨x16, h16⟩ : ∃ x, x = (if listed.getD 9 true = true then (.agg #[.int .u64 (minA a.f1 b.f1).f0, .int .u64 (minA a.f1 b.f1).f1] : Value) else undef) := ⟨_, rfl⟩
      rw [← h16]
      have H16 := Aside0.mk h16
      clear h16
      obtain ⟨x17, h17⟩ : ∃ x, x = (if listed.getD 10 true = true then (.agg #[.int .u64 (maxA a.f0 b.f0).f0, .int .u64 (maxA a.f0 b.f0).f1, .int .u64 (minA a.f1 b.f1).f0, .int .u64 (minA a.f1 b.f1).f1] : Value) else undef) := ⟨_, rfl⟩
      rw [← h17]
      have H17 := Aside0.mk h17
      clear h17
      go_wp2_with (first | (go_at_call 61; refine (greater_any a.f0 b.f0 _).mono ?_; rintro e w2 ⟨rfl, hb2⟩) | (go_at_call 62; refine (lesser_any a.f1 b.f1 _).mono ?_; rintro e w2 ⟨rfl, hb2⟩))
      show ∃ g, MeetJ a b n W0 _ _ _ g
      refine ⟨g, ⟨by simp [hs], ?_, HBd.out, ?_, ?_⟩⟩
      · unfold meetFrame
        have e0 : (listed.setIfInBounds 5 true).getD 0 true = listed.getD 0 true := getD_set_ne true (by decide)
        have e1 : (listed.setIfInBounds 5 true).getD 1 true = listed.getD 1 true := getD_set_ne true (by decide)
        have e2 : (listed.setIfInBounds 5 true).getD 2 true = listed.getD 2 true := getD_set_ne true (by decide)
        have e3 : (listed.setIfInBounds 5 true).getD 3 true = listed.getD 3 true := getD_set_ne true (by decide)
        have e4 : (listed.setIfInBounds 5 true).getD 4 true = listed.getD 4 true := getD_set_ne true (by decide)
        have e6 : (listed.setIfInBounds 5 true).getD 6 true = listed.getD 6 true := getD_set_ne true (by decide)
        have e7 : (listed.setIfInBounds 5 true).getD 7 true = listed.getD 7 true := getD_set_ne true (by decide)
        have e8 : (listed.setIfInBounds 5 true).getD 8 true = listed.getD 8 true := getD_set_ne true (by decide)
        have e9 : (listed.setIfInBounds 5 true).getD 9 true = listed.getD 9 true := getD_set_ne true (by decide)
        have e10 : (listed.setIfInBounds 5 true).getD 10 true = listed.getD 10 true := getD_set_ne true (by decide)
        have e11 : (listed.setIfInBounds 5 true).getD 11 true = listed.getD 11 true := getD_set_ne true (by decide)
        have e12 : (listed.setIfInBounds 5 true).getD 12 true = listed.getD 12 true := getD_set_ne true (by decide)
        have ek : (listed.setIfInBounds 5 true).getD 5 true = true := set_same (by omega)
        rw [H6.out, H7.out, H8.out, H9.out, H10.out, H11.out, H13.out, H14.out, H15.out, H16.out, H17.out]
        simp only [e0, e1, e2, e3, e4, e6, e7, e8, e9, e10, e11, e12, ek, if_true]
      · intro h
        rw [getD_set_ne true (by decide)] at h
        rw [getD_set_ne true (by decide)]
        exact ⟨(HMd.out h).1, (HMd.out h).2⟩
      · intro h
        rw [getD_set_ne true (by decide)] at h ⊢
        exact HLd.out h
    · obtain rfl := Option.some.inj ho
      have d5 : listed.getD 5 true = true := hd ⟨5, .data⟩ (by simp) rfl
      clear ho hd
      unfold meetFrame
      simp only [hl, d5, if_true, Bool.false_eq_true, if_false]
      obtain ⟨x6, h6⟩ : ∃ x, x = (if listed.getD 11 true = true then (.pointer (some ⟨g, 0, none⟩) : Value) else undef) := ⟨_, rfl⟩
      rw [← h6]
      have H6 := Aside0.mk h6
      clear h6
      obtain ⟨x7, h7⟩ : ∃ x, x = (if listed.getD 0 true = true then (.pointer (some ⟨n, 0, none⟩) : Value) else undef) := ⟨_, rfl⟩
      rw [← h7]
      have H7 := Aside0.mk h7
      clear h7
      obtain ⟨x8, h8⟩ : ∃ x, x = (if listed.getD 1 true = true then (.agg #[.int .u64 (a.f0).f0, .int .u64 (a.f0).f1] : Value) else undef) := ⟨_, rfl⟩
      rw [← h8]
      have H8 := Aside0.mk h8
      clear h8
      obtain ⟨x9, h9⟩ : ∃ x, x = (if listed.getD 2 true = true then (.pointer (some ⟨n + 1, 0, none⟩) : Value) else undef) := ⟨_, rfl⟩
      rw [← h9]
      have H9 := Aside0.mk h9
      clear h9
      obtain ⟨x10, h10⟩ : ∃ x, x = (if listed.getD 3 true = true then (.agg #[.int .u64 (b.f0).f0, .int .u64 (b.f0).f1] : Value) else undef) := ⟨_, rfl⟩
      rw [← h10]
      have H10 := Aside0.mk h10
      clear h10
      obtain ⟨x11, h11⟩ : ∃ x, x = (if listed.getD 4 true = true then (.agg #[.int .u64 (maxA a.f0 b.f0).f0, .int .u64 (maxA a.f0 b.f0).f1] : Value) else undef) := ⟨_, rfl⟩
      rw [← h11]
      have H11 := Aside0.mk h11
      clear h11
      obtain ⟨x14, h14⟩ : ∃ x, x = (if listed.getD 7 true = true then (.pointer (some ⟨n + 1, 2, none⟩) : Value) else undef) := ⟨_, rfl⟩
      rw [← h14]
      have H14 := Aside0.mk h14
      clear h14
      obtain ⟨x15, h15⟩ : ∃ x, x = (if listed.getD 8 true = true then (.agg #[.int .u64 (b.f1).f0, .int .u64 (b.f1).f1] : Value) else undef) := ⟨_, rfl⟩
      rw [← h15]
      have H15 := Aside0.mk h15
      clear h15
      obtain ⟨x16, h16⟩ : ∃ x, x = (if listed.getD 9 true = true then (.agg #[.int .u64 (minA a.f1 b.f1).f0, .int .u64 (minA a.f1 b.f1).f1] : Value) else undef) := ⟨_, rfl⟩
      rw [← h16]
      have H16 := Aside0.mk h16
      clear h16
      obtain ⟨x17, h17⟩ : ∃ x, x = (if listed.getD 10 true = true then (.agg #[.int .u64 (maxA a.f0 b.f0).f0, .int .u64 (maxA a.f0 b.f0).f1, .int .u64 (minA a.f1 b.f1).f0, .int .u64 (minA a.f1 b.f1).f1] : Value) else undef) := ⟨_, rfl⟩
      rw [← h17]
      have H17 := Aside0.mk h17
      clear h17
      go_wp2_with (first | (go_at_call 61; refine (greater_any a.f0 b.f0 _).mono ?_; rintro e w2 ⟨rfl, hb2⟩) | (go_at_call 62; refine (lesser_any a.f1 b.f1 _).mono ?_; rintro e w2 ⟨rfl, hb2⟩))
      show ∃ g, MeetJ a b n W0 _ _ _ g
      refine ⟨g, ⟨by simp [hs], ?_, HBd.out, ?_, ?_⟩⟩
      · unfold meetFrame
        have e0 : (listed.setIfInBounds 6 true).getD 0 true = listed.getD 0 true := getD_set_ne true (by decide)
        have e1 : (listed.setIfInBounds 6 true).getD 1 true = listed.getD 1 true := getD_set_ne true (by decide)
        have e2 : (listed.setIfInBounds 6 true).getD 2 true = listed.getD 2 true := getD_set_ne true (by decide)
        have e3 : (listed.setIfInBounds 6 true).getD 3 true = listed.getD 3 true := getD_set_ne true (by decide)
        have e4 : (listed.setIfInBounds 6 true).getD 4 true = listed.getD 4 true := getD_set_ne true (by decide)
        have e5 : (listed.setIfInBounds 6 true).getD 5 true = listed.getD 5 true := getD_set_ne true (by decide)
        have e7 : (listed.setIfInBounds 6 true).getD 7 true = listed.getD 7 true := getD_set_ne true (by decide)
        have e8 : (listed.setIfInBounds 6 true).getD 8 true = listed.getD 8 true := getD_set_ne true (by decide)
        have e9 : (listed.setIfInBounds 6 true).getD 9 true = listed.getD 9 true := getD_set_ne true (by decide)
        have e10 : (listed.setIfInBounds 6 true).getD 10 true = listed.getD 10 true := getD_set_ne true (by decide)
        have e11 : (listed.setIfInBounds 6 true).getD 11 true = listed.getD 11 true := getD_set_ne true (by decide)
        have e12 : (listed.setIfInBounds 6 true).getD 12 true = listed.getD 12 true := getD_set_ne true (by decide)
        have ek : (listed.setIfInBounds 6 true).getD 6 true = true := set_same (by omega)
        rw [H6.out, H7.out, H8.out, H9.out, H10.out, H11.out, H14.out, H15.out, H16.out, H17.out]
        simp only [e0, e1, e2, e3, e4, e5, e7, e8, e9, e10, e11, e12, ek, d5, if_true]
      · intro h
        rw [getD_set_ne true (by decide)] at h
        rw [getD_set_ne true (by decide)]
        exact ⟨(HMd.out h).1, (HMd.out h).2⟩
      · intro h
        rw [getD_set_ne true (by decide)] at h ⊢
        exact HLd.out h
    · obtain rfl := Option.some.inj ho
      clear ho hd
      unfold meetFrame
      simp only [hl, if_true, Bool.false_eq_true, if_false]
      obtain ⟨x6, h6⟩ : ∃ x, x = (if listed.getD 11 true = true then (.pointer (some ⟨g, 0, none⟩) : Value) else undef) := ⟨_, rfl⟩
      rw [← h6]
      have H6 := Aside0.mk h6
      clear h6
      obtain ⟨x7, h7⟩ : ∃ x, x = (if listed.getD 0 true = true then (.pointer (some ⟨n, 0, none⟩) : Value) else undef) := ⟨_, rfl⟩
      rw [← h7]
      have H7 := Aside0.mk h7
      clear h7
      obtain ⟨x8, h8⟩ : ∃ x, x = (if listed.getD 1 true = true then (.agg #[.int .u64 (a.f0).f0, .int .u64 (a.f0).f1] : Value) else undef) := ⟨_, rfl⟩
      rw [← h8]
      have H8 := Aside0.mk h8
      clear h8
      obtain ⟨x9, h9⟩ : ∃ x, x = (if listed.getD 2 true = true then (.pointer (some ⟨n + 1, 0, none⟩) : Value) else undef) := ⟨_, rfl⟩
      rw [← h9]
      have H9 := Aside0.mk h9
      clear h9
      obtain ⟨x10, h10⟩ : ∃ x, x = (if listed.getD 3 true = true then (.agg #[.int .u64 (b.f0).f0, .int .u64 (b.f0).f1] : Value) else undef) := ⟨_, rfl⟩
      rw [← h10]
      have H10 := Aside0.mk h10
      clear h10
      obtain ⟨x11, h11⟩ : ∃ x, x = (if listed.getD 4 true = true then (.agg #[.int .u64 (maxA a.f0 b.f0).f0, .int .u64 (maxA a.f0 b.f0).f1] : Value) else undef) := ⟨_, rfl⟩
      rw [← h11]
      have H11 := Aside0.mk h11
      clear h11
      obtain ⟨x12, h12⟩ : ∃ x, x = (if listed.getD 5 true = true then (.pointer (some ⟨n, 2, none⟩) : Value) else undef) := ⟨_, rfl⟩
      rw [← h12]
      have H12 := Aside0.mk h12
      clear h12
      obtain ⟨x13, h13⟩ : ∃ x, x = (if listed.getD 6 true = true then (.agg #[.int .u64 (a.f1).f0, .int .u64 (a.f1).f1] : Value) else undef) := ⟨_, rfl⟩
      rw [← h13]
      have H13 := Aside0.mk h13
      clear h13
      obtain ⟨x15, h15⟩ : ∃ x, x = (if listed.getD 8 true = true then (.agg #[.int .u64 (b.f1).f0, .int .u64 (b.f1).f1] : Value) else undef) := ⟨_, rfl⟩
      rw [← h15]
      have H15 := Aside0.mk h15
      clear h15
      obtain ⟨x16, h16⟩ : ∃ x, x = (if listed.getD 9 true = true then (.agg #[.int .u64 (minA a.f1 b.f1).f0, .int .u64 (minA a.f1 b.f1).f1] : Value) else undef) := ⟨_, rfl⟩
      rw [← h16]
      have H16 := Aside0.mk h16
      clear h16
      obtain ⟨x17, h17⟩ : ∃ x, x = (if listed.getD 10 true = true then (.agg #[.int .u64 (maxA a.f0 b.f0).f0, .int .u64 (maxA a.f0 b.f0).f1, .int .u64 (minA a.f1 b.f1).f0, .int .u64 (minA a.f1 b.f1).f1] : Value) else undef) := ⟨_, rfl⟩
      rw [← h17]
      have H17 := Aside0.mk h17
      clear h17
      go_wp2_with (first | (go_at_call 61; refine (greater_any a.f0 b.f0 _).mono ?_; rintro e w2 ⟨rfl, hb2⟩) | (go_at_call 62; refine (lesser_any a.f1 b.f1 _).mono ?_; rintro e w2 ⟨rfl, hb2⟩))
      show ∃ g, MeetJ a b n W0 _ _ _ g
      refine ⟨g, ⟨by simp [hs], ?_, HBd.out, ?_, ?_⟩⟩
      · unfold meetFrame
        have e0 : (listed.setIfInBounds 7 true).getD 0 true = listed.getD 0 true := getD_set_ne true (by decide)
        have e1 : (listed.setIfInBounds 7 true).getD 1 true = listed.getD 1 true := getD_set_ne true (by decide)
        have e2 : (listed.setIfInBounds 7 true).getD 2 true = listed.getD 2 true := getD_set_ne true (by decide)
        have e3 : (listed.setIfInBounds 7 true).getD 3 true = listed.getD 3 true := getD_set_ne true (by decide)
        have e4 : (listed.setIfInBounds 7 true).getD 4 true = listed.getD 4 true := getD_set_ne true (by decide)
        have e5 : (listed.setIfInBounds 7 true).getD 5 true = listed.getD 5 true := getD_set_ne true (by decide)
        have e6 : (listed.setIfInBounds 7 true).getD 6 true = listed.getD 6 true := getD_set_ne true (by decide)
        have e8 : (listed.setIfInBounds 7 true).getD 8 true = listed.getD 8 true := getD_set_ne true (by decide)
        have e9 : (listed.setIfInBounds 7 true).getD 9 true = listed.getD 9 true := getD_set_ne true (by decide)
        have e10 : (listed.setIfInBounds 7 true).getD 10 true = listed.getD 10 true := getD_set_ne true (by decide)
        have e11 : (listed.setIfInBounds 7 true).getD 11 true = listed.getD 11 true := getD_set_ne true (by decide)
        have e12 : (listed.setIfInBounds 7 true).getD 12 true = listed.getD 12 true := getD_set_ne true (by decide)
        have ek : (listed.setIfInBounds 7 true).getD 7 true = true := set_same (by omega)
        rw [H6.out, H7.out, H8.out, H9.out, H10.out, H11.out, H12.out, H13.out, H15.out, H16.out, H17.out]
        simp only [e0, e1, e2, e3, e4, e5, e6, e8, e9, e10, e11, e12, ek, if_true]
      · intro h
        rw [getD_set_ne true (by decide)] at h
        rw [getD_set_ne true (by decide)]
        exact ⟨(HMd.out h).1, (HMd.out h).2⟩
      · intro h
        rw [getD_set_ne true (by decide)] at h ⊢
        exact HLd.out h
    · obtain rfl := Option.some.inj ho
      have d7 : listed.getD 7 true = true := hd ⟨7, .data⟩ (by simp) rfl
      clear ho hd
      unfold meetFrame
      simp only [hl, d7, if_true, Bool.false_eq_true, if_false]
      obtain ⟨x6, h6⟩ : ∃ x, x = (if listed.getD 11 true = true then (.pointer (some ⟨g, 0, none⟩) : Value) else undef) := ⟨_, rfl⟩
      rw [← h6]
      have H6 := Aside0.mk h6
      clear h6
      obtain ⟨x7, h7⟩ : ∃ x, x = (if listed.getD 0 true = true then (.pointer (some ⟨n, 0, none⟩) : Value) else undef) := ⟨_, rfl⟩
      rw [← h7]
      have H7 := Aside0.mk h7
      clear h7
      obtain ⟨x8, h8⟩ : ∃ x, x = (if listed.getD 1 true = true then (.agg #[.int .u64 (a.f0).f0, .int .u64 (a.f0).f1] : Value) else undef) := ⟨_, rfl⟩
      rw [← h8]
      have H8 := Aside0.mk h8
      clear h8
      obtain ⟨x9, h9⟩ : ∃ x, x = (if listed.getD 2 true = true then (.pointer (some ⟨n + 1, 0, none⟩) : Value) else undef) := ⟨_, rfl⟩
      rw [← h9]
      have H9 := Aside0.mk h9
      clear h9
      obtain ⟨x10, h10⟩ : ∃ x, x = (if listed.getD 3 true = true then (.agg #[.int .u64 (b.f0).f0, .int .u64 (b.f0).f1] : Value) else undef) := ⟨_, rfl⟩
      rw [← h10]
      have H10 := Aside0.mk h10
      clear h10
      obtain ⟨x11, h11⟩ : ∃ x, x = (if listed.getD 4 true = true then (.agg #[.int .u64 (maxA a.f0 b.f0).f0, .int .u64 (maxA a.f0 b.f0).f1] : Value) else undef) := ⟨_, rfl⟩
      rw [← h11]
      have H11 := Aside0.mk h11
      clear h11
      obtain ⟨x12, h12⟩ : ∃ x, x = (if listed.getD 5 true = true then (.pointer (some ⟨n, 2, none⟩) : Value) else undef) := ⟨_, rfl⟩
      rw [← h12]
      have H12 := Aside0.mk h12
      clear h12
      obtain ⟨x13, h13⟩ : ∃ x, x = (if listed.getD 6 true = true then (.agg #[.int .u64 (a.f1).f0, .int .u64 (a.f1).f1] : Value) else undef) := ⟨_, rfl⟩
      rw [← h13]
      have H13 := Aside0.mk h13
      clear h13
      obtain ⟨x16, h16⟩ : ∃ x, x = (if listed.getD 9 true = true then (.agg #[.int .u64 (minA a.f1 b.f1).f0, .int .u64 (minA a.f1 b.f1).f1] : Value) else undef) := ⟨_, rfl⟩
      rw [← h16]
      have H16 := Aside0.mk h16
      clear h16
      obtain ⟨x17, h17⟩ : ∃ x, x = (if listed.getD 10 true = true then (.agg #[.int .u64 (maxA a.f0 b.f0).f0, .int .u64 (maxA a.f0 b.f0).f1, .int .u64 (minA a.f1 b.f1).f0, .int .u64 (minA a.f1 b.f1).f1] : Value) else undef) := ⟨_, rfl⟩
      rw [← h17]
      have H17 := Aside0.mk h17
      clear h17
      go_wp2_with (first | (go_at_call 61; refine (greater_any a.f0 b.f0 _).mono ?_; rintro e w2 ⟨rfl, hb2⟩) | (go_at_call 62; refine (lesser_any a.f1 b.f1 _).mono ?_; rintro e w2 ⟨rfl, hb2⟩))
      show ∃ g, MeetJ a b n W0 _ _ _ g
      refine ⟨g, ⟨by simp [hs], ?_, HBd.out, ?_, ?_⟩⟩
      · unfold meetFrame
        have e0 : (listed.setIfInBounds 8 true).getD 0 true = listed.getD 0 true := getD_set_ne true (by decide)
        have e1 : (listed.setIfInBounds 8 true).getD 1 true = listed.getD 1 true := getD_set_ne true (by decide)
        have e2 : (listed.setIfInBounds 8 true).getD 2 true = listed.getD 2 true := getD_set_ne true (by decide)
        have e3 : (listed.setIfInBounds 8 true).getD 3 true = listed.getD 3 true := getD_set_ne true (by decide)
        have e4 : (listed.setIfInBounds 8 true).getD 4 true = listed.getD 4 true := getD_set_ne true (by decide)
        have e5 : (listed.setIfInBounds 8 true).getD 5 true = listed.getD 5 true := getD_set_ne true (by decide)
        have e6 : (listed.setIfInBounds 8 true).getD 6 true = listed.getD 6 true := getD_set_ne true (by decide)
        have e7 : (listed.setIfInBounds 8 true).getD 7 true = listed.getD 7 true := getD_set_ne true (by decide)
        have e9 : (listed.setIfInBounds 8 true).getD 9 true = listed.getD 9 true := getD_set_ne true (by decide)
        have e10 : (listed.setIfInBounds 8 true).getD 10 true = listed.getD 10 true := getD_set_ne true (by decide)
        have e11 : (listed.setIfInBounds 8 true).getD 11 true = listed.getD 11 true := getD_set_ne true (by decide)
        have e12 : (listed.setIfInBounds 8 true).getD 12 true = listed.getD 12 true := getD_set_ne true (by decide)
        have ek : (listed.setIfInBounds 8 true).getD 8 true = true := set_same (by omega)
        rw [H6.out, H7.out, H8.out, H9.out, H10.out, H11.out, H12.out, H13.out, H16.out, H17.out]
        simp only [e0, e1, e2, e3, e4, e5, e6, e7, e9, e10, e11, e12, ek, d7, if_true]
      · intro h
        rw [getD_set_ne true (by decide)] at h
        rw [getD_set_ne true (by decide)]
        exact ⟨(HMd.out h).1, (HMd.out h).2⟩
      · intro h
        rw [getD_set_ne true (by decide)] at h ⊢
        exact HLd.out h
    · obtain rfl := Option.some.inj ho
      have d6 : listed.getD 6 true = true := hd ⟨6, .data⟩ (by simp) rfl
      have d8 : listed.getD 8 true = true := hd ⟨8, .data⟩ (by simp) rfl
      clear ho hd
      unfold meetFrame
      simp only [hl, d6, d8, if_true, Bool.false_eq_true, if_false]
      obtain ⟨x6, h6⟩ : ∃ x, x = (if listed.getD 11 true = true then (.pointer (some ⟨g, 0, none⟩) : Value) else undef) := ⟨_, rfl⟩
      rw [← h6]
      have H6 := Aside0.mk h6
      clear h6
      obtain ⟨x7, h7⟩ : ∃ x, x = (if listed.getD 0 true = true then (.pointer (some ⟨n, 0, none⟩) : Value) else undef) := ⟨_, rfl⟩
      rw [← h7]
      have H7 := Aside0.mk h7
      clear h7
      obtain ⟨x8, h8⟩ : ∃ x, x = (if listed.getD 1 true = true then (.agg #[.int .u64 (a.f0).f0, .int .u64 (a.f0).f1] : Value) else undef) := ⟨_, rfl⟩
      rw [← h8]
      have H8 := Aside0.mk h8
      clear h8
      obtain ⟨x9, h9⟩ : ∃ x, x = (if listed.getD 2 true = true then (.pointer (some ⟨n + 1, 0, none⟩) : Value) else undef) := ⟨_, rfl⟩
      rw [← h9]
      have H9 := Aside0.mk h9
      clear h9
      obtain ⟨x10, h10⟩ : ∃ x, x = (if listed.getD 3 true = true then (.agg #[.int .u64 (b.f0).f0, .int .u64 (b.f0).f1] : Value) else undef) := ⟨_, rfl⟩
      rw [← h10]
      have H10 := Aside0.mk h10
      clear h10
      obtain ⟨x11, h11⟩ : ∃ x, x = (if listed.getD 4 true = true then (.agg #[.int .u64 (maxA a.f0 b.f0).f0, .int .u64 (maxA a.f0 b.f0).f1] : Value) else undef) := ⟨_, rfl⟩
      rw [← h11]
      have H11 := Aside0.mk h11
      clear h11
      obtain ⟨x12, h12⟩ : ∃ x, x = (if listed.getD 5 true = true then (.pointer (some ⟨n, 2, none⟩) : Value) else undef) := ⟨_, rfl⟩
      rw [← h12]
      have H12 := Aside0.mk h12
      clear h12
      obtain ⟨x14, h14⟩ : ∃ x, x = (if listed.getD 7 true = true then (.pointer (some ⟨n + 1, 2, none⟩) : Value) else undef) := ⟨_, rfl⟩
      rw [← h14]
      have H14 := Aside0.mk h14
      clear h14
      obtain ⟨x17, h17⟩ : ∃ x, x = (if listed.getD 10 true = true then (.agg #[.int .u64 (maxA a.f0 b.f0).f0, .int .u64 (maxA a.f0 b.f0).f1, .int .u64 (minA a.f1 b.f1).f0, .int .u64 (minA a.f1 b.f1).f1] : Value) else undef) := ⟨_, rfl⟩
      rw [← h17]
      have H17 := Aside0.mk h17
      clear h17
      go_wp2_with (first | (go_at_call 61; refine (greater_any a.f0 b.f0 _).mono ?_; rintro e w2 ⟨rfl, hb2⟩) | (go_at_call 62; refine (lesser_any a.f1 b.f1 _).mono ?_; rintro e w2 ⟨rfl, hb2⟩))
      show ∃ g, MeetJ a b n W0 _ _ _ g
      refine ⟨g, ⟨by simp [hs], ?_, below_then HBd.out HBd.out.size hb2, ?_, ?_⟩⟩
      · unfold meetFrame
        have e0 : (listed.setIfInBounds 9 true).getD 0 true = listed.getD 0 true := getD_set_ne true (by decide)
        have e1 : (listed.setIfInBounds 9 true).getD 1 true = listed.getD 1 true := getD_set_ne true (by decide)
        have e2 : (listed.setIfInBounds 9 true).getD 2 true = listed.getD 2 true := getD_set_ne true (by decide)
        have e3 : (listed.setIfInBounds 9 true).getD 3 true = listed.getD 3 true := getD_set_ne true (by decide)
        have e4 : (listed.setIfInBounds 9 true).getD 4 true = listed.getD 4 true := getD_set_ne true (by decide)
        have e5 : (listed.setIfInBounds 9 true).getD 5 true = listed.getD 5 true := getD_set_ne true (by decide)
        have e6 : (listed.setIfInBounds 9 true).getD 6 true = listed.getD 6 true := getD_set_ne true (by decide)
        have e7 : (listed.setIfInBounds 9 true).getD 7 true = listed.getD 7 true := getD_set_ne true (by decide)
        have e8 : (listed.setIfInBounds 9 true).getD 8 true = listed.getD 8 true := getD_set_ne true (by decide)
        have e10 : (listed.setIfInBounds 9 true).getD 10 true = listed.getD 10 true := getD_set_ne true (by decide)
        have e11 : (listed.setIfInBounds 9 true).getD 11 true = listed.getD 11 true := getD_set_ne true (by decide)
        have e12 : (listed.setIfInBounds 9 true).getD 12 true = listed.getD 12 true := getD_set_ne true (by decide)
        have ek : (listed.setIfInBounds 9 true).getD 9 true = true := set_same (by omega)
        rw [H6.out, H7.out, H8.out, H9.out, H10.out, H11.out, H12.out, H14.out, H17.out]
        simp only [e0, e1, e2, e3, e4, e5, e6, e7, e8, e10, e11, e12, ek, d6, d8, if_true]
      · intro h
        rw [getD_set_ne true (by decide)] at h
        rw [getD_set_ne true (by decide)]
        exact ⟨(HMd.out h).1, (hb2.block _ (Array.getElem?_eq_some_iff.1 (HMd.out h).2).1).trans (HMd.out h).2⟩
      · intro h
        rw [getD_set_ne true (by decide)] at h ⊢
        exact HLd.out h
    · obtain rfl := Option.some.inj ho
      have d4 : listed.getD 4 true = true := hd ⟨4, .data⟩ (by simp) rfl
      have d9 : listed.getD 9 true = true := hd ⟨9, .data⟩ (by simp) rfl
      clear ho hd
      unfold meetFrame
      simp only [hl, d4, d9, if_true, Bool.false_eq_true, if_false]
      obtain ⟨x6, h6⟩ : ∃ x, x = (if listed.getD 11 true = true then (.pointer (some ⟨g, 0, none⟩) : Value) else undef) := ⟨_, rfl⟩
      rw [← h6]
      have H6 := Aside0.mk h6
      clear h6
      obtain ⟨x7, h7⟩ : ∃ x, x = (if listed.getD 0 true = true then (.pointer (some ⟨n, 0, none⟩) : Value) else undef) := ⟨_, rfl⟩
      rw [← h7]
      have H7 := Aside0.mk h7
      clear h7
      obtain ⟨x8, h8⟩ : ∃ x, x = (if listed.getD 1 true = true then (.agg #[.int .u64 (a.f0).f0, .int .u64 (a.f0).f1] : Value) else undef) := ⟨_, rfl⟩
      rw [← h8]
      have H8 := Aside0.mk h8
      clear h8
      obtain ⟨x9, h9⟩ : ∃ x, x = (if listed.getD 2 true = true then (.pointer (some ⟨n + 1, 0, none⟩) : Value) else undef) := ⟨_, rfl⟩
      rw [← h9]
      have H9 := Aside0.mk h9
      clear h9
      obtain ⟨x10, h10⟩ : ∃ x, x = (if listed.getD 3 true = true then (.agg #[.int .u64 (b.f0).f0, .int .u64 (b.f0).f1] : Value) else undef) := ⟨_, rfl⟩
      rw [← h10]
      have H10 := Aside0.mk h10
      clear h10
      obtain ⟨x12, h12⟩ : ∃ x, x = (if listed.getD 5 true = true then (.pointer (some ⟨n, 2, none⟩) : Value) else undef) := ⟨_, rfl⟩
      rw [← h12]
      have H12 := Aside0.mk h12
      clear h12
      obtain ⟨x13, h13⟩ : ∃ x, x = (if listed.getD 6 true = true then (.agg #[.int .u64 (a.f1).f0, .int .u64 (a.f1).f1] : Value) else undef) := ⟨_, rfl⟩
      rw [← h13]
      have H13 := Aside0.mk h13
      clear h13
      obtain ⟨x14, h14⟩ : ∃ x, x = (if listed.getD 7 true = true then (.pointer (some ⟨n + 1, 2, none⟩) : Value) else undef) := ⟨_, rfl⟩
      rw [← h14]
      have H14 := Aside0.mk h14
      clear h14
      obtain ⟨x15, h15⟩ : ∃ x, x = (if listed.getD 8 true = true then (.agg #[.int .u64 (b.f1).f0, .int .u64 (b.f1).f1] : Value) else undef) := ⟨_, rfl⟩
      rw [← h15]
      have H15 := Aside0.mk h15
      clear h15
      go_wp2_with (first | (go_at_call 61; refine (greater_any a.f0 b.f0 _).mono ?_; rintro e w2 ⟨rfl, hb2⟩) | (go_at_call 62; refine (lesser_any a.f1 b.f1 _).mono ?_; rintro e w2 ⟨rfl, hb2⟩))
      show ∃ g, MeetJ a b n W0 _ _ _ g
      refine ⟨g, ⟨by simp [hs], ?_, HBd.out, ?_, ?_⟩⟩
      · unfold meetFrame
        have e0 : (listed.setIfInBounds 10 true).getD 0 true = listed.getD 0 true := getD_set_ne true (by decide)
        have e1 : (listed.setIfInBounds 10 true).getD 1 true = listed.getD 1 true := getD_set_ne true (by decide)
        have e2 : (listed.setIfInBounds 10 true).getD 2 true = listed.getD 2 true := getD_set_ne true (by decide)
        have e3 : (listed.setIfInBounds 10 true).getD 3 true = listed.getD 3 true := getD_set_ne true (by decide)
        have e4 : (listed.setIfInBounds 10 true).getD 4 true = listed.getD 4 true := getD_set_ne true (by decide)
        have e5 : (listed.setIfInBounds 10 true).getD 5 true = listed.getD 5 true := getD_set_ne true (by decide)
        have e6 : (listed.setIfInBounds 10 true).getD 6 true = listed.getD 6 true := getD_set_ne true (by decide)
        have e7 : (listed.setIfInBounds 10 true).getD 7 true = listed.getD 7 true := getD_set_ne true (by decide)
        have e8 : (listed.setIfInBounds 10 true).getD 8 true = listed.getD 8 true := getD_set_ne true (by decide)
        have e9 : (listed.setIfInBounds 10 true).getD 9 true = listed.getD 9 true := getD_set_ne true (by decide)
        have e11 : (listed.setIfInBounds 10 true).getD 11 true = listed.getD 11 true := getD_set_ne true (by decide)
        have e12 : (listed.setIfInBounds 10 true).getD 12 true = listed.getD 12 true := getD_set_ne true (by decide)
        have ek : (listed.setIfInBounds 10 true).getD 10 true = true := set_same (by omega)
        rw [H6.out, H7.out, H8.out, H9.out, H10.out, H12.out, H13.out, H14.out, H15.out]
        simp only [e0, e1, e2, e3, e4, e5, e6, e7, e8, e9, e11, e12, ek, d4, d9, if_true]
      · intro h
        rw [getD_set_ne true (by decide)] at h
        rw [getD_set_ne true (by decide)]
        exact ⟨(HMd.out h).1, (HMd.out h).2⟩
      · intro h
        rw [getD_set_ne true (by decide)] at h ⊢
        exact HLd.out h
    · obtain rfl := Option.some.inj ho
      clear ho hd
      unfold meetFrame
      simp only [hl, if_true, Bool.false_eq_true, if_false]
      obtain ⟨x7, h7⟩ : ∃ x, x = (if listed.getD 0 true = true then (.pointer (some ⟨n, 0, none⟩) : Value) else undef) := ⟨_, rfl⟩
      rw [← h7]
      have H7 := Aside0.mk h7
      clear h7
      obtain ⟨x8, h8⟩ : ∃ x, x = (if listed.getD 1 true = true then (.agg #[.int .u64 (a.f0).f0, .int .u64 (a.f0).f1] : Value) else undef) := ⟨_, rfl⟩
      rw [← h8]
      have H8 := Aside0.mk h8
      clear h8
      obtain ⟨x9, h9⟩ : ∃ x, x = (if listed.getD 2 true = true then (.pointer (some ⟨n + 1, 0, none⟩) : Value) else undef) := ⟨_, rfl⟩
      rw [← h9]
      have H9 := Aside0.mk h9
      clear h9
      obtain ⟨x10, h10⟩ : ∃ x, x = (if listed.getD 3 true = true then (.agg #[.int .u64 (b.f0).f0, .int .u64 (b.f0).f1] : Value) else undef) := ⟨_, rfl⟩
      rw [← h10]
      have H10 := Aside0.mk h10
      clear h10
      obtain ⟨x11, h11⟩ : ∃ x, x = (if listed.getD 4 true = true then (.agg #[.int .u64 (maxA a.f0 b.f0).f0, .int .u64 (maxA a.f0 b.f0).f1] : Value) else undef) := ⟨_, rfl⟩
      rw [← h11]
      have H11 := Aside0.mk h11
      clear h11
      obtain ⟨x12, h12⟩ : ∃ x, x = (if listed.getD 5 true = true then (.pointer (some ⟨n, 2, none⟩) : Value) else undef) := ⟨_, rfl⟩
      rw [← h12]
      have H12 := Aside0.mk h12
      clear h12
      obtain ⟨x13, h13⟩ : ∃ x, x = (if listed.getD 6 true = true then (.agg #[.int .u64 (a.f1).f0, .int .u64 (a.f1).f1] : Value) else undef) := ⟨_, rfl⟩
      rw [← h13]
      have H13 := Aside0.mk h13
      clear h13
      obtain ⟨x14, h14⟩ : ∃ x, x = (if listed.getD 7 true = true then (.pointer (some ⟨n + 1, 2, none⟩) : Value) else undef) := ⟨_, rfl⟩
      rw [← h14]
      have H14 := Aside0.mk h14
      clear h14
      obtain ⟨x15, h15⟩ : ∃ x, x = (if listed.getD 8 true = true then (.agg #[.int .u64 (b.f1).f0, .int .u64 (b.f1).f1] : Value) else undef) := ⟨_, rfl⟩
      rw [← h15]
      have H15 := Aside0.mk h15
      clear h15
      obtain ⟨x16, h16⟩ : ∃ x, x = (if listed.getD 9 true = true then (.agg #[.int .u64 (minA a.f1 b.f1).f0, .int .u64 (minA a.f1 b.f1).f1] : Value) else undef) := ⟨_, rfl⟩
      rw [← h16]
      have H16 := Aside0.mk h16
      clear h16
      obtain ⟨x17, h17⟩ : ∃ x, x = (if listed.getD 10 true = true then (.agg #[.int .u64 (maxA a.f0 b.f0).f0, .int .u64 (maxA a.f0 b.f0).f1, .int .u64 (minA a.f1 b.f1).f0, .int .u64 (minA a.f1 b.f1).f1] : Value) else undef) := ⟨_, rfl⟩
      rw [← h17]
      have H17 := Aside0.mk h17
      clear h17
      have h12 : listed.getD 12 true = false := by
        cases h : listed.getD 12 true with
        | false => rfl
        | true => exact absurd (HLd.out h) (by rw [hl]; decide)
      go_wp2
      show ∃ g, MeetJ a b n W0 _ _ _ g
      refine ⟨w'.heap.size, ⟨by simp [hs], ?_, HBd.out.alloc HBd.out.size _, ?_, ?_⟩⟩
      · unfold meetFrame
        have e0 : (listed.setIfInBounds 11 true).getD 0 true = listed.getD 0 true := getD_set_ne true (by decide)
        have e1 : (listed.setIfInBounds 11 true).getD 1 true = listed.getD 1 true := getD_set_ne true (by decide)
        have e2 : (listed.setIfInBounds 11 true).getD 2 true = listed.getD 2 true := getD_set_ne true (by decide)
        have e3 : (listed.setIfInBounds 11 true).getD 3 true = listed.getD 3 true := getD_set_ne true (by decide)
        have e4 : (listed.setIfInBounds 11 true).getD 4 true = listed.getD 4 true := getD_set_ne true (by decide)
        have e5 : (listed.setIfInBounds 11 true).getD 5 true = listed.getD 5 true := getD_set_ne true (by decide)
        have e6 : (listed.setIfInBounds 11 true).getD 6 true = listed.getD 6 true := getD_set_ne true (by decide)
        have e7 : (listed.setIfInBounds 11 true).getD 7 true = listed.getD 7 true := getD_set_ne true (by decide)
        have e8 : (listed.setIfInBounds 11 true).getD 8 true = listed.getD 8 true := getD_set_ne true (by decide)
        have e9 : (listed.setIfInBounds 11 true).getD 9 true = listed.getD 9 true := getD_set_ne true (by decide)
        have e10 : (listed.setIfInBounds 11 true).getD 10 true = listed.getD 10 true := getD_set_ne true (by decide)
        have e12 : (listed.setIfInBounds 11 true).getD 12 true = listed.getD 12 true := getD_set_ne true (by decide)
        have ek : (listed.setIfInBounds 11 true).getD 11 true = true := set_same (by omega)
        rw [H7.out, H8.out, H9.out, H10.out, H11.out, H12.out, H13.out, H14.out, H15.out, H16.out, H17.out]
        simp only [e0, e1, e2, e3, e4, e5, e6, e7, e8, e9, e10, e12, ek, if_true]
      · intro h
        rw [getD_set_ne true (by decide), h12]
        exact ⟨HBd.out.size, heap_alloc_new _ _⟩
      · intro h
        exact set_same (by omega)
    · obtain rfl := Option.some.inj ho
      have d11 : listed.getD 11 true = true := hd ⟨11, .data⟩ (by simp) rfl
      have d10 : listed.getD 10 true = true := hd ⟨10, .data⟩ (by simp) rfl
      clear ho hd
      unfold meetFrame
      simp only [hl, d11, d10, if_true, Bool.false_eq_true, if_false]
      obtain ⟨x7, h7⟩ : ∃ x, x = (if listed.getD 0 true = true then (.pointer (some ⟨n, 0, none⟩) : Value) else undef) := ⟨_, rfl⟩
      rw [← h7]
      have H7 := Aside0.mk h7
      clear h7
      obtain ⟨x8, h8⟩ : ∃ x, x = (if listed.getD 1 true = true then (.agg #[.int .u64 (a.f0).f0, .int .u64 (a.f0).f1] : Value) else undef) := ⟨_, rfl⟩
      rw [← h8]
      have H8 := Aside0.mk h8
      clear h8
      obtain ⟨x9, h9⟩ : ∃ x, x = (if listed.getD 2 true = true then (.pointer (some ⟨n + 1, 0, none⟩) : Value) else undef) := ⟨_, rfl⟩
      rw [← h9]
      have H9 := Aside0.mk h9
      clear h9
      obtain ⟨x10, h10⟩ : ∃ x, x = (if listed.getD 3 true = true then (.agg #[.int .u64 (b.f0).f0, .int .u64 (b.f0).f1] : Value) else undef) := ⟨_, rfl⟩
      rw [← h10]
      have H10 := Aside0.mk h10
      clear h10
      obtain ⟨x11, h11⟩ : ∃ x, x = (if listed.getD 4 true = true then (.agg #[.int .u64 (maxA a.f0 b.f0).f0, .int .u64 (maxA a.f0 b.f0).f1] : Value) else undef) := ⟨_, rfl⟩
      rw [← h11]
      have H11 := Aside0.mk h11
      clear h11
      obtain ⟨x12, h12⟩ : ∃ x, x = (if listed.getD 5 true = true then (.pointer (some ⟨n, 2, none⟩) : Value) else undef) := ⟨_, rfl⟩
      rw [← h12]
      have H12 := Aside0.mk h12
      clear h12
      obtain ⟨x13, h13⟩ : ∃ x, x = (if listed.getD 6 true = true then (.agg #[.int .u64 (a.f1).f0, .int .u64 (a.f1).f1] : Value) else undef) := ⟨_, rfl⟩
      rw [← h13]
      have H13 := Aside0.mk h13
      clear h13
      obtain ⟨x14, h14⟩ : ∃ x, x = (if listed.getD 7 true = true then (.pointer (some ⟨n + 1, 2, none⟩) : Value) else undef) := ⟨_, rfl⟩
      rw [← h14]
      have H14 := Aside0.mk h14
      clear h14
      obtain ⟨x15, h15⟩ : ∃ x, x = (if listed.getD 8 true = true then (.agg #[.int .u64 (b.f1).f0, .int .u64 (b.f1).f1] : Value) else undef) := ⟨_, rfl⟩
      rw [← h15]
      have H15 := Aside0.mk h15
      clear h15
      obtain ⟨x16, h16⟩ : ∃ x, x = (if listed.getD 9 true = true then (.agg #[.int .u64 (minA a.f1 b.f1).f0, .int .u64 (minA a.f1 b.f1).f1] : Value) else undef) := ⟨_, rfl⟩
      rw [← h16]
      have H16 := Aside0.mk h16
      clear h16
      obtain ⟨hg, hb⟩ := HMd.out d11
      rw [hl] at hb
      simp only [Bool.false_eq_true, if_false] at hb
      have m0 : w'.cell? ⟨g, 0, none⟩ = some (.int .u64 0) := by simp [World.cell?, hb]
      have f0 : w'.frozen? ⟨g, 0, none⟩ = false := by simp [World.frozen?, hb]
      have m1 : w'.cell? ⟨g, 1, none⟩ = some (.int .u64 0) := by simp [World.cell?, hb]
      have f1 : w'.frozen? ⟨g, 1, none⟩ = false := by simp [World.frozen?, hb]
      have m2 : w'.cell? ⟨g, 2, none⟩ = some (.int .u64 0) := by simp [World.cell?, hb]
      have f2 : w'.frozen? ⟨g, 2, none⟩ = false := by simp [World.frozen?, hb]
      have m3 : w'.cell? ⟨g, 3, none⟩ = some (.int .u64 0) := by simp [World.cell?, hb]
      have f3 : w'.frozen? ⟨g, 3, none⟩ = false := by simp [World.frozen?, hb]
      have HBK := Aside0.mk hb
      clear hb
      go_wp2
      show ∃ g, MeetJ a b n W0 _ _ _ g
      refine ⟨g, ⟨by simp [hs], ?_, (((HBd.out.setCell (by exact hg) _).setCell (by exact hg) _).setCell (by exact hg) _).setCell (by exact hg) _, ?_, ?_⟩⟩
      · unfold meetFrame
        have e0 : (listed.setIfInBounds 12 true).getD 0 true = listed.getD 0 true := getD_set_ne true (by decide)
        have e1 : (listed.setIfInBounds 12 true).getD 1 true = listed.getD 1 true := getD_set_ne true (by decide)
        have e2 : (listed.setIfInBounds 12 true).getD 2 true = listed.getD 2 true := getD_set_ne true (by decide)
        have e3 : (listed.setIfInBounds 12 true).getD 3 true = listed.getD 3 true := getD_set_ne true (by decide)
        have e4 : (listed.setIfInBounds 12 true).getD 4 true = listed.getD 4 true := getD_set_ne true (by decide)
        have e5 : (listed.setIfInBounds 12 true).getD 5 true = listed.getD 5 true := getD_set_ne true (by decide)
        have e6 : (listed.setIfInBounds 12 true).getD 6 true = listed.getD 6 true := getD_set_ne true (by decide)
        have e7 : (listed.setIfInBounds 12 true).getD 7 true = listed.getD 7 true := getD_set_ne true (by decide)
        have e8 : (listed.setIfInBounds 12 true).getD 8 true = listed.getD 8 true := getD_set_ne true (by decide)
        have e9 : (listed.setIfInBounds 12 true).getD 9 true = listed.getD 9 true := getD_set_ne true (by decide)
        have e10 : (listed.setIfInBounds 12 true).getD 10 true = listed.getD 10 true := getD_set_ne true (by decide)
        have e11 : (listed.setIfInBounds 12 true).getD 11 true = listed.getD 11 true := getD_set_ne true (by decide)
        have ek : (listed.setIfInBounds 12 true).getD 12 true = true := set_same (by omega)
        rw [H7.out, H8.out, H9.out, H10.out, H11.out, H12.out, H13.out, H14.out, H15.out, H16.out]
        simp only [e0, e1, e2, e3, e4, e5, e6, e7, e8, e9, e10, e11, ek, d11, d10, if_true]
      · intro h
        rw [set_same (by omega)]
        exact ⟨hg, (heap_setCell_same _ g 3 _ 26 _ (heap_setCell_same _ g 2 _ 26 _ (heap_setCell_same _ g 1 _ 26 _ (heap_setCell_same _ g 0 _ 26 _ HBK.out)))).trans rfl⟩
      · intro h
        rw [getD_set_ne true (by decide)]
        exact d11
  · rintro listed x w' ⟨g, hJ⟩ hall
    obtain ⟨hs, rfl, hB, hM, _⟩ := hJ
    have q0 : listed.getD 0 true = true := hall 0 (by decide)
    have q1 : listed.getD 1 true = true := hall 1 (by decide)
    have q2 : listed.getD 2 true = true := hall 2 (by decide)
    have q3 : listed.getD 3 true = true := hall 3 (by decide)
    have q4 : listed.getD 4 true = true := hall 4 (by decide)
    have q5 : listed.getD 5 true = true := hall 5 (by decide)
    have q6 : listed.getD 6 true = true := hall 6 (by decide)
    have q7 : listed.getD 7 true = true := hall 7 (by decide)
    have q8 : listed.getD 8 true = true := hall 8 (by decide)
    have q9 : listed.getD 9 true = true := hall 9 (by decide)
    have q10 : listed.getD 10 true = true := hall 10 (by decide)
    have q11 : listed.getD 11 true = true := hall 11 (by decide)
    have q12 : listed.getD 12 true = true := hall 12 (by decide)
    obtain ⟨hg, hb⟩ := hM q11
    rw [if_pos q12] at hb
    unfold meetFrame
    simp only [q0, q1, q2, q3, q4, q5, q6, q7, q8, q9, q10, q11, q12, if_true]
    clear hM hall
    have m0 : w'.cell? ⟨g, 0, none⟩ = some (.int .u64 (maxA a.f0 b.f0).f0) := by simp [World.cell?, hb]
    have m1 : w'.cell? ⟨g, 1, none⟩ = some (.int .u64 (maxA a.f0 b.f0).f1) := by simp [World.cell?, hb]
    have m2 : w'.cell? ⟨g, 2, none⟩ = some (.int .u64 (minA a.f1 b.f1).f0) := by simp [World.cell?, hb]
    have m3 : w'.cell? ⟨g, 3, none⟩ = some (.int .u64 (minA a.f1 b.f1).f1) := by simp [World.cell?, hb]
    have hbr := (hB.block (n + 1 + 1) (by have := HS.out; omega)).trans HBR.out
    have r0 : w'.cell? ⟨n + 1 + 1, 0, none⟩ = some (.int .u64 0) := by simp [World.cell?, hbr]
    have z0 : w'.frozen? ⟨n + 1 + 1, 0, none⟩ = false := by simp [World.frozen?, hbr]
    have r1 : w'.cell? ⟨n + 1 + 1, 1, none⟩ = some (.int .u64 0) := by simp [World.cell?, hbr]
    have z1 : w'.frozen? ⟨n + 1 + 1, 1, none⟩ = false := by simp [World.frozen?, hbr]
    have r2 : w'.cell? ⟨n + 1 + 1, 2, none⟩ = some (.int .u64 0) := by simp [World.cell?, hbr]
    have z2 : w'.frozen? ⟨n + 1 + 1, 2, none⟩ = false := by simp [World.frozen?, hbr]
    have r3 : w'.cell? ⟨n + 1 + 1, 3, none⟩ = some (.int .u64 0) := by simp [World.cell?, hbr]
    have z3 : w'.frozen? ⟨n + 1 + 1, 3, none⟩ = false := by simp [World.frozen?, hbr]
    have HBW := Aside0.mk (show Below w.heap.size w w' from below_then HB0.out HB0.out.size hB)
    have hgl : g < w'.heap.size := World.block_lt_of_cell? w' _ m0
    have hrl : n + 1 + 1 < w'.heap.size := World.block_lt_of_cell? w' _ r0
    have hne : g ≠ n + 1 + 1 := by have := HS.out; omega
    clear hB hb hbr hg a0 a1 a2 a3 a4 a5 a6 a7
    have HC := Aside0.mk (fun (v : Bool) (hv : noneR (meetR a b) = v) W => show Calls Try.prog 49 #[.agg #[.int .u64 (maxA a.f0 b.f0).f0, .int .u64 (maxA a.f0 b.f0).f1, .int .u64 (minA a.f1 b.f1).f0, .int .u64 (minA a.f1 b.f1).f1]] W (fun e w' => e = .returned (.bool v) ∧ Below W.heap.size W w') by rw [← hv]; exact none_any _ _ _ _ W)
    cases hv : noneR (meetR a b) with
    | true =>
      have H := Aside0.mk (show meetO a b = (zr, false) from if_pos hv)
      have H2 := Aside0.mk (HC.out true hv)
      clear hv
      go_wp2_with fail
      refine (H2.out _).mono ?_
      rintro e w2 ⟨rfl, hb2⟩
      have HB2 := Aside0.mk (below_then HBW.out HBW.out.size hb2)
      replace m0 := pw_cell_below hb2 m0
      replace r0 := pw_cell_below hb2 r0
      replace z0 : w2.frozen? ⟨n + 1 + 1, 0, none⟩ = false := (hb2.frozen (p := ⟨n + 1 + 1, 0, none⟩) hrl).trans z0
      replace m1 := pw_cell_below hb2 m1
      replace r1 := pw_cell_below hb2 r1
      replace z1 : w2.frozen? ⟨n + 1 + 1, 1, none⟩ = false := (hb2.frozen (p := ⟨n + 1 + 1, 1, none⟩) hrl).trans z1
      replace m2 := pw_cell_below hb2 m2
      replace r2 := pw_cell_below hb2 r2
      replace z2 : w2.frozen? ⟨n + 1 + 1, 2, none⟩ = false := (hb2.frozen (p := ⟨n + 1 + 1, 2, none⟩) hrl).trans z2
      replace m3 := pw_cell_below hb2 m3
      replace r3 := pw_cell_below hb2 r3
      replace z3 : w2.frozen? ⟨n + 1 + 1, 3, none⟩ = false := (hb2.frozen (p := ⟨n + 1 + 1, 3, none⟩) hrl).trans z3
      replace hgl : g < w2.heap.size := World.block_lt_of_cell? w2 _ m0
      replace hrl : n + 1 + 1 < w2.heap.size := World.block_lt_of_cell? w2 _ r0
      clear hb2
      go_wp2
      refine bodyPost_ret (v := .tuple #[.agg #[.int .u64 0, .int .u64 0, .int .u64 0, .int .u64 0], .bool false]) (by simp [results, Try.results36, go_sem, r0, r1, r2, r3, hrl]) rfl ?_
      exact ⟨by rw [H.out]; rfl, by have HH := HB2.out; have := HN.out; go_grown⟩
    | false =>
      have H := Aside0.mk (show meetO a b = (meetR a b, true) from if_neg (by rw [hv]; decide))
      have H2 := Aside0.mk (HC.out false hv)
      clear hv
      go_wp2_with fail
      refine (H2.out _).mono ?_
      rintro e w2 ⟨rfl, hb2⟩
      have HB2 := Aside0.mk (below_then HBW.out HBW.out.size hb2)
      replace m0 := pw_cell_below hb2 m0
      replace r0 := pw_cell_below hb2 r0
      replace z0 : w2.frozen? ⟨n + 1 + 1, 0, none⟩ = false := (hb2.frozen (p := ⟨n + 1 + 1, 0, none⟩) hrl).trans z0
      replace m1 := pw_cell_below hb2 m1
      replace r1 := pw_cell_below hb2 r1
      replace z1 : w2.frozen? ⟨n + 1 + 1, 1, none⟩ = false := (hb2.frozen (p := ⟨n + 1 + 1, 1, none⟩) hrl).trans z1
      replace m2 := pw_cell_below hb2 m2
      replace r2 := pw_cell_below hb2 r2
      replace z2 : w2.frozen? ⟨n + 1 + 1, 2, none⟩ = false := (hb2.frozen (p := ⟨n + 1 + 1, 2, none⟩) hrl).trans z2
      replace m3 := pw_cell_below hb2 m3
      replace r3 := pw_cell_below hb2 r3
      replace z3 : w2.frozen? ⟨n + 1 + 1, 3, none⟩ = false := (hb2.frozen (p := ⟨n + 1 + 1, 3, none⟩) hrl).trans z3
      replace hgl : g < w2.heap.size := World.block_lt_of_cell? w2 _ m0
      replace hrl : n + 1 + 1 < w2.heap.size := World.block_lt_of_cell? w2 _ r0
      clear hb2
      go_wp2
      refine bodyPost_ret (v := .tuple #[.agg #[.int .u64 (maxA a.f0 b.f0).f0, .int .u64 (maxA a.f0 b.f0).f1, .int .u64 (minA a.f1 b.f1).f0, .int .u64 (minA a.f1 b.f1).f1], .bool true]) (by simp [results, Try.results36, go_sem, r0, r1, r2, r3, hrl]) rfl ?_
      exact ⟨by rw [H.out]; rfl, by have HH := HB2.out; have := HN.out; go_grown⟩
end Go.Proofs.Ytcgcognejjpcmaa
