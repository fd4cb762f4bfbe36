/- The values' own types and how their cells read (written by the kit's kinds.py for this seat's types). -/
import Derived.Test.YtgppfpfdoooijaaProg
import Derived.Test.YtgppfpfdoooijaaWWords
namespace Go.Proofs.Ytgppfpfdoooijaa
open Go.RowKit Go.Proofs.YtgppfpfdoooijaaW.PrintWords
set_option linter.unusedVariables false
/-! #### struct type 39 -/
structure S39 where
  f0 : Int
  f1 : Int
def z39 : S39 := ⟨(0 : Int), (0 : Int)⟩
def k39 : Kd S39 := Kd.iso (Kd.pair (Kd.int .u64) (Kd.int .u64)) (fun x : S39 => (x.f0, x.f1))
theorem k39_open {w : World} {x : S39} {cs : List Value} (h : k39.K w x cs) : cs = [.int .u64 x.f0, .int .u64 x.f1] := by
  obtain ⟨_, _, rfl, rfl, rfl⟩ := h
  exact rfl
theorem k39_openM {w : World} {base : Nat} {ok : Nat → Prop} {x : S39} {cs : List Value} (h : k39.M w base ok x cs) : cs = [.int .u64 x.f0, .int .u64 x.f1] := by
  obtain ⟨_, _, rfl, rfl, rfl⟩ := h
  exact rfl
theorem k39_mk (w : World) (x : S39)  : k39.K w x [.int .u64 x.f0, .int .u64 x.f1] := ⟨[.int .u64 x.f0], [.int .u64 x.f1], rfl, rfl, rfl⟩
theorem k39_mkM (w : World) (base : Nat) (ok : Nat → Prop) (x : S39)  : k39.M w base ok x [.int .u64 x.f0, .int .u64 x.f1] := ⟨[.int .u64 x.f0], [.int .u64 x.f1], rfl, rfl, rfl⟩
def rd_T39 (xs : List S39) (i : Int) : S39 := xs.getD i.toNat z39
theorem at_T39 {w : World} {A : Option Addr} {n : Nat} {xs : List S39} (h : Kd.C k39 w A n xs) (i : Int) (h0 : 0 ≤ i) (h1 : i < n) : ∃ ad , A = some ad ∧ w.cell? (ad.add (i.toNat * 2)) = some (.int .u64 (rd_T39 xs i).f0) ∧ w.cell? ⟨(ad.add (i.toNat * 2)).block, (ad.add (i.toNat * 2)).off + 1, none⟩ = some (.int .u64 (rd_T39 xs i).f1) := by
  obtain ⟨ad, c, e, _, hK, hc0⟩ := Kd.C_get h z39 i h0 h1
  have hc : ∀ j u, c[j]? = some u → w.cell? (ad.add (i.toNat * 2 + j)) = some u := hc0
  obtain rfl := k39_open hK
  exact ⟨ad, e, hc 0 _ rfl, by rw [← add_field _ _ 1 (by omega)]; exact hc 1 _ rfl⟩

/-! #### struct type 44 -/
structure S44 where
  f0 : S39
  f1 : S39
def z44 : S44 := ⟨z39, z39⟩
def k44 : Kd S44 := Kd.iso (Kd.pair k39 k39) (fun x : S44 => (x.f0, x.f1))
theorem k44_open {w : World} {x : S44} {cs : List Value} (h : k44.K w x cs) : cs = [.int .u64 x.f0.f0, .int .u64 x.f0.f1, .int .u64 x.f1.f0, .int .u64 x.f1.f1] := by
  obtain ⟨_, _, rfl, s0, s2⟩ := h
  obtain rfl := k39_open s0
  obtain rfl := k39_open s2
  exact rfl
theorem k44_openM {w : World} {base : Nat} {ok : Nat → Prop} {x : S44} {cs : List Value} (h : k44.M w base ok x cs) : cs = [.int .u64 x.f0.f0, .int .u64 x.f0.f1, .int .u64 x.f1.f0, .int .u64 x.f1.f1] := by
  obtain ⟨_, _, rfl, s0, s2⟩ := h
  obtain rfl := k39_openM s0
  obtain rfl := k39_openM s2
  exact rfl
theorem k44_mk (w : World) (x : S44)  : k44.K w x [.int .u64 x.f0.f0, .int .u64 x.f0.f1, .int .u64 x.f1.f0, .int .u64 x.f1.f1] := ⟨[.int .u64 x.f0.f0, .int .u64 x.f0.f1], [.int .u64 x.f1.f0, .int .u64 x.f1.f1], rfl, (k39_mk w x.f0 ), (k39_mk w x.f1 )⟩
theorem k44_mkM (w : World) (base : Nat) (ok : Nat → Prop) (x : S44)  : k44.M w base ok x [.int .u64 x.f0.f0, .int .u64 x.f0.f1, .int .u64 x.f1.f0, .int .u64 x.f1.f1] := ⟨[.int .u64 x.f0.f0, .int .u64 x.f0.f1], [.int .u64 x.f1.f0, .int .u64 x.f1.f1], rfl, (k39_mkM w base ok x.f0 ), (k39_mkM w base ok x.f1 )⟩
def rd_T44 (xs : List S44) (i : Int) : S44 := xs.getD i.toNat z44
theorem at_T44 {w : World} {A : Option Addr} {n : Nat} {xs : List S44} (h : Kd.C k44 w A n xs) (i : Int) (h0 : 0 ≤ i) (h1 : i < n) : ∃ ad , A = some ad ∧ w.cell? (ad.add (i.toNat * 4)) = some (.int .u64 (rd_T44 xs i).f0.f0) ∧ w.cell? ⟨(ad.add (i.toNat * 4)).block, (ad.add (i.toNat * 4)).off + 1, none⟩ = some (.int .u64 (rd_T44 xs i).f0.f1) ∧ w.cell? ⟨(ad.add (i.toNat * 4)).block, (ad.add (i.toNat * 4)).off + 2, none⟩ = some (.int .u64 (rd_T44 xs i).f1.f0) ∧ w.cell? ⟨(ad.add (i.toNat * 4)).block, (ad.add (i.toNat * 4)).off + 3, none⟩ = some (.int .u64 (rd_T44 xs i).f1.f1) := by
  obtain ⟨ad, c, e, _, hK, hc0⟩ := Kd.C_get h z44 i h0 h1
  have hc : ∀ j u, c[j]? = some u → w.cell? (ad.add (i.toNat * 4 + j)) = some u := hc0
  obtain rfl := k44_open hK
  exact ⟨ad, e, hc 0 _ rfl, by rw [← add_field _ _ 1 (by omega)]; exact hc 1 _ rfl, by rw [← add_field _ _ 2 (by omega)]; exact hc 2 _ rfl, by rw [← add_field _ _ 3 (by omega)]; exact hc 3 _ rfl⟩

def rd_L6 (xs : List (List Int)) (i : Int) : (List Int) := xs.getD i.toNat ([] : List Int)
theorem at_L6 {w : World} {A : Option Addr} {n : Nat} {xs : List (List Int)} (h : Kd.C (Kd.slice 3 (Kd.int .i64)) w A n xs) (i : Int) (h0 : 0 ≤ i) (h1 : i < n) : ∃ ad A0 c0, A = some ad ∧ w.cell? (ad.add i.toNat) = some (.slice A0 (rd_L6 xs i).length c0) ∧ (rd_L6 xs i).length ≤ c0 ∧ (Kd.int .i64).C w A0 (rd_L6 xs i).length (rd_L6 xs i) := by
  obtain ⟨ad, c, e, _, hK, hc0⟩ := Kd.C_get h ([] : List Int) i h0 h1
  have hc : ∀ j u, c[j]? = some u → w.cell? (ad.add (i.toNat * 1 + j)) = some u := hc0
  obtain ⟨A0, c0, rfl, l0, g0⟩ := hK
  exact ⟨ad, A0, c0, e, by have hq := hc 0 _ rfl; rwa [Nat.mul_one, Nat.add_zero] at hq, l0, g0⟩

def rd_L7 (xs : List (List S44)) (i : Int) : (List S44) := xs.getD i.toNat ([] : List S44)
theorem at_L7 {w : World} {A : Option Addr} {n : Nat} {xs : List (List S44)} (h : Kd.C (Kd.slice 44 k44) w A n xs) (i : Int) (h0 : 0 ≤ i) (h1 : i < n) : ∃ ad A0 c0, A = some ad ∧ w.cell? (ad.add i.toNat) = some (.slice A0 (rd_L7 xs i).length c0) ∧ (rd_L7 xs i).length ≤ c0 ∧ k44.C w A0 (rd_L7 xs i).length (rd_L7 xs i) := by
  obtain ⟨ad, c, e, _, hK, hc0⟩ := Kd.C_get h ([] : List S44) i h0 h1
  have hc : ∀ j u, c[j]? = some u → w.cell? (ad.add (i.toNat * 1 + j)) = some u := hc0
  obtain ⟨A0, c0, rfl, l0, g0⟩ := hK
  exact ⟨ad, A0, c0, e, by have hq := hc 0 _ rfl; rwa [Nat.mul_one, Nat.add_zero] at hq, l0, g0⟩

/-! #### struct type 54 -/
structure S54 where
  f0 : ByteArray
  f1 : S39
  f2 : (List Int)
def z54 : S54 := ⟨(⟨#[]⟩ : ByteArray), z39, ([] : List Int)⟩
def k54 : Kd S54 := Kd.iso (Kd.pair Kd.string (Kd.pair k39 (Kd.slice 3 (Kd.int .i64)))) (fun x : S54 => (x.f0, x.f1, x.f2))
theorem k54_open {w : World} {x : S54} {cs : List Value} (h : k54.K w x cs) : ∃ A3 c3, cs = [.string x.f0, .int .u64 x.f1.f0, .int .u64 x.f1.f1, .slice A3 x.f2.length c3] ∧ x.f2.length ≤ c3 ∧ (Kd.int .i64).C w A3 x.f2.length x.f2 := by
  obtain ⟨_, _, rfl, rfl, ⟨_, _, rfl, s1, ⟨A3, c3, rfl, l3, g3⟩⟩⟩ := h
  obtain rfl := k39_open s1
  exact ⟨A3, c3, rfl, l3, g3⟩
theorem k54_openM {w : World} {base : Nat} {ok : Nat → Prop} {x : S54} {cs : List Value} (h : k54.M w base ok x cs) : ∃ v3, cs = [.string x.f0, .int .u64 x.f1.f0, .int .u64 x.f1.f1, v3] ∧ (Kd.int .i64).R 3 w base ok v3 x.f2 := by
  obtain ⟨_, _, rfl, rfl, ⟨_, _, rfl, s1, ⟨v3, rfl, g3⟩⟩⟩ := h
  obtain rfl := k39_openM s1
  exact ⟨v3, rfl, g3⟩
theorem k54_mk (w : World) (x : S54) {A3 : Option Addr} {c3 : Nat} (l3 : x.f2.length ≤ c3) (g3 : (Kd.int .i64).C w A3 x.f2.length x.f2) : k54.K w x [.string x.f0, .int .u64 x.f1.f0, .int .u64 x.f1.f1, .slice A3 x.f2.length c3] := ⟨[.string x.f0], [.int .u64 x.f1.f0, .int .u64 x.f1.f1, .slice A3 x.f2.length c3], rfl, rfl, ⟨[.int .u64 x.f1.f0, .int .u64 x.f1.f1], [.slice A3 x.f2.length c3], rfl, (k39_mk w x.f1 ), ⟨A3, c3, rfl, l3, g3⟩⟩⟩
theorem k54_mkM (w : World) (base : Nat) (ok : Nat → Prop) (x : S54) {v3 : Value} (g3 : (Kd.int .i64).R 3 w base ok v3 x.f2) : k54.M w base ok x [.string x.f0, .int .u64 x.f1.f0, .int .u64 x.f1.f1, v3] := ⟨[.string x.f0], [.int .u64 x.f1.f0, .int .u64 x.f1.f1, v3], rfl, rfl, ⟨[.int .u64 x.f1.f0, .int .u64 x.f1.f1], [v3], rfl, (k39_mkM w base ok x.f1 ), ⟨v3, rfl, g3⟩⟩⟩
def rd_T54 (xs : List S54) (i : Int) : S54 := xs.getD i.toNat z54
theorem at_T54 {w : World} {A : Option Addr} {n : Nat} {xs : List S54} (h : Kd.C k54 w A n xs) (i : Int) (h0 : 0 ≤ i) (h1 : i < n) : ∃ ad A3 c3, A = some ad ∧ w.cell? (ad.add (i.toNat * 4)) = some (.string (rd_T54 xs i).f0) ∧ w.cell? ⟨(ad.add (i.toNat * 4)).block, (ad.add (i.toNat * 4)).off + 1, none⟩ = some (.int .u64 (rd_T54 xs i).f1.f0) ∧ w.cell? ⟨(ad.add (i.toNat * 4)).block, (ad.add (i.toNat * 4)).off + 2, none⟩ = some (.int .u64 (rd_T54 xs i).f1.f1) ∧ w.cell? ⟨(ad.add (i.toNat * 4)).block, (ad.add (i.toNat * 4)).off + 3, none⟩ = some (.slice A3 (rd_T54 xs i).f2.length c3) ∧ (rd_T54 xs i).f2.length ≤ c3 ∧ (Kd.int .i64).C w A3 (rd_T54 xs i).f2.length (rd_T54 xs i).f2 := by
  obtain ⟨ad, c, e, _, hK, hc0⟩ := Kd.C_get h z54 i h0 h1
  have hc : ∀ j u, c[j]? = some u → w.cell? (ad.add (i.toNat * 4 + j)) = some u := hc0
  obtain ⟨A3, c3, rfl, l3, g3⟩ := k54_open hK
  exact ⟨ad, A3, c3, e, hc 0 _ rfl, by rw [← add_field _ _ 1 (by omega)]; exact hc 1 _ rfl, by rw [← add_field _ _ 2 (by omega)]; exact hc 2 _ rfl, by rw [← add_field _ _ 3 (by omega)]; exact hc 3 _ rfl, l3, g3⟩

/-! #### struct type 85 -/
structure S85 where
  f0 : ByteArray
  f1 : (List S44)
def z85 : S85 := ⟨(⟨#[]⟩ : ByteArray), ([] : List S44)⟩
def k85 : Kd S85 := Kd.iso (Kd.pair Kd.string (Kd.slice 44 k44)) (fun x : S85 => (x.f0, x.f1))
theorem k85_open {w : World} {x : S85} {cs : List Value} (h : k85.K w x cs) : ∃ A1 c1, cs = [.string x.f0, .slice A1 x.f1.length c1] ∧ x.f1.length ≤ c1 ∧ k44.C w A1 x.f1.length x.f1 := by
  obtain ⟨_, _, rfl, rfl, ⟨A1, c1, rfl, l1, g1⟩⟩ := h
  exact ⟨A1, c1, rfl, l1, g1⟩
theorem k85_openM {w : World} {base : Nat} {ok : Nat → Prop} {x : S85} {cs : List Value} (h : k85.M w base ok x cs) : ∃ v1, cs = [.string x.f0, v1] ∧ k44.R 44 w base ok v1 x.f1 := by
  obtain ⟨_, _, rfl, rfl, ⟨v1, rfl, g1⟩⟩ := h
  exact ⟨v1, rfl, g1⟩
theorem k85_mk (w : World) (x : S85) {A1 : Option Addr} {c1 : Nat} (l1 : x.f1.length ≤ c1) (g1 : k44.C w A1 x.f1.length x.f1) : k85.K w x [.string x.f0, .slice A1 x.f1.length c1] := ⟨[.string x.f0], [.slice A1 x.f1.length c1], rfl, rfl, ⟨A1, c1, rfl, l1, g1⟩⟩
theorem k85_mkM (w : World) (base : Nat) (ok : Nat → Prop) (x : S85) {v1 : Value} (g1 : k44.R 44 w base ok v1 x.f1) : k85.M w base ok x [.string x.f0, v1] := ⟨[.string x.f0], [v1], rfl, rfl, ⟨v1, rfl, g1⟩⟩
def rd_T85 (xs : List S85) (i : Int) : S85 := xs.getD i.toNat z85
theorem at_T85 {w : World} {A : Option Addr} {n : Nat} {xs : List S85} (h : Kd.C k85 w A n xs) (i : Int) (h0 : 0 ≤ i) (h1 : i < n) : ∃ ad A1 c1, A = some ad ∧ w.cell? (ad.add (i.toNat * 2)) = some (.string (rd_T85 xs i).f0) ∧ w.cell? ⟨(ad.add (i.toNat * 2)).block, (ad.add (i.toNat * 2)).off + 1, none⟩ = some (.slice A1 (rd_T85 xs i).f1.length c1) ∧ (rd_T85 xs i).f1.length ≤ c1 ∧ k44.C w A1 (rd_T85 xs i).f1.length (rd_T85 xs i).f1 := by
  obtain ⟨ad, c, e, _, hK, hc0⟩ := Kd.C_get h z85 i h0 h1
  have hc : ∀ j u, c[j]? = some u → w.cell? (ad.add (i.toNat * 2 + j)) = some u := hc0
  obtain ⟨A1, c1, rfl, l1, g1⟩ := k85_open hK
  exact ⟨ad, A1, c1, e, hc 0 _ rfl, by rw [← add_field _ _ 1 (by omega)]; exact hc 1 _ rfl, l1, g1⟩

/-! #### struct type 116 -/
structure S116 where
  f0 : ByteArray
  f1 : Int
  f2 : Int
  f3 : Int
def z116 : S116 := ⟨(⟨#[]⟩ : ByteArray), (0 : Int), (0 : Int), (0 : Int)⟩
def k116 : Kd S116 := Kd.iso (Kd.pair Kd.string (Kd.pair (Kd.int .i64) (Kd.pair (Kd.int .i64) (Kd.int .i64)))) (fun x : S116 => (x.f0, x.f1, x.f2, x.f3))
theorem k116_open {w : World} {x : S116} {cs : List Value} (h : k116.K w x cs) : cs = [.string x.f0, .int .i64 x.f1, .int .i64 x.f2, .int .i64 x.f3] := by
  obtain ⟨_, _, rfl, rfl, ⟨_, _, rfl, rfl, ⟨_, _, rfl, rfl, rfl⟩⟩⟩ := h
  exact rfl
theorem k116_openM {w : World} {base : Nat} {ok : Nat → Prop} {x : S116} {cs : List Value} (h : k116.M w base ok x cs) : cs = [.string x.f0, .int .i64 x.f1, .int .i64 x.f2, .int .i64 x.f3] := by
  obtain ⟨_, _, rfl, rfl, ⟨_, _, rfl, rfl, ⟨_, _, rfl, rfl, rfl⟩⟩⟩ := h
  exact rfl
theorem k116_mk (w : World) (x : S116)  : k116.K w x [.string x.f0, .int .i64 x.f1, .int .i64 x.f2, .int .i64 x.f3] := ⟨[.string x.f0], [.int .i64 x.f1, .int .i64 x.f2, .int .i64 x.f3], rfl, rfl, ⟨[.int .i64 x.f1], [.int .i64 x.f2, .int .i64 x.f3], rfl, rfl, ⟨[.int .i64 x.f2], [.int .i64 x.f3], rfl, rfl, rfl⟩⟩⟩
theorem k116_mkM (w : World) (base : Nat) (ok : Nat → Prop) (x : S116)  : k116.M w base ok x [.string x.f0, .int .i64 x.f1, .int .i64 x.f2, .int .i64 x.f3] := ⟨[.string x.f0], [.int .i64 x.f1, .int .i64 x.f2, .int .i64 x.f3], rfl, rfl, ⟨[.int .i64 x.f1], [.int .i64 x.f2, .int .i64 x.f3], rfl, rfl, ⟨[.int .i64 x.f2], [.int .i64 x.f3], rfl, rfl, rfl⟩⟩⟩
def rd_T116 (xs : List S116) (i : Int) : S116 := xs.getD i.toNat z116
theorem at_T116 {w : World} {A : Option Addr} {n : Nat} {xs : List S116} (h : Kd.C k116 w A n xs) (i : Int) (h0 : 0 ≤ i) (h1 : i < n) : ∃ ad , A = some ad ∧ w.cell? (ad.add (i.toNat * 4)) = some (.string (rd_T116 xs i).f0) ∧ w.cell? ⟨(ad.add (i.toNat * 4)).block, (ad.add (i.toNat * 4)).off + 1, none⟩ = some (.int .i64 (rd_T116 xs i).f1) ∧ w.cell? ⟨(ad.add (i.toNat * 4)).block, (ad.add (i.toNat * 4)).off + 2, none⟩ = some (.int .i64 (rd_T116 xs i).f2) ∧ w.cell? ⟨(ad.add (i.toNat * 4)).block, (ad.add (i.toNat * 4)).off + 3, none⟩ = some (.int .i64 (rd_T116 xs i).f3) := by
  obtain ⟨ad, c, e, _, hK, hc0⟩ := Kd.C_get h z116 i h0 h1
  have hc : ∀ j u, c[j]? = some u → w.cell? (ad.add (i.toNat * 4 + j)) = some u := hc0
  obtain rfl := k116_open hK
  exact ⟨ad, e, hc 0 _ rfl, by rw [← add_field _ _ 1 (by omega)]; exact hc 1 _ rfl, by rw [← add_field _ _ 2 (by omega)]; exact hc 2 _ rfl, by rw [← add_field _ _ 3 (by omega)]; exact hc 3 _ rfl⟩

/-! #### struct type 102 -/
structure S102 where
  f0 : ByteArray
  f1 : Int
  f2 : Int
  f3 : Bool
def z102 : S102 := ⟨(⟨#[]⟩ : ByteArray), (0 : Int), (0 : Int), false⟩
def k102 : Kd S102 := Kd.iso (Kd.pair Kd.string (Kd.pair (Kd.int .i64) (Kd.pair (Kd.int .i64) Kd.bool))) (fun x : S102 => (x.f0, x.f1, x.f2, x.f3))
theorem k102_open {w : World} {x : S102} {cs : List Value} (h : k102.K w x cs) : cs = [.string x.f0, .int .i64 x.f1, .int .i64 x.f2, .bool x.f3] := by
  obtain ⟨_, _, rfl, rfl, ⟨_, _, rfl, rfl, ⟨_, _, rfl, rfl, rfl⟩⟩⟩ := h
  exact rfl
theorem k102_openM {w : World} {base : Nat} {ok : Nat → Prop} {x : S102} {cs : List Value} (h : k102.M w base ok x cs) : cs = [.string x.f0, .int .i64 x.f1, .int .i64 x.f2, .bool x.f3] := by
  obtain ⟨_, _, rfl, rfl, ⟨_, _, rfl, rfl, ⟨_, _, rfl, rfl, rfl⟩⟩⟩ := h
  exact rfl
theorem k102_mk (w : World) (x : S102)  : k102.K w x [.string x.f0, .int .i64 x.f1, .int .i64 x.f2, .bool x.f3] := ⟨[.string x.f0], [.int .i64 x.f1, .int .i64 x.f2, .bool x.f3], rfl, rfl, ⟨[.int .i64 x.f1], [.int .i64 x.f2, .bool x.f3], rfl, rfl, ⟨[.int .i64 x.f2], [.bool x.f3], rfl, rfl, rfl⟩⟩⟩
theorem k102_mkM (w : World) (base : Nat) (ok : Nat → Prop) (x : S102)  : k102.M w base ok x [.string x.f0, .int .i64 x.f1, .int .i64 x.f2, .bool x.f3] := ⟨[.string x.f0], [.int .i64 x.f1, .int .i64 x.f2, .bool x.f3], rfl, rfl, ⟨[.int .i64 x.f1], [.int .i64 x.f2, .bool x.f3], rfl, rfl, ⟨[.int .i64 x.f2], [.bool x.f3], rfl, rfl, rfl⟩⟩⟩
def rd_T102 (xs : List S102) (i : Int) : S102 := xs.getD i.toNat z102
theorem at_T102 {w : World} {A : Option Addr} {n : Nat} {xs : List S102} (h : Kd.C k102 w A n xs) (i : Int) (h0 : 0 ≤ i) (h1 : i < n) : ∃ ad , A = some ad ∧ w.cell? (ad.add (i.toNat * 4)) = some (.string (rd_T102 xs i).f0) ∧ w.cell? ⟨(ad.add (i.toNat * 4)).block, (ad.add (i.toNat * 4)).off + 1, none⟩ = some (.int .i64 (rd_T102 xs i).f1) ∧ w.cell? ⟨(ad.add (i.toNat * 4)).block, (ad.add (i.toNat * 4)).off + 2, none⟩ = some (.int .i64 (rd_T102 xs i).f2) ∧ w.cell? ⟨(ad.add (i.toNat * 4)).block, (ad.add (i.toNat * 4)).off + 3, none⟩ = some (.bool (rd_T102 xs i).f3) := by
  obtain ⟨ad, c, e, _, hK, hc0⟩ := Kd.C_get h z102 i h0 h1
  have hc : ∀ j u, c[j]? = some u → w.cell? (ad.add (i.toNat * 4 + j)) = some u := hc0
  obtain rfl := k102_open hK
  exact ⟨ad, e, hc 0 _ rfl, by rw [← add_field _ _ 1 (by omega)]; exact hc 1 _ rfl, by rw [← add_field _ _ 2 (by omega)]; exact hc 2 _ rfl, by rw [← add_field _ _ 3 (by omega)]; exact hc 3 _ rfl⟩

/-! #### struct type 46 -/
structure S46 where
  f0 : S44
  f1 : Int
  f2 : Int
def z46 : S46 := ⟨z44, (0 : Int), (0 : Int)⟩
def k46 : Kd S46 := Kd.iso (Kd.pair k44 (Kd.pair (Kd.int .i64) (Kd.int .i64))) (fun x : S46 => (x.f0, x.f1, x.f2))
theorem k46_open {w : World} {x : S46} {cs : List Value} (h : k46.K w x cs) : cs = [.int .u64 x.f0.f0.f0, .int .u64 x.f0.f0.f1, .int .u64 x.f0.f1.f0, .int .u64 x.f0.f1.f1, .int .i64 x.f1, .int .i64 x.f2] := by
  obtain ⟨_, _, rfl, s0, ⟨_, _, rfl, rfl, rfl⟩⟩ := h
  obtain rfl := k44_open s0
  exact rfl
theorem k46_openM {w : World} {base : Nat} {ok : Nat → Prop} {x : S46} {cs : List Value} (h : k46.M w base ok x cs) : cs = [.int .u64 x.f0.f0.f0, .int .u64 x.f0.f0.f1, .int .u64 x.f0.f1.f0, .int .u64 x.f0.f1.f1, .int .i64 x.f1, .int .i64 x.f2] := by
  obtain ⟨_, _, rfl, s0, ⟨_, _, rfl, rfl, rfl⟩⟩ := h
  obtain rfl := k44_openM s0
  exact rfl
theorem k46_mk (w : World) (x : S46)  : k46.K w x [.int .u64 x.f0.f0.f0, .int .u64 x.f0.f0.f1, .int .u64 x.f0.f1.f0, .int .u64 x.f0.f1.f1, .int .i64 x.f1, .int .i64 x.f2] := ⟨[.int .u64 x.f0.f0.f0, .int .u64 x.f0.f0.f1, .int .u64 x.f0.f1.f0, .int .u64 x.f0.f1.f1], [.int .i64 x.f1, .int .i64 x.f2], rfl, (k44_mk w x.f0 ), ⟨[.int .i64 x.f1], [.int .i64 x.f2], rfl, rfl, rfl⟩⟩
theorem k46_mkM (w : World) (base : Nat) (ok : Nat → Prop) (x : S46)  : k46.M w base ok x [.int .u64 x.f0.f0.f0, .int .u64 x.f0.f0.f1, .int .u64 x.f0.f1.f0, .int .u64 x.f0.f1.f1, .int .i64 x.f1, .int .i64 x.f2] := ⟨[.int .u64 x.f0.f0.f0, .int .u64 x.f0.f0.f1, .int .u64 x.f0.f1.f0, .int .u64 x.f0.f1.f1], [.int .i64 x.f1, .int .i64 x.f2], rfl, (k44_mkM w base ok x.f0 ), ⟨[.int .i64 x.f1], [.int .i64 x.f2], rfl, rfl, rfl⟩⟩
def rd_T46 (xs : List S46) (i : Int) : S46 := xs.getD i.toNat z46
theorem at_T46 {w : World} {A : Option Addr} {n : Nat} {xs : List S46} (h : Kd.C k46 w A n xs) (i : Int) (h0 : 0 ≤ i) (h1 : i < n) : ∃ ad , A = some ad ∧ w.cell? (ad.add (i.toNat * 6)) = some (.int .u64 (rd_T46 xs i).f0.f0.f0) ∧ w.cell? ⟨(ad.add (i.toNat * 6)).block, (ad.add (i.toNat * 6)).off + 1, none⟩ = some (.int .u64 (rd_T46 xs i).f0.f0.f1) ∧ w.cell? ⟨(ad.add (i.toNat * 6)).block, (ad.add (i.toNat * 6)).off + 2, none⟩ = some (.int .u64 (rd_T46 xs i).f0.f1.f0) ∧ w.cell? ⟨(ad.add (i.toNat * 6)).block, (ad.add (i.toNat * 6)).off + 3, none⟩ = some (.int .u64 (rd_T46 xs i).f0.f1.f1) ∧ w.cell? ⟨(ad.add (i.toNat * 6)).block, (ad.add (i.toNat * 6)).off + 4, none⟩ = some (.int .i64 (rd_T46 xs i).f1) ∧ w.cell? ⟨(ad.add (i.toNat * 6)).block, (ad.add (i.toNat * 6)).off + 5, none⟩ = some (.int .i64 (rd_T46 xs i).f2) := by
  obtain ⟨ad, c, e, _, hK, hc0⟩ := Kd.C_get h z46 i h0 h1
  have hc : ∀ j u, c[j]? = some u → w.cell? (ad.add (i.toNat * 6 + j)) = some u := hc0
  obtain rfl := k46_open hK
  exact ⟨ad, e, hc 0 _ rfl, by rw [← add_field _ _ 1 (by omega)]; exact hc 1 _ rfl, by rw [← add_field _ _ 2 (by omega)]; exact hc 2 _ rfl, by rw [← add_field _ _ 3 (by omega)]; exact hc 3 _ rfl, by rw [← add_field _ _ 4 (by omega)]; exact hc 4 _ rfl, by rw [← add_field _ _ 5 (by omega)]; exact hc 5 _ rfl⟩

/-! #### struct type 56 -/
structure S56 where
  f0 : Int
  f1 : ByteArray
  f2 : ByteArray
  f3 : ByteArray
  f4 : S39
  f5 : S39
  f6 : Int
  f7 : Int
def z56 : S56 := ⟨(0 : Int), (⟨#[]⟩ : ByteArray), (⟨#[]⟩ : ByteArray), (⟨#[]⟩ : ByteArray), z39, z39, (0 : Int), (0 : Int)⟩
def k56 : Kd S56 := Kd.iso (Kd.pair (Kd.int .i64) (Kd.pair Kd.string (Kd.pair Kd.string (Kd.pair Kd.string (Kd.pair k39 (Kd.pair k39 (Kd.pair (Kd.int .i64) (Kd.int .i64)))))))) (fun x : S56 => (x.f0, x.f1, x.f2, x.f3, x.f4, x.f5, x.f6, x.f7))
theorem k56_open {w : World} {x : S56} {cs : List Value} (h : k56.K w x cs) : cs = [.int .i64 x.f0, .string x.f1, .string x.f2, .string x.f3, .int .u64 x.f4.f0, .int .u64 x.f4.f1, .int .u64 x.f5.f0, .int .u64 x.f5.f1, .int .i64 x.f6, .int .i64 x.f7] := by
  obtain ⟨_, _, rfl, rfl, ⟨_, _, rfl, rfl, ⟨_, _, rfl, rfl, ⟨_, _, rfl, rfl, ⟨_, _, rfl, s4, ⟨_, _, rfl, s6, ⟨_, _, rfl, rfl, rfl⟩⟩⟩⟩⟩⟩⟩ := h
  obtain rfl := k39_open s4
  obtain rfl := k39_open s6
  exact rfl
theorem k56_openM {w : World} {base : Nat} {ok : Nat → Prop} {x : S56} {cs : List Value} (h : k56.M w base ok x cs) : cs = [.int .i64 x.f0, .string x.f1, .string x.f2, .string x.f3, .int .u64 x.f4.f0, .int .u64 x.f4.f1, .int .u64 x.f5.f0, .int .u64 x.f5.f1, .int .i64 x.f6, .int .i64 x.f7] := by
  obtain ⟨_, _, rfl, rfl, ⟨_, _, rfl, rfl, ⟨_, _, rfl, rfl, ⟨_, _, rfl, rfl, ⟨_, _, rfl, s4, ⟨_, _, rfl, s6, ⟨_, _, rfl, rfl, rfl⟩⟩⟩⟩⟩⟩⟩ := h
  obtain rfl := k39_openM s4
  obtain rfl := k39_openM s6
  exact rfl
theorem k56_mk (w : World) (x : S56)  : k56.K w x [.int .i64 x.f0, .string x.f1, .string x.f2, .string x.f3, .int .u64 x.f4.f0, .int .u64 x.f4.f1, .int .u64 x.f5.f0, .int .u64 x.f5.f1, .int .i64 x.f6, .int .i64 x.f7] := ⟨[.int .i64 x.f0], [.string x.f1, .string x.f2, .string x.f3, .int .u64 x.f4.f0, .int .u64 x.f4.f1, .int .u64 x.f5.f0, .int .u64 x.f5.f1, .int .i64 x.f6, .int .i64 x.f7], rfl, rfl, ⟨[.string x.f1], [.string x.f2, .string x.f3, .int .u64 x.f4.f0, .int .u64 x.f4.f1, .int .u64 x.f5.f0, .int .u64 x.f5.f1, .int .i64 x.f6, .int .i64 x.f7], rfl, rfl, ⟨[.string x.f2], [.string x.f3, .int .u64 x.f4.f0, .int .u64 x.f4.f1, .int .u64 x.f5.f0, .int .u64 x.f5.f1, .int .i64 x.f6, .int .i64 x.f7], rfl, rfl, ⟨[.string x.f3], [.int .u64 x.f4.f0, .int .u64 x.f4.f1, .int .u64 x.f5.f0, .int .u64 x.f5.f1, .int .i64 x.f6, .int .i64 x.f7], rfl, rfl, ⟨[.int .u64 x.f4.f0, .int .u64 x.f4.f1], [.int .u64 x.f5.f0, .int .u64 x.f5.f1, .int .i64 x.f6, .int .i64 x.f7], rfl, (k39_mk w x.f4 ), ⟨[.int .u64 x.f5.f0, .int .u64 x.f5.f1], [.int .i64 x.f6, .int .i64 x.f7], rfl, (k39_mk w x.f5 ), ⟨[.int .i64 x.f6], [.int .i64 x.f7], rfl, rfl, rfl⟩⟩⟩⟩⟩⟩⟩
theorem k56_mkM (w : World) (base : Nat) (ok : Nat → Prop) (x : S56)  : k56.M w base ok x [.int .i64 x.f0, .string x.f1, .string x.f2, .string x.f3, .int .u64 x.f4.f0, .int .u64 x.f4.f1, .int .u64 x.f5.f0, .int .u64 x.f5.f1, .int .i64 x.f6, .int .i64 x.f7] := ⟨[.int .i64 x.f0], [.string x.f1, .string x.f2, .string x.f3, .int .u64 x.f4.f0, .int .u64 x.f4.f1, .int .u64 x.f5.f0, .int .u64 x.f5.f1, .int .i64 x.f6, .int .i64 x.f7], rfl, rfl, ⟨[.string x.f1], [.string x.f2, .string x.f3, .int .u64 x.f4.f0, .int .u64 x.f4.f1, .int .u64 x.f5.f0, .int .u64 x.f5.f1, .int .i64 x.f6, .int .i64 x.f7], rfl, rfl, ⟨[.string x.f2], [.string x.f3, .int .u64 x.f4.f0, .int .u64 x.f4.f1, .int .u64 x.f5.f0, .int .u64 x.f5.f1, .int .i64 x.f6, .int .i64 x.f7], rfl, rfl, ⟨[.string x.f3], [.int .u64 x.f4.f0, .int .u64 x.f4.f1, .int .u64 x.f5.f0, .int .u64 x.f5.f1, .int .i64 x.f6, .int .i64 x.f7], rfl, rfl, ⟨[.int .u64 x.f4.f0, .int .u64 x.f4.f1], [.int .u64 x.f5.f0, .int .u64 x.f5.f1, .int .i64 x.f6, .int .i64 x.f7], rfl, (k39_mkM w base ok x.f4 ), ⟨[.int .u64 x.f5.f0, .int .u64 x.f5.f1], [.int .i64 x.f6, .int .i64 x.f7], rfl, (k39_mkM w base ok x.f5 ), ⟨[.int .i64 x.f6], [.int .i64 x.f7], rfl, rfl, rfl⟩⟩⟩⟩⟩⟩⟩
def rd_T56 (xs : List S56) (i : Int) : S56 := xs.getD i.toNat z56
theorem at_T56 {w : World} {A : Option Addr} {n : Nat} {xs : List S56} (h : Kd.C k56 w A n xs) (i : Int) (h0 : 0 ≤ i) (h1 : i < n) : ∃ ad , A = some ad ∧ w.cell? (ad.add (i.toNat * 10)) = some (.int .i64 (rd_T56 xs i).f0) ∧ w.cell? ⟨(ad.add (i.toNat * 10)).block, (ad.add (i.toNat * 10)).off + 1, none⟩ = some (.string (rd_T56 xs i).f1) ∧ w.cell? ⟨(ad.add (i.toNat * 10)).block, (ad.add (i.toNat * 10)).off + 2, none⟩ = some (.string (rd_T56 xs i).f2) ∧ w.cell? ⟨(ad.add (i.toNat * 10)).block, (ad.add (i.toNat * 10)).off + 3, none⟩ = some (.string (rd_T56 xs i).f3) ∧ w.cell? ⟨(ad.add (i.toNat * 10)).block, (ad.add (i.toNat * 10)).off + 4, none⟩ = some (.int .u64 (rd_T56 xs i).f4.f0) ∧ w.cell? ⟨(ad.add (i.toNat * 10)).block, (ad.add (i.toNat * 10)).off + 5, none⟩ = some (.int .u64 (rd_T56 xs i).f4.f1) ∧ w.cell? ⟨(ad.add (i.toNat * 10)).block, (ad.add (i.toNat * 10)).off + 6, none⟩ = some (.int .u64 (rd_T56 xs i).f5.f0) ∧ w.cell? ⟨(ad.add (i.toNat * 10)).block, (ad.add (i.toNat * 10)).off + 7, none⟩ = some (.int .u64 (rd_T56 xs i).f5.f1) ∧ w.cell? ⟨(ad.add (i.toNat * 10)).block, (ad.add (i.toNat * 10)).off + 8, none⟩ = some (.int .i64 (rd_T56 xs i).f6) ∧ w.cell? ⟨(ad.add (i.toNat * 10)).block, (ad.add (i.toNat * 10)).off + 9, none⟩ = some (.int .i64 (rd_T56 xs i).f7) := by
  obtain ⟨ad, c, e, _, hK, hc0⟩ := Kd.C_get h z56 i h0 h1
  have hc : ∀ j u, c[j]? = some u → w.cell? (ad.add (i.toNat * 10 + j)) = some u := hc0
  obtain rfl := k56_open hK
  exact ⟨ad, e, hc 0 _ rfl, by rw [← add_field _ _ 1 (by omega)]; exact hc 1 _ rfl, by rw [← add_field _ _ 2 (by omega)]; exact hc 2 _ rfl, by rw [← add_field _ _ 3 (by omega)]; exact hc 3 _ rfl, by rw [← add_field _ _ 4 (by omega)]; exact hc 4 _ rfl, by rw [← add_field _ _ 5 (by omega)]; exact hc 5 _ rfl, by rw [← add_field _ _ 6 (by omega)]; exact hc 6 _ rfl, by rw [← add_field _ _ 7 (by omega)]; exact hc 7 _ rfl, by rw [← add_field _ _ 8 (by omega)]; exact hc 8 _ rfl, by rw [← add_field _ _ 9 (by omega)]; exact hc 9 _ rfl⟩

/-! #### struct type 68 -/
structure S68 where
  f0 : ByteArray
  f1 : ByteArray
  f2 : ByteArray
  f3 : ByteArray
  f4 : ByteArray
  f5 : Int
  f6 : ByteArray
  f7 : Bool
def z68 : S68 := ⟨(⟨#[]⟩ : ByteArray), (⟨#[]⟩ : ByteArray), (⟨#[]⟩ : ByteArray), (⟨#[]⟩ : ByteArray), (⟨#[]⟩ : ByteArray), (0 : Int), (⟨#[]⟩ : ByteArray), false⟩
def k68 : Kd S68 := Kd.iso (Kd.pair Kd.string (Kd.pair Kd.string (Kd.pair Kd.string (Kd.pair Kd.string (Kd.pair Kd.string (Kd.pair (Kd.int .i64) (Kd.pair Kd.string Kd.bool))))))) (fun x : S68 => (x.f0, x.f1, x.f2, x.f3, x.f4, x.f5, x.f6, x.f7))
theorem k68_open {w : World} {x : S68} {cs : List Value} (h : k68.K w x cs) : cs = [.string x.f0, .string x.f1, .string x.f2, .string x.f3, .string x.f4, .int .i64 x.f5, .string x.f6, .bool x.f7] := by
  obtain ⟨_, _, rfl, rfl, ⟨_, _, rfl, rfl, ⟨_, _, rfl, rfl, ⟨_, _, rfl, rfl, ⟨_, _, rfl, rfl, ⟨_, _, rfl, rfl, ⟨_, _, rfl, rfl, rfl⟩⟩⟩⟩⟩⟩⟩ := h
  exact rfl
theorem k68_openM {w : World} {base : Nat} {ok : Nat → Prop} {x : S68} {cs : List Value} (h : k68.M w base ok x cs) : cs = [.string x.f0, .string x.f1, .string x.f2, .string x.f3, .string x.f4, .int .i64 x.f5, .string x.f6, .bool x.f7] := by
  obtain ⟨_, _, rfl, rfl, ⟨_, _, rfl, rfl, ⟨_, _, rfl, rfl, ⟨_, _, rfl, rfl, ⟨_, _, rfl, rfl, ⟨_, _, rfl, rfl, ⟨_, _, rfl, rfl, rfl⟩⟩⟩⟩⟩⟩⟩ := h
  exact rfl
theorem k68_mk (w : World) (x : S68)  : k68.K w x [.string x.f0, .string x.f1, .string x.f2, .string x.f3, .string x.f4, .int .i64 x.f5, .string x.f6, .bool x.f7] := ⟨[.string x.f0], [.string x.f1, .string x.f2, .string x.f3, .string x.f4, .int .i64 x.f5, .string x.f6, .bool x.f7], rfl, rfl, ⟨[.string x.f1], [.string x.f2, .string x.f3, .string x.f4, .int .i64 x.f5, .string x.f6, .bool x.f7], rfl, rfl, ⟨[.string x.f2], [.string x.f3, .string x.f4, .int .i64 x.f5, .string x.f6, .bool x.f7], rfl, rfl, ⟨[.string x.f3], [.string x.f4, .int .i64 x.f5, .string x.f6, .bool x.f7], rfl, rfl, ⟨[.string x.f4], [.int .i64 x.f5, .string x.f6, .bool x.f7], rfl, rfl, ⟨[.int .i64 x.f5], [.string x.f6, .bool x.f7], rfl, rfl, ⟨[.string x.f6], [.bool x.f7], rfl, rfl, rfl⟩⟩⟩⟩⟩⟩⟩
theorem k68_mkM (w : World) (base : Nat) (ok : Nat → Prop) (x : S68)  : k68.M w base ok x [.string x.f0, .string x.f1, .string x.f2, .string x.f3, .string x.f4, .int .i64 x.f5, .string x.f6, .bool x.f7] := ⟨[.string x.f0], [.string x.f1, .string x.f2, .string x.f3, .string x.f4, .int .i64 x.f5, .string x.f6, .bool x.f7], rfl, rfl, ⟨[.string x.f1], [.string x.f2, .string x.f3, .string x.f4, .int .i64 x.f5, .string x.f6, .bool x.f7], rfl, rfl, ⟨[.string x.f2], [.string x.f3, .string x.f4, .int .i64 x.f5, .string x.f6, .bool x.f7], rfl, rfl, ⟨[.string x.f3], [.string x.f4, .int .i64 x.f5, .string x.f6, .bool x.f7], rfl, rfl, ⟨[.string x.f4], [.int .i64 x.f5, .string x.f6, .bool x.f7], rfl, rfl, ⟨[.int .i64 x.f5], [.string x.f6, .bool x.f7], rfl, rfl, ⟨[.string x.f6], [.bool x.f7], rfl, rfl, rfl⟩⟩⟩⟩⟩⟩⟩
def rd_T68 (xs : List S68) (i : Int) : S68 := xs.getD i.toNat z68
theorem at_T68 {w : World} {A : Option Addr} {n : Nat} {xs : List S68} (h : Kd.C k68 w A n xs) (i : Int) (h0 : 0 ≤ i) (h1 : i < n) : ∃ ad , A = some ad ∧ w.cell? (ad.add (i.toNat * 8)) = some (.string (rd_T68 xs i).f0) ∧ w.cell? ⟨(ad.add (i.toNat * 8)).block, (ad.add (i.toNat * 8)).off + 1, none⟩ = some (.string (rd_T68 xs i).f1) ∧ w.cell? ⟨(ad.add (i.toNat * 8)).block, (ad.add (i.toNat * 8)).off + 2, none⟩ = some (.string (rd_T68 xs i).f2) ∧ w.cell? ⟨(ad.add (i.toNat * 8)).block, (ad.add (i.toNat * 8)).off + 3, none⟩ = some (.string (rd_T68 xs i).f3) ∧ w.cell? ⟨(ad.add (i.toNat * 8)).block, (ad.add (i.toNat * 8)).off + 4, none⟩ = some (.string (rd_T68 xs i).f4) ∧ w.cell? ⟨(ad.add (i.toNat * 8)).block, (ad.add (i.toNat * 8)).off + 5, none⟩ = some (.int .i64 (rd_T68 xs i).f5) ∧ w.cell? ⟨(ad.add (i.toNat * 8)).block, (ad.add (i.toNat * 8)).off + 6, none⟩ = some (.string (rd_T68 xs i).f6) ∧ w.cell? ⟨(ad.add (i.toNat * 8)).block, (ad.add (i.toNat * 8)).off + 7, none⟩ = some (.bool (rd_T68 xs i).f7) := by
  obtain ⟨ad, c, e, _, hK, hc0⟩ := Kd.C_get h z68 i h0 h1
  have hc : ∀ j u, c[j]? = some u → w.cell? (ad.add (i.toNat * 8 + j)) = some u := hc0
  obtain rfl := k68_open hK
  exact ⟨ad, e, hc 0 _ rfl, by rw [← add_field _ _ 1 (by omega)]; exact hc 1 _ rfl, by rw [← add_field _ _ 2 (by omega)]; exact hc 2 _ rfl, by rw [← add_field _ _ 3 (by omega)]; exact hc 3 _ rfl, by rw [← add_field _ _ 4 (by omega)]; exact hc 4 _ rfl, by rw [← add_field _ _ 5 (by omega)]; exact hc 5 _ rfl, by rw [← add_field _ _ 6 (by omega)]; exact hc 6 _ rfl, by rw [← add_field _ _ 7 (by omega)]; exact hc 7 _ rfl⟩

/-! #### struct type 51 -/
structure S51 where
  f0 : Int
  f1 : S39
  f2 : S39
  f3 : Int
  f4 : Int
def z51 : S51 := ⟨(0 : Int), z39, z39, (0 : Int), (0 : Int)⟩
def k51 : Kd S51 := Kd.iso (Kd.pair (Kd.int .i64) (Kd.pair k39 (Kd.pair k39 (Kd.pair (Kd.int .i64) (Kd.int .i64))))) (fun x : S51 => (x.f0, x.f1, x.f2, x.f3, x.f4))
theorem k51_open {w : World} {x : S51} {cs : List Value} (h : k51.K w x cs) : cs = [.int .i64 x.f0, .int .u64 x.f1.f0, .int .u64 x.f1.f1, .int .u64 x.f2.f0, .int .u64 x.f2.f1, .int .i64 x.f3, .int .i64 x.f4] := by
  obtain ⟨_, _, rfl, rfl, ⟨_, _, rfl, s1, ⟨_, _, rfl, s3, ⟨_, _, rfl, rfl, rfl⟩⟩⟩⟩ := h
  obtain rfl := k39_open s1
  obtain rfl := k39_open s3
  exact rfl
theorem k51_openM {w : World} {base : Nat} {ok : Nat → Prop} {x : S51} {cs : List Value} (h : k51.M w base ok x cs) : cs = [.int .i64 x.f0, .int .u64 x.f1.f0, .int .u64 x.f1.f1, .int .u64 x.f2.f0, .int .u64 x.f2.f1, .int .i64 x.f3, .int .i64 x.f4] := by
  obtain ⟨_, _, rfl, rfl, ⟨_, _, rfl, s1, ⟨_, _, rfl, s3, ⟨_, _, rfl, rfl, rfl⟩⟩⟩⟩ := h
  obtain rfl := k39_openM s1
  obtain rfl := k39_openM s3
  exact rfl
theorem k51_mk (w : World) (x : S51)  : k51.K w x [.int .i64 x.f0, .int .u64 x.f1.f0, .int .u64 x.f1.f1, .int .u64 x.f2.f0, .int .u64 x.f2.f1, .int .i64 x.f3, .int .i64 x.f4] := ⟨[.int .i64 x.f0], [.int .u64 x.f1.f0, .int .u64 x.f1.f1, .int .u64 x.f2.f0, .int .u64 x.f2.f1, .int .i64 x.f3, .int .i64 x.f4], rfl, rfl, ⟨[.int .u64 x.f1.f0, .int .u64 x.f1.f1], [.int .u64 x.f2.f0, .int .u64 x.f2.f1, .int .i64 x.f3, .int .i64 x.f4], rfl, (k39_mk w x.f1 ), ⟨[.int .u64 x.f2.f0, .int .u64 x.f2.f1], [.int .i64 x.f3, .int .i64 x.f4], rfl, (k39_mk w x.f2 ), ⟨[.int .i64 x.f3], [.int .i64 x.f4], rfl, rfl, rfl⟩⟩⟩⟩
theorem k51_mkM (w : World) (base : Nat) (ok : Nat → Prop) (x : S51)  : k51.M w base ok x [.int .i64 x.f0, .int .u64 x.f1.f0, .int .u64 x.f1.f1, .int .u64 x.f2.f0, .int .u64 x.f2.f1, .int .i64 x.f3, .int .i64 x.f4] := ⟨[.int .i64 x.f0], [.int .u64 x.f1.f0, .int .u64 x.f1.f1, .int .u64 x.f2.f0, .int .u64 x.f2.f1, .int .i64 x.f3, .int .i64 x.f4], rfl, rfl, ⟨[.int .u64 x.f1.f0, .int .u64 x.f1.f1], [.int .u64 x.f2.f0, .int .u64 x.f2.f1, .int .i64 x.f3, .int .i64 x.f4], rfl, (k39_mkM w base ok x.f1 ), ⟨[.int .u64 x.f2.f0, .int .u64 x.f2.f1], [.int .i64 x.f3, .int .i64 x.f4], rfl, (k39_mkM w base ok x.f2 ), ⟨[.int .i64 x.f3], [.int .i64 x.f4], rfl, rfl, rfl⟩⟩⟩⟩
def rd_T51 (xs : List S51) (i : Int) : S51 := xs.getD i.toNat z51
theorem at_T51 {w : World} {A : Option Addr} {n : Nat} {xs : List S51} (h : Kd.C k51 w A n xs) (i : Int) (h0 : 0 ≤ i) (h1 : i < n) : ∃ ad , A = some ad ∧ w.cell? (ad.add (i.toNat * 7)) = some (.int .i64 (rd_T51 xs i).f0) ∧ w.cell? ⟨(ad.add (i.toNat * 7)).block, (ad.add (i.toNat * 7)).off + 1, none⟩ = some (.int .u64 (rd_T51 xs i).f1.f0) ∧ w.cell? ⟨(ad.add (i.toNat * 7)).block, (ad.add (i.toNat * 7)).off + 2, none⟩ = some (.int .u64 (rd_T51 xs i).f1.f1) ∧ w.cell? ⟨(ad.add (i.toNat * 7)).block, (ad.add (i.toNat * 7)).off + 3, none⟩ = some (.int .u64 (rd_T51 xs i).f2.f0) ∧ w.cell? ⟨(ad.add (i.toNat * 7)).block, (ad.add (i.toNat * 7)).off + 4, none⟩ = some (.int .u64 (rd_T51 xs i).f2.f1) ∧ w.cell? ⟨(ad.add (i.toNat * 7)).block, (ad.add (i.toNat * 7)).off + 5, none⟩ = some (.int .i64 (rd_T51 xs i).f3) ∧ w.cell? ⟨(ad.add (i.toNat * 7)).block, (ad.add (i.toNat * 7)).off + 6, none⟩ = some (.int .i64 (rd_T51 xs i).f4) := by
  obtain ⟨ad, c, e, _, hK, hc0⟩ := Kd.C_get h z51 i h0 h1
  have hc : ∀ j u, c[j]? = some u → w.cell? (ad.add (i.toNat * 7 + j)) = some u := hc0
  obtain rfl := k51_open hK
  exact ⟨ad, e, hc 0 _ rfl, by rw [← add_field _ _ 1 (by omega)]; exact hc 1 _ rfl, by rw [← add_field _ _ 2 (by omega)]; exact hc 2 _ rfl, by rw [← add_field _ _ 3 (by omega)]; exact hc 3 _ rfl, by rw [← add_field _ _ 4 (by omega)]; exact hc 4 _ rfl, by rw [← add_field _ _ 5 (by omega)]; exact hc 5 _ rfl, by rw [← add_field _ _ 6 (by omega)]; exact hc 6 _ rfl⟩

def rd_L16 (xs : List (List S54)) (i : Int) : (List S54) := xs.getD i.toNat ([] : List S54)
theorem at_L16 {w : World} {A : Option Addr} {n : Nat} {xs : List (List S54)} (h : Kd.C (Kd.slice 54 k54) w A n xs) (i : Int) (h0 : 0 ≤ i) (h1 : i < n) : ∃ ad A0 c0, A = some ad ∧ w.cell? (ad.add i.toNat) = some (.slice A0 (rd_L16 xs i).length c0) ∧ (rd_L16 xs i).length ≤ c0 ∧ k54.C w A0 (rd_L16 xs i).length (rd_L16 xs i) := by
  obtain ⟨ad, c, e, _, hK, hc0⟩ := Kd.C_get h ([] : List S54) i h0 h1
  have hc : ∀ j u, c[j]? = some u → w.cell? (ad.add (i.toNat * 1 + j)) = some u := hc0
  obtain ⟨A0, c0, rfl, l0, g0⟩ := hK
  exact ⟨ad, A0, c0, e, by have hq := hc 0 _ rfl; rwa [Nat.mul_one, Nat.add_zero] at hq, l0, g0⟩

def rd_L17 (xs : List (List S85)) (i : Int) : (List S85) := xs.getD i.toNat ([] : List S85)
theorem at_L17 {w : World} {A : Option Addr} {n : Nat} {xs : List (List S85)} (h : Kd.C (Kd.slice 85 k85) w A n xs) (i : Int) (h0 : 0 ≤ i) (h1 : i < n) : ∃ ad A0 c0, A = some ad ∧ w.cell? (ad.add i.toNat) = some (.slice A0 (rd_L17 xs i).length c0) ∧ (rd_L17 xs i).length ≤ c0 ∧ k85.C w A0 (rd_L17 xs i).length (rd_L17 xs i) := by
  obtain ⟨ad, c, e, _, hK, hc0⟩ := Kd.C_get h ([] : List S85) i h0 h1
  have hc : ∀ j u, c[j]? = some u → w.cell? (ad.add (i.toNat * 1 + j)) = some u := hc0
  obtain ⟨A0, c0, rfl, l0, g0⟩ := hK
  exact ⟨ad, A0, c0, e, by have hq := hc 0 _ rfl; rwa [Nat.mul_one, Nat.add_zero] at hq, l0, g0⟩

def rd_L18 (xs : List (List S116)) (i : Int) : (List S116) := xs.getD i.toNat ([] : List S116)
theorem at_L18 {w : World} {A : Option Addr} {n : Nat} {xs : List (List S116)} (h : Kd.C (Kd.slice 116 k116) w A n xs) (i : Int) (h0 : 0 ≤ i) (h1 : i < n) : ∃ ad A0 c0, A = some ad ∧ w.cell? (ad.add i.toNat) = some (.slice A0 (rd_L18 xs i).length c0) ∧ (rd_L18 xs i).length ≤ c0 ∧ k116.C w A0 (rd_L18 xs i).length (rd_L18 xs i) := by
  obtain ⟨ad, c, e, _, hK, hc0⟩ := Kd.C_get h ([] : List S116) i h0 h1
  have hc : ∀ j u, c[j]? = some u → w.cell? (ad.add (i.toNat * 1 + j)) = some u := hc0
  obtain ⟨A0, c0, rfl, l0, g0⟩ := hK
  exact ⟨ad, A0, c0, e, by have hq := hc 0 _ rfl; rwa [Nat.mul_one, Nat.add_zero] at hq, l0, g0⟩

def rd_L19 (xs : List (List S102)) (i : Int) : (List S102) := xs.getD i.toNat ([] : List S102)
theorem at_L19 {w : World} {A : Option Addr} {n : Nat} {xs : List (List S102)} (h : Kd.C (Kd.slice 102 k102) w A n xs) (i : Int) (h0 : 0 ≤ i) (h1 : i < n) : ∃ ad A0 c0, A = some ad ∧ w.cell? (ad.add i.toNat) = some (.slice A0 (rd_L19 xs i).length c0) ∧ (rd_L19 xs i).length ≤ c0 ∧ k102.C w A0 (rd_L19 xs i).length (rd_L19 xs i) := by
  obtain ⟨ad, c, e, _, hK, hc0⟩ := Kd.C_get h ([] : List S102) i h0 h1
  have hc : ∀ j u, c[j]? = some u → w.cell? (ad.add (i.toNat * 1 + j)) = some u := hc0
  obtain ⟨A0, c0, rfl, l0, g0⟩ := hK
  exact ⟨ad, A0, c0, e, by have hq := hc 0 _ rfl; rwa [Nat.mul_one, Nat.add_zero] at hq, l0, g0⟩

def rd_L20 (xs : List (List S46)) (i : Int) : (List S46) := xs.getD i.toNat ([] : List S46)
theorem at_L20 {w : World} {A : Option Addr} {n : Nat} {xs : List (List S46)} (h : Kd.C (Kd.slice 46 k46) w A n xs) (i : Int) (h0 : 0 ≤ i) (h1 : i < n) : ∃ ad A0 c0, A = some ad ∧ w.cell? (ad.add i.toNat) = some (.slice A0 (rd_L20 xs i).length c0) ∧ (rd_L20 xs i).length ≤ c0 ∧ k46.C w A0 (rd_L20 xs i).length (rd_L20 xs i) := by
  obtain ⟨ad, c, e, _, hK, hc0⟩ := Kd.C_get h ([] : List S46) i h0 h1
  have hc : ∀ j u, c[j]? = some u → w.cell? (ad.add (i.toNat * 1 + j)) = some u := hc0
  obtain ⟨A0, c0, rfl, l0, g0⟩ := hK
  exact ⟨ad, A0, c0, e, by have hq := hc 0 _ rfl; rwa [Nat.mul_one, Nat.add_zero] at hq, l0, g0⟩

def rd_L21 (xs : List (List S56)) (i : Int) : (List S56) := xs.getD i.toNat ([] : List S56)
theorem at_L21 {w : World} {A : Option Addr} {n : Nat} {xs : List (List S56)} (h : Kd.C (Kd.slice 56 k56) w A n xs) (i : Int) (h0 : 0 ≤ i) (h1 : i < n) : ∃ ad A0 c0, A = some ad ∧ w.cell? (ad.add i.toNat) = some (.slice A0 (rd_L21 xs i).length c0) ∧ (rd_L21 xs i).length ≤ c0 ∧ k56.C w A0 (rd_L21 xs i).length (rd_L21 xs i) := by
  obtain ⟨ad, c, e, _, hK, hc0⟩ := Kd.C_get h ([] : List S56) i h0 h1
  have hc : ∀ j u, c[j]? = some u → w.cell? (ad.add (i.toNat * 1 + j)) = some u := hc0
  obtain ⟨A0, c0, rfl, l0, g0⟩ := hK
  exact ⟨ad, A0, c0, e, by have hq := hc 0 _ rfl; rwa [Nat.mul_one, Nat.add_zero] at hq, l0, g0⟩

def rd_L22 (xs : List (List S68)) (i : Int) : (List S68) := xs.getD i.toNat ([] : List S68)
theorem at_L22 {w : World} {A : Option Addr} {n : Nat} {xs : List (List S68)} (h : Kd.C (Kd.slice 68 k68) w A n xs) (i : Int) (h0 : 0 ≤ i) (h1 : i < n) : ∃ ad A0 c0, A = some ad ∧ w.cell? (ad.add i.toNat) = some (.slice A0 (rd_L22 xs i).length c0) ∧ (rd_L22 xs i).length ≤ c0 ∧ k68.C w A0 (rd_L22 xs i).length (rd_L22 xs i) := by
  obtain ⟨ad, c, e, _, hK, hc0⟩ := Kd.C_get h ([] : List S68) i h0 h1
  have hc : ∀ j u, c[j]? = some u → w.cell? (ad.add (i.toNat * 1 + j)) = some u := hc0
  obtain ⟨A0, c0, rfl, l0, g0⟩ := hK
  exact ⟨ad, A0, c0, e, by have hq := hc 0 _ rfl; rwa [Nat.mul_one, Nat.add_zero] at hq, l0, g0⟩

/-! #### struct type 36 -/
structure S36 where
  f0 : (List S54)
  f1 : (List S85)
  f2 : (List S116)
  f3 : (List S102)
  f4 : (List S46)
  f5 : (List S56)
  f6 : (List S68)
  f7 : Int
def z36 : S36 := ⟨([] : List S54), ([] : List S85), ([] : List S116), ([] : List S102), ([] : List S46), ([] : List S56), ([] : List S68), (0 : Int)⟩
def k36 : Kd S36 := Kd.iso (Kd.pair (Kd.slice 54 k54) (Kd.pair (Kd.slice 85 k85) (Kd.pair (Kd.slice 116 k116) (Kd.pair (Kd.slice 102 k102) (Kd.pair (Kd.slice 46 k46) (Kd.pair (Kd.slice 56 k56) (Kd.pair (Kd.slice 68 k68) (Kd.int .i64)))))))) (fun x : S36 => (x.f0, x.f1, x.f2, x.f3, x.f4, x.f5, x.f6, x.f7))
theorem k36_open {w : World} {x : S36} {cs : List Value} (h : k36.K w x cs) : ∃ A0 c0 A1 c1 A2 c2 A3 c3 A4 c4 A5 c5 A6 c6, cs = [.slice A0 x.f0.length c0, .slice A1 x.f1.length c1, .slice A2 x.f2.length c2, .slice A3 x.f3.length c3, .slice A4 x.f4.length c4, .slice A5 x.f5.length c5, .slice A6 x.f6.length c6, .int .i64 x.f7] ∧ x.f0.length ≤ c0 ∧ k54.C w A0 x.f0.length x.f0 ∧ x.f1.length ≤ c1 ∧ k85.C w A1 x.f1.length x.f1 ∧ x.f2.length ≤ c2 ∧ k116.C w A2 x.f2.length x.f2 ∧ x.f3.length ≤ c3 ∧ k102.C w A3 x.f3.length x.f3 ∧ x.f4.length ≤ c4 ∧ k46.C w A4 x.f4.length x.f4 ∧ x.f5.length ≤ c5 ∧ k56.C w A5 x.f5.length x.f5 ∧ x.f6.length ≤ c6 ∧ k68.C w A6 x.f6.length x.f6 := by
  obtain ⟨_, _, rfl, ⟨A0, c0, rfl, l0, g0⟩, ⟨_, _, rfl, ⟨A1, c1, rfl, l1, g1⟩, ⟨_, _, rfl, ⟨A2, c2, rfl, l2, g2⟩, ⟨_, _, rfl, ⟨A3, c3, rfl, l3, g3⟩, ⟨_, _, rfl, ⟨A4, c4, rfl, l4, g4⟩, ⟨_, _, rfl, ⟨A5, c5, rfl, l5, g5⟩, ⟨_, _, rfl, ⟨A6, c6, rfl, l6, g6⟩, rfl⟩⟩⟩⟩⟩⟩⟩ := h
  exact ⟨A0, c0, A1, c1, A2, c2, A3, c3, A4, c4, A5, c5, A6, c6, rfl, l0, g0, l1, g1, l2, g2, l3, g3, l4, g4, l5, g5, l6, g6⟩
theorem k36_openM {w : World} {base : Nat} {ok : Nat → Prop} {x : S36} {cs : List Value} (h : k36.M w base ok x cs) : ∃ v0 v1 v2 v3 v4 v5 v6, cs = [v0, v1, v2, v3, v4, v5, v6, .int .i64 x.f7] ∧ k54.R 54 w base ok v0 x.f0 ∧ k85.R 85 w base ok v1 x.f1 ∧ k116.R 116 w base ok v2 x.f2 ∧ k102.R 102 w base ok v3 x.f3 ∧ k46.R 46 w base ok v4 x.f4 ∧ k56.R 56 w base ok v5 x.f5 ∧ k68.R 68 w base ok v6 x.f6 := by
  obtain ⟨_, _, rfl, ⟨v0, rfl, g0⟩, ⟨_, _, rfl, ⟨v1, rfl, g1⟩, ⟨_, _, rfl, ⟨v2, rfl, g2⟩, ⟨_, _, rfl, ⟨v3, rfl, g3⟩, ⟨_, _, rfl, ⟨v4, rfl, g4⟩, ⟨_, _, rfl, ⟨v5, rfl, g5⟩, ⟨_, _, rfl, ⟨v6, rfl, g6⟩, rfl⟩⟩⟩⟩⟩⟩⟩ := h
  exact ⟨v0, v1, v2, v3, v4, v5, v6, rfl, g0, g1, g2, g3, g4, g5, g6⟩
theorem k36_mk (w : World) (x : S36) {A0 : Option Addr} {c0 : Nat} (l0 : x.f0.length ≤ c0) (g0 : k54.C w A0 x.f0.length x.f0) {A1 : Option Addr} {c1 : Nat} (l1 : x.f1.length ≤ c1) (g1 : k85.C w A1 x.f1.length x.f1) {A2 : Option Addr} {c2 : Nat} (l2 : x.f2.length ≤ c2) (g2 : k116.C w A2 x.f2.length x.f2) {A3 : Option Addr} {c3 : Nat} (l3 : x.f3.length ≤ c3) (g3 : k102.C w A3 x.f3.length x.f3) {A4 : Option Addr} {c4 : Nat} (l4 : x.f4.length ≤ c4) (g4 : k46.C w A4 x.f4.length x.f4) {A5 : Option Addr} {c5 : Nat} (l5 : x.f5.length ≤ c5) (g5 : k56.C w A5 x.f5.length x.f5) {A6 : Option Addr} {c6 : Nat} (l6 : x.f6.length ≤ c6) (g6 : k68.C w A6 x.f6.length x.f6) : k36.K w x [.slice A0 x.f0.length c0, .slice A1 x.f1.length c1, .slice A2 x.f2.length c2, .slice A3 x.f3.length c3, .slice A4 x.f4.length c4, .slice A5 x.f5.length c5, .slice A6 x.f6.length c6, .int .i64 x.f7] := ⟨[.slice A0 x.f0.length c0], [.slice A1 x.f1.length c1, .slice A2 x.f2.length c2, .slice A3 x.f3.length c3, .slice A4 x.f4.length c4, .slice A5 x.f5.length c5, .slice A6 x.f6.length c6, .int .i64 x.f7], rfl, ⟨A0, c0, rfl, l0, g0⟩, ⟨[.slice A1 x.f1.length c1], [.slice A2 x.f2.length c2, .slice A3 x.f3.length c3, .slice A4 x.f4.length c4, .slice A5 x.f5.length c5, .slice A6 x.f6.length c6, .int .i64 x.f7], rfl, ⟨A1, c1, rfl, l1, g1⟩, ⟨[.slice A2 x.f2.length c2], [.slice A3 x.f3.length c3, .slice A4 x.f4.length c4, .slice A5 x.f5.length c5, .slice A6 x.f6.length c6, .int .i64 x.f7], rfl, ⟨A2, c2, rfl, l2, g2⟩, ⟨[.slice A3 x.f3.length c3], [.slice A4 x.f4.length c4, .slice A5 x.f5.length c5, .slice A6 x.f6.length c6, .int .i64 x.f7], rfl, ⟨A3, c3, rfl, l3, g3⟩, ⟨[.slice A4 x.f4.length c4], [.slice A5 x.f5.length c5, .slice A6 x.f6.length c6, .int .i64 x.f7], rfl, ⟨A4, c4, rfl, l4, g4⟩, ⟨[.slice A5 x.f5.length c5], [.slice A6 x.f6.length c6, .int .i64 x.f7], rfl, ⟨A5, c5, rfl, l5, g5⟩, ⟨[.slice A6 x.f6.length c6], [.int .i64 x.f7], rfl, ⟨A6, c6, rfl, l6, g6⟩, rfl⟩⟩⟩⟩⟩⟩⟩
theorem k36_mkM (w : World) (base : Nat) (ok : Nat → Prop) (x : S36) {v0 : Value} (g0 : k54.R 54 w base ok v0 x.f0) {v1 : Value} (g1 : k85.R 85 w base ok v1 x.f1) {v2 : Value} (g2 : k116.R 116 w base ok v2 x.f2) {v3 : Value} (g3 : k102.R 102 w base ok v3 x.f3) {v4 : Value} (g4 : k46.R 46 w base ok v4 x.f4) {v5 : Value} (g5 : k56.R 56 w base ok v5 x.f5) {v6 : Value} (g6 : k68.R 68 w base ok v6 x.f6) : k36.M w base ok x [v0, v1, v2, v3, v4, v5, v6, .int .i64 x.f7] := ⟨[v0], [v1, v2, v3, v4, v5, v6, .int .i64 x.f7], rfl, ⟨v0, rfl, g0⟩, ⟨[v1], [v2, v3, v4, v5, v6, .int .i64 x.f7], rfl, ⟨v1, rfl, g1⟩, ⟨[v2], [v3, v4, v5, v6, .int .i64 x.f7], rfl, ⟨v2, rfl, g2⟩, ⟨[v3], [v4, v5, v6, .int .i64 x.f7], rfl, ⟨v3, rfl, g3⟩, ⟨[v4], [v5, v6, .int .i64 x.f7], rfl, ⟨v4, rfl, g4⟩, ⟨[v5], [v6, .int .i64 x.f7], rfl, ⟨v5, rfl, g5⟩, ⟨[v6], [.int .i64 x.f7], rfl, ⟨v6, rfl, g6⟩, rfl⟩⟩⟩⟩⟩⟩⟩
def rd_T36 (xs : List S36) (i : Int) : S36 := xs.getD i.toNat z36
theorem at_T36 {w : World} {A : Option Addr} {n : Nat} {xs : List S36} (h : Kd.C k36 w A n xs) (i : Int) (h0 : 0 ≤ i) (h1 : i < n) : ∃ ad A0 c0 A1 c1 A2 c2 A3 c3 A4 c4 A5 c5 A6 c6, A = some ad ∧ w.cell? (ad.add (i.toNat * 8)) = some (.slice A0 (rd_T36 xs i).f0.length c0) ∧ w.cell? ⟨(ad.add (i.toNat * 8)).block, (ad.add (i.toNat * 8)).off + 1, none⟩ = some (.slice A1 (rd_T36 xs i).f1.length c1) ∧ w.cell? ⟨(ad.add (i.toNat * 8)).block, (ad.add (i.toNat * 8)).off + 2, none⟩ = some (.slice A2 (rd_T36 xs i).f2.length c2) ∧ w.cell? ⟨(ad.add (i.toNat * 8)).block, (ad.add (i.toNat * 8)).off + 3, none⟩ = some (.slice A3 (rd_T36 xs i).f3.length c3) ∧ w.cell? ⟨(ad.add (i.toNat * 8)).block, (ad.add (i.toNat * 8)).off + 4, none⟩ = some (.slice A4 (rd_T36 xs i).f4.length c4) ∧ w.cell? ⟨(ad.add (i.toNat * 8)).block, (ad.add (i.toNat * 8)).off + 5, none⟩ = some (.slice A5 (rd_T36 xs i).f5.length c5) ∧ w.cell? ⟨(ad.add (i.toNat * 8)).block, (ad.add (i.toNat * 8)).off + 6, none⟩ = some (.slice A6 (rd_T36 xs i).f6.length c6) ∧ w.cell? ⟨(ad.add (i.toNat * 8)).block, (ad.add (i.toNat * 8)).off + 7, none⟩ = some (.int .i64 (rd_T36 xs i).f7) ∧ (rd_T36 xs i).f0.length ≤ c0 ∧ k54.C w A0 (rd_T36 xs i).f0.length (rd_T36 xs i).f0 ∧ (rd_T36 xs i).f1.length ≤ c1 ∧ k85.C w A1 (rd_T36 xs i).f1.length (rd_T36 xs i).f1 ∧ (rd_T36 xs i).f2.length ≤ c2 ∧ k116.C w A2 (rd_T36 xs i).f2.length (rd_T36 xs i).f2 ∧ (rd_T36 xs i).f3.length ≤ c3 ∧ k102.C w A3 (rd_T36 xs i).f3.length (rd_T36 xs i).f3 ∧ (rd_T36 xs i).f4.length ≤ c4 ∧ k46.C w A4 (rd_T36 xs i).f4.length (rd_T36 xs i).f4 ∧ (rd_T36 xs i).f5.length ≤ c5 ∧ k56.C w A5 (rd_T36 xs i).f5.length (rd_T36 xs i).f5 ∧ (rd_T36 xs i).f6.length ≤ c6 ∧ k68.C w A6 (rd_T36 xs i).f6.length (rd_T36 xs i).f6 := by
  obtain ⟨ad, c, e, _, hK, hc0⟩ := Kd.C_get h z36 i h0 h1
  have hc : ∀ j u, c[j]? = some u → w.cell? (ad.add (i.toNat * 8 + j)) = some u := hc0
  obtain ⟨A0, c0, A1, c1, A2, c2, A3, c3, A4, c4, A5, c5, A6, c6, rfl, l0, g0, l1, g1, l2, g2, l3, g3, l4, g4, l5, g5, l6, g6⟩ := k36_open hK
  exact ⟨ad, A0, c0, A1, c1, A2, c2, A3, c3, A4, c4, A5, c5, A6, c6, e, hc 0 _ rfl, by rw [← add_field _ _ 1 (by omega)]; exact hc 1 _ rfl, by rw [← add_field _ _ 2 (by omega)]; exact hc 2 _ rfl, by rw [← add_field _ _ 3 (by omega)]; exact hc 3 _ rfl, by rw [← add_field _ _ 4 (by omega)]; exact hc 4 _ rfl, by rw [← add_field _ _ 5 (by omega)]; exact hc 5 _ rfl, by rw [← add_field _ _ 6 (by omega)]; exact hc 6 _ rfl, by rw [← add_field _ _ 7 (by omega)]; exact hc 7 _ rfl, l0, g0, l1, g1, l2, g2, l3, g3, l4, g4, l5, g5, l6, g6⟩

/-! #### struct type 62 -/
structure S62 where
  f0 : Int
  f1 : Int
  f2 : S51
def z62 : S62 := ⟨(0 : Int), (0 : Int), z51⟩
def k62 : Kd S62 := Kd.iso (Kd.pair (Kd.int .i64) (Kd.pair (Kd.int .i64) k51)) (fun x : S62 => (x.f0, x.f1, x.f2))
theorem k62_open {w : World} {x : S62} {cs : List Value} (h : k62.K w x cs) : cs = [.int .i64 x.f0, .int .i64 x.f1, .int .i64 x.f2.f0, .int .u64 x.f2.f1.f0, .int .u64 x.f2.f1.f1, .int .u64 x.f2.f2.f0, .int .u64 x.f2.f2.f1, .int .i64 x.f2.f3, .int .i64 x.f2.f4] := by
  obtain ⟨_, _, rfl, rfl, ⟨_, _, rfl, rfl, s2⟩⟩ := h
  obtain rfl := k51_open s2
  exact rfl
theorem k62_openM {w : World} {base : Nat} {ok : Nat → Prop} {x : S62} {cs : List Value} (h : k62.M w base ok x cs) : cs = [.int .i64 x.f0, .int .i64 x.f1, .int .i64 x.f2.f0, .int .u64 x.f2.f1.f0, .int .u64 x.f2.f1.f1, .int .u64 x.f2.f2.f0, .int .u64 x.f2.f2.f1, .int .i64 x.f2.f3, .int .i64 x.f2.f4] := by
  obtain ⟨_, _, rfl, rfl, ⟨_, _, rfl, rfl, s2⟩⟩ := h
  obtain rfl := k51_openM s2
  exact rfl
theorem k62_mk (w : World) (x : S62)  : k62.K w x [.int .i64 x.f0, .int .i64 x.f1, .int .i64 x.f2.f0, .int .u64 x.f2.f1.f0, .int .u64 x.f2.f1.f1, .int .u64 x.f2.f2.f0, .int .u64 x.f2.f2.f1, .int .i64 x.f2.f3, .int .i64 x.f2.f4] := ⟨[.int .i64 x.f0], [.int .i64 x.f1, .int .i64 x.f2.f0, .int .u64 x.f2.f1.f0, .int .u64 x.f2.f1.f1, .int .u64 x.f2.f2.f0, .int .u64 x.f2.f2.f1, .int .i64 x.f2.f3, .int .i64 x.f2.f4], rfl, rfl, ⟨[.int .i64 x.f1], [.int .i64 x.f2.f0, .int .u64 x.f2.f1.f0, .int .u64 x.f2.f1.f1, .int .u64 x.f2.f2.f0, .int .u64 x.f2.f2.f1, .int .i64 x.f2.f3, .int .i64 x.f2.f4], rfl, rfl, (k51_mk w x.f2 )⟩⟩
theorem k62_mkM (w : World) (base : Nat) (ok : Nat → Prop) (x : S62)  : k62.M w base ok x [.int .i64 x.f0, .int .i64 x.f1, .int .i64 x.f2.f0, .int .u64 x.f2.f1.f0, .int .u64 x.f2.f1.f1, .int .u64 x.f2.f2.f0, .int .u64 x.f2.f2.f1, .int .i64 x.f2.f3, .int .i64 x.f2.f4] := ⟨[.int .i64 x.f0], [.int .i64 x.f1, .int .i64 x.f2.f0, .int .u64 x.f2.f1.f0, .int .u64 x.f2.f1.f1, .int .u64 x.f2.f2.f0, .int .u64 x.f2.f2.f1, .int .i64 x.f2.f3, .int .i64 x.f2.f4], rfl, rfl, ⟨[.int .i64 x.f1], [.int .i64 x.f2.f0, .int .u64 x.f2.f1.f0, .int .u64 x.f2.f1.f1, .int .u64 x.f2.f2.f0, .int .u64 x.f2.f2.f1, .int .i64 x.f2.f3, .int .i64 x.f2.f4], rfl, rfl, (k51_mkM w base ok x.f2 )⟩⟩
def rd_T62 (xs : List S62) (i : Int) : S62 := xs.getD i.toNat z62
theorem at_T62 {w : World} {A : Option Addr} {n : Nat} {xs : List S62} (h : Kd.C k62 w A n xs) (i : Int) (h0 : 0 ≤ i) (h1 : i < n) : ∃ ad , A = some ad ∧ w.cell? (ad.add (i.toNat * 9)) = some (.int .i64 (rd_T62 xs i).f0) ∧ w.cell? ⟨(ad.add (i.toNat * 9)).block, (ad.add (i.toNat * 9)).off + 1, none⟩ = some (.int .i64 (rd_T62 xs i).f1) ∧ w.cell? ⟨(ad.add (i.toNat * 9)).block, (ad.add (i.toNat * 9)).off + 2, none⟩ = some (.int .i64 (rd_T62 xs i).f2.f0) ∧ w.cell? ⟨(ad.add (i.toNat * 9)).block, (ad.add (i.toNat * 9)).off + 3, none⟩ = some (.int .u64 (rd_T62 xs i).f2.f1.f0) ∧ w.cell? ⟨(ad.add (i.toNat * 9)).block, (ad.add (i.toNat * 9)).off + 4, none⟩ = some (.int .u64 (rd_T62 xs i).f2.f1.f1) ∧ w.cell? ⟨(ad.add (i.toNat * 9)).block, (ad.add (i.toNat * 9)).off + 5, none⟩ = some (.int .u64 (rd_T62 xs i).f2.f2.f0) ∧ w.cell? ⟨(ad.add (i.toNat * 9)).block, (ad.add (i.toNat * 9)).off + 6, none⟩ = some (.int .u64 (rd_T62 xs i).f2.f2.f1) ∧ w.cell? ⟨(ad.add (i.toNat * 9)).block, (ad.add (i.toNat * 9)).off + 7, none⟩ = some (.int .i64 (rd_T62 xs i).f2.f3) ∧ w.cell? ⟨(ad.add (i.toNat * 9)).block, (ad.add (i.toNat * 9)).off + 8, none⟩ = some (.int .i64 (rd_T62 xs i).f2.f4) := by
  obtain ⟨ad, c, e, _, hK, hc0⟩ := Kd.C_get h z62 i h0 h1
  have hc : ∀ j u, c[j]? = some u → w.cell? (ad.add (i.toNat * 9 + j)) = some u := hc0
  obtain rfl := k62_open hK
  exact ⟨ad, e, hc 0 _ rfl, by rw [← add_field _ _ 1 (by omega)]; exact hc 1 _ rfl, by rw [← add_field _ _ 2 (by omega)]; exact hc 2 _ rfl, by rw [← add_field _ _ 3 (by omega)]; exact hc 3 _ rfl, by rw [← add_field _ _ 4 (by omega)]; exact hc 4 _ rfl, by rw [← add_field _ _ 5 (by omega)]; exact hc 5 _ rfl, by rw [← add_field _ _ 6 (by omega)]; exact hc 6 _ rfl, by rw [← add_field _ _ 7 (by omega)]; exact hc 7 _ rfl, by rw [← add_field _ _ 8 (by omega)]; exact hc 8 _ rfl⟩

/-! #### struct type 64 -/
structure S64 where
  f0 : Int
  f1 : Int
  f2 : Int
  f3 : Bool
def z64 : S64 := ⟨(0 : Int), (0 : Int), (0 : Int), false⟩
def k64 : Kd S64 := Kd.iso (Kd.pair (Kd.int .i64) (Kd.pair (Kd.int .i64) (Kd.pair (Kd.int .i64) Kd.bool))) (fun x : S64 => (x.f0, x.f1, x.f2, x.f3))
theorem k64_open {w : World} {x : S64} {cs : List Value} (h : k64.K w x cs) : cs = [.int .i64 x.f0, .int .i64 x.f1, .int .i64 x.f2, .bool x.f3] := by
  obtain ⟨_, _, rfl, rfl, ⟨_, _, rfl, rfl, ⟨_, _, rfl, rfl, rfl⟩⟩⟩ := h
  exact rfl
theorem k64_openM {w : World} {base : Nat} {ok : Nat → Prop} {x : S64} {cs : List Value} (h : k64.M w base ok x cs) : cs = [.int .i64 x.f0, .int .i64 x.f1, .int .i64 x.f2, .bool x.f3] := by
  obtain ⟨_, _, rfl, rfl, ⟨_, _, rfl, rfl, ⟨_, _, rfl, rfl, rfl⟩⟩⟩ := h
  exact rfl
theorem k64_mk (w : World) (x : S64)  : k64.K w x [.int .i64 x.f0, .int .i64 x.f1, .int .i64 x.f2, .bool x.f3] := ⟨[.int .i64 x.f0], [.int .i64 x.f1, .int .i64 x.f2, .bool x.f3], rfl, rfl, ⟨[.int .i64 x.f1], [.int .i64 x.f2, .bool x.f3], rfl, rfl, ⟨[.int .i64 x.f2], [.bool x.f3], rfl, rfl, rfl⟩⟩⟩
theorem k64_mkM (w : World) (base : Nat) (ok : Nat → Prop) (x : S64)  : k64.M w base ok x [.int .i64 x.f0, .int .i64 x.f1, .int .i64 x.f2, .bool x.f3] := ⟨[.int .i64 x.f0], [.int .i64 x.f1, .int .i64 x.f2, .bool x.f3], rfl, rfl, ⟨[.int .i64 x.f1], [.int .i64 x.f2, .bool x.f3], rfl, rfl, ⟨[.int .i64 x.f2], [.bool x.f3], rfl, rfl, rfl⟩⟩⟩
def rd_T64 (xs : List S64) (i : Int) : S64 := xs.getD i.toNat z64
theorem at_T64 {w : World} {A : Option Addr} {n : Nat} {xs : List S64} (h : Kd.C k64 w A n xs) (i : Int) (h0 : 0 ≤ i) (h1 : i < n) : ∃ ad , A = some ad ∧ w.cell? (ad.add (i.toNat * 4)) = some (.int .i64 (rd_T64 xs i).f0) ∧ w.cell? ⟨(ad.add (i.toNat * 4)).block, (ad.add (i.toNat * 4)).off + 1, none⟩ = some (.int .i64 (rd_T64 xs i).f1) ∧ w.cell? ⟨(ad.add (i.toNat * 4)).block, (ad.add (i.toNat * 4)).off + 2, none⟩ = some (.int .i64 (rd_T64 xs i).f2) ∧ w.cell? ⟨(ad.add (i.toNat * 4)).block, (ad.add (i.toNat * 4)).off + 3, none⟩ = some (.bool (rd_T64 xs i).f3) := by
  obtain ⟨ad, c, e, _, hK, hc0⟩ := Kd.C_get h z64 i h0 h1
  have hc : ∀ j u, c[j]? = some u → w.cell? (ad.add (i.toNat * 4 + j)) = some u := hc0
  obtain rfl := k64_open hK
  exact ⟨ad, e, hc 0 _ rfl, by rw [← add_field _ _ 1 (by omega)]; exact hc 1 _ rfl, by rw [← add_field _ _ 2 (by omega)]; exact hc 2 _ rfl, by rw [← add_field _ _ 3 (by omega)]; exact hc 3 _ rfl⟩

/-! #### struct type 71 -/
structure S71 where
  f0 : S51
  f1 : S51
  f2 : S51
  f3 : S51
  f4 : S51
  f5 : Int
  f6 : Int
def z71 : S71 := ⟨z51, z51, z51, z51, z51, (0 : Int), (0 : Int)⟩
def k71 : Kd S71 := Kd.iso (Kd.pair k51 (Kd.pair k51 (Kd.pair k51 (Kd.pair k51 (Kd.pair k51 (Kd.pair (Kd.int .i64) (Kd.int .i64))))))) (fun x : S71 => (x.f0, x.f1, x.f2, x.f3, x.f4, x.f5, x.f6))
theorem k71_open {w : World} {x : S71} {cs : List Value} (h : k71.K w x cs) : cs = [.int .i64 x.f0.f0, .int .u64 x.f0.f1.f0, .int .u64 x.f0.f1.f1, .int .u64 x.f0.f2.f0, .int .u64 x.f0.f2.f1, .int .i64 x.f0.f3, .int .i64 x.f0.f4, .int .i64 x.f1.f0, .int .u64 x.f1.f1.f0, .int .u64 x.f1.f1.f1, .int .u64 x.f1.f2.f0, .int .u64 x.f1.f2.f1, .int .i64 x.f1.f3, .int .i64 x.f1.f4, .int .i64 x.f2.f0, .int .u64 x.f2.f1.f0, .int .u64 x.f2.f1.f1, .int .u64 x.f2.f2.f0, .int .u64 x.f2.f2.f1, .int .i64 x.f2.f3, .int .i64 x.f2.f4, .int .i64 x.f3.f0, .int .u64 x.f3.f1.f0, .int .u64 x.f3.f1.f1, .int .u64 x.f3.f2.f0, .int .u64 x.f3.f2.f1, .int .i64 x.f3.f3, .int .i64 x.f3.f4, .int .i64 x.f4.f0, .int .u64 x.f4.f1.f0, .int .u64 x.f4.f1.f1, .int .u64 x.f4.f2.f0, .int .u64 x.f4.f2.f1, .int .i64 x.f4.f3, .int .i64 x.f4.f4, .int .i64 x.f5, .int .i64 x.f6] := by
  obtain ⟨_, _, rfl, s0, ⟨_, _, rfl, s7, ⟨_, _, rfl, s14, ⟨_, _, rfl, s21, ⟨_, _, rfl, s28, ⟨_, _, rfl, rfl, rfl⟩⟩⟩⟩⟩⟩ := h
  obtain rfl := k51_open s0
  obtain rfl := k51_open s7
  obtain rfl := k51_open s14
  obtain rfl := k51_open s21
  obtain rfl := k51_open s28
  exact rfl
theorem k71_openM {w : World} {base : Nat} {ok : Nat → Prop} {x : S71} {cs : List Value} (h : k71.M w base ok x cs) : cs = [.int .i64 x.f0.f0, .int .u64 x.f0.f1.f0, .int .u64 x.f0.f1.f1, .int .u64 x.f0.f2.f0, .int .u64 x.f0.f2.f1, .int .i64 x.f0.f3, .int .i64 x.f0.f4, .int .i64 x.f1.f0, .int .u64 x.f1.f1.f0, .int .u64 x.f1.f1.f1, .int .u64 x.f1.f2.f0, .int .u64 x.f1.f2.f1, .int .i64 x.f1.f3, .int .i64 x.f1.f4, .int .i64 x.f2.f0, .int .u64 x.f2.f1.f0, .int .u64 x.f2.f1.f1, .int .u64 x.f2.f2.f0, .int .u64 x.f2.f2.f1, .int .i64 x.f2.f3, .int .i64 x.f2.f4, .int .i64 x.f3.f0, .int .u64 x.f3.f1.f0, .int .u64 x.f3.f1.f1, .int .u64 x.f3.f2.f0, .int .u64 x.f3.f2.f1, .int .i64 x.f3.f3, .int .i64 x.f3.f4, .int .i64 x.f4.f0, .int .u64 x.f4.f1.f0, .int .u64 x.f4.f1.f1, .int .u64 x.f4.f2.f0, .int .u64 x.f4.f2.f1, .int .i64 x.f4.f3, .int .i64 x.f4.f4, .int .i64 x.f5, .int .i64 x.f6] := by
  obtain ⟨_, _, rfl, s0, ⟨_, _, rfl, s7, ⟨_, _, rfl, s14, ⟨_, _, rfl, s21, ⟨_, _, rfl, s28, ⟨_, _, rfl, rfl, rfl⟩⟩⟩⟩⟩⟩ := h
  obtain rfl := k51_openM s0
  obtain rfl := k51_openM s7
  obtain rfl := k51_openM s14
  obtain rfl := k51_openM s21
  obtain rfl := k51_openM s28
  exact rfl
theorem k71_mk (w : World) (x : S71)  : k71.K w x [.int .i64 x.f0.f0, .int .u64 x.f0.f1.f0, .int .u64 x.f0.f1.f1, .int .u64 x.f0.f2.f0, .int .u64 x.f0.f2.f1, .int .i64 x.f0.f3, .int .i64 x.f0.f4, .int .i64 x.f1.f0, .int .u64 x.f1.f1.f0, .int .u64 x.f1.f1.f1, .int .u64 x.f1.f2.f0, .int .u64 x.f1.f2.f1, .int .i64 x.f1.f3, .int .i64 x.f1.f4, .int .i64 x.f2.f0, .int .u64 x.f2.f1.f0, .int .u64 x.f2.f1.f1, .int .u64 x.f2.f2.f0, .int .u64 x.f2.f2.f1, .int .i64 x.f2.f3, .int .i64 x.f2.f4, .int .i64 x.f3.f0, .int .u64 x.f3.f1.f0, .int .u64 x.f3.f1.f1, .int .u64 x.f3.f2.f0, .int .u64 x.f3.f2.f1, .int .i64 x.f3.f3, .int .i64 x.f3.f4, .int .i64 x.f4.f0, .int .u64 x.f4.f1.f0, .int .u64 x.f4.f1.f1, .int .u64 x.f4.f2.f0, .int .u64 x.f4.f2.f1, .int .i64 x.f4.f3, .int .i64 x.f4.f4, .int .i64 x.f5, .int .i64 x.f6] := ⟨[.int .i64 x.f0.f0, .int .u64 x.f0.f1.f0, .int .u64 x.f0.f1.f1, .int .u64 x.f0.f2.f0, .int .u64 x.f0.f2.f1, .int .i64 x.f0.f3, .int .i64 x.f0.f4], [.int .i64 x.f1.f0, .int .u64 x.f1.f1.f0, .int .u64 x.f1.f1.f1, .int .u64 x.f1.f2.f0, .int .u64 x.f1.f2.f1, .int .i64 x.f1.f3, .int .i64 x.f1.f4, .int .i64 x.f2.f0, .int .u64 x.f2.f1.f0, .int .u64 x.f2.f1.f1, .int .u64 x.f2.f2.f0, .int .u64 x.f2.f2.f1, .int .i64 x.f2.f3, .int .i64 x.f2.f4, .int .i64 x.f3.f0, .int .u64 x.f3.f1.f0, .int .u64 x.f3.f1.f1, .int .u64 x.f3.f2.f0, .int .u64 x.f3.f2.f1, .int .i64 x.f3.f3, .int .i64 x.f3.f4, .int .i64 x.f4.f0, .int .u64 x.f4.f1.f0, .int .u64 x.f4.f1.f1, .int .u64 x.f4.f2.f0, .int .u64 x.f4.f2.f1, .int .i64 x.f4.f3, .int .i64 x.f4.f4, .int .i64 x.f5, .int .i64 x.f6], rfl, (k51_mk w x.f0 ), ⟨[.int .i64 x.f1.f0, .int .u64 x.f1.f1.f0, .int .u64 x.f1.f1.f1, .int .u64 x.f1.f2.f0, .int .u64 x.f1.f2.f1, .int .i64 x.f1.f3, .int .i64 x.f1.f4], [.int .i64 x.f2.f0, .int .u64 x.f2.f1.f0, .int .u64 x.f2.f1.f1, .int .u64 x.f2.f2.f0, .int .u64 x.f2.f2.f1, .int .i64 x.f2.f3, .int .i64 x.f2.f4, .int .i64 x.f3.f0, .int .u64 x.f3.f1.f0, .int .u64 x.f3.f1.f1, .int .u64 x.f3.f2.f0, .int .u64 x.f3.f2.f1, .int .i64 x.f3.f3, .int .i64 x.f3.f4, .int .i64 x.f4.f0, .int .u64 x.f4.f1.f0, .int .u64 x.f4.f1.f1, .int .u64 x.f4.f2.f0, .int .u64 x.f4.f2.f1, .int .i64 x.f4.f3, .int .i64 x.f4.f4, .int .i64 x.f5, .int .i64 x.f6], rfl, (k51_mk w x.f1 ), ⟨[.int .i64 x.f2.f0, .int .u64 x.f2.f1.f0, .int .u64 x.f2.f1.f1, .int .u64 x.f2.f2.f0, .int .u64 x.f2.f2.f1, .int .i64 x.f2.f3, .int .i64 x.f2.f4], [.int .i64 x.f3.f0, .int .u64 x.f3.f1.f0, .int .u64 x.f3.f1.f1, .int .u64 x.f3.f2.f0, .int .u64 x.f3.f2.f1, .int .i64 x.f3.f3, .int .i64 x.f3.f4, .int .i64 x.f4.f0, .int .u64 x.f4.f1.f0, .int .u64 x.f4.f1.f1, .int .u64 x.f4.f2.f0, .int .u64 x.f4.f2.f1, .int .i64 x.f4.f3, .int .i64 x.f4.f4, .int .i64 x.f5, .int .i64 x.f6], rfl, (k51_mk w x.f2 ), ⟨[.int .i64 x.f3.f0, .int .u64 x.f3.f1.f0, .int .u64 x.f3.f1.f1, .int .u64 x.f3.f2.f0, .int .u64 x.f3.f2.f1, .int .i64 x.f3.f3, .int .i64 x.f3.f4], [.int .i64 x.f4.f0, .int .u64 x.f4.f1.f0, .int .u64 x.f4.f1.f1, .int .u64 x.f4.f2.f0, .int .u64 x.f4.f2.f1, .int .i64 x.f4.f3, .int .i64 x.f4.f4, .int .i64 x.f5, .int .i64 x.f6], rfl, (k51_mk w x.f3 ), ⟨[.int .i64 x.f4.f0, .int .u64 x.f4.f1.f0, .int .u64 x.f4.f1.f1, .int .u64 x.f4.f2.f0, .int .u64 x.f4.f2.f1, .int .i64 x.f4.f3, .int .i64 x.f4.f4], [.int .i64 x.f5, .int .i64 x.f6], rfl, (k51_mk w x.f4 ), ⟨[.int .i64 x.f5], [.int .i64 x.f6], rfl, rfl, rfl⟩⟩⟩⟩⟩⟩
theorem k71_mkM (w : World) (base : Nat) (ok : Nat → Prop) (x : S71)  : k71.M w base ok x [.int .i64 x.f0.f0, .int .u64 x.f0.f1.f0, .int .u64 x.f0.f1.f1, .int .u64 x.f0.f2.f0, .int .u64 x.f0.f2.f1, .int .i64 x.f0.f3, .int .i64 x.f0.f4, .int .i64 x.f1.f0, .int .u64 x.f1.f1.f0, .int .u64 x.f1.f1.f1, .int .u64 x.f1.f2.f0, .int .u64 x.f1.f2.f1, .int .i64 x.f1.f3, .int .i64 x.f1.f4, .int .i64 x.f2.f0, .int .u64 x.f2.f1.f0, .int .u64 x.f2.f1.f1, .int .u64 x.f2.f2.f0, .int .u64 x.f2.f2.f1, .int .i64 x.f2.f3, .int .i64 x.f2.f4, .int .i64 x.f3.f0, .int .u64 x.f3.f1.f0, .int .u64 x.f3.f1.f1, .int .u64 x.f3.f2.f0, .int .u64 x.f3.f2.f1, .int .i64 x.f3.f3, .int .i64 x.f3.f4, .int .i64 x.f4.f0, .int .u64 x.f4.f1.f0, .int .u64 x.f4.f1.f1, .int .u64 x.f4.f2.f0, .int .u64 x.f4.f2.f1, .int .i64 x.f4.f3, .int .i64 x.f4.f4, .int .i64 x.f5, .int .i64 x.f6] := ⟨[.int .i64 x.f0.f0, .int .u64 x.f0.f1.f0, .int .u64 x.f0.f1.f1, .int .u64 x.f0.f2.f0, .int .u64 x.f0.f2.f1, .int .i64 x.f0.f3, .int .i64 x.f0.f4], [.int .i64 x.f1.f0, .int .u64 x.f1.f1.f0, .int .u64 x.f1.f1.f1, .int .u64 x.f1.f2.f0, .int .u64 x.f1.f2.f1, .int .i64 x.f1.f3, .int .i64 x.f1.f4, .int .i64 x.f2.f0, .int .u64 x.f2.f1.f0, .int .u64 x.f2.f1.f1, .int .u64 x.f2.f2.f0, .int .u64 x.f2.f2.f1, .int .i64 x.f2.f3, .int .i64 x.f2.f4, .int .i64 x.f3.f0, .int .u64 x.f3.f1.f0, .int .u64 x.f3.f1.f1, .int .u64 x.f3.f2.f0, .int .u64 x.f3.f2.f1, .int .i64 x.f3.f3, .int .i64 x.f3.f4, .int .i64 x.f4.f0, .int .u64 x.f4.f1.f0, .int .u64 x.f4.f1.f1, .int .u64 x.f4.f2.f0, .int .u64 x.f4.f2.f1, .int .i64 x.f4.f3, .int .i64 x.f4.f4, .int .i64 x.f5, .int .i64 x.f6], rfl, (k51_mkM w base ok x.f0 ), ⟨[.int .i64 x.f1.f0, .int .u64 x.f1.f1.f0, .int .u64 x.f1.f1.f1, .int .u64 x.f1.f2.f0, .int .u64 x.f1.f2.f1, .int .i64 x.f1.f3, .int .i64 x.f1.f4], [.int .i64 x.f2.f0, .int .u64 x.f2.f1.f0, .int .u64 x.f2.f1.f1, .int .u64 x.f2.f2.f0, .int .u64 x.f2.f2.f1, .int .i64 x.f2.f3, .int .i64 x.f2.f4, .int .i64 x.f3.f0, .int .u64 x.f3.f1.f0, .int .u64 x.f3.f1.f1, .int .u64 x.f3.f2.f0, .int .u64 x.f3.f2.f1, .int .i64 x.f3.f3, .int .i64 x.f3.f4, .int .i64 x.f4.f0, .int .u64 x.f4.f1.f0, .int .u64 x.f4.f1.f1, .int .u64 x.f4.f2.f0, .int .u64 x.f4.f2.f1, .int .i64 x.f4.f3, .int .i64 x.f4.f4, .int .i64 x.f5, .int .i64 x.f6], rfl, (k51_mkM w base ok x.f1 ), ⟨[.int .i64 x.f2.f0, .int .u64 x.f2.f1.f0, .int .u64 x.f2.f1.f1, .int .u64 x.f2.f2.f0, .int .u64 x.f2.f2.f1, .int .i64 x.f2.f3, .int .i64 x.f2.f4], [.int .i64 x.f3.f0, .int .u64 x.f3.f1.f0, .int .u64 x.f3.f1.f1, .int .u64 x.f3.f2.f0, .int .u64 x.f3.f2.f1, .int .i64 x.f3.f3, .int .i64 x.f3.f4, .int .i64 x.f4.f0, .int .u64 x.f4.f1.f0, .int .u64 x.f4.f1.f1, .int .u64 x.f4.f2.f0, .int .u64 x.f4.f2.f1, .int .i64 x.f4.f3, .int .i64 x.f4.f4, .int .i64 x.f5, .int .i64 x.f6], rfl, (k51_mkM w base ok x.f2 ), ⟨[.int .i64 x.f3.f0, .int .u64 x.f3.f1.f0, .int .u64 x.f3.f1.f1, .int .u64 x.f3.f2.f0, .int .u64 x.f3.f2.f1, .int .i64 x.f3.f3, .int .i64 x.f3.f4], [.int .i64 x.f4.f0, .int .u64 x.f4.f1.f0, .int .u64 x.f4.f1.f1, .int .u64 x.f4.f2.f0, .int .u64 x.f4.f2.f1, .int .i64 x.f4.f3, .int .i64 x.f4.f4, .int .i64 x.f5, .int .i64 x.f6], rfl, (k51_mkM w base ok x.f3 ), ⟨[.int .i64 x.f4.f0, .int .u64 x.f4.f1.f0, .int .u64 x.f4.f1.f1, .int .u64 x.f4.f2.f0, .int .u64 x.f4.f2.f1, .int .i64 x.f4.f3, .int .i64 x.f4.f4], [.int .i64 x.f5, .int .i64 x.f6], rfl, (k51_mkM w base ok x.f4 ), ⟨[.int .i64 x.f5], [.int .i64 x.f6], rfl, rfl, rfl⟩⟩⟩⟩⟩⟩
def rd_T71 (xs : List S71) (i : Int) : S71 := xs.getD i.toNat z71
theorem at_T71 {w : World} {A : Option Addr} {n : Nat} {xs : List S71} (h : Kd.C k71 w A n xs) (i : Int) (h0 : 0 ≤ i) (h1 : i < n) : ∃ ad , A = some ad ∧ w.cell? (ad.add (i.toNat * 37)) = some (.int .i64 (rd_T71 xs i).f0.f0) ∧ w.cell? ⟨(ad.add (i.toNat * 37)).block, (ad.add (i.toNat * 37)).off + 1, none⟩ = some (.int .u64 (rd_T71 xs i).f0.f1.f0) ∧ w.cell? ⟨(ad.add (i.toNat * 37)).block, (ad.add (i.toNat * 37)).off + 2, none⟩ = some (.int .u64 (rd_T71 xs i).f0.f1.f1) ∧ w.cell? ⟨(ad.add (i.toNat * 37)).block, (ad.add (i.toNat * 37)).off + 3, none⟩ = some (.int .u64 (rd_T71 xs i).f0.f2.f0) ∧ w.cell? ⟨(ad.add (i.toNat * 37)).block, (ad.add (i.toNat * 37)).off + 4, none⟩ = some (.int .u64 (rd_T71 xs i).f0.f2.f1) ∧ w.cell? ⟨(ad.add (i.toNat * 37)).block, (ad.add (i.toNat * 37)).off + 5, none⟩ = some (.int .i64 (rd_T71 xs i).f0.f3) ∧ w.cell? ⟨(ad.add (i.toNat * 37)).block, (ad.add (i.toNat * 37)).off + 6, none⟩ = some (.int .i64 (rd_T71 xs i).f0.f4) ∧ w.cell? ⟨(ad.add (i.toNat * 37)).block, (ad.add (i.toNat * 37)).off + 7, none⟩ = some (.int .i64 (rd_T71 xs i).f1.f0) ∧ w.cell? ⟨(ad.add (i.toNat * 37)).block, (ad.add (i.toNat * 37)).off + 8, none⟩ = some (.int .u64 (rd_T71 xs i).f1.f1.f0) ∧ w.cell? ⟨(ad.add (i.toNat * 37)).block, (ad.add (i.toNat * 37)).off + 9, none⟩ = some (.int .u64 (rd_T71 xs i).f1.f1.f1) ∧ w.cell? ⟨(ad.add (i.toNat * 37)).block, (ad.add (i.toNat * 37)).off + 10, none⟩ = some (.int .u64 (rd_T71 xs i).f1.f2.f0) ∧ w.cell? ⟨(ad.add (i.toNat * 37)).block, (ad.add (i.toNat * 37)).off + 11, none⟩ = some (.int .u64 (rd_T71 xs i).f1.f2.f1) ∧ w.cell? ⟨(ad.add (i.toNat * 37)).block, (ad.add (i.toNat * 37)).off + 12, none⟩ = some (.int .i64 (rd_T71 xs i).f1.f3) ∧ w.cell? ⟨(ad.add (i.toNat * 37)).block, (ad.add (i.toNat * 37)).off + 13, none⟩ = some (.int .i64 (rd_T71 xs i).f1.f4) ∧ w.cell? ⟨(ad.add (i.toNat * 37)).block, (ad.add (i.toNat * 37)).off + 14, none⟩ = some (.int .i64 (rd_T71 xs i).f2.f0) ∧ w.cell? ⟨(ad.add (i.toNat * 37)).block, (ad.add (i.toNat * 37)).off + 15, none⟩ = some (.int .u64 (rd_T71 xs i).f2.f1.f0) ∧ w.cell? ⟨(ad.add (i.toNat * 37)).block, (ad.add (i.toNat * 37)).off + 16, none⟩ = some (.int .u64 (rd_T71 xs i).f2.f1.f1) ∧ w.cell? ⟨(ad.add (i.toNat * 37)).block, (ad.add (i.toNat * 37)).off + 17, none⟩ = some (.int .u64 (rd_T71 xs i).f2.f2.f0) ∧ w.cell? ⟨(ad.add (i.toNat * 37)).block, (ad.add (i.toNat * 37)).off + 18, none⟩ = some (.int .u64 (rd_T71 xs i).f2.f2.f1) ∧ w.cell? ⟨(ad.add (i.toNat * 37)).block, (ad.add (i.toNat * 37)).off + 19, none⟩ = some (.int .i64 (rd_T71 xs i).f2.f3) ∧ w.cell? ⟨(ad.add (i.toNat * 37)).block, (ad.add (i.toNat * 37)).off + 20, none⟩ = some (.int .i64 (rd_T71 xs i).f2.f4) ∧ w.cell? ⟨(ad.add (i.toNat * 37)).block, (ad.add (i.toNat * 37)).off + 21, none⟩ = some (.int .i64 (rd_T71 xs i).f3.f0) ∧ w.cell? ⟨(ad.add (i.toNat * 37)).block, (ad.add (i.toNat * 37)).off + 22, none⟩ = some (.int .u64 (rd_T71 xs i).f3.f1.f0) ∧ w.cell? ⟨(ad.add (i.toNat * 37)).block, (ad.add (i.toNat * 37)).off + 23, none⟩ = some (.int .u64 (rd_T71 xs i).f3.f1.f1) ∧ w.cell? ⟨(ad.add (i.toNat * 37)).block, (ad.add (i.toNat * 37)).off + 24, none⟩ = some (.int .u64 (rd_T71 xs i).f3.f2.f0) ∧ w.cell? ⟨(ad.add (i.toNat * 37)).block, (ad.add (i.toNat * 37)).off + 25, none⟩ = some (.int .u64 (rd_T71 xs i).f3.f2.f1) ∧ w.cell? ⟨(ad.add (i.toNat * 37)).block, (ad.add (i.toNat * 37)).off + 26, none⟩ = some (.int .i64 (rd_T71 xs i).f3.f3) ∧ w.cell? ⟨(ad.add (i.toNat * 37)).block, (ad.add (i.toNat * 37)).off + 27, none⟩ = some (.int .i64 (rd_T71 xs i).f3.f4) ∧ w.cell? ⟨(ad.add (i.toNat * 37)).block, (ad.add (i.toNat * 37)).off + 28, none⟩ = some (.int .i64 (rd_T71 xs i).f4.f0) ∧ w.cell? ⟨(ad.add (i.toNat * 37)).block, (ad.add (i.toNat * 37)).off + 29, none⟩ = some (.int .u64 (rd_T71 xs i).f4.f1.f0) ∧ w.cell? ⟨(ad.add (i.toNat * 37)).block, (ad.add (i.toNat * 37)).off + 30, none⟩ = some (.int .u64 (rd_T71 xs i).f4.f1.f1) ∧ w.cell? ⟨(ad.add (i.toNat * 37)).block, (ad.add (i.toNat * 37)).off + 31, none⟩ = some (.int .u64 (rd_T71 xs i).f4.f2.f0) ∧ w.cell? ⟨(ad.add (i.toNat * 37)).block, (ad.add (i.toNat * 37)).off + 32, none⟩ = some (.int .u64 (rd_T71 xs i).f4.f2.f1) ∧ w.cell? ⟨(ad.add (i.toNat * 37)).block, (ad.add (i.toNat * 37)).off + 33, none⟩ = some (.int .i64 (rd_T71 xs i).f4.f3) ∧ w.cell? ⟨(ad.add (i.toNat * 37)).block, (ad.add (i.toNat * 37)).off + 34, none⟩ = some (.int .i64 (rd_T71 xs i).f4.f4) ∧ w.cell? ⟨(ad.add (i.toNat * 37)).block, (ad.add (i.toNat * 37)).off + 35, none⟩ = some (.int .i64 (rd_T71 xs i).f5) ∧ w.cell? ⟨(ad.add (i.toNat * 37)).block, (ad.add (i.toNat * 37)).off + 36, none⟩ = some (.int .i64 (rd_T71 xs i).f6) := by
  obtain ⟨ad, c, e, _, hK, hc0⟩ := Kd.C_get h z71 i h0 h1
  have hc : ∀ j u, c[j]? = some u → w.cell? (ad.add (i.toNat * 37 + j)) = some u := hc0
  obtain rfl := k71_open hK
  exact ⟨ad, e, hc 0 _ rfl, by rw [← add_field _ _ 1 (by omega)]; exact hc 1 _ rfl, by rw [← add_field _ _ 2 (by omega)]; exact hc 2 _ rfl, by rw [← add_field _ _ 3 (by omega)]; exact hc 3 _ rfl, by rw [← add_field _ _ 4 (by omega)]; exact hc 4 _ rfl, by rw [← add_field _ _ 5 (by omega)]; exact hc 5 _ rfl, by rw [← add_field _ _ 6 (by omega)]; exact hc 6 _ rfl, by rw [← add_field _ _ 7 (by omega)]; exact hc 7 _ rfl, by rw [← add_field _ _ 8 (by omega)]; exact hc 8 _ rfl, by rw [← add_field _ _ 9 (by omega)]; exact hc 9 _ rfl, by rw [← add_field _ _ 10 (by omega)]; exact hc 10 _ rfl, by rw [← add_field _ _ 11 (by omega)]; exact hc 11 _ rfl, by rw [← add_field _ _ 12 (by omega)]; exact hc 12 _ rfl, by rw [← add_field _ _ 13 (by omega)]; exact hc 13 _ rfl, by rw [← add_field _ _ 14 (by omega)]; exact hc 14 _ rfl, by rw [← add_field _ _ 15 (by omega)]; exact hc 15 _ rfl, by rw [← add_field _ _ 16 (by omega)]; exact hc 16 _ rfl, by rw [← add_field _ _ 17 (by omega)]; exact hc 17 _ rfl, by rw [← add_field _ _ 18 (by omega)]; exact hc 18 _ rfl, by rw [← add_field _ _ 19 (by omega)]; exact hc 19 _ rfl, by rw [← add_field _ _ 20 (by omega)]; exact hc 20 _ rfl, by rw [← add_field _ _ 21 (by omega)]; exact hc 21 _ rfl, by rw [← add_field _ _ 22 (by omega)]; exact hc 22 _ rfl, by rw [← add_field _ _ 23 (by omega)]; exact hc 23 _ rfl, by rw [← add_field _ _ 24 (by omega)]; exact hc 24 _ rfl, by rw [← add_field _ _ 25 (by omega)]; exact hc 25 _ rfl, by rw [← add_field _ _ 26 (by omega)]; exact hc 26 _ rfl, by rw [← add_field _ _ 27 (by omega)]; exact hc 27 _ rfl, by rw [← add_field _ _ 28 (by omega)]; exact hc 28 _ rfl, by rw [← add_field _ _ 29 (by omega)]; exact hc 29 _ rfl, by rw [← add_field _ _ 30 (by omega)]; exact hc 30 _ rfl, by rw [← add_field _ _ 31 (by omega)]; exact hc 31 _ rfl, by rw [← add_field _ _ 32 (by omega)]; exact hc 32 _ rfl, by rw [← add_field _ _ 33 (by omega)]; exact hc 33 _ rfl, by rw [← add_field _ _ 34 (by omega)]; exact hc 34 _ rfl, by rw [← add_field _ _ 35 (by omega)]; exact hc 35 _ rfl, by rw [← add_field _ _ 36 (by omega)]; exact hc 36 _ rfl⟩

def rd_L27 (xs : List (List S51)) (i : Int) : (List S51) := xs.getD i.toNat ([] : List S51)
theorem at_L27 {w : World} {A : Option Addr} {n : Nat} {xs : List (List S51)} (h : Kd.C (Kd.slice 51 k51) w A n xs) (i : Int) (h0 : 0 ≤ i) (h1 : i < n) : ∃ ad A0 c0, A = some ad ∧ w.cell? (ad.add i.toNat) = some (.slice A0 (rd_L27 xs i).length c0) ∧ (rd_L27 xs i).length ≤ c0 ∧ k51.C w A0 (rd_L27 xs i).length (rd_L27 xs i) := by
  obtain ⟨ad, c, e, _, hK, hc0⟩ := Kd.C_get h ([] : List S51) i h0 h1
  have hc : ∀ j u, c[j]? = some u → w.cell? (ad.add (i.toNat * 1 + j)) = some u := hc0
  obtain ⟨A0, c0, rfl, l0, g0⟩ := hK
  exact ⟨ad, A0, c0, e, by have hq := hc 0 _ rfl; rwa [Nat.mul_one, Nat.add_zero] at hq, l0, g0⟩

end Go.Proofs.Ytgppfpfdoooijaa
