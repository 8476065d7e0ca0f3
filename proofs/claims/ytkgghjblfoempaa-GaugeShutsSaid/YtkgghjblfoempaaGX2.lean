/- Whole numbers as floats: exact sums, products, differences; plain Lean. -/
import Derived.Test.YtkgghjblfoempaaGX
namespace Go.Proofs.Ytkgghjblfoempaa.Fl
open Ieee

theorem near (n j : Nat) (h1 : n < 4503599627370496) : double.nearest false (n * 2 ^ j) (-(j : Int)) = Wn n := by
  rcases Nat.eq_zero_or_pos n with rfl | h0
  · rw [Wn_0, Nat.zero_mul]
    unfold Format.nearest
    rw [if_pos rfl]
    rfl
  · rw [nearest_exact n j h0 h1, Wn_word n h0 h1]

theorem D_any (n : Nat) (h1 : n < 4503599627370496) : ∃ i : Nat, D (Wn n) = .number false (n * 2 ^ i) (-(i : Int)) := by
  rcases Nat.eq_zero_or_pos n with rfl | h0
  · have z : ∀ c : Nat, ∃ i : Nat, Datum.number false 0 (-(c : Int)) = .number false (0 * 2 ^ i) (-(i : Int)) := fun c => ⟨c, by rw [Nat.zero_mul]⟩
    obtain ⟨i, e⟩ := z 1074
    exact ⟨i, by rw [Wn_0, D_0]; exact e⟩
  · exact ⟨_, D_Wn n h0 h1⟩

theorem mul_Wn (a b : Nat) (ha : a < 4503599627370496) (hb : b < 4503599627370496) (h : a * b < 4503599627370496) : floatBits .mul .f64 (Wn a) (Wn b) = some (Wn (a * b)) := by
  obtain ⟨i, ei⟩ := D_any a ha
  obtain ⟨j, ej⟩ := D_any b hb
  show Option.map double.write ((D (Wn a)).product (D (Wn b))) = _
  rw [ei, ej]
  show some (double.nearest (false ^^ false) (a * 2 ^ i * (b * 2 ^ j)) (-(i : Int) + -(j : Int))) = _
  have e1 : a * 2 ^ i * (b * 2 ^ j) = a * b * 2 ^ (i + j) := by rw [Nat.pow_add]; ac_rfl
  have e2 : -(i : Int) + -(j : Int) = -((i + j : Nat) : Int) := by omega
  rw [e1, e2, show (false ^^ false) = false from rfl, near _ _ h]

theorem shl (a i M k : Nat) (h : i + k = M) : (a * 2 ^ i) <<< k = a * 2 ^ M := by
  subst h
  rw [Nat.shiftLeft_eq, Nat.mul_assoc, ← Nat.pow_add]

theorem add_Wn (a b : Nat) (ha : a < 4503599627370496) (hb : b < 4503599627370496) (h : a + b < 4503599627370496) : floatBits .add .f64 (Wn a) (Wn b) = some (Wn (a + b)) := by
  obtain ⟨i, ei⟩ := D_any a ha
  obtain ⟨j, ej⟩ := D_any b hb
  show Option.map double.write ((D (Wn a)).sum (D (Wn b))) = _
  rw [ei, ej]
  obtain ⟨M, hM⟩ : ∃ M : Nat, min (-(i : Int)) (-(j : Int)) = -(M : Int) := ⟨max i j, by omega⟩
  have ht : signed false (a * 2 ^ i) (-(i : Int) - min (-(i : Int)) (-(j : Int))).toNat + signed false (b * 2 ^ j) (-(j : Int) - min (-(i : Int)) (-(j : Int))).toNat = (((a + b) * 2 ^ M : Nat) : Int) := by
    rw [hM]
    unfold signed
    rw [shl a i M _ (by omega), shl b j M _ (by omega), Nat.add_mul]
    simp only [Bool.false_eq_true, if_false]
    exact (Int.natCast_add _ _).symm
  show some (double.write (.number (if signed false (a * 2 ^ i) (-(i : Int) - min (-(i : Int)) (-(j : Int))).toNat + signed false (b * 2 ^ j) (-(j : Int) - min (-(i : Int)) (-(j : Int))).toNat = 0 then false && false else decide (signed false (a * 2 ^ i) (-(i : Int) - min (-(i : Int)) (-(j : Int))).toNat + signed false (b * 2 ^ j) (-(j : Int) - min (-(i : Int)) (-(j : Int))).toNat < 0)) (signed false (a * 2 ^ i) (-(i : Int) - min (-(i : Int)) (-(j : Int))).toNat + signed false (b * 2 ^ j) (-(j : Int) - min (-(i : Int)) (-(j : Int))).toNat).natAbs (min (-(i : Int)) (-(j : Int))))) = _
  rw [ht, hM]
  have hs : (if (((a + b) * 2 ^ M : Nat) : Int) = 0 then false && false else decide ((((a + b) * 2 ^ M : Nat) : Int) < 0)) = false := by
    split
    · rfl
    · exact decide_eq_false (by omega)
  rw [hs, Int.natAbs_natCast]
  show some (double.nearest false _ _) = _
  rw [near _ _ h]

theorem sub_Wn (a b : Nat) (ha : a < 4503599627370496) (hb : b < 4503599627370496) (h : b ≤ a) : floatBits .sub .f64 (Wn a) (Wn b) = some (Wn (a - b)) := by
  obtain ⟨i, ei⟩ := D_any a ha
  obtain ⟨j, ej⟩ := D_any b hb
  show Option.map double.write ((D (Wn a)).sum (D (Wn b)).opposite) = _
  rw [ei, ej]
  obtain ⟨M, hM⟩ : ∃ M : Nat, min (-(i : Int)) (-(j : Int)) = -(M : Int) := ⟨max i j, by omega⟩
  have ht : signed false (a * 2 ^ i) (-(i : Int) - min (-(i : Int)) (-(j : Int))).toNat + signed true (b * 2 ^ j) (-(j : Int) - min (-(i : Int)) (-(j : Int))).toNat = (((a - b) * 2 ^ M : Nat) : Int) := by
    rw [hM]
    unfold signed
    rw [shl a i M _ (by omega), shl b j M _ (by omega), Nat.sub_mul]
    simp only [Bool.false_eq_true, if_false, if_true]
    have := Nat.mul_le_mul_right (2 ^ M) h
    generalize a * 2 ^ M = p at *
    generalize b * 2 ^ M = q at *
    omega
  show some (double.write (.number (if signed false (a * 2 ^ i) (-(i : Int) - min (-(i : Int)) (-(j : Int))).toNat + signed true (b * 2 ^ j) (-(j : Int) - min (-(i : Int)) (-(j : Int))).toNat = 0 then false && true else decide (signed false (a * 2 ^ i) (-(i : Int) - min (-(i : Int)) (-(j : Int))).toNat + signed true (b * 2 ^ j) (-(j : Int) - min (-(i : Int)) (-(j : Int))).toNat < 0)) (signed false (a * 2 ^ i) (-(i : Int) - min (-(i : Int)) (-(j : Int))).toNat + signed true (b * 2 ^ j) (-(j : Int) - min (-(i : Int)) (-(j : Int))).toNat).natAbs (min (-(i : Int)) (-(j : Int))))) = _
  rw [ht, hM]
  have hs : (if (((a - b) * 2 ^ M : Nat) : Int) = 0 then false && true else decide ((((a - b) * 2 ^ M : Nat) : Int) < 0)) = false := by
    split
    · rfl
    · exact decide_eq_false (by omega)
  rw [hs, Int.natAbs_natCast]
  show some (double.nearest false _ _) = _
  rw [near _ _ (by omega)]

theorem Wn_1 : Wn 1 = one := by kernel_rfl
end Go.Proofs.Ytkgghjblfoempaa.Fl
