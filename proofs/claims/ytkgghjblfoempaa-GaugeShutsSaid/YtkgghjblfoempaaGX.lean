/- Whole numbers as floats: exact sums, products, differences; plain Lean. -/
import Derived.Test.YtkgghjblfoempaaGFloat2
namespace Go.Proofs.Ytkgghjblfoempaa.Fl
open Ieee

theorem log2_mul (n j : Nat) (h : n ≠ 0) : (n * 2 ^ j).log2 = n.log2 + j := by
  have hp : n * 2 ^ j ≠ 0 := Nat.mul_ne_zero h (Nat.ne_of_gt (Nat.two_pow_pos j))
  rw [Nat.log2_eq_iff hp]
  have a := Nat.log2_self_le h
  have b := Nat.lt_log2_self (n := n)
  constructor
  · rw [Nat.pow_add]; exact Nat.mul_le_mul_right _ a
  · rw [show n.log2 + j + 1 = (n.log2 + 1) + j from by omega, Nat.pow_add]; exact Nat.mul_lt_mul_of_pos_right b (Nat.two_pow_pos j)

theorem cut0 (X : Nat) : Toward.even.cut false X 0 = X := by
  unfold Toward.cut
  simp [Nat.mod_one]

theorem cutd (X d : Nat) (h : d ≤ (X * 2 ^ d).log2 + 2) : Toward.even.cut false (X * 2 ^ d) d = X := by
  have hp := Nat.two_pow_pos d
  unfold Toward.cut
  simp only [Nat.min_eq_left h, Nat.shiftLeft_eq, Nat.one_mul]
  rw [Nat.mul_div_cancel _ hp, Nat.mul_mod_left]
  have h1 : decide (2 ^ d < 2 * 0) = false := by simp
  have h2 : (2 ^ d == 2 * 0) = false := by simp
  simp [h2]

theorem nearest_exact (n j : Nat) (h0 : 0 < n) (h1 : n < 4503599627370496) : double.nearest false (n * 2 ^ j) (-(j : Int)) = (n.log2 + 1022) * 4503599627370496 + n * 2 ^ (52 - n.log2) := by
  have hb : double.binade = 4503599627370496 := by decide
  have hi : double.infRung = 9218868437227405312 := by decide
  have hl : double.leastPlace = -1074 := by decide
  have hf : double.fractionBits = 52 := rfl
  have hlg : n.log2 < 52 := (Nat.log2_lt (by omega)).mpr h1
  have hlog := log2_mul n j (by omega)
  have hne : n * 2 ^ j ≠ 0 := Nat.mul_ne_zero (by omega) (Nat.ne_of_gt (Nat.two_pow_pos j))
  have hK : n * 2 ^ (52 - n.log2) < 9007199254740992 := by
    have b := Nat.lt_log2_self (n := n)
    have e : 2 ^ (n.log2 + 1) * 2 ^ (52 - n.log2) = 9007199254740992 := by rw [← Nat.pow_add, show n.log2 + 1 + (52 - n.log2) = 53 from by omega]
    have := Nat.mul_lt_mul_of_pos_right b (Nat.two_pow_pos (52 - n.log2))
    omega
  unfold Format.nearest
  rw [if_neg hne, hl, hf, hb, hi, hlog]
  have hlast : max (-(j : Int) + ((n.log2 + j : Nat) : Int) - ((52 : Nat) : Int)) (-1074) = (n.log2 : Int) - 52 := by omega
  simp only [hlast]
  have hkept : Toward.even.cut false ((n * 2 ^ j) <<< (-(j : Int) - ((n.log2 : Int) - 52)).toNat) ((n.log2 : Int) - 52 - -(j : Int)).toNat = n * 2 ^ (52 - n.log2) := by
    by_cases c : j ≤ 52 - n.log2
    · rw [show ((n.log2 : Int) - 52 - -(j : Int)).toNat = 0 from by omega, cut0, show (-(j : Int) - ((n.log2 : Int) - 52)).toNat = 52 - n.log2 - j from by omega, Nat.shiftLeft_eq, Nat.mul_assoc, ← Nat.pow_add, show j + (52 - n.log2 - j) = 52 - n.log2 from by omega]
    · rw [show (-(j : Int) - ((n.log2 : Int) - 52)).toNat = 0 from by omega, Nat.shiftLeft_zero, show ((n.log2 : Int) - 52 - -(j : Int)).toNat = j - (52 - n.log2) from by omega]
      have e : n * 2 ^ j = (n * 2 ^ (52 - n.log2)) * 2 ^ (j - (52 - n.log2)) := by rw [Nat.mul_assoc, ← Nat.pow_add, show 52 - n.log2 + (j - (52 - n.log2)) = j from by omega]
      rw [e]
      refine cutd _ _ ?_
      rw [← e, hlog]
      omega
  rw [hkept, show ((n.log2 : Int) - 52 - -1074).toNat = n.log2 + 1022 from by omega]
  unfold Format.word
  simp only [Bool.false_eq_true, if_false]
  rw [Nat.min_eq_left (by omega)]

def Wn (n : Nat) : Nat := floatOfInt .f64 (n : Int)
theorem Wn_eq (n : Nat) : Wn n = double.nearest false n 0 := by
  have : decide ((n : Int) < 0) = false := decide_eq_false (by omega)
  show double.write (.number (decide ((n : Int) < 0)) (n : Int).natAbs 0) = _
  rw [this, Int.natAbs_natCast]
  rfl
theorem Wn_word (n : Nat) (h0 : 0 < n) (h1 : n < 4503599627370496) : Wn n = (n.log2 + 1022) * 4503599627370496 + n * 2 ^ (52 - n.log2) := by
  rw [Wn_eq, ← nearest_exact n 0 h0 h1]
  simp
theorem Wn_0 : Wn 0 = 0 := by kernel_rfl
/-- What a whole number's word stands for. -/
theorem D_Wn (n : Nat) (h0 : 0 < n) (h1 : n < 4503599627370496) : D (Wn n) = .number false (n * 2 ^ (52 - n.log2)) (-((52 - n.log2 : Nat) : Int)) := by
  have hb : double.binade = 4503599627370496 := by decide
  have hi : double.infRung = 9218868437227405312 := by decide
  have hl : double.leastPlace = -1074 := by decide
  have hs : double.signWeight = 9223372036854775808 := by decide
  have hlg : n.log2 < 52 := (Nat.log2_lt (by omega)).mpr h1
  have a : 4503599627370496 ≤ n * 2 ^ (52 - n.log2) := by
    have q := Nat.mul_le_mul_right (2 ^ (52 - n.log2)) (Nat.log2_self_le (show n ≠ 0 by omega))
    rw [← Nat.pow_add, show n.log2 + (52 - n.log2) = 52 from by omega] at q
    exact q
  have b : n * 2 ^ (52 - n.log2) < 9007199254740992 := by
    have q := Nat.mul_lt_mul_of_pos_right (Nat.lt_log2_self (n := n)) (Nat.two_pow_pos (52 - n.log2))
    rw [← Nat.pow_add, show n.log2 + 1 + (52 - n.log2) = 53 from by omega] at q
    exact q
  rw [Wn_word n h0 h1]
  unfold D Format.read
  rw [hb, hi, hl, hs]
  generalize n * 2 ^ (52 - n.log2) = K at *
  generalize n.log2 = g at *
  have e1 : ((g + 1022) * 4503599627370496 + K) / 9223372036854775808 = 0 := by omega
  have e2 : ((g + 1022) * 4503599627370496 + K) % 9223372036854775808 = (g + 1022) * 4503599627370496 + K := by omega
  rw [e1, e2]
  simp only
  rw [if_neg (by omega), if_pos (by omega)]
  have e3 : ((g + 1022) * 4503599627370496 + K) % 4503599627370496 = K - 4503599627370496 := by omega
  have e4 : ((g + 1022) * 4503599627370496 + K) / 4503599627370496 = g + 1023 := by omega
  have m1 : 4503599627370496 + (K - 4503599627370496) = K := by omega
  have m2 : (-1074 : Int) + ((g + 1023 - 1 : Nat) : Int) = -((52 - g : Nat) : Int) := by omega
  have m3 : ((0 : Nat) % 2 == 1) = false := rfl
  rw [e3, e4, m1, m2, m3]

theorem cls_Wn (n : Nat) (h1 : n < 4503599627370496) : cls (Wn n) = 1 := by
  rcases Nat.eq_zero_or_pos n with rfl | h0
  · rw [Wn_0]; exact cls_0
  · unfold cls; rw [D_Wn n h0 h1]
def big (c : Nat) : Nat := 2 ^ c
theorem big_pos (c : Nat) : (0 : Int) < (big c : Int) := by
  have := Nat.two_pow_pos c
  unfold big
  omega
theorem signed_shift (n a k c : Nat) (h : a + k = c) : signed false (n * 2 ^ a) k = (n : Int) * (big c : Int) := by
  subst h
  unfold signed big
  rw [Nat.shiftLeft_eq, Nat.mul_assoc, ← Nat.pow_add]
  simp only [Bool.false_eq_true, if_false]
  exact Int.natCast_mul _ _
theorem val_Wn (n : Nat) (h1 : n < 4503599627370496) : val (Wn n) = (n : Int) * (big 1074 : Int) := by
  rcases Nat.eq_zero_or_pos n with rfl | h0
  · rw [Wn_0, val_0]; exact (Int.zero_mul _).symm
  · have hlg : n.log2 < 52 := (Nat.log2_lt (by omega)).mpr h1
    unfold val
    rw [D_Wn n h0 h1]
    exact signed_shift n _ _ 1074 (by omega)
theorem gt_Wn (a b : Nat) (ha : a < 4503599627370496) (hb : b < 4503599627370496) : (double.order (Wn a) (Wn b) == some .gt) = decide (b < a) := by
  have h := gt_iff (Wn a) (Wn b)
  rw [cls_Wn a ha, cls_Wn b hb, val_Wn a ha, val_Wn b hb] at h
  have hp := big_pos 1074
  generalize (big 1074 : Int) = B at *
  have e : (b : Int) * B < (a : Int) * B ↔ (b : Int) < a := Int.mul_lt_mul_right hp
  rw [e] at h
  by_cases c : b < a
  · rw [decide_eq_true c]; exact h.mpr ⟨by decide, by decide, .inr ⟨rfl, by omega⟩⟩
  · rw [decide_eq_false c, Bool.eq_false_iff]; intro q; have := h.mp q; omega
theorem lt_Wn (a b : Nat) (ha : a < 4503599627370496) (hb : b < 4503599627370496) : (double.order (Wn a) (Wn b) == some .lt) = decide (a < b) := by
  have h := lt_iff (Wn a) (Wn b)
  rw [cls_Wn a ha, cls_Wn b hb, val_Wn a ha, val_Wn b hb] at h
  have hp := big_pos 1074
  generalize (big 1074 : Int) = B at *
  have e : (a : Int) * B < (b : Int) * B ↔ (a : Int) < b := Int.mul_lt_mul_right hp
  rw [e] at h
  by_cases c : a < b
  · rw [decide_eq_true c]; exact h.mpr ⟨by decide, by decide, .inr ⟨rfl, by omega⟩⟩
  · rw [decide_eq_false c, Bool.eq_false_iff]; intro q; have := h.mp q; omega
end Go.Proofs.Ytkgghjblfoempaa.Fl
