/- Masks of a uint64 as division and remainder; no condition. -/
import Derived.Laws.BitsAllLaws
import Derived.Laws.Bits64
import Derived.IntWalk
import Derived.RowKit
namespace Go.Proofs.NAME.Bits
open Go.RowKit

theorem testBit_span (a b i : Nat) (h : a ≤ b) : (2 ^ b - 2 ^ a).testBit i = (decide (a ≤ i) && decide (i < b)) := by
  have e : 2 ^ b - 2 ^ a = (2 ^ (b - a) - 1) <<< a := by
    rw [Nat.shiftLeft_eq, Nat.sub_mul, ← Nat.pow_add, Nat.sub_add_cancel h, Nat.one_mul]
  rw [e, Nat.testBit_shiftLeft, Nat.testBit_two_pow_sub_one]
  by_cases h1 : a ≤ i
  · have : (i - a < b - a) ↔ i < b := by omega
    simp [h1, this]
  · simp [h1]

theorem mid (a b x : Nat) (h : a ≤ b) : x &&& (2 ^ b - 2 ^ a) = x / 2 ^ a % 2 ^ (b - a) * 2 ^ a := by
  apply Nat.eq_of_testBit_eq
  intro i
  rw [Nat.testBit_and, testBit_span a b i h, ← Nat.shiftLeft_eq, Nat.testBit_shiftLeft, Nat.testBit_mod_two_pow, Nat.testBit_div_two_pow]
  by_cases h1 : a ≤ i
  · have : (i - a < b - a) ↔ i < b := by omega
    simp [h1, this, Bool.and_comm]
  · simp [h1]

theorem and64 (a b : Nat) (x : Int) (h : a ≤ b) (hb : b ≤ 64) (h0 : 0 ≤ x) (h1 : x ≤ 18446744073709551615) (m : Int) (hm : m = ((2 ^ b - 2 ^ a : Nat) : Int)) : bits .and .u64 x m = x / ((2 ^ a : Nat) : Int) % ((2 ^ (b - a) : Nat) : Int) * ((2 ^ a : Nat) : Int) := by
  obtain ⟨n, rfl⟩ := Int.eq_ofNat_of_zero_le h0
  have hp : 2 ^ b ≤ 2 ^ 64 := Nat.pow_le_pow_right (by decide) hb
  have hq : 0 < 2 ^ a := Nat.two_pow_pos a
  subst hm
  rw [u64_and_nat n _ (by omega) (by omega), mid a b n h]
  norm_cast

/-- x &^ m, where the rest of m is one span of ones. -/
theorem andNot64 (a b : Nat) (x : Int) (h : a ≤ b) (hb : b ≤ 64) (h0 : 0 ≤ x) (h1 : x ≤ 18446744073709551615) (m : Int) (hm : m = ((18446744073709551615 - (2 ^ b - 2 ^ a) : Nat) : Int)) : bits .andNot .u64 x m = x / ((2 ^ a : Nat) : Int) % ((2 ^ (b - a) : Nat) : Int) * ((2 ^ a : Nat) : Int) := by
  obtain ⟨n, rfl⟩ := Int.eq_ofNat_of_zero_le h0
  have hp : 2 ^ b ≤ 2 ^ 64 := Nat.pow_le_pow_right (by decide) hb
  have hq : 0 < 2 ^ a := Nat.two_pow_pos a
  subst hm
  rw [u64_andNot_nat n _ (by omega) (by omega), show 18446744073709551615 - (18446744073709551615 - (2 ^ b - 2 ^ a)) = 2 ^ b - 2 ^ a from by omega, mid a b n h]
  norm_cast

/-- x &^ 2^60. -/
theorem andNot60 (x : Int) (h0 : 0 ≤ x) (h1 : x ≤ 18446744073709551615) : bits .andNot .u64 x 1152921504606846976 = x / 2305843009213693952 * 2305843009213693952 + x % 1152921504606846976 := by
  obtain ⟨n, rfl⟩ := Int.eq_ofNat_of_zero_le h0
  refine (u64_andNot_nat n 1152921504606846976 (by omega) (by omega)).trans ?_
  rw [show 18446744073709551615 - 1152921504606846976 = (2 ^ 64 - 2 ^ 61) ||| (2 ^ 60 - 2 ^ 0) from by decide, Nat.and_or_distrib_left, mid 61 64 n (by decide), mid 0 60 n (by decide), nat_join 61 _ _ (by omega) (by omega)]
  omega

theorem or64 (i : Nat) (x y : Int) (h0 : 0 ≤ x) (h1 : x ≤ 18446744073709551615) (k0 : 0 ≤ y) (k1 : y ≤ 18446744073709551615) (hx : x % ((2 ^ i : Nat) : Int) = 0) (hy : y < ((2 ^ i : Nat) : Int)) : bits .or .u64 x y = x + y := by
  obtain ⟨n, rfl⟩ := Int.eq_ofNat_of_zero_le h0
  obtain ⟨m, rfl⟩ := Int.eq_ofNat_of_zero_le k0
  rw [u64_or_nat n m (by omega) (by omega), nat_join i n m (by omega) (by omega)]
  omega

theorem or64' (i : Nat) (x y : Int) (h0 : 0 ≤ x) (h1 : x ≤ 18446744073709551615) (k0 : 0 ≤ y) (k1 : y ≤ 18446744073709551615) (hy : y % ((2 ^ i : Nat) : Int) = 0) (hx : x < ((2 ^ i : Nat) : Int)) : bits .or .u64 x y = x + y := by
  obtain ⟨n, rfl⟩ := Int.eq_ofNat_of_zero_le h0
  obtain ⟨m, rfl⟩ := Int.eq_ofNat_of_zero_le k0
  rw [u64_or_nat n m (by omega) (by omega), Nat.or_comm, nat_join i m n (by omega) (by omega)]
  omega

end Go.Proofs.NAME.Bits
