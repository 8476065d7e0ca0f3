/- Rounding keeps order; plain Lean. -/
import Derived.Test.YtkgghjblfoempaaGX2
namespace Go.Proofs.Ytkgghjblfoempaa.Fl
open Ieee

theorem D_pos (x : Nat) (h : x < 9218868437227405312) : D x = if x < 4503599627370496 then .number false x (-1074) else .number false (4503599627370496 + x % 4503599627370496) (-1074 + ((x / 4503599627370496 - 1 : Nat) : Int)) := by
  have hb : double.binade = 4503599627370496 := by decide
  have hi2 : double.infRung = 9218868437227405312 := by decide
  have hl : double.leastPlace = -1074 := by decide
  have hs : double.signWeight = 9223372036854775808 := by decide
  have e1 : x / 9223372036854775808 = 0 := by omega
  have e2 : x % 9223372036854775808 = x := by omega
  have m3 : ((0 : Nat) % 2 == 1) = false := rfl
  unfold D Format.read
  rw [hb, hi2, hl, hs, e1, e2, m3]
  simp only
  by_cases c : x < 4503599627370496
  · rw [if_pos c, if_pos c]
  · rw [if_neg c, if_neg c, if_pos h]

/-- The word of a magnitude K * 2 ^ g (units of the least place). -/
theorem val_word (g K x : Nat) (hx : g * 4503599627370496 + K = x) (h : (g = 0 ∧ K ≤ 9007199254740992) ∨ (4503599627370496 ≤ K ∧ K ≤ 9007199254740992)) (hi : x < 9218868437227405312) :
    cls x = 1 ∧ val x = (K : Int) * (big g : Int) := by
  have hD : ∃ m q : Nat, D x = .number false m ((q : Int) - 1074) ∧ m * big q = K * big g := by
    rw [D_pos x hi]
    by_cases c : x < 4503599627370496
    · rw [if_pos c]
      have g0 : g = 0 := by omega
      subst g0
      exact ⟨x, 0, rfl, by rw [show x = K from by omega]⟩
    · rw [if_neg c]
      by_cases k : K = 9007199254740992
      · have e3 : x % 4503599627370496 = 0 := by omega
        have e4 : x / 4503599627370496 = g + 2 := by omega
        rw [e3, e4]
        refine ⟨4503599627370496, g + 1, ?_, ?_⟩
        · rw [show (-1074 : Int) + ((g + 2 - 1 : Nat) : Int) = ((g + 1 : Nat) : Int) - 1074 from by omega]
        · unfold big
          rw [Nat.pow_succ, k]
          generalize 2 ^ g = P
          omega
      · have e3 : x % 4503599627370496 = K - 4503599627370496 := by omega
        have e4 : x / 4503599627370496 = g + 1 := by omega
        rw [e3, e4]
        refine ⟨K, g, ?_, rfl⟩
        rw [show 4503599627370496 + (K - 4503599627370496) = K from by omega, show (-1074 : Int) + ((g + 1 - 1 : Nat) : Int) = (g : Int) - 1074 from by omega]
  obtain ⟨m, q, hD, hq⟩ := hD
  constructor
  · unfold cls; rw [hD]
  · unfold val
    rw [hD]
    show signed false m (((q : Int) - 1074) + 1074).toNat = _
    rw [show (((q : Int) - 1074) + 1074).toNat = q from by omega]
    unfold signed
    rw [Nat.shiftLeft_eq]
    simp only [Bool.false_eq_true, if_false]
    rw [show m * 2 ^ q = K * big g from hq]
    exact Int.natCast_mul _ _

/-- A finite word that is not below nought, taken apart. -/
theorem apart (y : Nat) (hc : cls y = 1) (hv : 0 < val y) : ∃ my ey : Nat, val y = (my : Int) * (big ey : Int) ∧ my < 9007199254740992 ∧ ey ≤ 2045 := by
  rcases read_cases y with ⟨s, m, p, hy, p0, p1, hm⟩ | ⟨s, hy⟩ | ⟨s, t, hy⟩
  · have v : val y = signed s m (p + 1074).toNat := by unfold val; rw [hy]
    cases s
    · refine ⟨m, (p + 1074).toNat, ?_, hm, by omega⟩
      rw [v]
      unfold signed big
      rw [Nat.shiftLeft_eq]
      simp only [Bool.false_eq_true, if_false]
      exact Int.natCast_mul _ _
    · exfalso
      rw [v] at hv
      unfold signed at hv
      simp only [if_true] at hv
      have := Int.natCast_nonneg (m <<< (p + 1074).toNat)
      generalize ((m <<< (p + 1074).toNat : Nat) : Int) = X at *
      omega
  · exfalso; unfold cls at hc; rw [hy] at hc; cases s <;> simp at hc
  · exfalso; unfold cls at hc; rw [hy] at hc; simp at hc

/-- Rounding keeps order, above nought. -/
theorem near_le (m e : Nat) (y : Nat) (h0 : 0 < m) (hc : cls y = 1) (h : (m : Int) * (big e : Int) ≤ val y) :
    cls (double.nearest false m ((e : Int) - 1074)) = 1 ∧ val (double.nearest false m ((e : Int) - 1074)) ≤ val y ∧ 0 ≤ val (double.nearest false m ((e : Int) - 1074)) := by
  have hb : double.binade = 4503599627370496 := by decide
  have hi : double.infRung = 9218868437227405312 := by decide
  have hl : double.leastPlace = -1074 := by decide
  have hf : double.fractionBits = 52 := rfl
  have hpos : (0 : Int) < val y := by
    have := Int.mul_pos (show (0 : Int) < (m : Int) by omega) (big_pos e)
    omega
  obtain ⟨my, ey, hy, hmy, hey⟩ := apart y hc hpos
  rw [hy] at h ⊢
  have hX : m * 2 ^ e ≤ my * 2 ^ ey := by
    have h' : ((m * big e : Nat) : Int) ≤ ((my * big ey : Nat) : Int) := by rw [Int.natCast_mul, Int.natCast_mul]; exact h
    exact Int.ofNat_le.mp h'
  have ml := Nat.log2_self_le (show m ≠ 0 by omega)
  have mu := Nat.lt_log2_self (n := m)
  obtain ⟨g, hg⟩ : ∃ g : Nat, max ((e : Int) - 1074 + (m.log2 : Int) - ((52 : Nat) : Int)) (-1074) = (g : Int) - 1074 := ⟨(max ((e : Int) + m.log2 - 52) 0).toNat, by omega⟩
  -- what is kept
  have key : ∃ K, Toward.even.cut false (m <<< (((e : Int) - 1074) - ((g : Int) - 1074)).toNat) (((g : Int) - 1074) - ((e : Int) - 1074)).toNat = K ∧ K * 2 ^ g ≤ my * 2 ^ ey ∧ ((g = 0 ∧ K ≤ 9007199254740992) ∨ (4503599627370496 ≤ K ∧ K ≤ 9007199254740992)) := by
    by_cases c : g ≤ e
    · refine ⟨m * 2 ^ (e - g), ?_, ?_, ?_⟩
      · rw [show (((g : Int) - 1074) - ((e : Int) - 1074)).toNat = 0 from by omega, cut0, show (((e : Int) - 1074) - ((g : Int) - 1074)).toNat = e - g from by omega, Nat.shiftLeft_eq]
      · rw [Nat.mul_assoc, ← Nat.pow_add, show e - g + g = e from by omega]; exact hX
      · have hlg : e - g + m.log2 ≤ 52 ∧ (g = 0 ∨ e - g + m.log2 = 52) := by omega
        have up : m * 2 ^ (e - g) < 2 ^ (m.log2 + 1) * 2 ^ (e - g) := Nat.mul_lt_mul_of_pos_right mu (Nat.two_pow_pos _)
        rw [← Nat.pow_add] at up
        have up2 : 2 ^ (m.log2 + 1 + (e - g)) ≤ 2 ^ 53 := Nat.pow_le_pow_right (by decide) (by omega)
        have u3 : m * 2 ^ (e - g) ≤ 9007199254740992 := by have : (2 : Nat) ^ 53 = 9007199254740992 := rfl; omega
        rcases hlg.2 with g0 | g1
        · exact .inl ⟨g0, u3⟩
        · refine .inr ⟨?_, u3⟩
          have lo := Nat.mul_le_mul_right (2 ^ (e - g)) ml
          rw [← Nat.pow_add, show m.log2 + (e - g) = 52 from by omega] at lo
          exact lo
    · have hge : g = e + m.log2 - 52 ∧ 52 < e + m.log2 := by omega
      obtain ⟨d, hd⟩ : ∃ d, g - e = d := ⟨_, rfl⟩
      have hd2 : d + 52 = m.log2 := by omega
      have hp := Nat.two_pow_pos d
      have hcut : Toward.even.cut false m d = m / 2 ^ d + ((decide (2 ^ d < 2 * (m % 2 ^ d)) || (2 ^ d == 2 * (m % 2 ^ d) && m / 2 ^ d % 2 == 1)).toNat) := by
        unfold Toward.cut
        simp only [Nat.min_eq_left (show d ≤ m.log2 + 2 by omega), Nat.shiftLeft_eq, Nat.one_mul]
      have hge2 : g ≤ ey := by
        have a1 : 2 ^ (m.log2 + e) ≤ m * 2 ^ e := by rw [Nat.pow_add]; exact Nat.mul_le_mul_right _ ml
        have a2 : my * 2 ^ ey < 2 ^ 53 * 2 ^ ey := Nat.mul_lt_mul_of_pos_right hmy (Nat.two_pow_pos _)
        rw [← Nat.pow_add] at a2
        have a3 : 2 ^ (m.log2 + e) < 2 ^ (53 + ey) := by omega
        have := (Nat.pow_lt_pow_iff_right (by decide : 1 < 2)).mp a3
        omega
      obtain ⟨Z, hZ⟩ : ∃ Z, my * 2 ^ (ey - g) = Z := ⟨_, rfl⟩
      have hZ2 : my * 2 ^ ey = Z * 2 ^ g := by rw [← hZ, Nat.mul_assoc, ← Nat.pow_add, show ey - g + g = ey from by omega]
      have hmZ : m ≤ Z * 2 ^ d := by
        rw [hZ2, show g = d + e from by omega, Nat.pow_add, ← Nat.mul_assoc] at hX
        exact Nat.le_of_mul_le_mul_right hX (Nat.two_pow_pos e)
      have hdm := Nat.div_add_mod m (2 ^ d)
      have hml := Nat.mod_lt m hp
      have lo : 4503599627370496 ≤ m / 2 ^ d := by
        rw [Nat.le_div_iff_mul_le hp]
        have : (2 : Nat) ^ 52 * 2 ^ d ≤ m := by rw [← Nat.pow_add, show 52 + d = m.log2 from by omega]; exact ml
        exact this
      have hi3 : m / 2 ^ d < 9007199254740992 := by
        rw [Nat.div_lt_iff_lt_mul hp]
        have : m < (2 : Nat) ^ 53 * 2 ^ d := by rw [← Nat.pow_add, show 53 + d = m.log2 + 1 from by omega]; exact mu
        exact this
      generalize hB : m / 2 ^ d = low at *
      generalize hR : m % 2 ^ d = rest at *
      obtain ⟨t, ht, ht2⟩ : ∃ t, (decide (2 ^ d < 2 * rest) || (2 ^ d == 2 * rest && low % 2 == 1)).toNat = t ∧ (t = 0 ∨ (t = 1 ∧ 0 < rest)) := by
        refine ⟨_, rfl, ?_⟩
        cases hq : (decide (2 ^ d < 2 * rest) || (2 ^ d == 2 * rest && low % 2 == 1))
        · exact .inl rfl
        · refine .inr ⟨rfl, ?_⟩
          rw [Bool.or_eq_true, decide_eq_true_iff, Bool.and_eq_true, beq_iff_eq] at hq
          rcases hq with q | q
          · omega
          · omega
      refine ⟨low + t, ?_, ?_, ?_⟩
      · rw [show (((e : Int) - 1074) - ((g : Int) - 1074)).toNat = 0 from by omega, Nat.shiftLeft_zero, show (((g : Int) - 1074) - ((e : Int) - 1074)).toNat = d from by omega, hcut, ht]
      · rw [hZ2]
        refine Nat.mul_le_mul_right _ ?_
        rcases ht2 with rfl | ⟨rfl, hr⟩
        · rw [Nat.add_zero]
          refine Nat.le_of_mul_le_mul_right (c := 2 ^ d) ?_ hp
          rw [Nat.mul_comm] at hdm
          omega
        · by_cases q : low < Z
          · omega
          · exfalso
            have : Z * 2 ^ d ≤ low * 2 ^ d := Nat.mul_le_mul_right _ (by omega)
            rw [Nat.mul_comm] at hdm
            omega
      · refine .inr ⟨by omega, ?_⟩
        rcases ht2 with rfl | ⟨rfl, hr⟩ <;> omega
  obtain ⟨K, hK, hle, hKr⟩ := key
  have hgi : g * 4503599627370496 + K < 9218868437227405312 := by
    rcases hKr with ⟨g0, k1⟩ | ⟨k0, k1⟩
    · omega
    · have a1 : K * 2 ^ g < 2 ^ 53 * 2 ^ ey := Nat.lt_of_le_of_lt hle (Nat.mul_lt_mul_of_pos_right hmy (Nat.two_pow_pos _))
      have a0 := a1
      rw [← Nat.pow_add] at a1
      have a2 : 2 ^ (52 + g) ≤ K * 2 ^ g := by rw [Nat.pow_add]; exact Nat.mul_le_mul_right _ k0
      have a3 := (Nat.pow_lt_pow_iff_right (by decide : 1 < 2)).mp (Nat.lt_of_le_of_lt a2 a1)
      by_cases q : g = ey
      · rw [q] at a0
        have a4 : K < 2 ^ 53 := Nat.lt_of_mul_lt_mul_right a0
        have a5 : (2 : Nat) ^ 53 = 9007199254740992 := rfl
        omega
      · omega
  have hw := val_word g K _ rfl hKr hgi
  have hN : double.nearest false m ((e : Int) - 1074) = g * 4503599627370496 + K := by
    unfold Format.nearest
    rw [if_neg (by omega), hl, hf, hb, hi]
    simp only [hg, hK]
    rw [show (((g : Int) - 1074) - -1074).toNat = g from by omega]
    unfold Format.word
    simp only [Bool.false_eq_true, if_false]
    rw [Nat.min_eq_left (by omega)]
  rw [hN]
  refine ⟨hw.1, ?_, by rw [hw.2]; exact Int.mul_nonneg (by omega) (by have := big_pos g; omega)⟩
  rw [hw.2]
  have h' : ((K * big g : Nat) : Int) ≤ ((my * big ey : Nat) : Int) := Int.ofNat_le.mpr hle
  rwa [Int.natCast_mul, Int.natCast_mul] at h'
end Go.Proofs.Ytkgghjblfoempaa.Fl
