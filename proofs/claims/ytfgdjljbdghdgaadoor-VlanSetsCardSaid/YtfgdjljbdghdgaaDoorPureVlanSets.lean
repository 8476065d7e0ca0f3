/- VlanSets: the plain law -/
import Derived.OpenShut
import Derived.IntWalk
import Derived.Test.YtfgdjljbdghdgaaDoorBits
import Derived.Test.YtfgdjljbdghdgaaDoorPVlatx8
namespace Go.Proofs.YtfgdjljbdghdgaaDoor.Pure
open Go.RowKit Go.Proofs.YtfgdjljbdghdgaaDoor.PVlat Go.Proofs.YtfgdjljbdghdgaaDoorW.PrintWords Go.Proofs.YtfgdjljbdghdgaaDoorW.PrintLast Go.Proofs.YtfgdjljbdghdgaaDoorW.PrintMore
open Go.Proofs.YtfgdjljbdghdgaaDoor

set_option linter.unusedVariables false
set_option linter.unusedSimpArgs false

/-- A port's bit; 0: there is no such port. -/
def bitN (p : Int) : Nat := if 0 ≤ p ∧ p < 64 then 2 ^ p.toNat else 0

theorem bitN_lt (p : Int) : bitN p < 18446744073709551616 := by
  unfold bitN
  split
  · exact Nat.lt_of_lt_of_le (Nat.pow_lt_pow_right (by decide) (show p.toNat < 64 by omega)) (by decide)
  · decide

theorem bitN_test (p : Int) (i : Nat) : (bitN p).testBit i = decide (0 ≤ p ∧ p < 64 ∧ p.toNat = i) := by
  unfold bitN
  by_cases c : 0 ≤ p ∧ p < 64
  · rw [if_pos c, Nat.testBit_two_pow]
    exact decide_eq_decide.2 (by omega)
  · rw [if_neg c, Nat.zero_testBit]
    exact (decide_eq_false (by omega)).symm

theorem of_eq (p : Int) : vlan_of.f p = some ((bitN p : Nat) : Int) := by
  unfold vlan_of.f bitN
  by_cases c : p < 0
  · rw [if_pos c, if_neg (by omega)]; rfl
  · rw [if_neg c]
    by_cases d : p ≥ 64
    · rw [if_pos d, if_neg (by omega)]; rfl
    · rw [if_neg d, if_pos (by omega), if_pos (by omega)]
      obtain ⟨i, rfl⟩ := Int.eq_ofNat_of_zero_le (show 0 ≤ p by omega)
      have hp : 2 ^ i < 2 ^ 64 := Nat.pow_lt_pow_right (by decide) (show i < 64 by omega)
      have hq : 0 < 2 ^ i := Nat.two_pow_pos i
      congr 1
      unfold shl
      rw [show min (i : Int).toNat IntKind.u64.bits = i from by simp [IntKind.bits]; omega, Int.one_mul, show (2 : Int) ^ i = ((2 ^ i : Nat) : Int) from by norm_cast, Int.toNat_natCast]
      exact IntWalk.u64_in _ ⟨by omega, by omega⟩

/-- Is a port in? -/
def inS (x : Nat) (p : Int) : Bool := decide (0 ≤ p ∧ p < 64) && x.testBit p.toNat

theorem and_bit (x n : Nat) : x &&& 2 ^ n = if x.testBit n = true then 2 ^ n else 0 := by
  apply Nat.eq_of_testBit_eq
  intro i
  rw [Nat.testBit_and, Nat.testBit_two_pow]
  by_cases e : n = i
  · subst e
    by_cases c : x.testBit n = true
    · rw [if_pos c, c, Nat.testBit_two_pow]; rfl
    · rw [if_neg c, show x.testBit n = false from by simpa using c, Nat.zero_testBit]; rfl
  · rw [decide_eq_false e, Bool.and_false]
    split
    · rw [Nat.testBit_two_pow, decide_eq_false e]
    · rw [Nat.zero_testBit]

theorem has_eq {x : Nat} (hx : x < 18446744073709551616) (p : Int) : vlan_Has.f (x : Int) p = some (inS x p) := by
  unfold vlan_Has.f inS
  rw [of_eq]
  simp only [Option.bind_some]
  rw [u64_and_nat x (bitN p) hx (bitN_lt p)]
  congr 1
  unfold bitN
  by_cases c : 0 ≤ p ∧ p < 64
  · rw [if_pos c, decide_eq_true c, Bool.true_and, and_bit]
    cases h : x.testBit p.toNat
    · rw [if_neg (by decide)]; rfl
    · have := Nat.two_pow_pos p.toNat
      rw [if_pos rfl]
      simp only [bne_iff_ne, ne_eq]
      omega
  · rw [if_neg c, decide_eq_false c, Bool.false_and, Nat.and_zero]; rfl

def withN (x : Nat) (p : Int) : Nat := x ||| bitN p
def lessN (x : Nat) (p : Int) : Nat := x &&& (18446744073709551615 - bitN p)

theorem with_eq {x : Nat} (hx : x < 18446744073709551616) (p : Int) : vlan_With.f (x : Int) p = some ((withN x p : Nat) : Int) := by
  unfold vlan_With.f
  rw [of_eq]
  simp only [Option.bind_some]
  rw [u64_or_nat x (bitN p) hx (bitN_lt p)]; rfl

theorem less_eq {x : Nat} (hx : x < 18446744073709551616) (p : Int) : vlan_Without.f (x : Int) p = some ((lessN x p : Nat) : Int) := by
  unfold vlan_Without.f
  rw [of_eq]
  simp only [Option.bind_some]
  rw [u64_andNot_nat x (bitN p) hx (bitN_lt p)]; rfl

theorem withN_lt {x : Nat} (hx : x < 18446744073709551616) (p : Int) : withN x p < 18446744073709551616 := Nat.or_lt_two_pow (n := 64) hx (bitN_lt p)
theorem lessN_lt {x : Nat} (hx : x < 18446744073709551616) (p : Int) : lessN x p < 18446744073709551616 := Nat.lt_of_le_of_lt Nat.and_le_left hx

theorem withN_test (x : Nat) (p : Int) (i : Nat) : (withN x p).testBit i = (x.testBit i || decide (0 ≤ p ∧ p < 64 ∧ p.toNat = i)) := by
  unfold withN
  rw [Nat.testBit_or, bitN_test]

theorem lessN_test (x : Nat) (p : Int) (i : Nat) (hi : i < 64) : (lessN x p).testBit i = (x.testBit i && !decide (0 ≤ p ∧ p < 64 ∧ p.toNat = i)) := by
  unfold lessN
  rw [Nat.testBit_and, show 18446744073709551615 - bitN p = 2 ^ 64 - (bitN p + 1) from by omega, Nat.testBit_two_pow_sub_succ (bitN_lt p), bitN_test, decide_eq_true hi, Bool.true_and]

theorem vtold2 : patchbaylaw03_told.f 2000 = some true := by decide +kernel

theorem vtold_up : ∀ d, patchbaylaw03_told.f (2000 + d) = some true
  | 0 => vtold2
  | d + 1 => patchbaylaw03_told.mono (2000 + d) _ (vtold_up d)

theorem vtold {k : Nat} (hk : 2000 ≤ k) : patchbaylaw03_told.f k = some true := by
  obtain ⟨d, rfl⟩ := Nat.exists_eq_add_of_le hk
  exact vtold_up d

theorem ref_bit_eq {p : Nat} (hp : p < 64) {k : Nat} (hk : p < k) : patchbayref03_bit.f k (p : Int) = some ((2 ^ p : Nat) : Int) := by
  have h : ∀ (d k i : Nat), i ≤ p → p - i = d → d < k → patchbayref03_bit.l0 k (p : Int) ((2 ^ i : Nat) : Int) (i : Int) = some ((2 ^ p : Nat) : Int) := by
    intro d
    induction d with
    | zero =>
      intro k i h1 hd hk
      obtain ⟨k, rfl⟩ : ∃ q, k = q + 1 := ⟨k - 1, by omega⟩
      obtain rfl : i = p := by omega
      rw [patchbayref03_bit.l0, if_neg (by omega)]
    | succ d ih =>
      intro k i h1 hd hk
      obtain ⟨k, rfl⟩ : ∃ q, k = q + 1 := ⟨k - 1, by omega⟩
      have hp2 : 2 ^ (i + 1) < 2 ^ 64 := Nat.pow_lt_pow_right (by decide) (show i + 1 < 64 by omega)
      have e2 : 2 ^ (i + 1) = 2 ^ i * 2 := Nat.pow_succ 2 i
      have ih' := ih k (i + 1) (by omega) (by omega) (by omega)
      rw [patchbayref03_bit.l0, if_pos (by omega), show wrap64 ((i : Int) + 1) = ((i + 1 : Nat) : Int) from by unfold wrap64; omega, show ((2 ^ i : Nat) : Int) * 2 = ((2 ^ (i + 1) : Nat) : Int) from by rw [e2]; rfl, IntWalk.u64_in _ ⟨by omega, by omega⟩]
      exact ih'
  exact h p k 0 (by omega) (by omega) hk

theorem ref_has_eq {x : Nat} (hx : x < 18446744073709551616) (p : Int) {k : Nat} (hk : 64 < k) : patchbayref03_Has.f k (x : Int) p = some (inS x p) := by
  unfold patchbayref03_Has.f inS
  by_cases c : p ≥ 0
  · rw [if_pos c]
    by_cases d : p < 64
    · obtain ⟨i, rfl⟩ := Int.eq_ofNat_of_zero_le c
      have h0 := Nat.two_pow_pos i
      have h1 : x / 2 ^ i ≤ x := Nat.div_le_self _ _
      rw [if_pos d, ref_bit_eq (by omega) (by omega), Option.bind_some, if_neg (by omega), decide_eq_true ⟨c, d⟩, Bool.true_and, Int.toNat_natCast, Nat.testBit_eq_decide_div_mod_eq, Int.tdiv_eq_ediv_of_nonneg (by omega), ← Int.natCast_ediv, IntWalk.u64_in _ ⟨Int.natCast_nonneg _, Int.le_trans (Int.ofNat_le.2 h1) (by omega)⟩, Int.tmod_eq_emod_of_nonneg (Int.natCast_nonneg _)]
      congr 1
      rw [Bool.eq_iff_iff, beq_iff_eq, decide_eq_true_iff]
      generalize x / 2 ^ i = q
      omega
    · rw [if_neg d, decide_eq_false (by omega), Bool.false_and]
  · rw [if_neg c, decide_eq_false (by omega), Bool.false_and]

theorem and_split (a b M m : Nat) (hb : b < 256) (hm : m < 256) : (a * 256 + b) &&& (M * 256 + m) = (a &&& M) * 256 + (b &&& m) := by
  have h1 : b &&& m < 2 ^ 8 := Nat.and_lt_two_pow _ hm
  apply Nat.eq_of_testBit_eq
  intro i
  rw [show a * 256 + b = 2 ^ 8 * a + b by omega, show M * 256 + m = 2 ^ 8 * M + m by omega, show (a &&& M) * 256 + (b &&& m) = 2 ^ 8 * (a &&& M) + (b &&& m) by omega, Nat.testBit_and, Nat.testBit_two_pow_mul_add _ hb, Nat.testBit_two_pow_mul_add _ hm, Nat.testBit_two_pow_mul_add _ h1]
  split <;> rw [Nat.testBit_and]

theorem shr_split (a b M m s : Nat) (hs : s ≤ 8) (hb : b < 256) (hm : m < 2 ^ (8 - s)) : ((a * 256 + b) / 2 ^ s) &&& (M * 256 + m) = ((a / 2 ^ s) &&& M) * 256 + ((b / 2 ^ s) &&& m) := by
  have hm8 : m < 2 ^ 8 := Nat.lt_of_lt_of_le hm (Nat.pow_le_pow_right (by decide) (by omega))
  have h1 : (b / 2 ^ s) &&& m < 2 ^ 8 := Nat.and_lt_two_pow _ hm8
  apply Nat.eq_of_testBit_eq
  intro i
  rw [show a * 256 + b = 2 ^ 8 * a + b by omega, show M * 256 + m = 2 ^ 8 * M + m by omega, show ((a / 2 ^ s) &&& M) * 256 + ((b / 2 ^ s) &&& m) = 2 ^ 8 * ((a / 2 ^ s) &&& M) + ((b / 2 ^ s) &&& m) by omega, Nat.testBit_and, Nat.testBit_div_two_pow, Nat.testBit_two_pow_mul_add _ hb, Nat.testBit_two_pow_mul_add _ hm8, Nat.testBit_two_pow_mul_add _ h1]
  by_cases c : i < 8
  · rw [if_pos c, if_pos c, Nat.testBit_and, Nat.testBit_div_two_pow]
    by_cases d : i < 8 - s
    · rw [if_pos (by omega)]
    · have : m.testBit i = false := Nat.testBit_lt_two_pow (Nat.lt_of_lt_of_le hm (Nat.pow_le_pow_right (by decide) (by omega)))
      rw [this, Bool.and_false, Bool.and_false]
  · rw [if_neg c, if_neg c, if_neg (by omega), Nat.testBit_and, Nat.testBit_div_two_pow, show i - 8 + s = i + s - 8 by omega]

/-- The first three steps of OnesCount64, with any masks. -/
def stN (A B C x : Nat) : Nat :=
  let y := (x / 2 &&& A) + (x &&& A)
  let z := (y / 4 &&& B) + (y &&& B)
  (z / 16 + z) &&& C

theorem stN_step (A B C a b : Nat) (hb : b < 256) (hB : B % 16 ≤ 3) : stN (A * 256 + 85) (B * 256 + 51) (C * 256 + 15) (a * 256 + b) = stN A B C a * 256 + stN 85 51 15 b := by
  unfold stN
  simp only []
  have e1 := shr_split a b A 85 1 (by decide) hb (by decide)
  have e2 := and_split a b A 85 hb (by decide)
  rw [Nat.pow_one] at e1
  rw [e1, e2]
  have l1 : b / 2 &&& 85 ≤ 85 := Nat.and_le_right
  have l2 : b &&& 85 ≤ 85 := Nat.and_le_right
  generalize hya : (a / 2 &&& A) + (a &&& A) = ya
  generalize hyb : (b / 2 &&& 85) + (b &&& 85) = yb
  rw [show (a / 2 &&& A) * 256 + (b / 2 &&& 85) + ((a &&& A) * 256 + (b &&& 85)) = ya * 256 + yb by omega]
  have hyb2 : yb < 256 := by omega
  have e3 := shr_split ya yb B 51 2 (by decide) hyb2 (by decide)
  have e4 := and_split ya yb B 51 hyb2 (by decide)
  rw [show (2 : Nat) ^ 2 = 4 from rfl] at e3
  rw [e3, e4]
  have l3 : yb / 4 &&& 51 ≤ 51 := Nat.and_le_right
  have l4 : yb &&& 51 ≤ 51 := Nat.and_le_right
  have l5 : (ya / 4 &&& B) % 16 ≤ 3 := by
    have := Nat.and_mod_two_pow (a := ya / 4) (b := B) (n := 4)
    rw [show (2 : Nat) ^ 4 = 16 from rfl] at this
    rw [this]; exact Nat.le_trans Nat.and_le_right hB
  have l6 : (ya &&& B) % 16 ≤ 3 := by
    have := Nat.and_mod_two_pow (a := ya) (b := B) (n := 4)
    rw [show (2 : Nat) ^ 4 = 16 from rfl] at this
    rw [this]; exact Nat.le_trans Nat.and_le_right hB
  generalize hza : (ya / 4 &&& B) + (ya &&& B) = za
  generalize hzb : (yb / 4 &&& 51) + (yb &&& 51) = zb
  rw [show (ya / 4 &&& B) * 256 + (yb / 4 &&& 51) + ((ya &&& B) * 256 + (yb &&& 51)) = za * 256 + zb by omega]
  have l7 : za % 16 ≤ 6 := by omega
  have l8 : zb ≤ 102 := by omega
  rw [show (za * 256 + zb) / 16 + (za * 256 + zb) = (za / 16 + za) * 256 + (za % 16 * 16 + (zb / 16 + zb)) by omega, and_split _ _ C 15 (by omega) (by decide)]
  congr 1
  rw [show (15 : Nat) = 2 ^ 4 - 1 from rfl, Nat.and_two_pow_sub_one_eq_mod, Nat.and_two_pow_sub_one_eq_mod]
  omega

theorem stN_zero (A B C : Nat) : stN A B C 0 = 0 := by unfold stN; simp

def lst (x : Nat) (n : Nat) : List Nat := (List.range n).filter (fun i => x.testBit i)

theorem stN_byte : ∀ b, b < 256 → stN 85 51 15 b = (lst b 8).length := by decide +kernel

theorem lst_byte_le (b : Nat) : (lst b 8).length ≤ 8 := by
  have := List.length_filter_le (fun i => b.testBit i) (List.range 8)
  rw [List.length_range] at this
  exact this

theorem lst_split (a b n : Nat) (hb : b < 256) : (lst (a * 256 + b) (8 + n)).length = (lst b 8).length + (lst a n).length := by
  unfold lst
  rw [List.range_add, List.filter_append, List.length_append, List.filter_map, List.length_map]
  congr 1
  · congr 1
    apply List.filter_congr
    intro i hi
    have hi8 : i < 8 := List.mem_range.1 hi
    rw [show a * 256 + b = 2 ^ 8 * a + b by omega, Nat.testBit_two_pow_mul_add _ hb, if_pos hi8]
  · congr 1
    apply List.filter_congr
    intro i _
    show (a * 256 + b).testBit (8 + i) = a.testBit i
    rw [show a * 256 + b = 2 ^ 8 * a + b by omega, Nat.testBit_two_pow_mul_add _ hb, if_neg (by omega), show 8 + i - 8 = i by omega]

theorem stN_all (x : Nat) (hx : x < 18446744073709551616) : ∃ g0 g1 g2 g3 g4 g5 g6 g7 : Nat, (g0 ≤ 8 ∧ g1 ≤ 8 ∧ g2 ≤ 8 ∧ g3 ≤ 8 ∧ g4 ≤ 8 ∧ g5 ≤ 8 ∧ g6 ≤ 8 ∧ g7 ≤ 8) ∧ stN 6148914691236517205 3689348814741910323 1085102592571150095 x = ((((((g7 * 256 + g6) * 256 + g5) * 256 + g4) * 256 + g3) * 256 + g2) * 256 + g1) * 256 + g0 ∧ (lst x 64).length = g0 + g1 + g2 + g3 + g4 + g5 + g6 + g7 := by
  obtain ⟨b0, x1, h0, rfl⟩ : ∃ b x', b < 256 ∧ x = x' * 256 + b := ⟨x % 256, x / 256, by omega, by omega⟩
  obtain ⟨b1, x2, h1, rfl⟩ : ∃ b x', b < 256 ∧ x1 = x' * 256 + b := ⟨x1 % 256, x1 / 256, by omega, by omega⟩
  obtain ⟨b2, x3, h2, rfl⟩ : ∃ b x', b < 256 ∧ x2 = x' * 256 + b := ⟨x2 % 256, x2 / 256, by omega, by omega⟩
  obtain ⟨b3, x4, h3, rfl⟩ : ∃ b x', b < 256 ∧ x3 = x' * 256 + b := ⟨x3 % 256, x3 / 256, by omega, by omega⟩
  obtain ⟨b4, x5, h4, rfl⟩ : ∃ b x', b < 256 ∧ x4 = x' * 256 + b := ⟨x4 % 256, x4 / 256, by omega, by omega⟩
  obtain ⟨b5, x6, h5, rfl⟩ : ∃ b x', b < 256 ∧ x5 = x' * 256 + b := ⟨x5 % 256, x5 / 256, by omega, by omega⟩
  obtain ⟨b6, b7, h6, rfl⟩ : ∃ b x', b < 256 ∧ x6 = x' * 256 + b := ⟨x6 % 256, x6 / 256, by omega, by omega⟩
  have h7 : b7 < 256 := by omega
  refine ⟨_, _, _, _, _, _, _, _, ⟨lst_byte_le b0, lst_byte_le b1, lst_byte_le b2, lst_byte_le b3, lst_byte_le b4, lst_byte_le b5, lst_byte_le b6, lst_byte_le b7⟩, ?_, ?_⟩
  · rw [stN_step 24019198012642645 14411518807585587 4238682002231055 _ b0 h0 (by decide), stN_step 93824992236885 56294995342131 16557351571215 _ b1 h1 (by decide), stN_step 366503875925 219902325555 64677154575 _ b2 h2 (by decide), stN_step 1431655765 858993459 252645135 _ b3 h3 (by decide), stN_step 5592405 3355443 986895 _ b4 h4 (by decide), stN_step 21845 13107 3855 _ b5 h5 (by decide), stN_step 85 51 15 _ b6 h6 (by decide), stN_byte b0 h0, stN_byte b1 h1, stN_byte b2 h2, stN_byte b3 h3, stN_byte b4 h4, stN_byte b5 h5, stN_byte b6 h6, stN_byte b7 h7]
  · rw [show 64 = 8 + 56 from rfl, lst_split _ b0 56 h0, show 56 = 8 + 48 from rfl, lst_split _ b1 48 h1, show 48 = 8 + 40 from rfl, lst_split _ b2 40 h2, show 40 = 8 + 32 from rfl, lst_split _ b3 32 h3, show 32 = 8 + 24 from rfl, lst_split _ b4 24 h4, show 24 = 8 + 16 from rfl, lst_split _ b5 16 h5, show 16 = 8 + 8 from rfl, lst_split b7 b6 8 h6]
    omega

/-- OnesCount64's end. -/
def ocT1 (g : Nat) : Nat := g + g / 256

def ocT2 (g : Nat) : Nat := ocT1 g + ocT1 g / 65536

def ocT3 (g : Nat) : Nat := (ocT2 g + ocT2 g / 4294967296) % 128

def ocN (x : Nat) : Nat := ocT3 (stN 6148914691236517205 3689348814741910323 1085102592571150095 x)

theorem ocT3_eq (g0 g1 g2 g3 g4 g5 g6 g7 : Nat) (l0 : g0 ≤ 8) (l1 : g1 ≤ 8) (l2 : g2 ≤ 8) (l3 : g3 ≤ 8) (l4 : g4 ≤ 8) (l5 : g5 ≤ 8) (l6 : g6 ≤ 8) (l7 : g7 ≤ 8) (g : Nat) (hg : g = ((((((g7 * 256 + g6) * 256 + g5) * 256 + g4) * 256 + g3) * 256 + g2) * 256 + g1) * 256 + g0) : ocT3 g = g0 + g1 + g2 + g3 + g4 + g5 + g6 + g7 := by
  obtain ⟨t1, ht1⟩ : ∃ t, ocT1 g = t := ⟨_, rfl⟩
  have e1 : t1 = ((((((g7 * 256 + (g6 + g7)) * 256 + (g5 + g6)) * 256 + (g4 + g5)) * 256 + (g3 + g4)) * 256 + (g2 + g3)) * 256 + (g1 + g2)) * 256 + (g0 + g1) := by
    rw [← ht1]; unfold ocT1; omega
  obtain ⟨t2, ht2⟩ : ∃ t, ocT2 g = t := ⟨_, rfl⟩
  have e2 : t2 = ((((((g7 * 256 + (g6 + g7)) * 256 + (g5 + g6 + g7)) * 256 + (g4 + g5 + g6 + g7)) * 256 + (g3 + g4 + g5 + g6)) * 256 + (g2 + g3 + g4 + g5)) * 256 + (g1 + g2 + g3 + g4)) * 256 + (g0 + g1 + g2 + g3) := by
    rw [← ht2]; unfold ocT2; rw [ht1]
    have : t1 / 65536 = ((((g7 * 256 + (g6 + g7)) * 256 + (g5 + g6)) * 256 + (g4 + g5)) * 256 + (g3 + g4)) * 256 + (g2 + g3) := by omega
    omega
  unfold ocT3
  rw [ht2]
  have e3 : t2 / 4294967296 = ((g7 * 256 + (g6 + g7)) * 256 + (g5 + g6 + g7)) * 256 + (g4 + g5 + g6 + g7) := by omega
  omega

theorem ocN_eq (x : Nat) (hx : x < 18446744073709551616) : ocN x = (lst x 64).length := by
  obtain ⟨g0, g1, g2, g3, g4, g5, g6, g7, ⟨l0, l1, l2, l3, l4, l5, l6, l7⟩, hg, hl⟩ := stN_all x hx
  unfold ocN
  rw [ocT3_eq g0 g1 g2 g3 g4 g5 g6 g7 l0 l1 l2 l3 l4 l5 l6 l7 _ hg, hl]

theorem ocT1_lt (g : Nat) (h : g ≤ 1085102592571150095) : ocT1 g ≤ 1089341274573381150 := by unfold ocT1; omega

theorem ocT2_lt (g : Nat) (h : g ≤ 1085102592571150095) : ocT2 g ≤ 1089357896855742840 := by
  have := ocT1_lt g h
  unfold ocT2; omega

theorem stN_lt (A B C x : Nat) : stN A B C x ≤ C := by unfold stN; exact Nat.and_le_right

theorem wrap64_small (n : Nat) (h : n < 128) : IntKind.i64.wrap (n : Int) = (n : Int) := by
  simp only [IntKind.wrap, IntKind.bits, IntKind.signed]
  first | omega | (simp; omega) | (split <;> omega)

theorem and_i64_127 (t : Nat) (ht : t < 9223372036854775808) : Go.bits .and .i64 (t : Int) 127 = ((t % 128 : Nat) : Int) := by
  have h1 : (BitVec.ofInt 64 (t : Int)).toNat = t := by
    rw [BitVec.toNat_ofInt]; omega
  have h2 : (BitVec.ofInt 64 (127 : Int)).toNat = 127 := by decide
  have h3 : t &&& 127 = t % 128 := by
    rw [show (127 : Nat) = 2 ^ 7 - 1 from rfl, Nat.and_two_pow_sub_one_eq_mod]
  have h4 : (BitVec.ofInt 64 (t : Int) &&& BitVec.ofInt 64 (127 : Int)).toNat = t % 128 := by
    rw [BitVec.toNat_and, h1, h2, h3]
  show IntKind.i64.wrap ((BitVec.ofInt 64 (t : Int) &&& BitVec.ofInt 64 (127 : Int)).toNat : Int) = _
  rw [h4]
  exact wrap64_small _ (by omega)

def ocA (y : Int) : Int := IntKind.u64.wrap (Go.bits .and .u64 (y / 4) 3689348814741910323 + Go.bits .and .u64 y 3689348814741910323)

def ocB (z : Int) : Int := Go.bits .and .u64 (IntKind.u64.wrap (z / 16 + z)) 1085102592571150095

def ocC (g : Int) : Int := IntKind.u64.wrap (g + g / 256)

def ocD (t : Int) : Int := IntKind.u64.wrap (t + t / 65536)

def ocE (t : Int) : Int := Go.bits .and .i64 (wrap64 (IntKind.u64.wrap (t + t / 4294967296))) 127

theorem oc_last (g : Nat) (h : g ≤ 1085102592571150095) : ocT2 g + ocT2 g / 4294967296 < 9223372036854775808 := by
  have := ocT2_lt g h
  omega

theorem oc_form (a0 : Int) : bits_OnesCount64.f a0 = some (ocE (ocD (ocC (ocB (ocA (IntKind.u64.wrap (Go.bits .and .u64 (a0 / 2) 6148914691236517205 + Go.bits .and .u64 a0 6148914691236517205))))))) := by
  unfold bits_OnesCount64.f ocE ocD ocC ocB ocA
  rfl

theorem oc_eq (x : Nat) (hx : x < 18446744073709551616) : bits_OnesCount64.f (x : Int) = some (((lst x 64).length : Nat) : Int) := by
  have hW : ∀ n : Nat, n < 18446744073709551616 → IntKind.u64.wrap (n : Int) = (n : Int) := fun n hn => IntWalk.u64_in _ ⟨Int.natCast_nonneg _, by omega⟩
  have hA : ∀ (a b : Nat), a < 18446744073709551616 → b < 18446744073709551616 → Go.bits .and .u64 (a : Int) (b : Int) = ((a &&& b : Nat) : Int) := bits_and_u64_nat
  have l1 : x / 2 &&& 6148914691236517205 ≤ 6148914691236517205 := Nat.and_le_right
  have l2 : x &&& 6148914691236517205 ≤ 6148914691236517205 := Nat.and_le_right
  obtain ⟨y, hy⟩ : ∃ y, (x / 2 &&& 6148914691236517205) + (x &&& 6148914691236517205) = y := ⟨_, rfl⟩
  have ey : IntKind.u64.wrap (Go.bits .and .u64 ((x : Int) / 2) 6148914691236517205 + Go.bits .and .u64 (x : Int) 6148914691236517205) = (y : Int) := by
    have a1 := hA (x / 2) 6148914691236517205 (by omega) (by decide)
    have a2 := hA x 6148914691236517205 hx (by decide)
    rw [Int.natCast_ediv] at a1
    rw [show ((x : Int) / 2) = ((x : Int) / ((2 : Nat) : Int)) from rfl, show (6148914691236517205 : Int) = ((6148914691236517205 : Nat) : Int) from rfl, a1, a2, ← Int.natCast_add, hy]
    exact hW y (by omega)
  have l3 : y / 4 &&& 3689348814741910323 ≤ 3689348814741910323 := Nat.and_le_right
  have l4 : y &&& 3689348814741910323 ≤ 3689348814741910323 := Nat.and_le_right
  obtain ⟨z, hz⟩ : ∃ z, (y / 4 &&& 3689348814741910323) + (y &&& 3689348814741910323) = z := ⟨_, rfl⟩
  have ez : IntKind.u64.wrap (Go.bits .and .u64 ((y : Int) / 4) 3689348814741910323 + Go.bits .and .u64 (y : Int) 3689348814741910323) = (z : Int) := by
    have a1 := hA (y / 4) 3689348814741910323 (by omega) (by decide)
    have a2 := hA y 3689348814741910323 (by omega) (by decide)
    rw [Int.natCast_ediv] at a1
    rw [show ((y : Int) / 4) = ((y : Int) / ((4 : Nat) : Int)) from rfl, show (3689348814741910323 : Int) = ((3689348814741910323 : Nat) : Int) from rfl, a1, a2, ← Int.natCast_add, hz]
    exact hW z (by omega)
  obtain ⟨g, hg⟩ : ∃ g, (z / 16 + z) &&& 1085102592571150095 = g := ⟨_, rfl⟩
  have lg : g ≤ 1085102592571150095 := by rw [← hg]; exact Nat.and_le_right
  have eg : Go.bits .and .u64 (IntKind.u64.wrap ((z : Int) / 16 + (z : Int))) 1085102592571150095 = (g : Int) := by
    have a0 := hW (z / 16 + z) (by omega)
    rw [Int.natCast_add, Int.natCast_ediv] at a0
    have a1 := hA (z / 16 + z) 1085102592571150095 (by omega) (by decide)
    rw [Int.natCast_add, Int.natCast_ediv, hg] at a1
    rw [show ((z : Int) / 16) = ((z : Int) / ((16 : Nat) : Int)) from rfl, a0]
    exact a1
  have hst : stN 6148914691236517205 3689348814741910323 1085102592571150095 x = g := by
    unfold stN
    simp only []
    rw [hy, hz, hg]
  have lt1 := ocT1_lt g lg
  have lt2 := ocT2_lt g lg
  have e1 : IntKind.u64.wrap ((g : Int) + (g : Int) / 256) = ((ocT1 g : Nat) : Int) := by
    rw [show (g : Int) + (g : Int) / 256 = ((ocT1 g : Nat) : Int) from by unfold ocT1; omega]
    exact hW _ (by omega)
  have e2 : IntKind.u64.wrap (((ocT1 g : Nat) : Int) + ((ocT1 g : Nat) : Int) / 65536) = ((ocT2 g : Nat) : Int) := by
    rw [show ((ocT1 g : Nat) : Int) + ((ocT1 g : Nat) : Int) / 65536 = ((ocT2 g : Nat) : Int) from by unfold ocT2; omega]
    exact hW _ (by omega)
  have e3 : wrap64 (IntKind.u64.wrap (((ocT2 g : Nat) : Int) + ((ocT2 g : Nat) : Int) / 4294967296)) = ((ocT2 g + ocT2 g / 4294967296 : Nat) : Int) := by
    rw [show ((ocT2 g : Nat) : Int) + ((ocT2 g : Nat) : Int) / 4294967296 = ((ocT2 g + ocT2 g / 4294967296 : Nat) : Int) from by omega, hW _ (by omega)]
    unfold wrap64; omega
  have f1 : ocA (y : Int) = (z : Int) := ez
  have f2 : ocB (z : Int) = (g : Int) := eg
  have f3 : ocC (g : Int) = ((ocT1 g : Nat) : Int) := e1
  have f4 : ocD ((ocT1 g : Nat) : Int) = ((ocT2 g : Nat) : Int) := e2
  have f5 : ocE ((ocT2 g : Nat) : Int) = (((ocT2 g + ocT2 g / 4294967296) % 128 : Nat) : Int) := by
    unfold ocE
    rw [e3]
    exact and_i64_127 _ (oc_last g lg)
  have f6 : ocN x = (ocT2 g + ocT2 g / 4294967296) % 128 := by
    unfold ocN ocT3
    rw [hst]
  rw [oc_form, ey, f1, f2, f3, f4, f5, ← f6, ocN_eq x hx]

def ints (l : List Nat) : List Int := l.map Int.ofNat

theorem lst_succ (x i : Nat) : lst x (i + 1) = if x.testBit i = true then lst x i ++ [i] else lst x i := by
  unfold lst
  rw [List.range_succ, List.filter_append]
  by_cases c : x.testBit i = true
  · rw [if_pos c, List.filter_cons_of_pos c]; rfl
  · rw [if_neg c, List.filter_cons_of_neg c]; simp

theorem lst_len (x n : Nat) : (lst x n).length ≤ n := by
  have := List.length_filter_le (fun i => x.testBit i) (List.range n)
  rw [List.length_range] at this
  exact this

theorem ref_list_eq {x : Nat} (hx : x < 18446744073709551616) {k : Nat} (hk : 200 < k) : patchbayref03_List.f k (x : Int) = some (ints (lst x 64)) := by
  have h : ∀ (d k i : Nat), i ≤ 64 → 64 - i = d → 65 + d < k → patchbayref03_List.l0 k (x : Int) (ints (lst x i)) (i : Int) = some (ints (lst x 64)) := by
    intro d
    induction d with
    | zero =>
      intro k i h1 hd hk
      obtain ⟨k, rfl⟩ : ∃ q, k = q + 1 := ⟨k - 1, by omega⟩
      obtain rfl : i = 64 := by omega
      rw [patchbayref03_List.l0, if_neg (by omega)]
    | succ d ih =>
      intro k i h1 hd hk
      obtain ⟨k, rfl⟩ : ∃ q, k = q + 1 := ⟨k - 1, by omega⟩
      have ih' := ih k (i + 1) (by omega) (by omega) (by omega)
      have hin : inS x (i : Int) = x.testBit i := by
        unfold inS
        rw [decide_eq_true ⟨by omega, by omega⟩, Bool.true_and, Int.toNat_natCast]
      have hl := lst_len x i
      rw [patchbayref03_List.l0, if_pos (by omega), ref_has_eq hx _ (by omega), Option.bind_some, hin, show wrap64 ((i : Int) + 1) = ((i + 1 : Nat) : Int) from by unfold wrap64; omega]
      rw [lst_succ] at ih'
      by_cases c : x.testBit i = true
      · rw [if_pos c] at ih' ⊢
        rw [if_pos (by unfold ints; rw [List.length_map]; omega)]
        unfold ints at ih' ⊢
        rw [List.map_append] at ih'
        exact ih'
      · rw [if_neg c] at ih' ⊢
        exact ih'
  exact h 64 k 0 (by omega) (by omega) (by omega)

theorem ctz_bits (y : Nat) (h0 : 0 < y) (hy : y < 18446744073709551616) : Lib.ctz 64 y < 64 ∧ (∀ i, i < Lib.ctz 64 y → y.testBit i = false) ∧ y.testBit (Lib.ctz 64 y) = true ∧ ∀ i, (y &&& (y - 1)).testBit i = (y.testBit i && decide (i ≠ Lib.ctz 64 y)) := by
  obtain ⟨m, hm, hk⟩ := Lib.ctzFrom_spec 64 y h0 hy
  have e : Lib.ctz 64 y = Lib.ctzFrom 64 y := by unfold Lib.ctz; rw [if_neg (by omega)]
  rw [e]
  generalize Lib.ctzFrom 64 y = c at hm hk
  have hc := Nat.two_pow_pos c
  have t1 : ∀ i, y.testBit i = (decide (c ≤ i) && (2 * m + 1).testBit (i - c)) := by
    intro i
    rw [hm, Nat.mul_comm, Nat.testBit_mul_two_pow]
  have hm1 : y - 1 = 2 ^ c * (2 * m) + (2 ^ c - 1) := by rw [hm, Nat.mul_add]; omega
  have t2 : ∀ i, (y - 1).testBit i = if i < c then true else (2 * m).testBit (i - c) := by
    intro i
    rw [hm1, Nat.testBit_two_pow_mul_add _ (by omega)]
    split
    · rw [Nat.testBit_two_pow_sub_one]; simp [*]
    · rfl
  refine ⟨hk, ?_, ?_, ?_⟩
  · intro i hi
    rw [t1, decide_eq_false (by omega), Bool.false_and]
  · rw [t1, decide_eq_true (Nat.le_refl _), Bool.true_and, Nat.sub_self, Nat.testBit_zero]
    exact decide_eq_true (by omega)
  · intro i
    rw [Nat.testBit_and, t1, t2]
    by_cases a : c ≤ i
    · rw [if_neg (by omega), decide_eq_true a, Bool.true_and]
      by_cases b : i = c
      · subst b
        rw [Nat.sub_self, Nat.testBit_zero, Nat.testBit_zero]
        simp
      · obtain ⟨j, hj⟩ : ∃ j, i - c = j + 1 := ⟨i - c - 1, by omega⟩
        rw [hj, Nat.testBit_succ, Nat.testBit_succ, show (2 * m + 1) / 2 = m by omega, show 2 * m / 2 = m by omega]
        simp [b]
    · rw [decide_eq_false a]; simp

theorem lst_cons (y : Nat) (h0 : 0 < y) (hy : y < 18446744073709551616) : lst y 64 = Lib.ctz 64 y :: lst (y &&& (y - 1)) 64 := by
  obtain ⟨hk, b1, b2, b3⟩ := ctz_bits y h0 hy
  generalize Lib.ctz 64 y = c at hk b1 b2 b3
  have hr : List.range 64 = List.range c ++ (c :: (List.range (63 - c)).map (fun i => c + 1 + i)) := by
    have e1 : List.range 64 = List.range ((c + 1) + (63 - c)) := by rw [show (c + 1) + (63 - c) = 64 by omega]
    rw [e1, List.range_add, List.range_succ, List.append_assoc]
    rfl
  unfold lst
  rw [hr, List.filter_append, List.filter_append, List.filter_cons_of_pos (by exact b2), List.filter_cons_of_neg (by rw [b3]; simp)]
  have f1 : (List.range c).filter (fun i => y.testBit i) = [] := by
    rw [List.filter_eq_nil_iff]
    intro i hi
    rw [b1 i (List.mem_range.1 hi)]; simp
  have f2 : (List.range c).filter (fun i => (y &&& (y - 1)).testBit i) = [] := by
    rw [List.filter_eq_nil_iff]
    intro i hi
    rw [b3, b1 i (List.mem_range.1 hi)]; simp
  rw [f1, f2, List.nil_append, List.nil_append]
  congr 1
  apply List.filter_congr
  intro i hi
  obtain ⟨j, _, rfl⟩ := List.mem_map.1 hi
  rw [b3, decide_eq_true (by omega), Bool.and_true]

theorem list_eq {x : Nat} (hx : x < 18446744073709551616) {k : Nat} (hk : 200 < k) : vlan_List.f k (x : Int) = some (ints (lst x 64)) := by
  have h : ∀ (d k y : Nat) (acc : List Int), y < 18446744073709551616 → (lst y 64).length = d → d < k → acc.length + d ≤ 64 → vlan_List.l0 k (y : Int) acc = some (acc ++ ints (lst y 64)) := by
    intro d
    induction d with
    | zero =>
      intro k y acc hy hd hk ha
      obtain ⟨k, rfl⟩ : ∃ q, k = q + 1 := ⟨k - 1, by omega⟩
      have h0 : y = 0 := by
        rcases Nat.eq_zero_or_pos y with h | h
        · exact h
        · rw [lst_cons y h hy] at hd; simp at hd
      subst h0
      rw [vlan_List.l0, if_pos (show ((0 : Nat) : Int) = 0 from rfl), List.length_eq_zero_iff.1 hd]
      simp [ints]
    | succ d ih =>
      intro k y acc hy hd hk ha
      obtain ⟨k, rfl⟩ : ∃ q, k = q + 1 := ⟨k - 1, by omega⟩
      have h0 : 0 < y := by
        rcases Nat.eq_zero_or_pos y with h | h
        · subst h; rw [show (lst 0 64).length = 0 by decide] at hd; omega
        · exact h
      have hc := lst_cons y h0 hy
      have hl : y &&& (y - 1) ≤ y := Nat.and_le_left
      have hd2 : (lst (y &&& (y - 1)) 64).length = d := by rw [hc] at hd; simpa using hd
      have ih' := ih k (y &&& (y - 1)) (acc ++ [((Lib.ctz 64 y : Nat) : Int)]) (by omega) hd2 (by omega) (by rw [List.length_append]; simp; omega)
      have hf : bits_TrailingZeros64.f (y : Int) = some ((Lib.ctz 64 y : Nat) : Int) := by
        unfold bits_TrailingZeros64.f
        rw [if_pos ⟨by omega, by omega⟩, Int.toNat_natCast]
      have e1 : Go.bits .and .u64 (y : Int) (IntKind.u64.wrap ((y : Int) - 1)) = ((y &&& (y - 1) : Nat) : Int) := by
        rw [show (y : Int) - 1 = ((y - 1 : Nat) : Int) by omega, IntWalk.u64_in _ ⟨by omega, by omega⟩]
        exact bits_and_u64_nat y (y - 1) hy (by omega)
      rw [vlan_List.l0, if_neg (by omega), hf, Option.bind_some, if_pos (by omega), e1, ih', hc]
      simp [ints]
  have hl := lst_len x 64
  have := h (lst x 64).length k x [] hx rfl (by omega) (by simpa using hl)
  exact this

theorem ints_same (l : List Int) (hl : l.length ≤ 64) {k : Nat} (hk : 65 < k) : patchbaylaw03_Ints.f k l l = some true := by
  have h : ∀ (d k i : Nat), i ≤ l.length → l.length - i = d → d < k → patchbaylaw03_Ints.l0 k l l (i : Int) = some true := by
    intro d
    induction d with
    | zero =>
      intro k i h1 hd hk
      obtain ⟨k, rfl⟩ : ∃ q, k = q + 1 := ⟨k - 1, by omega⟩
      rw [patchbaylaw03_Ints.l0, if_neg (by omega)]
    | succ d ih =>
      intro k i h1 hd hk
      obtain ⟨k, rfl⟩ : ∃ q, k = q + 1 := ⟨k - 1, by omega⟩
      rw [patchbaylaw03_Ints.l0, if_pos (by omega), if_pos (by omega), if_pos (by omega), if_pos rfl, show wrap64 ((i : Int) + 1) = ((i + 1 : Nat) : Int) from by unfold wrap64; omega]
      exact ih k (i + 1) (by omega) (by omega) (by omega)
  unfold patchbaylaw03_Ints.f
  rw [if_pos rfl]
  exact h l.length k 0 (by omega) (by omega) (by omega)

theorem or_pow (x i : Nat) (h : x.testBit i = false) : x ||| 2 ^ i = x + 2 ^ i := by
  have hp := Nat.two_pow_pos i
  have hs : 2 ^ (i + 1) = 2 ^ i * 2 := Nat.pow_succ 2 i
  obtain ⟨q, r, hr, hx⟩ : ∃ q r, r < 2 ^ (i + 1) ∧ x = 2 ^ (i + 1) * q + r := ⟨x / 2 ^ (i + 1), x % 2 ^ (i + 1), Nat.mod_lt _ (by omega), (Nat.div_add_mod _ _).symm⟩
  have hr2 : r < 2 ^ i := by
    apply Nat.lt_of_not_le
    intro hle
    have h1 : x.testBit i = r.testBit i := by rw [hx, Nat.testBit_two_pow_mul_add _ hr, if_pos (by omega)]
    have h2 : r.testBit i = true := by
      rw [show r = 2 ^ i * 1 + (r - 2 ^ i) by omega, Nat.testBit_two_pow_mul_add _ (by omega), if_neg (by omega), Nat.sub_self]
      rfl
    rw [h1, h2] at h; cases h
  have e1 : x = 2 ^ (i + 1) * q ||| r := by rw [hx]; exact Nat.two_pow_add_eq_or_of_lt hr q
  have e2 : 2 ^ i + r = 2 ^ i ||| r := by have := Nat.two_pow_add_eq_or_of_lt hr2 1; rwa [Nat.mul_one] at this
  have e3 : x + 2 ^ i = 2 ^ (i + 1) * q ||| (2 ^ i ||| r) := by
    rw [hx, Nat.add_assoc, Nat.add_comm r, ← e2]
    exact Nat.two_pow_add_eq_or_of_lt (by omega) q
  rw [e3, e1, Nat.or_assoc, Nat.or_comm r]

theorem ref_with_eq {x : Nat} (hx : x < 18446744073709551616) (p : Int) {k : Nat} (hk : 64 < k) : patchbayref03_With.f k (x : Int) p = some ((withN x p : Nat) : Int) := by
  unfold patchbayref03_With.f
  by_cases c : p < 0
  · rw [if_pos c]; unfold withN bitN; rw [if_neg (by omega), Nat.or_zero]
  · rw [if_neg c]
    by_cases d : p > 63
    · rw [if_pos d]; unfold withN bitN; rw [if_neg (by omega), Nat.or_zero]
    · rw [if_neg d, ref_has_eq hx p hk, Option.bind_some]
      obtain ⟨i, rfl⟩ := Int.eq_ofNat_of_zero_le (show 0 ≤ p by omega)
      have hin : inS x (i : Int) = x.testBit i := by
        unfold inS
        rw [decide_eq_true ⟨by omega, by omega⟩, Bool.true_and, Int.toNat_natCast]
      have hb : bitN (i : Int) = 2 ^ i := by unfold bitN; rw [if_pos ⟨by omega, by omega⟩, Int.toNat_natCast]
      have hor := withN_lt hx (i : Int)
      rw [hin]
      unfold withN at hor ⊢
      rw [hb] at hor ⊢
      by_cases t : x.testBit i = true
      · rw [if_pos t]
        congr 2
        apply Nat.eq_of_testBit_eq
        intro j
        rw [Nat.testBit_or, Nat.testBit_two_pow]
        by_cases e : i = j
        · subst e; rw [t]; simp
        · simp [e]
      · rw [if_neg t, ref_bit_eq (by omega) (by omega), Option.bind_some]
        have hadd : x ||| 2 ^ i = x + 2 ^ i := or_pow x i (by simpa using t)
        rw [hadd] at hor ⊢
        congr 1
        rw [← Int.natCast_add]
        exact IntWalk.u64_in _ ⟨by omega, by omega⟩

theorem ref_less_eq {x : Nat} (hx : x < 18446744073709551616) (p : Int) {k : Nat} (hk : 64 < k) : patchbayref03_Without.f k (x : Int) p = some ((lessN x p : Nat) : Int) := by
  unfold patchbayref03_Without.f
  rw [ref_has_eq hx p hk, Option.bind_some]
  have hout : inS x p = false → lessN x p = x := by
    intro h
    apply Nat.eq_of_testBit_eq
    intro j
    by_cases hj : j < 64
    · rw [lessN_test _ _ _ hj]
      by_cases e : 0 ≤ p ∧ p < 64 ∧ p.toNat = j
      · unfold inS at h
        rw [decide_eq_true ⟨e.1, e.2.1⟩, Bool.true_and, e.2.2] at h
        rw [h]; simp
      · rw [decide_eq_false e]; simp
    · have h1 : x.testBit j = false := Nat.testBit_lt_two_pow (Nat.lt_of_lt_of_le hx (Nat.pow_le_pow_right (n := 2) (i := 64) (by decide) (by omega)))
      have h2 : (lessN x p).testBit j = false := Nat.testBit_lt_two_pow (Nat.lt_of_lt_of_le (lessN_lt hx p) (Nat.pow_le_pow_right (n := 2) (i := 64) (by decide) (by omega)))
      rw [h1, h2]
  by_cases t : inS x p = true
  · rw [if_pos t]
    have t0 := t
    unfold inS at t
    rw [Bool.and_eq_true, decide_eq_true_iff] at t
    obtain ⟨⟨c, d⟩, t⟩ := t
    obtain ⟨i, rfl⟩ := Int.eq_ofNat_of_zero_le c
    rw [Int.toNat_natCast] at t
    rw [ref_bit_eq (by omega) (by omega), Option.bind_some]
    have h1 : (lessN x (i : Int)) + 2 ^ i = x := by
      have h0 : (lessN x (i : Int)).testBit i = false := by
        rw [lessN_test _ _ _ (by omega), decide_eq_true (p := 0 ≤ (i : Int) ∧ (i : Int) < 64 ∧ (i : Int).toNat = i) ⟨c, d, Int.toNat_natCast i⟩]
        simp
      rw [← or_pow _ i h0]
      apply Nat.eq_of_testBit_eq
      intro j
      rw [Nat.testBit_or, Nat.testBit_two_pow]
      by_cases hj : j < 64
      · rw [lessN_test _ _ _ hj]
        by_cases e : i = j
        · subst e; rw [t]; simp
        · rw [decide_eq_false (p := 0 ≤ (i : Int) ∧ (i : Int) < 64 ∧ (i : Int).toNat = j) (by omega)]; simp [e]
      · have h1 : x.testBit j = false := Nat.testBit_lt_two_pow (Nat.lt_of_lt_of_le hx (Nat.pow_le_pow_right (n := 2) (i := 64) (by decide) (by omega)))
        have h2 : (lessN x (i : Int)).testBit j = false := Nat.testBit_lt_two_pow (Nat.lt_of_lt_of_le (lessN_lt hx _) (Nat.pow_le_pow_right (n := 2) (i := 64) (by decide) (by omega)))
        rw [h1, h2, decide_eq_false (by omega)]; rfl
    have hlt := lessN_lt hx (i : Int)
    congr 1
    rw [show (x : Int) - ((2 ^ i : Nat) : Int) = ((lessN x (i : Int) : Nat) : Int) by omega]
    exact IntWalk.u64_in _ ⟨by omega, by omega⟩
  · rw [if_neg t, hout (by simpa using t)]

theorem withN_ones {i : Nat} (hi : i < 64) : withN (2 ^ i - 1) (i : Int) = 2 ^ (i + 1) - 1 := by
  apply Nat.eq_of_testBit_eq
  intro j
  rw [withN_test, Nat.testBit_two_pow_sub_one, Nat.testBit_two_pow_sub_one, Bool.eq_iff_iff]
  simp only [Bool.or_eq_true, decide_eq_true_iff]
  omega

theorem ref_all_eq (n : Int) {k : Nat} (hk : 200 < k) : patchbayref03_All.f k n = some ((2 ^ (min n.toNat 64) - 1 : Nat) : Int) := by
  have h : ∀ (d k i : Nat), i ≤ min n.toNat 64 → min n.toNat 64 - i = d → 65 + d < k → patchbayref03_All.l0 k n ((2 ^ i - 1 : Nat) : Int) (i : Int) = some ((2 ^ (min n.toNat 64) - 1 : Nat) : Int) := by
    intro d
    induction d with
    | zero =>
      intro k i h1 hd hk
      obtain ⟨k, rfl⟩ : ∃ q, k = q + 1 := ⟨k - 1, by omega⟩
      have hi : i = min n.toNat 64 := by omega
      rw [patchbayref03_All.l0]
      by_cases c : (i : Int) < n
      · rw [if_pos c, if_neg (by omega), hi]
      · rw [if_neg c, hi]
    | succ d ih =>
      intro k i h1 hd hk
      obtain ⟨k, rfl⟩ : ∃ q, k = q + 1 := ⟨k - 1, by omega⟩
      have ih' := ih k (i + 1) (by omega) (by omega) (by omega)
      have hp : 2 ^ i ≤ 2 ^ 63 := Nat.pow_le_pow_right (by decide) (by omega)
      rw [patchbayref03_All.l0, if_pos (by omega), if_pos (by omega), ref_with_eq (by omega) _ (by omega), Option.bind_some, withN_ones (by omega), show wrap64 ((i : Int) + 1) = ((i + 1 : Nat) : Int) from by unfold wrap64; omega]
      exact ih'
  have := h (min n.toNat 64) k 0 (by omega) (by omega) (by omega)
  exact this

theorem all_eq (n : Int) : vlan_All.f n = some ((2 ^ (min n.toNat 64) - 1 : Nat) : Int) := by
  unfold vlan_All.f
  by_cases c : n ≤ 0
  · rw [if_pos c, show min n.toNat 64 = 0 by omega]; rfl
  · rw [if_neg c]
    by_cases d : n ≥ 64
    · rw [if_pos d, show min n.toNat 64 = 64 by omega]; rfl
    · rw [if_neg d, if_pos (by omega)]
      obtain ⟨i, rfl⟩ := Int.eq_ofNat_of_zero_le (show 0 ≤ n by omega)
      have hp : 2 ^ i ≤ 2 ^ 63 := Nat.pow_le_pow_right (by decide) (show i ≤ 63 by omega)
      have hq : 0 < 2 ^ i := Nat.two_pow_pos i
      have hs : shl .u64 1 (i : Int) = ((2 ^ i : Nat) : Int) := by
        unfold shl
        rw [show min (i : Int).toNat IntKind.u64.bits = i from by simp [IntKind.bits]; omega, Int.one_mul, show (2 : Int) ^ i = ((2 ^ i : Nat) : Int) from by norm_cast]
        exact IntWalk.u64_in _ ⟨by omega, by omega⟩
      rw [hs, show min (i : Int).toNat 64 = i by omega, show ((2 ^ i : Nat) : Int) - 1 = ((2 ^ i - 1 : Nat) : Int) by omega]
      congr 1
      exact IntWalk.u64_in _ ⟨by omega, by omega⟩

theorem VlanSets : patchbaylaw03_VlanSets.Pure := by
  intro s p n hs hp hn
  have bs := bounds_u64 hs
  obtain ⟨x, rfl⟩ := Int.eq_ofNat_of_zero_le bs.1
  have hx : x < 18446744073709551616 := by omega
  have hl : (ints (lst x 64)).length ≤ 64 := by unfold ints; rw [List.length_map]; exact lst_len x 64
  refine ⟨2001, ?_⟩
  unfold patchbaylaw03_VlanSets.f
  rw [ref_list_eq hx (by decide), Option.bind_some, vtold (by decide), Option.bind_some, if_pos rfl, has_eq hx, Option.bind_some, ref_has_eq hx _ (by decide), Option.bind_some, if_pos (by simp), with_eq hx, Option.bind_some, ref_with_eq hx _ (by decide), Option.bind_some, if_pos rfl, less_eq hx, Option.bind_some, ref_less_eq hx _ (by decide), Option.bind_some, if_pos rfl, list_eq hx (by decide), Option.bind_some, ints_same _ hl (by decide), Option.bind_some, if_pos rfl]
  have hsz : vlan_Size.f (x : Int) = some (((lst x 64).length : Nat) : Int) := by
    unfold vlan_Size.f
    rw [oc_eq x hx, Option.bind_some]
  rw [hsz, Option.bind_some, if_pos (by unfold ints; rw [List.length_map]), all_eq, Option.bind_some, ref_all_eq _ (by decide), Option.bind_some]
  simp

end Go.Proofs.YtfgdjljbdghdgaaDoor.Pure
