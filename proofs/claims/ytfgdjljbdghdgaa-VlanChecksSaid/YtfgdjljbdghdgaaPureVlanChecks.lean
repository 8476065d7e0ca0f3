/- VlanChecks: the plain law. -/
import Derived.OpenShut
import Derived.IntWalk
import Derived.Test.YtfgdjljbdghdgaaBits
import Derived.Test.YtfgdjljbdghdgaaHandVlan
namespace Go.Proofs.Ytfgdjljbdghdgaa.Pure
open Go.RowKit Go.Proofs.Ytfgdjljbdghdgaa.PVlan Go.Proofs.YtfgdjljbdghdgaaW.PrintWords Go.Proofs.YtfgdjljbdghdgaaW.PrintLast Go.Proofs.YtfgdjljbdghdgaaW.PrintMore
open Go.Proofs.Ytfgdjljbdghdgaa

/-- A port's bit; 0: there is no such port. -/
def bitN (p : Int) : Nat := if 0 ≤ p ∧ p < 64 then 2 ^ p.toNat else 0

theorem bitN_lt (p : Int) : bitN p < 18446744073709551616 := by
  unfold bitN
  split
  · exact Nat.lt_of_lt_of_le (Nat.pow_lt_pow_right (by decide) (show p.toNat < 64 by omega)) (by decide)
  · decide

theorem bitN_test (p : Int) (i : Nat) : (bitN p).testBit i = decide (0 ≤ p ∧ p < 64 ∧ p.toNat = i) := by
  unfold bitN
  by_cases c : 0 ≤ p ∧ p < 64
  · rw [if_pos c, Nat.testBit_two_pow]
    exact decide_eq_decide.2 (by omega)
  · rw [if_neg c, Nat.zero_testBit]
    exact (decide_eq_false (by omega)).symm

theorem of_eq (p : Int) : vlan_of.f p = some ((bitN p : Nat) : Int) := by
  unfold vlan_of.f bitN
  by_cases c : p < 0
  · rw [if_pos c, if_neg (by omega)]; rfl
  · rw [if_neg c]
    by_cases d : p ≥ 64
    · rw [if_pos d, if_neg (by omega)]; rfl
    · rw [if_neg d, if_pos (by omega), if_pos (by omega)]
      obtain ⟨i, rfl⟩ := Int.eq_ofNat_of_zero_le (show 0 ≤ p by omega)
      have hp : 2 ^ i < 2 ^ 64 := Nat.pow_lt_pow_right (by decide) (show i < 64 by omega)
      have hq : 0 < 2 ^ i := Nat.two_pow_pos i
      congr 1
      unfold shl
      rw [show min (i : Int).toNat IntKind.u64.bits = i from by simp [IntKind.bits]; omega, Int.one_mul, show (2 : Int) ^ i = ((2 ^ i : Nat) : Int) from by norm_cast, Int.toNat_natCast]
      exact IntWalk.u64_in _ ⟨by omega, by omega⟩

/-- Is a port in? -/
def inS (x : Nat) (p : Int) : Bool := decide (0 ≤ p ∧ p < 64) && x.testBit p.toNat

theorem and_bit (x n : Nat) : x &&& 2 ^ n = if x.testBit n = true then 2 ^ n else 0 := by
  apply Nat.eq_of_testBit_eq
  intro i
  rw [Nat.testBit_and, Nat.testBit_two_pow]
  by_cases e : n = i
  · subst e
    by_cases c : x.testBit n = true
    · rw [if_pos c, c, Nat.testBit_two_pow]; rfl
    · rw [if_neg c, show x.testBit n = false from by simpa using c, Nat.zero_testBit]; rfl
  · rw [decide_eq_false e, Bool.and_false]
    split
    · rw [Nat.testBit_two_pow, decide_eq_false e]
    · rw [Nat.zero_testBit]

theorem has_eq {x : Nat} (hx : x < 18446744073709551616) (p : Int) : vlan_Has.f (x : Int) p = some (inS x p) := by
  unfold vlan_Has.f inS
  rw [of_eq]
  simp only [Option.bind_some]
  rw [u64_and_nat x (bitN p) hx (bitN_lt p)]
  congr 1
  unfold bitN
  by_cases c : 0 ≤ p ∧ p < 64
  · rw [if_pos c, decide_eq_true c, Bool.true_and, and_bit]
    cases h : x.testBit p.toNat
    · rw [if_neg (by decide)]; rfl
    · have := Nat.two_pow_pos p.toNat
      rw [if_pos rfl]
      simp only [bne_iff_ne, ne_eq]
      omega
  · rw [if_neg c, decide_eq_false c, Bool.false_and, Nat.and_zero]; rfl

def withN (x : Nat) (p : Int) : Nat := x ||| bitN p
def lessN (x : Nat) (p : Int) : Nat := x &&& (18446744073709551615 - bitN p)

theorem less_eq {x : Nat} (hx : x < 18446744073709551616) (p : Int) : vlan_Without.f (x : Int) p = some ((lessN x p : Nat) : Int) := by
  unfold vlan_Without.f
  rw [of_eq]
  simp only [Option.bind_some]
  rw [u64_andNot_nat x (bitN p) hx (bitN_lt p)]; rfl

theorem withN_lt {x : Nat} (hx : x < 18446744073709551616) (p : Int) : withN x p < 18446744073709551616 := Nat.or_lt_two_pow (n := 64) hx (bitN_lt p)
theorem lessN_lt {x : Nat} (hx : x < 18446744073709551616) (p : Int) : lessN x p < 18446744073709551616 := Nat.lt_of_le_of_lt Nat.and_le_left hx

theorem withN_test (x : Nat) (p : Int) (i : Nat) : (withN x p).testBit i = (x.testBit i || decide (0 ≤ p ∧ p < 64 ∧ p.toNat = i)) := by
  unfold withN
  rw [Nat.testBit_or, bitN_test]

theorem lessN_test (x : Nat) (p : Int) (i : Nat) (hi : i < 64) : (lessN x p).testBit i = (x.testBit i && !decide (0 ≤ p ∧ p < 64 ∧ p.toNat = i)) := by
  unfold lessN
  rw [Nat.testBit_and, show 18446744073709551615 - bitN p = 2 ^ 64 - (bitN p + 1) from by omega, Nat.testBit_two_pow_sub_succ (bitN_lt p), bitN_test, decide_eq_true hi, Bool.true_and]

theorem vtold2 : patchbaylaw03_told.f 2000 = some true := by decide +kernel

theorem vtold_up : ∀ d, patchbaylaw03_told.f (2000 + d) = some true
  | 0 => vtold2
  | d + 1 => patchbaylaw03_told.mono (2000 + d) _ (vtold_up d)

theorem vtold {k : Nat} (hk : 2000 ≤ k) : patchbaylaw03_told.f k = some true := by
  obtain ⟨d, rfl⟩ := Nat.exists_eq_add_of_le hk
  exact vtold_up d

def conv (x : S91) : S89 := ⟨x.f0, x.f1, x.f2⟩

theorem rd_map (l : List S91) (i : Int) : rd_T89 (l.map conv) i = conv (rd_T91 l i) := by
  unfold rd_T89 rd_T91
  rw [List.getD_eq_getElem?_getD, List.getD_eq_getElem?_getD, List.getElem?_map]
  cases l[i.toNat]? <;> rfl

theorem to_eq {l : List S91} (hn : l.length ≤ 1000) {k : Nat} (hk : l.length < k) : patchbaylaw03_To.f k l = some (l.map conv) := by
  have h : ∀ (d k i : Nat), i ≤ l.length → l.length - i = d → d < k → patchbaylaw03_To.l0 k l ((l.take i).map conv) (i : Int) = some (l.map conv) := by
    intro d
    induction d with
    | zero =>
      intro k i h1 hd hk
      obtain ⟨k, rfl⟩ : ∃ q, k = q + 1 := ⟨k - 1, by omega⟩
      obtain rfl : i = l.length := by omega
      rw [patchbaylaw03_To.l0, if_neg (by omega), List.take_length]
    | succ d ih =>
      intro k i h1 hd hk
      obtain ⟨k, rfl⟩ : ∃ q, k = q + 1 := ⟨k - 1, by omega⟩
      have hi : i < l.length := by omega
      have e : l.take (i + 1) = l.take i ++ [rd_T91 l (i : Int)] := by
        rw [List.take_add_one, List.getElem?_eq_getElem hi, Option.toList_some]
        congr 2
        simp [rd_T91, List.getD_eq_getElem?_getD, hi]
      have ih' := ih k (i + 1) (by omega) (by omega) (by omega)
      rw [e, List.map_append] at ih'
      rw [patchbaylaw03_To.l0, if_pos (by omega), if_pos (by omega), if_pos (by rw [List.length_map, List.length_take]; omega), show wrap64 ((i : Int) + 1) = ((i + 1 : Nat) : Int) from by unfold wrap64; omega]
      exact ih'
  exact h l.length k 0 (by omega) (by omega) hk

theorem ref_find_eq {l : List S91} (vid : Int) (hn : l.length ≤ 1000) {k : Nat} (hk : l.length < k) : patchbayref03_Find.f k l vid = some (findV vid (l.map conv) l.length 0) := by
  have h : ∀ (d k i : Nat), i ≤ l.length → l.length - i = d → d < k → patchbayref03_Find.l0 k l vid (i : Int) = some (findV vid (l.map conv) d i) := by
    intro d
    induction d with
    | zero =>
      intro k i h1 hd hk
      obtain ⟨k, rfl⟩ : ∃ q, k = q + 1 := ⟨k - 1, by omega⟩
      rw [patchbayref03_Find.l0, if_neg (by omega), findV]
    | succ d ih =>
      intro k i h1 hd hk
      obtain ⟨k, rfl⟩ : ∃ q, k = q + 1 := ⟨k - 1, by omega⟩
      rw [patchbayref03_Find.l0, if_pos (by omega), if_pos (by omega), findV, rd_map, show (conv (rd_T91 l (i : Int))).f0 = (rd_T91 l (i : Int)).f0 from rfl]
      by_cases c : (rd_T91 l (i : Int)).f0 = vid
      · rw [if_pos c, if_pos c]
      · rw [if_neg c, if_neg c, show wrap64 ((i : Int) + 1) = ((i + 1 : Nat) : Int) from by unfold wrap64; omega]
        exact ih k (i + 1) (by omega) (by omega) (by omega)
  exact h l.length k 0 (by omega) (by omega) hk

theorem find_eq {l : List S91} (vid : Int) (hn : l.length ≤ 1000) : vlan_Find.f (l.map conv) vid = some (findV vid (l.map conv) l.length 0) := by
  unfold vlan_Find.f
  rw [List.length_map, if_pos (by omega)]

theorem findV_range (vid : Int) (l : List S89) (d : Nat) : ∀ k : Nat, findV vid l d k = -1 ∨ ((k : Int) ≤ findV vid l d k ∧ findV vid l d k < ((k + d : Nat) : Int)) := by
  induction d with
  | zero => intro k; exact .inl rfl
  | succ d ih =>
    intro k
    rw [findV]
    split
    · exact .inr ⟨by omega, by omega⟩
    · rcases ih (k + 1) with h | ⟨h1, h2⟩
      · exact .inl h
      · exact .inr ⟨by omega, by omega⟩

theorem ref_bit_eq {p : Nat} (hp : p < 64) {k : Nat} (hk : p < k) : patchbayref03_bit.f k (p : Int) = some ((2 ^ p : Nat) : Int) := by
  have h : ∀ (d k i : Nat), i ≤ p → p - i = d → d < k → patchbayref03_bit.l0 k (p : Int) ((2 ^ i : Nat) : Int) (i : Int) = some ((2 ^ p : Nat) : Int) := by
    intro d
    induction d with
    | zero =>
      intro k i h1 hd hk
      obtain ⟨k, rfl⟩ : ∃ q, k = q + 1 := ⟨k - 1, by omega⟩
      obtain rfl : i = p := by omega
      rw [patchbayref03_bit.l0, if_neg (by omega)]
    | succ d ih =>
      intro k i h1 hd hk
      obtain ⟨k, rfl⟩ : ∃ q, k = q + 1 := ⟨k - 1, by omega⟩
      have hp2 : 2 ^ (i + 1) < 2 ^ 64 := Nat.pow_lt_pow_right (by decide) (show i + 1 < 64 by omega)
      have e2 : 2 ^ (i + 1) = 2 ^ i * 2 := Nat.pow_succ 2 i
      have ih' := ih k (i + 1) (by omega) (by omega) (by omega)
      rw [patchbayref03_bit.l0, if_pos (by omega), show wrap64 ((i : Int) + 1) = ((i + 1 : Nat) : Int) from by unfold wrap64; omega, show ((2 ^ i : Nat) : Int) * 2 = ((2 ^ (i + 1) : Nat) : Int) from by rw [e2]; rfl, IntWalk.u64_in _ ⟨by omega, by omega⟩]
      exact ih'
  exact h p k 0 (by omega) (by omega) hk

theorem ref_has_eq {x : Nat} (hx : x < 18446744073709551616) (p : Int) {k : Nat} (hk : 64 < k) : patchbayref03_Has.f k (x : Int) p = some (inS x p) := by
  unfold patchbayref03_Has.f inS
  by_cases c : p ≥ 0
  · rw [if_pos c]
    by_cases d : p < 64
    · obtain ⟨i, rfl⟩ := Int.eq_ofNat_of_zero_le c
      have h0 := Nat.two_pow_pos i
      have h1 : x / 2 ^ i ≤ x := Nat.div_le_self _ _
      rw [if_pos d, ref_bit_eq (by omega) (by omega), Option.bind_some, if_neg (by omega), decide_eq_true ⟨c, d⟩, Bool.true_and, Int.toNat_natCast, Nat.testBit_eq_decide_div_mod_eq, Int.tdiv_eq_ediv_of_nonneg (by omega), ← Int.natCast_ediv, IntWalk.u64_in _ ⟨Int.natCast_nonneg _, Int.le_trans (Int.ofNat_le.2 h1) (by omega)⟩, Int.tmod_eq_emod_of_nonneg (Int.natCast_nonneg _)]
      congr 1
      rw [Bool.eq_iff_iff, beq_iff_eq, decide_eq_true_iff]
      generalize x / 2 ^ i = q
      omega
    · rw [if_neg d, decide_eq_false (by omega), Bool.false_and]
  · rw [if_neg c, decide_eq_false (by omega), Bool.false_and]

theorem lessN_split {x : Nat} (hx : x < 18446744073709551616) {i : Nat} (hi : i < 64) : lessN x (i : Int) = 2 ^ (i + 1) * (x / 2 ^ (i + 1)) + x % 2 ^ i := by
  have hr : x % 2 ^ i < 2 ^ (i + 1) := Nat.lt_of_lt_of_le (Nat.mod_lt _ (Nat.two_pow_pos i)) (Nat.pow_le_pow_right (by decide) (by omega))
  apply Nat.eq_of_testBit_eq
  intro j
  rw [Nat.testBit_two_pow_mul_add _ hr]
  by_cases c : j < 64
  · rw [lessN_test _ _ _ c]
    by_cases d : j < i + 1
    · rw [if_pos d, Nat.testBit_mod_two_pow]
      by_cases e : j = i
      · subst e
        rw [decide_eq_true (p := 0 ≤ (j : Int) ∧ (j : Int) < 64 ∧ (j : Int).toNat = j) ⟨by omega, by omega, by omega⟩, decide_eq_false (by omega)]
        simp
      · rw [decide_eq_false (p := 0 ≤ (i : Int) ∧ (i : Int) < 64 ∧ (i : Int).toNat = j) (by omega), decide_eq_true (by omega)]
        simp
    · rw [if_neg d, Nat.testBit_div_two_pow, decide_eq_false (p := 0 ≤ (i : Int) ∧ (i : Int) < 64 ∧ (i : Int).toNat = j) (by omega), show j - (i + 1) + (i + 1) = j from by omega]
      simp
  · have hj : x.testBit j = false := Nat.testBit_lt_two_pow (Nat.lt_of_lt_of_le (show x < 2 ^ 64 from hx) (Nat.pow_le_pow_right (by decide) (by omega)))
    have hl : (lessN x (i : Int)).testBit j = false := Nat.testBit_lt_two_pow (Nat.lt_of_lt_of_le (show lessN x (i : Int) < 2 ^ 64 from lessN_lt hx _) (Nat.pow_le_pow_right (by decide) (by omega)))
    rw [hl, if_neg (by omega), Nat.testBit_div_two_pow, show j - (i + 1) + (i + 1) = j from by omega, hj]

theorem lessN_val {x : Nat} (hx : x < 18446744073709551616) (p : Int) : lessN x p = if inS x p = true then x - 2 ^ p.toNat else x := by
  by_cases c : 0 ≤ p ∧ p < 64
  · obtain ⟨i, rfl⟩ := Int.eq_ofNat_of_zero_le c.1
    have h1 := lessN_split hx (show i < 64 by omega)
    have h2 := Nat.div_add_mod x (2 ^ (i + 1))
    have h3 := Nat.mod_pow_succ (x := x) (b := 2) (k := i)
    unfold inS
    rw [decide_eq_true c, Bool.true_and, Int.toNat_natCast, Nat.testBit_eq_decide_div_mod_eq, h1]
    have h4 : x / 2 ^ i % 2 = 0 ∨ x / 2 ^ i % 2 = 1 := by omega
    rcases h4 with h | h
    · rw [if_neg (by simp [h])]
      rw [h, Nat.mul_zero] at h3
      omega
    · rw [if_pos (by simp [h])]
      rw [h, Nat.mul_one] at h3
      omega
  · have e : inS x p = false := by unfold inS; rw [decide_eq_false c, Bool.false_and]
    rw [e, if_neg (by decide)]
    unfold lessN bitN
    rw [if_neg c]
    have := Nat.and_two_pow_sub_one_of_lt_two_pow (n := 64) (show x < 2 ^ 64 from hx)
    exact this

theorem ref_without_eq {x : Nat} (hx : x < 18446744073709551616) (p : Int) {k : Nat} (hk : 64 < k) : patchbayref03_Without.f k (x : Int) p = some ((lessN x p : Nat) : Int) := by
  unfold patchbayref03_Without.f
  rw [ref_has_eq hx p hk, Option.bind_some]
  have hv := lessN_val hx p
  have hl := lessN_lt hx p
  by_cases c : inS x p = true
  · rw [if_pos c] at hv
    have c' := c
    unfold inS at c'
    simp only [Bool.and_eq_true, decide_eq_true_eq] at c'
    obtain ⟨⟨c1, c2⟩, c3⟩ := c'
    obtain ⟨i, rfl⟩ := Int.eq_ofNat_of_zero_le c1
    rw [Int.toNat_natCast] at hv c3
    have hge : 2 ^ i ≤ x := Nat.ge_two_pow_of_testBit c3
    rw [if_pos c, ref_bit_eq (by omega) (by omega), Option.bind_some, hv, show (x : Int) - ((2 ^ i : Nat) : Int) = ((x - 2 ^ i : Nat) : Int) from by omega, IntWalk.u64_in _ ⟨by omega, by omega⟩]
  · rw [if_neg c] at hv
    rw [if_neg c, hv]

/-- Is all of one in the other? -/
def subN (a b : Nat) : Bool := decide (a &&& (18446744073709551615 - b) = 0)

theorem andNot_zero {a b : Nat} (ha : a < 18446744073709551616) (hb : b < 18446744073709551616) : Go.bits .andNot .u64 (a : Int) (b : Int) = 0 ↔ subN a b = true := by
  rw [u64_andNot_nat a b ha hb]
  unfold subN
  rw [decide_eq_true_iff]
  generalize a &&& (18446744073709551615 - b) = q
  omega

theorem subN_iff {a b : Nat} (_ha : a < 18446744073709551616) (hb : b < 18446744073709551616) : subN a b = true ↔ ∀ j, 0 ≤ j → j < 64 → a.testBit j = true → b.testBit j = true := by
  unfold subN
  rw [decide_eq_true_iff]
  constructor
  · intro h j _ hj hja
    have := congrArg (fun x => x.testBit j) h
    simp only [Nat.testBit_and, Nat.zero_testBit] at this
    rw [show 18446744073709551615 - b = 2 ^ 64 - (b + 1) from by omega, Nat.testBit_two_pow_sub_succ hb, hja, decide_eq_true hj] at this
    simpa using this
  · intro h
    apply Nat.eq_of_testBit_eq
    intro j
    rw [Nat.testBit_and, Nat.zero_testBit, show 18446744073709551615 - b = 2 ^ 64 - (b + 1) from by omega, Nat.testBit_two_pow_sub_succ hb]
    by_cases c : j < 64
    · cases e : a.testBit j
      · simp
      · rw [h j (by omega) c e]; simp
    · simp [c]

theorem inS_nat (x : Nat) {i : Nat} (hi : i < 64) : inS x (i : Int) = x.testBit i := by
  unfold inS
  rw [decide_eq_true ⟨by omega, by omega⟩, Bool.true_and, Int.toNat_natCast]

theorem within_eq {a b : Nat} (ha : a < 18446744073709551616) (hb : b < 18446744073709551616) {k : Nat} (hk : 200 ≤ k) : patchbayref03_Within.f k (a : Int) (b : Int) = some (subN a b) := by
  have h : ∀ (d k i : Nat), i ≤ 64 → 64 - i = d → d + 70 < k → ∃ r : Bool, patchbayref03_Within.l0 k (a : Int) (b : Int) (i : Int) = some r ∧ (r = true ↔ ∀ j, i ≤ j → j < 64 → a.testBit j = true → b.testBit j = true) := by
    intro d
    induction d with
    | zero =>
      intro k i h1 hd hk
      obtain ⟨k, rfl⟩ : ∃ q, k = q + 1 := ⟨k - 1, by omega⟩
      exact ⟨true, by rw [patchbayref03_Within.l0, if_neg (by omega)], ⟨fun _ j h2 h3 => by omega, fun _ => rfl⟩⟩
    | succ d ih =>
      intro k i h1 hd hk
      obtain ⟨k, rfl⟩ : ∃ q, k = q + 1 := ⟨k - 1, by omega⟩
      obtain ⟨r, hr, hiff⟩ := ih k (i + 1) (by omega) (by omega) (by omega)
      rw [patchbayref03_Within.l0, if_pos (by omega), ref_has_eq ha (i : Int) (by omega), Option.bind_some, inS_nat a (by omega), show wrap64 ((i : Int) + 1) = ((i + 1 : Nat) : Int) from by unfold wrap64; omega]
      by_cases c : a.testBit i = true
      · rw [if_pos c, ref_has_eq hb (i : Int) (by omega), Option.bind_some, inS_nat b (by omega)]
        by_cases e : b.testBit i = true
        · rw [if_pos e]
          refine ⟨r, hr, ⟨fun h j h2 h3 h4 => ?_, fun h => hiff.2 (fun j h2 h3 h4 => h j (by omega) h3 h4)⟩⟩
          by_cases q : j = i
          · rw [q]; exact e
          · exact hiff.1 h j (by omega) h3 h4
        · rw [if_neg e]
          exact ⟨false, rfl, ⟨fun h => absurd h (by decide), fun h => absurd (h i (Nat.le_refl _) (by omega) c) e⟩⟩
      · rw [if_neg c]
        refine ⟨r, hr, ⟨fun h j h2 h3 h4 => ?_, fun h => hiff.2 (fun j h2 h3 h4 => h j (by omega) h3 h4)⟩⟩
        by_cases q : j = i
        · rw [q] at h4; exact absurd h4 c
        · exact hiff.1 h j (by omega) h3 h4
  obtain ⟨r, hr, hiff⟩ := h 64 k 0 (by omega) (by omega) (by omega)
  unfold patchbayref03_Within.f
  refine Eq.trans hr ?_
  congr 1
  rw [Bool.eq_iff_iff, hiff, subN_iff ha hb]

theorem shl_nat {i : Nat} (hi : i < 64) : shl .u64 1 (i : Int) = ((2 ^ i : Nat) : Int) := by
  have hp : 2 ^ i < 2 ^ 64 := Nat.pow_lt_pow_right (by decide) hi
  have hq : 0 < 2 ^ i := Nat.two_pow_pos i
  unfold shl
  rw [show min (i : Int).toNat IntKind.u64.bits = i from by simp [IntKind.bits]; omega, Int.one_mul, show (2 : Int) ^ i = ((2 ^ i : Nat) : Int) from by norm_cast]
  exact IntWalk.u64_in _ ⟨by omega, by omega⟩

theorem all_eq {p : Nat} (h1 : 2 ≤ p) (h2 : p ≤ 64) : vlan_All.f (p : Int) = some ((2 ^ p - 1 : Nat) : Int) := by
  unfold vlan_All.f
  rw [if_neg (by omega)]
  by_cases c : p = 64
  · subst c; rfl
  · have hp : 2 ^ p < 2 ^ 64 := Nat.pow_lt_pow_right (by decide) (show p < 64 by omega)
    have hq : 0 < 2 ^ p := Nat.two_pow_pos p
    rw [if_neg (by omega), if_pos (by omega), shl_nat (by omega), show ((2 ^ p : Nat) : Int) - 1 = ((2 ^ p - 1 : Nat) : Int) from by omega, IntWalk.u64_in _ ⟨by omega, by omega⟩]

theorem ref_all_eq {p : Nat} (h2 : p ≤ 64) {k : Nat} (hk : 200 ≤ k) : patchbayref03_All.f k (p : Int) = some ((2 ^ p - 1 : Nat) : Int) := by
  have h : ∀ (d k i : Nat), i ≤ p → p - i = d → d + 70 < k → patchbayref03_All.l0 k (p : Int) ((2 ^ i - 1 : Nat) : Int) (i : Int) = some ((2 ^ p - 1 : Nat) : Int) := by
    intro d
    induction d with
    | zero =>
      intro k i h1 hd hk
      obtain ⟨k, rfl⟩ : ∃ q, k = q + 1 := ⟨k - 1, by omega⟩
      obtain rfl : i = p := by omega
      rw [patchbayref03_All.l0, if_neg (by omega)]
    | succ d ih =>
      intro k i h1 hd hk
      obtain ⟨k, rfl⟩ : ∃ q, k = q + 1 := ⟨k - 1, by omega⟩
      have ih' := ih k (i + 1) (by omega) (by omega) (by omega)
      have hp : 2 ^ (i + 1) ≤ 2 ^ 64 := Nat.pow_le_pow_right (by decide) (by omega)
      have e2 : 2 ^ (i + 1) = 2 ^ i * 2 := Nat.pow_succ 2 i
      have hq : 0 < 2 ^ i := Nat.two_pow_pos i
      have hs : 2 ^ i - 1 < 18446744073709551616 := by omega
      have hh : inS (2 ^ i - 1) (i : Int) = false := by
        rw [inS_nat _ (by omega), Nat.testBit_two_pow_sub_one, decide_eq_false (by omega)]
      have hw : patchbayref03_With.f k ((2 ^ i - 1 : Nat) : Int) (i : Int) = some ((2 ^ (i + 1) - 1 : Nat) : Int) := by
        unfold patchbayref03_With.f
        rw [if_neg (by omega), if_neg (by omega), ref_has_eq hs (i : Int) (by omega), Option.bind_some, hh, if_neg (by decide), ref_bit_eq (by omega) (by omega), Option.bind_some, show ((2 ^ i - 1 : Nat) : Int) + ((2 ^ i : Nat) : Int) = ((2 ^ (i + 1) - 1 : Nat) : Int) from by omega, IntWalk.u64_in _ ⟨by omega, by omega⟩]
      rw [patchbayref03_All.l0, if_pos (by omega), if_pos (by omega), hw, Option.bind_some, show wrap64 ((i : Int) + 1) = ((i + 1 : Nat) : Int) from by unfold wrap64; omega]
      exact ih'
  exact h p k 0 (by omega) (by omega) (by omega)

/-- What is wrong with the VLANs from i on; 0: nothing. -/
def chk (M : Nat) (l : List S91) : Nat → Nat → Int → Int
  | 0, _, _ => 0
  | d + 1, i, last => if (rd_T91 l (i : Int)).f0 < 1 ∨ (rd_T91 l (i : Int)).f0 > 4094 ∨ (rd_T91 l (i : Int)).f0 ≤ last then 6 else if subN (rd_T91 l (i : Int)).f1.toNat M = true then (if subN (rd_T91 l (i : Int)).f2.toNat (rd_T91 l (i : Int)).f1.toNat = true then chk M l d (i + 1) (rd_T91 l (i : Int)).f0 else 1) else 5

theorem rd_mem {l : List S91} {i : Nat} (hi : i < l.length) : rd_T91 l (i : Int) ∈ l := by
  unfold rd_T91
  rw [Int.toNat_natCast, List.getD_eq_getElem?_getD, List.getElem?_eq_getElem hi, Option.getD_some]
  exact List.getElem_mem hi

theorem chk_eq {p : Nat} (p1 : 2 ≤ p) (p2 : p ≤ 64) {l : List S91} (hn : l.length ≤ 20) (hw : ∀ x ∈ l, (Lit.int .u64 x.f1).wf = true ∧ (Lit.int .u64 x.f2).wf = true) (d : Nat) : ∀ (k i : Nat) (last : Int), 0 ≤ last → i ≤ l.length → l.length - i = d → 2 * d < k → vlan_Check.l0 k (p : Int) last (l.map conv) (l.length : Int) (i : Int) = some (chk (2 ^ p - 1) l d i last) := by
  have hM : 2 ^ p - 1 < 18446744073709551616 := by
    have : 2 ^ p ≤ 2 ^ 64 := Nat.pow_le_pow_right (by decide) p2
    have hq : 0 < 2 ^ p := Nat.two_pow_pos p
    omega
  induction d with
  | zero =>
    intro k i last _ h1 hd hk
    obtain ⟨k, rfl⟩ : ∃ q, k = q + 1 := ⟨k - 1, by omega⟩
    rw [vlan_Check.l0, if_neg (by omega), chk]
  | succ d ih =>
    intro k i last h0 h1 hd hk
    obtain ⟨k, rfl⟩ : ∃ q, k = q + 2 := ⟨k - 2, by omega⟩
    have hm := rd_mem (l := l) (show i < l.length by omega)
    obtain ⟨w1, w2⟩ := hw _ hm
    have b1 := bounds_u64 w1
    have b2 := bounds_u64 w2
    have e1 : ((rd_T91 l (i : Int)).f1.toNat : Int) = (rd_T91 l (i : Int)).f1 := Int.toNat_of_nonneg b1.1
    have e2 : ((rd_T91 l (i : Int)).f2.toNat : Int) = (rd_T91 l (i : Int)).f2 := Int.toNat_of_nonneg b2.1
    have l1 : (rd_T91 l (i : Int)).f1.toNat < 18446744073709551616 := by omega
    have l2 : (rd_T91 l (i : Int)).f2.toNat < 18446744073709551616 := by omega
    have z1 := andNot_zero l1 hM
    have z2 := andNot_zero l2 l1
    rw [e1] at z1 z2
    rw [e2] at z2
    rw [vlan_Check.l0, if_pos (by omega), if_pos (by omega), if_pos (by rw [List.length_map]; omega), rd_map, chk]
    have c0 : (conv (rd_T91 l (i : Int))).f0 = (rd_T91 l (i : Int)).f0 := rfl
    have c1 : (conv (rd_T91 l (i : Int))).f1 = (rd_T91 l (i : Int)).f1 := rfl
    have c2 : (conv (rd_T91 l (i : Int))).f2 = (rd_T91 l (i : Int)).f2 := rfl
    rw [c0, c1, c2]
    have ih' := fun last h => ih k (i + 1) last h (by omega) (by omega) (by omega)
    generalize rd_T91 l (i : Int) = x at *
    have J : ∀ b : Bool, (1 ≤ x.f0) → vlan_Check.j2 (k + 1) (p : Int) (l.map conv) (l.length : Int) (i : Int) b x.f0 x.f1 x.f2 = some (if b = true then 6 else if subN x.f1.toNat (2 ^ p - 1) = true then (if subN x.f2.toNat x.f1.toNat = true then chk (2 ^ p - 1) l d (i + 1) x.f0 else 1) else 5) := fun b hx => by
      rw [vlan_Check.j2, all_eq p1 p2, Option.bind_some]
      by_cases cb : b = true
      · rw [if_pos cb, if_pos cb]
      · rw [if_neg cb, if_neg cb]
        by_cases q1 : subN x.f1.toNat (2 ^ p - 1) = true
        · rw [if_pos (z1.2 q1), if_pos q1]
          by_cases q2 : subN x.f2.toNat x.f1.toNat = true
          · rw [if_pos (z2.2 q2), if_pos q2, show wrap64 ((i : Int) + 1) = ((i + 1 : Nat) : Int) from by unfold wrap64; omega]
            exact ih' _ (by omega)
          · rw [if_neg (fun h => q2 (z2.1 h)), if_neg q2]
        · rw [if_neg (fun h => q1 (z1.1 h)), if_neg q1]
    unfold vlan_may.f
    by_cases m1 : x.f0 ≥ 1
    · rw [if_pos m1, Option.bind_some]
      by_cases m2 : x.f0 ≤ 4094
      · rw [decide_eq_true m2, if_pos rfl, J _ m1]
        by_cases m3 : x.f0 ≤ last
        · rw [decide_eq_true m3, if_pos rfl, if_pos (.inr (.inr m3))]
        · rw [decide_eq_false m3, if_neg (by decide), if_neg (c := (x.f0 < 1 ∨ x.f0 > 4094 ∨ x.f0 ≤ last)) (by omega)]
      · rw [decide_eq_false m2, if_neg (by decide), J _ m1, if_pos rfl, if_pos (.inr (.inl (by omega)))]
    · rw [if_neg m1, Option.bind_some, if_neg (by decide), vlan_Check.j2, if_pos rfl, if_pos (.inl (by omega))]

theorem ref_chk_eq {p : Nat} (p2 : p ≤ 64) {l : List S91} (hn : l.length ≤ 20) (hw : ∀ x ∈ l, (Lit.int .u64 x.f1).wf = true ∧ (Lit.int .u64 x.f2).wf = true) (d : Nat) : ∀ (k i : Nat), i ≤ l.length → l.length - i = d → 2 * d + 300 < k → patchbayref03_Check.l0 k l (p : Int) (i : Int) = some (chk (2 ^ p - 1) l d i (if i = 0 then 0 else (rd_T91 l ((i - 1 : Nat) : Int)).f0)) := by
  have hM : 2 ^ p - 1 < 18446744073709551616 := by
    have : 2 ^ p ≤ 2 ^ 64 := Nat.pow_le_pow_right (by decide) p2
    have hq : 0 < 2 ^ p := Nat.two_pow_pos p
    omega
  induction d with
  | zero =>
    intro k i h1 hd hk
    obtain ⟨k, rfl⟩ : ∃ q, k = q + 1 := ⟨k - 1, by omega⟩
    rw [patchbayref03_Check.l0, if_neg (by omega), chk]
  | succ d ih =>
    intro k i h1 hd hk
    obtain ⟨k, rfl⟩ : ∃ q, k = q + 2 := ⟨k - 2, by omega⟩
    have hm := rd_mem (l := l) (show i < l.length by omega)
    obtain ⟨w1, w2⟩ := hw _ hm
    have b1 := bounds_u64 w1
    have b2 := bounds_u64 w2
    have e1 : ((rd_T91 l (i : Int)).f1.toNat : Int) = (rd_T91 l (i : Int)).f1 := Int.toNat_of_nonneg b1.1
    have e2 : ((rd_T91 l (i : Int)).f2.toNat : Int) = (rd_T91 l (i : Int)).f2 := Int.toNat_of_nonneg b2.1
    have l1 : (rd_T91 l (i : Int)).f1.toNat < 18446744073709551616 := by omega
    have l2 : (rd_T91 l (i : Int)).f2.toNat < 18446744073709551616 := by omega
    have s1 := within_eq l1 hM (show 200 ≤ k by omega)
    have s2 := within_eq l2 l1 (show 200 ≤ k by omega)
    rw [e1] at s1 s2
    rw [e2] at s2
    rw [patchbayref03_Check.l0, if_pos (by omega), if_pos (by omega), chk]
    have ih' := ih k (i + 1) (by omega) (by omega) (by omega)
    rw [if_neg (by omega), Nat.add_sub_cancel] at ih'
    have J : ∀ b : Bool, patchbayref03_Check.j2 (k + 1) l (p : Int) (i : Int) b = some (if b = true then 6 else if subN (rd_T91 l (i : Int)).f1.toNat (2 ^ p - 1) = true then (if subN (rd_T91 l (i : Int)).f2.toNat (rd_T91 l (i : Int)).f1.toNat = true then chk (2 ^ p - 1) l d (i + 1) (rd_T91 l (i : Int)).f0 else 1) else 5) := fun b => by
      rw [patchbayref03_Check.j2, ref_all_eq p2 (by omega), Option.bind_some, s1, Option.bind_some, s2, Option.bind_some]
      by_cases cb : b = true
      · rw [if_pos cb, if_pos cb]
      · rw [if_neg cb, if_neg cb, if_pos (by omega), if_pos (by omega)]
        by_cases q1 : subN (rd_T91 l (i : Int)).f1.toNat (2 ^ p - 1) = true
        · rw [if_pos q1, if_pos q1]
          by_cases q2 : subN (rd_T91 l (i : Int)).f2.toNat (rd_T91 l (i : Int)).f1.toNat = true
          · rw [if_pos q2, if_pos q2, show wrap64 ((i : Int) + 1) = ((i + 1 : Nat) : Int) from by unfold wrap64; omega]
            exact ih'
          · rw [if_neg q2, if_neg q2]
        · rw [if_neg q1, if_neg q1]
    rw [J, J, J]
    by_cases m1 : (rd_T91 l (i : Int)).f0 < 1
    · rw [if_pos m1, if_pos rfl, if_pos (.inl m1)]
    · rw [if_neg m1]
      by_cases m2 : (rd_T91 l (i : Int)).f0 > 4094
      · rw [if_pos m2, if_pos rfl, if_pos (.inr (.inl m2))]
      · rw [if_neg m2]
        by_cases z : i = 0
        · subst z
          rw [if_neg (by omega), if_neg (by decide), if_pos rfl, if_neg (c := ((rd_T91 l ((0 : Nat) : Int)).f0 < 1 ∨ (rd_T91 l ((0 : Nat) : Int)).f0 > 4094 ∨ (rd_T91 l ((0 : Nat) : Int)).f0 ≤ 0)) (by omega)]
        · rw [if_pos (by omega), show wrap64 ((i : Int) - 1) = ((i - 1 : Nat) : Int) from by unfold wrap64; omega, if_pos (by omega), if_pos (by omega), if_neg z]
          by_cases m3 : (rd_T91 l (i : Int)).f0 ≤ (rd_T91 l ((i - 1 : Nat) : Int)).f0
          · rw [decide_eq_true m3, if_pos rfl, if_pos (.inr (.inr m3))]
          · rw [decide_eq_false m3, if_neg (by decide), if_neg (c := ((rd_T91 l (i : Int)).f0 < 1 ∨ (rd_T91 l (i : Int)).f0 > 4094 ∨ (rd_T91 l (i : Int)).f0 ≤ (rd_T91 l ((i - 1 : Nat) : Int)).f0)) (by omega)]

theorem VlanChecks (l : List S91) (ports pv ac : Int) (hl : l.length ≤ 20) (hw : ∀ x ∈ l, (Lit.int .u64 x.f1).wf = true ∧ (Lit.int .u64 x.f2).wf = true) : ∃ k t ee i b, patchbaylaw03_told.f k = some true ∧ patchbaylaw03_To.f k l = some t ∧ vlan_Check.f k t ports = some ee ∧ patchbayref03_Check.f k l ports = some ee ∧ vlan_Find.f t pv = some i ∧ patchbayref03_Find.f k l pv = some i ∧ vlan_Right.f pv ac = some b ∧ patchbayref03_Right.f pv ac = some b := by
  have hT := to_eq (l := l) (by omega) (show l.length < 2000 by omega)
  have hF := find_eq (l := l) pv (by omega)
  have hG := ref_find_eq (l := l) pv (by omega) (show l.length < 2000 by omega)
  obtain ⟨b, hb, hb'⟩ : ∃ b, vlan_Right.f pv ac = some b ∧ patchbayref03_Right.f pv ac = some b := by
    unfold vlan_Right.f patchbayref03_Right.f vlan_may.f
    by_cases c : pv ≥ 1
    · rw [if_pos c, if_pos c, Option.bind_some]
      by_cases d : pv ≤ 4094
      · rw [decide_eq_true d, if_pos rfl, if_pos d]
        split <;> exact ⟨_, rfl, rfl⟩
      · rw [decide_eq_false d, if_neg (by decide), if_neg d]
        exact ⟨_, rfl, rfl⟩
    · rw [if_neg c, if_neg c, Option.bind_some, if_neg (by decide)]
      exact ⟨_, rfl, rfl⟩
  obtain ⟨ee, he, he'⟩ : ∃ ee, vlan_Check.f 2000 (l.map conv) ports = some ee ∧ patchbayref03_Check.f 2000 l ports = some ee := by
    unfold vlan_Check.f patchbayref03_Check.f
    by_cases c : ports < 2
    · rw [if_pos c, if_pos c, vlan_Check.j0, patchbayref03_Check.j0, if_pos rfl, if_pos rfl]
      exact ⟨_, rfl, rfl⟩
    · rw [if_neg c, if_neg c, vlan_Check.j0, patchbayref03_Check.j0, List.length_map]
      by_cases d : ports > 64
      · rw [decide_eq_true d, if_pos rfl, if_pos rfl]
        exact ⟨_, rfl, rfl⟩
      · rw [decide_eq_false d, if_neg (c := (false = true)) (by decide), if_neg (c := (false = true)) (by decide)]
        by_cases e : (l.length : Int) > 16
        · rw [if_pos e, if_pos e]
          exact ⟨_, rfl, rfl⟩
        · obtain ⟨p, rfl⟩ := Int.eq_ofNat_of_zero_le (show 0 ≤ ports by omega)
          rw [if_neg e, if_neg e]
          have h1 := chk_eq (show 2 ≤ p by omega) (show p ≤ 64 by omega) hl hw l.length 1999 0 0 (by decide) (by omega) (by omega) (by omega)
          have h2 := ref_chk_eq (show p ≤ 64 by omega) hl hw l.length 1999 0 (by omega) (by omega) (by omega)
          rw [if_pos rfl] at h2
          exact ⟨_, h1, h2⟩
  exact ⟨2000, l.map conv, ee, _, b, vtold (by decide), hT, he, he', hF, hG, hb, hb'⟩

end Go.Proofs.Ytfgdjljbdghdgaa.Pure
