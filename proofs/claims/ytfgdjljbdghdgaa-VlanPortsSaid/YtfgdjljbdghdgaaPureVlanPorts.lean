/- VlanPorts: the plain law. -/
import Derived.OpenShut
import Derived.IntWalk
import Derived.Test.YtfgdjljbdghdgaaBits
import Derived.Test.YtfgdjljbdghdgaaHandVlan
namespace Go.Proofs.Ytfgdjljbdghdgaa.Pure
open Go.RowKit Go.Proofs.Ytfgdjljbdghdgaa.PVlan Go.Proofs.YtfgdjljbdghdgaaW.PrintWords Go.Proofs.YtfgdjljbdghdgaaW.PrintLast Go.Proofs.YtfgdjljbdghdgaaW.PrintMore
open Go.Proofs.Ytfgdjljbdghdgaa

/-- A port's bit; 0: there is no such port. -/
def bitN (p : Int) : Nat := if 0 ≤ p ∧ p < 64 then 2 ^ p.toNat else 0

theorem bitN_lt (p : Int) : bitN p < 18446744073709551616 := by
  unfold bitN
  split
  · exact Nat.lt_of_lt_of_le (Nat.pow_lt_pow_right (by decide) (show p.toNat < 64 by omega)) (by decide)
  · decide

theorem bitN_test (p : Int) (i : Nat) : (bitN p).testBit i = decide (0 ≤ p ∧ p < 64 ∧ p.toNat = i) := by
  unfold bitN
  by_cases c : 0 ≤ p ∧ p < 64
  · rw [if_pos c, Nat.testBit_two_pow]
    exact decide_eq_decide.2 (by omega)
  · rw [if_neg c, Nat.zero_testBit]
    exact (decide_eq_false (by omega)).symm

theorem of_eq (p : Int) : vlan_of.f p = some ((bitN p : Nat) : Int) := by
  unfold vlan_of.f bitN
  by_cases c : p < 0
  · rw [if_pos c, if_neg (by omega)]; rfl
  · rw [if_neg c]
    by_cases d : p ≥ 64
    · rw [if_pos d, if_neg (by omega)]; rfl
    · rw [if_neg d, if_pos (by omega), if_pos (by omega)]
      obtain ⟨i, rfl⟩ := Int.eq_ofNat_of_zero_le (show 0 ≤ p by omega)
      have hp : 2 ^ i < 2 ^ 64 := Nat.pow_lt_pow_right (by decide) (show i < 64 by omega)
      have hq : 0 < 2 ^ i := Nat.two_pow_pos i
      congr 1
      unfold shl
      rw [show min (i : Int).toNat IntKind.u64.bits = i from by simp [IntKind.bits]; omega, Int.one_mul, show (2 : Int) ^ i = ((2 ^ i : Nat) : Int) from by norm_cast, Int.toNat_natCast]
      exact IntWalk.u64_in _ ⟨by omega, by omega⟩

/-- Is a port in? -/
def inS (x : Nat) (p : Int) : Bool := decide (0 ≤ p ∧ p < 64) && x.testBit p.toNat

theorem and_bit (x n : Nat) : x &&& 2 ^ n = if x.testBit n = true then 2 ^ n else 0 := by
  apply Nat.eq_of_testBit_eq
  intro i
  rw [Nat.testBit_and, Nat.testBit_two_pow]
  by_cases e : n = i
  · subst e
    by_cases c : x.testBit n = true
    · rw [if_pos c, c, Nat.testBit_two_pow]; rfl
    · rw [if_neg c, show x.testBit n = false from by simpa using c, Nat.zero_testBit]; rfl
  · rw [decide_eq_false e, Bool.and_false]
    split
    · rw [Nat.testBit_two_pow, decide_eq_false e]
    · rw [Nat.zero_testBit]

theorem has_eq {x : Nat} (hx : x < 18446744073709551616) (p : Int) : vlan_Has.f (x : Int) p = some (inS x p) := by
  unfold vlan_Has.f inS
  rw [of_eq]
  simp only [Option.bind_some]
  rw [u64_and_nat x (bitN p) hx (bitN_lt p)]
  congr 1
  unfold bitN
  by_cases c : 0 ≤ p ∧ p < 64
  · rw [if_pos c, decide_eq_true c, Bool.true_and, and_bit]
    cases h : x.testBit p.toNat
    · rw [if_neg (by decide)]; rfl
    · have := Nat.two_pow_pos p.toNat
      rw [if_pos rfl]
      simp only [bne_iff_ne, ne_eq]
      omega
  · rw [if_neg c, decide_eq_false c, Bool.false_and, Nat.and_zero]; rfl

def withN (x : Nat) (p : Int) : Nat := x ||| bitN p
def lessN (x : Nat) (p : Int) : Nat := x &&& (18446744073709551615 - bitN p)

theorem less_eq {x : Nat} (hx : x < 18446744073709551616) (p : Int) : vlan_Without.f (x : Int) p = some ((lessN x p : Nat) : Int) := by
  unfold vlan_Without.f
  rw [of_eq]
  simp only [Option.bind_some]
  rw [u64_andNot_nat x (bitN p) hx (bitN_lt p)]; rfl

theorem withN_lt {x : Nat} (hx : x < 18446744073709551616) (p : Int) : withN x p < 18446744073709551616 := Nat.or_lt_two_pow (n := 64) hx (bitN_lt p)
theorem lessN_lt {x : Nat} (hx : x < 18446744073709551616) (p : Int) : lessN x p < 18446744073709551616 := Nat.lt_of_le_of_lt Nat.and_le_left hx

theorem withN_test (x : Nat) (p : Int) (i : Nat) : (withN x p).testBit i = (x.testBit i || decide (0 ≤ p ∧ p < 64 ∧ p.toNat = i)) := by
  unfold withN
  rw [Nat.testBit_or, bitN_test]

theorem lessN_test (x : Nat) (p : Int) (i : Nat) (hi : i < 64) : (lessN x p).testBit i = (x.testBit i && !decide (0 ≤ p ∧ p < 64 ∧ p.toNat = i)) := by
  unfold lessN
  rw [Nat.testBit_and, show 18446744073709551615 - bitN p = 2 ^ 64 - (bitN p + 1) from by omega, Nat.testBit_two_pow_sub_succ (bitN_lt p), bitN_test, decide_eq_true hi, Bool.true_and]

theorem vtold2 : patchbaylaw03_told.f 2000 = some true := by decide +kernel

theorem vtold_up : ∀ d, patchbaylaw03_told.f (2000 + d) = some true
  | 0 => vtold2
  | d + 1 => patchbaylaw03_told.mono (2000 + d) _ (vtold_up d)

theorem vtold {k : Nat} (hk : 2000 ≤ k) : patchbaylaw03_told.f k = some true := by
  obtain ⟨d, rfl⟩ := Nat.exists_eq_add_of_le hk
  exact vtold_up d

def conv (x : S91) : S89 := ⟨x.f0, x.f1, x.f2⟩

theorem rd_map (l : List S91) (i : Int) : rd_T89 (l.map conv) i = conv (rd_T91 l i) := by
  unfold rd_T89 rd_T91
  rw [List.getD_eq_getElem?_getD, List.getD_eq_getElem?_getD, List.getElem?_map]
  cases l[i.toNat]? <;> rfl

theorem to_eq {l : List S91} (hn : l.length ≤ 1000) {k : Nat} (hk : l.length < k) : patchbaylaw03_To.f k l = some (l.map conv) := by
  have h : ∀ (d k i : Nat), i ≤ l.length → l.length - i = d → d < k → patchbaylaw03_To.l0 k l ((l.take i).map conv) (i : Int) = some (l.map conv) := by
    intro d
    induction d with
    | zero =>
      intro k i h1 hd hk
      obtain ⟨k, rfl⟩ : ∃ q, k = q + 1 := ⟨k - 1, by omega⟩
      obtain rfl : i = l.length := by omega
      rw [patchbaylaw03_To.l0, if_neg (by omega), List.take_length]
    | succ d ih =>
      intro k i h1 hd hk
      obtain ⟨k, rfl⟩ : ∃ q, k = q + 1 := ⟨k - 1, by omega⟩
      have hi : i < l.length := by omega
      have e : l.take (i + 1) = l.take i ++ [rd_T91 l (i : Int)] := by
        rw [List.take_add_one, List.getElem?_eq_getElem hi, Option.toList_some]
        congr 2
        simp [rd_T91, List.getD_eq_getElem?_getD, hi]
      have ih' := ih k (i + 1) (by omega) (by omega) (by omega)
      rw [e, List.map_append] at ih'
      rw [patchbaylaw03_To.l0, if_pos (by omega), if_pos (by omega), if_pos (by rw [List.length_map, List.length_take]; omega), show wrap64 ((i : Int) + 1) = ((i + 1 : Nat) : Int) from by unfold wrap64; omega]
      exact ih'
  exact h l.length k 0 (by omega) (by omega) hk

theorem ref_find_eq {l : List S91} (vid : Int) (hn : l.length ≤ 1000) {k : Nat} (hk : l.length < k) : patchbayref03_Find.f k l vid = some (findV vid (l.map conv) l.length 0) := by
  have h : ∀ (d k i : Nat), i ≤ l.length → l.length - i = d → d < k → patchbayref03_Find.l0 k l vid (i : Int) = some (findV vid (l.map conv) d i) := by
    intro d
    induction d with
    | zero =>
      intro k i h1 hd hk
      obtain ⟨k, rfl⟩ : ∃ q, k = q + 1 := ⟨k - 1, by omega⟩
      rw [patchbayref03_Find.l0, if_neg (by omega), findV]
    | succ d ih =>
      intro k i h1 hd hk
      obtain ⟨k, rfl⟩ : ∃ q, k = q + 1 := ⟨k - 1, by omega⟩
      rw [patchbayref03_Find.l0, if_pos (by omega), if_pos (by omega), findV, rd_map, show (conv (rd_T91 l (i : Int))).f0 = (rd_T91 l (i : Int)).f0 from rfl]
      by_cases c : (rd_T91 l (i : Int)).f0 = vid
      · rw [if_pos c, if_pos c]
      · rw [if_neg c, if_neg c, show wrap64 ((i : Int) + 1) = ((i + 1 : Nat) : Int) from by unfold wrap64; omega]
        exact ih k (i + 1) (by omega) (by omega) (by omega)
  exact h l.length k 0 (by omega) (by omega) hk

theorem find_eq {l : List S91} (vid : Int) (hn : l.length ≤ 1000) : vlan_Find.f (l.map conv) vid = some (findV vid (l.map conv) l.length 0) := by
  unfold vlan_Find.f
  rw [List.length_map, if_pos (by omega)]

theorem findV_range (vid : Int) (l : List S89) (d : Nat) : ∀ k : Nat, findV vid l d k = -1 ∨ ((k : Int) ≤ findV vid l d k ∧ findV vid l d k < ((k + d : Nat) : Int)) := by
  induction d with
  | zero => intro k; exact .inl rfl
  | succ d ih =>
    intro k
    rw [findV]
    split
    · exact .inr ⟨by omega, by omega⟩
    · rcases ih (k + 1) with h | ⟨h1, h2⟩
      · exact .inl h
      · exact .inr ⟨by omega, by omega⟩

theorem ref_bit_eq {p : Nat} (hp : p < 64) {k : Nat} (hk : p < k) : patchbayref03_bit.f k (p : Int) = some ((2 ^ p : Nat) : Int) := by
  have h : ∀ (d k i : Nat), i ≤ p → p - i = d → d < k → patchbayref03_bit.l0 k (p : Int) ((2 ^ i : Nat) : Int) (i : Int) = some ((2 ^ p : Nat) : Int) := by
    intro d
    induction d with
    | zero =>
      intro k i h1 hd hk
      obtain ⟨k, rfl⟩ : ∃ q, k = q + 1 := ⟨k - 1, by omega⟩
      obtain rfl : i = p := by omega
      rw [patchbayref03_bit.l0, if_neg (by omega)]
    | succ d ih =>
      intro k i h1 hd hk
      obtain ⟨k, rfl⟩ : ∃ q, k = q + 1 := ⟨k - 1, by omega⟩
      have hp2 : 2 ^ (i + 1) < 2 ^ 64 := Nat.pow_lt_pow_right (by decide) (show i + 1 < 64 by omega)
      have e2 : 2 ^ (i + 1) = 2 ^ i * 2 := Nat.pow_succ 2 i
      have ih' := ih k (i + 1) (by omega) (by omega) (by omega)
      rw [patchbayref03_bit.l0, if_pos (by omega), show wrap64 ((i : Int) + 1) = ((i + 1 : Nat) : Int) from by unfold wrap64; omega, show ((2 ^ i : Nat) : Int) * 2 = ((2 ^ (i + 1) : Nat) : Int) from by rw [e2]; rfl, IntWalk.u64_in _ ⟨by omega, by omega⟩]
      exact ih'
  exact h p k 0 (by omega) (by omega) hk

theorem ref_has_eq {x : Nat} (hx : x < 18446744073709551616) (p : Int) {k : Nat} (hk : 64 < k) : patchbayref03_Has.f k (x : Int) p = some (inS x p) := by
  unfold patchbayref03_Has.f inS
  by_cases c : p ≥ 0
  · rw [if_pos c]
    by_cases d : p < 64
    · obtain ⟨i, rfl⟩ := Int.eq_ofNat_of_zero_le c
      have h0 := Nat.two_pow_pos i
      have h1 : x / 2 ^ i ≤ x := Nat.div_le_self _ _
      rw [if_pos d, ref_bit_eq (by omega) (by omega), Option.bind_some, if_neg (by omega), decide_eq_true ⟨c, d⟩, Bool.true_and, Int.toNat_natCast, Nat.testBit_eq_decide_div_mod_eq, Int.tdiv_eq_ediv_of_nonneg (by omega), ← Int.natCast_ediv, IntWalk.u64_in _ ⟨Int.natCast_nonneg _, Int.le_trans (Int.ofNat_le.2 h1) (by omega)⟩, Int.tmod_eq_emod_of_nonneg (Int.natCast_nonneg _)]
      congr 1
      rw [Bool.eq_iff_iff, beq_iff_eq, decide_eq_true_iff]
      generalize x / 2 ^ i = q
      omega
    · rw [if_neg d, decide_eq_false (by omega), Bool.false_and]
  · rw [if_neg c, decide_eq_false (by omega), Bool.false_and]

theorem lessN_split {x : Nat} (hx : x < 18446744073709551616) {i : Nat} (hi : i < 64) : lessN x (i : Int) = 2 ^ (i + 1) * (x / 2 ^ (i + 1)) + x % 2 ^ i := by
  have hr : x % 2 ^ i < 2 ^ (i + 1) := Nat.lt_of_lt_of_le (Nat.mod_lt _ (Nat.two_pow_pos i)) (Nat.pow_le_pow_right (by decide) (by omega))
  apply Nat.eq_of_testBit_eq
  intro j
  rw [Nat.testBit_two_pow_mul_add _ hr]
  by_cases c : j < 64
  · rw [lessN_test _ _ _ c]
    by_cases d : j < i + 1
    · rw [if_pos d, Nat.testBit_mod_two_pow]
      by_cases e : j = i
      · subst e
        rw [decide_eq_true (p := 0 ≤ (j : Int) ∧ (j : Int) < 64 ∧ (j : Int).toNat = j) ⟨by omega, by omega, by omega⟩, decide_eq_false (by omega)]
        simp
      · rw [decide_eq_false (p := 0 ≤ (i : Int) ∧ (i : Int) < 64 ∧ (i : Int).toNat = j) (by omega), decide_eq_true (by omega)]
        simp
    · rw [if_neg d, Nat.testBit_div_two_pow, decide_eq_false (p := 0 ≤ (i : Int) ∧ (i : Int) < 64 ∧ (i : Int).toNat = j) (by omega), show j - (i + 1) + (i + 1) = j from by omega]
      simp
  · have hj : x.testBit j = false := Nat.testBit_lt_two_pow (Nat.lt_of_lt_of_le (show x < 2 ^ 64 from hx) (Nat.pow_le_pow_right (by decide) (by omega)))
    have hl : (lessN x (i : Int)).testBit j = false := Nat.testBit_lt_two_pow (Nat.lt_of_lt_of_le (show lessN x (i : Int) < 2 ^ 64 from lessN_lt hx _) (Nat.pow_le_pow_right (by decide) (by omega)))
    rw [hl, if_neg (by omega), Nat.testBit_div_two_pow, show j - (i + 1) + (i + 1) = j from by omega, hj]

theorem lessN_val {x : Nat} (hx : x < 18446744073709551616) (p : Int) : lessN x p = if inS x p = true then x - 2 ^ p.toNat else x := by
  by_cases c : 0 ≤ p ∧ p < 64
  · obtain ⟨i, rfl⟩ := Int.eq_ofNat_of_zero_le c.1
    have h1 := lessN_split hx (show i < 64 by omega)
    have h2 := Nat.div_add_mod x (2 ^ (i + 1))
    have h3 := Nat.mod_pow_succ (x := x) (b := 2) (k := i)
    unfold inS
    rw [decide_eq_true c, Bool.true_and, Int.toNat_natCast, Nat.testBit_eq_decide_div_mod_eq, h1]
    have h4 : x / 2 ^ i % 2 = 0 ∨ x / 2 ^ i % 2 = 1 := by omega
    rcases h4 with h | h
    · rw [if_neg (by simp [h])]
      rw [h, Nat.mul_zero] at h3
      omega
    · rw [if_pos (by simp [h])]
      rw [h, Nat.mul_one] at h3
      omega
  · have e : inS x p = false := by unfold inS; rw [decide_eq_false c, Bool.false_and]
    rw [e, if_neg (by decide)]
    unfold lessN bitN
    rw [if_neg c]
    have := Nat.and_two_pow_sub_one_of_lt_two_pow (n := 64) (show x < 2 ^ 64 from hx)
    exact this

theorem ref_without_eq {x : Nat} (hx : x < 18446744073709551616) (p : Int) {k : Nat} (hk : 64 < k) : patchbayref03_Without.f k (x : Int) p = some ((lessN x p : Nat) : Int) := by
  unfold patchbayref03_Without.f
  rw [ref_has_eq hx p hk, Option.bind_some]
  have hv := lessN_val hx p
  have hl := lessN_lt hx p
  by_cases c : inS x p = true
  · rw [if_pos c] at hv
    have c' := c
    unfold inS at c'
    simp only [Bool.and_eq_true, decide_eq_true_eq] at c'
    obtain ⟨⟨c1, c2⟩, c3⟩ := c'
    obtain ⟨i, rfl⟩ := Int.eq_ofNat_of_zero_le c1
    rw [Int.toNat_natCast] at hv c3
    have hge : 2 ^ i ≤ x := Nat.ge_two_pow_of_testBit c3
    rw [if_pos c, ref_bit_eq (by omega) (by omega), Option.bind_some, hv, show (x : Int) - ((2 ^ i : Nat) : Int) = ((x - 2 ^ i : Nat) : Int) from by omega, IntWalk.u64_in _ ⟨by omega, by omega⟩]
  · rw [if_neg c] at hv
    rw [if_neg c, hv]

theorem VlanPorts (l : List S91) (vid port : Int) (hl : l.length ≤ 20) (hw : ∀ x ∈ l, (Lit.int .u64 x.f1).wf = true) : ∃ k t ee s, patchbaylaw03_To.f k l = some t ∧ vlan_Leave.f t vid port = some s ∧ patchbaylaw03_told.f k = some true ∧ vlan_Enter.f t vid port = some ee ∧ patchbayref03_Enter.f k l vid port = some ee ∧ patchbayref03_Leave.f k l vid port = some s ∧ patchbayref03_Has.f k s port = some false := by
  have hT := to_eq (l := l) (by omega) (show l.length < 2000 by omega)
  have hF := find_eq (l := l) vid (by omega)
  have hG := ref_find_eq (l := l) vid (by omega) (show l.length < 2000 by omega)
  have hr := findV_range vid (l.map conv) l.length 0
  generalize findV vid (l.map conv) l.length 0 = i at *
  rcases hr with h | ⟨h1, h2⟩
  · subst h
    refine ⟨2000, l.map conv, 7, 0, hT, ?_, vtold (by decide), ?_, ?_, ?_, ?_⟩
    · unfold vlan_Leave.f; rw [hF, Option.bind_some, if_pos (by decide)]
    · unfold vlan_Enter.f; rw [hF, Option.bind_some, if_pos (by decide)]
    · unfold patchbayref03_Enter.f; rw [hG, Option.bind_some, if_pos (by decide)]
    · unfold patchbayref03_Leave.f; rw [hG, Option.bind_some, if_pos (by decide)]
    · have := ref_has_eq (x := 0) (by decide) port (show 64 < 2000 by decide)
      rw [show inS 0 port = false from by unfold inS; rw [Nat.zero_testBit, Bool.and_false]] at this
      exact this
  · have hi : i.toNat < l.length := by omega
    have hm : rd_T91 l i ∈ l := by
      unfold rd_T91
      rw [List.getD_eq_getElem?_getD, List.getElem?_eq_getElem hi, Option.getD_some]
      exact List.getElem_mem hi
    have hb := bounds_u64 (hw _ hm)
    have hc : (conv (rd_T91 l i)).f1 = (rd_T91 l i).f1 := rfl
    obtain ⟨x, hx⟩ := Int.eq_ofNat_of_zero_le hb.1
    have hx64 : x < 18446744073709551616 := by omega
    have i0 : ¬ i < 0 := by omega
    have i1 : 0 ≤ i := by omega
    have i2 : i < (l.length : Int) := by omega
    have i3 : i < ((l.map conv).length : Int) := by rw [List.length_map]; exact i2
    refine ⟨2000, l.map conv, if inS x port = true then 0 else 8, (lessN x port : Int), hT, ?_, vtold (by decide), ?_, ?_, ?_, ?_⟩
    · unfold vlan_Leave.f; rw [hF, Option.bind_some, if_neg i0, if_pos i1, if_pos i3, rd_map, hc, hx, less_eq hx64, Option.bind_some]
    · unfold vlan_Enter.f; rw [hF, Option.bind_some, if_neg i0, if_pos i1, if_pos i3, rd_map, hc, hx, has_eq hx64, Option.bind_some]; split <;> rfl
    · unfold patchbayref03_Enter.f; rw [hG, Option.bind_some, if_neg i0, if_pos i1, if_pos i2, hx, ref_has_eq hx64 port (by decide), Option.bind_some]; split <;> rfl
    · unfold patchbayref03_Leave.f; rw [hG, Option.bind_some, if_neg i0, if_pos i1, if_pos i2, hx, ref_without_eq hx64 port (by decide), Option.bind_some]
    · rw [ref_has_eq (lessN_lt hx64 port) port (by decide)]
      congr 1
      unfold inS
      by_cases c : 0 ≤ port ∧ port < 64
      · rw [lessN_test _ _ _ (by omega), decide_eq_true (p := 0 ≤ port ∧ port < 64 ∧ port.toNat = port.toNat) ⟨c.1, c.2, rfl⟩]
        simp
      · rw [decide_eq_false c, Bool.false_and]

end Go.Proofs.Ytfgdjljbdghdgaa.Pure
