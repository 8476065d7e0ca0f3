/- VlanSpreads: the plain law. -/
import Derived.OpenShut
import Derived.IntWalk
import Derived.Test.YtfgdjljbdghdgaaBits
import Derived.Test.YtfgdjljbdghdgaaPVlanx10
namespace Go.Proofs.Ytfgdjljbdghdgaa.Pure
open Go.RowKit Go.Proofs.Ytfgdjljbdghdgaa.PVlan Go.Proofs.YtfgdjljbdghdgaaW.PrintWords Go.Proofs.YtfgdjljbdghdgaaW.PrintLast Go.Proofs.YtfgdjljbdghdgaaW.PrintMore
open Go.Proofs.Ytfgdjljbdghdgaa

/-- A port's bit; 0: there is no such port. -/
def bitN (p : Int) : Nat := if 0 ≤ p ∧ p < 64 then 2 ^ p.toNat else 0

theorem bitN_lt (p : Int) : bitN p < 18446744073709551616 := by
  unfold bitN
  split
  · exact Nat.lt_of_lt_of_le (Nat.pow_lt_pow_right (by decide) (show p.toNat < 64 by omega)) (by decide)
  · decide

theorem bitN_test (p : Int) (i : Nat) : (bitN p).testBit i = decide (0 ≤ p ∧ p < 64 ∧ p.toNat = i) := by
  unfold bitN
  by_cases c : 0 ≤ p ∧ p < 64
  · rw [if_pos c, Nat.testBit_two_pow]
    exact decide_eq_decide.2 (by omega)
  · rw [if_neg c, Nat.zero_testBit]
    exact (decide_eq_false (by omega)).symm

theorem of_eq (p : Int) : vlan_of.f p = some ((bitN p : Nat) : Int) := by
  unfold vlan_of.f bitN
  by_cases c : p < 0
  · rw [if_pos c, if_neg (by omega)]; rfl
  · rw [if_neg c]
    by_cases d : p ≥ 64
    · rw [if_pos d, if_neg (by omega)]; rfl
    · rw [if_neg d, if_pos (by omega), if_pos (by omega)]
      obtain ⟨i, rfl⟩ := Int.eq_ofNat_of_zero_le (show 0 ≤ p by omega)
      have hp : 2 ^ i < 2 ^ 64 := Nat.pow_lt_pow_right (by decide) (show i < 64 by omega)
      have hq : 0 < 2 ^ i := Nat.two_pow_pos i
      congr 1
      unfold shl
      rw [show min (i : Int).toNat IntKind.u64.bits = i from by simp [IntKind.bits]; omega, Int.one_mul, show (2 : Int) ^ i = ((2 ^ i : Nat) : Int) from by norm_cast, Int.toNat_natCast]
      exact IntWalk.u64_in _ ⟨by omega, by omega⟩

/-- Is a port in? -/
def inS (x : Nat) (p : Int) : Bool := decide (0 ≤ p ∧ p < 64) && x.testBit p.toNat

theorem and_bit (x n : Nat) : x &&& 2 ^ n = if x.testBit n = true then 2 ^ n else 0 := by
  apply Nat.eq_of_testBit_eq
  intro i
  rw [Nat.testBit_and, Nat.testBit_two_pow]
  by_cases e : n = i
  · subst e
    by_cases c : x.testBit n = true
    · rw [if_pos c, c, Nat.testBit_two_pow]; rfl
    · rw [if_neg c, show x.testBit n = false from by simpa using c, Nat.zero_testBit]; rfl
  · rw [decide_eq_false e, Bool.and_false]
    split
    · rw [Nat.testBit_two_pow, decide_eq_false e]
    · rw [Nat.zero_testBit]

theorem has_eq {x : Nat} (hx : x < 18446744073709551616) (p : Int) : vlan_Has.f (x : Int) p = some (inS x p) := by
  unfold vlan_Has.f inS
  rw [of_eq]
  simp only [Option.bind_some]
  rw [u64_and_nat x (bitN p) hx (bitN_lt p)]
  congr 1
  unfold bitN
  by_cases c : 0 ≤ p ∧ p < 64
  · rw [if_pos c, decide_eq_true c, Bool.true_and, and_bit]
    cases h : x.testBit p.toNat
    · rw [if_neg (by decide)]; rfl
    · have := Nat.two_pow_pos p.toNat
      rw [if_pos rfl]
      simp only [bne_iff_ne, ne_eq]
      omega
  · rw [if_neg c, decide_eq_false c, Bool.false_and, Nat.and_zero]; rfl

def withN (x : Nat) (p : Int) : Nat := x ||| bitN p
def lessN (x : Nat) (p : Int) : Nat := x &&& (18446744073709551615 - bitN p)

theorem with_eq {x : Nat} (hx : x < 18446744073709551616) (p : Int) : vlan_With.f (x : Int) p = some ((withN x p : Nat) : Int) := by
  unfold vlan_With.f
  rw [of_eq]
  simp only [Option.bind_some]
  rw [u64_or_nat x (bitN p) hx (bitN_lt p)]; rfl

theorem less_eq {x : Nat} (hx : x < 18446744073709551616) (p : Int) : vlan_Without.f (x : Int) p = some ((lessN x p : Nat) : Int) := by
  unfold vlan_Without.f
  rw [of_eq]
  simp only [Option.bind_some]
  rw [u64_andNot_nat x (bitN p) hx (bitN_lt p)]; rfl

theorem withN_lt {x : Nat} (hx : x < 18446744073709551616) (p : Int) : withN x p < 18446744073709551616 := Nat.or_lt_two_pow (n := 64) hx (bitN_lt p)
theorem lessN_lt {x : Nat} (hx : x < 18446744073709551616) (p : Int) : lessN x p < 18446744073709551616 := Nat.lt_of_le_of_lt Nat.and_le_left hx

theorem withN_test (x : Nat) (p : Int) (i : Nat) : (withN x p).testBit i = (x.testBit i || decide (0 ≤ p ∧ p < 64 ∧ p.toNat = i)) := by
  unfold withN
  rw [Nat.testBit_or, bitN_test]

theorem lessN_test (x : Nat) (p : Int) (i : Nat) (hi : i < 64) : (lessN x p).testBit i = (x.testBit i && !decide (0 ≤ p ∧ p < 64 ∧ p.toNat = i)) := by
  unfold lessN
  rw [Nat.testBit_and, show 18446744073709551615 - bitN p = 2 ^ 64 - (bitN p + 1) from by omega, Nat.testBit_two_pow_sub_succ (bitN_lt p), bitN_test, decide_eq_true hi, Bool.true_and]

theorem vtold2 : patchbaylaw03_told.f 2000 = some true := by decide +kernel

theorem vtold_up : ∀ d, patchbaylaw03_told.f (2000 + d) = some true
  | 0 => vtold2
  | d + 1 => patchbaylaw03_told.mono (2000 + d) _ (vtold_up d)

theorem vtold {k : Nat} (hk : 2000 ≤ k) : patchbaylaw03_told.f k = some true := by
  obtain ⟨d, rfl⟩ := Nat.exists_eq_add_of_le hk
  exact vtold_up d

theorem VlanSpreads : patchbaylaw03_VlanSpreads.Pure := by
  intro s p q hs hp hq
  have bs := bounds_u64 hs
  obtain ⟨x, rfl⟩ := Int.eq_ofNat_of_zero_le bs.1
  have hx : x < 18446744073709551616 := by omega
  refine ⟨2001, ?_⟩
  unfold patchbaylaw03_VlanSpreads.f
  rw [with_eq hx, Option.bind_some, less_eq hx, Option.bind_some, vtold (by decide), Option.bind_some, if_pos rfl]
  have J : patchbaylaw03_VlanSpreads.j0 2001 p q (x : Int) (withN x p : Int) (lessN x p : Int) false = some true := by
    rw [patchbaylaw03_VlanSpreads.j0, if_neg (by decide)]
    by_cases e : q = p
    · rw [if_pos e]
    · have h1 : inS (withN x p) q = inS x q := by
        unfold inS
        by_cases c : 0 ≤ q ∧ q < 64
        · rw [withN_test, decide_eq_false (p := 0 ≤ p ∧ p < 64 ∧ p.toNat = q.toNat) (by omega), Bool.or_false]
        · rw [decide_eq_false c, Bool.false_and, Bool.false_and]
      have h2 : inS (lessN x p) q = inS x q := by
        unfold inS
        by_cases c : 0 ≤ q ∧ q < 64
        · rw [lessN_test _ _ _ (by omega), decide_eq_false (p := 0 ≤ p ∧ p < 64 ∧ p.toNat = q.toNat) (by omega), Bool.not_false, Bool.and_true]
        · rw [decide_eq_false c, Bool.false_and, Bool.false_and]
      rw [if_neg e, has_eq (withN_lt hx p), Option.bind_some, has_eq hx, Option.bind_some, h1, if_pos (by simp), has_eq (lessN_lt hx p), Option.bind_some, Option.bind_some, h2]
      simp
  by_cases c : p ≥ 0
  · rw [if_pos c]
    by_cases d : p < 64
    · have h1 : inS (withN x p) p = true := by
        unfold inS
        rw [withN_test, decide_eq_true ⟨c, d⟩, decide_eq_true (p := 0 ≤ p ∧ p < 64 ∧ p.toNat = p.toNat) ⟨c, d, rfl⟩]
        simp
      have h2 : inS (lessN x p) p = false := by
        unfold inS
        rw [lessN_test _ _ _ (by omega), decide_eq_true (p := 0 ≤ p ∧ p < 64 ∧ p.toNat = p.toNat) ⟨c, d, rfl⟩]
        simp
      rw [if_pos d, has_eq (withN_lt hx p), Option.bind_some, h1, if_pos rfl, has_eq (lessN_lt hx p), Option.bind_some, h2]
      exact J
    · rw [if_neg d]; exact J
  · rw [if_neg c]; exact J

end Go.Proofs.Ytfgdjljbdghdgaa.Pure
