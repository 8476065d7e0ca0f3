/- Of two entries whether they may be, and their words; no condition. -/
import Derived.OpenShut
import Derived.IntWalk
import Derived.Test.YtigaajkophmhoaaBits
import Derived.Test.YtigaajkophmhoaaPSlotWordsx5
namespace Go.Proofs.Ytigaajkophmhoaa.Pure
open Go.RowKit Go.Proofs.Ytigaajkophmhoaa.PSlotWords Go.Proofs.YtigaajkophmhoaaW.PrintWords Go.Proofs.YtigaajkophmhoaaW.PrintLast Go.Proofs.YtigaajkophmhoaaW.PrintMore
open Go.Proofs.Ytigaajkophmhoaa

/-- An address's kind: 3 reserved, 2 broadcast, 1 group, 0 one station's. -/
def kindOf (m : Int) : Int := if m % 281474976710656 = 281474976710655 then 2 else if m % 281474976710656 / 16 = 103282638848 then 3 else m / 1099511627776 % 2

theorem and48 {m : Int} (h0 : 0 ≤ m) (h1 : m ≤ 18446744073709551615) : Go.bits .and .u64 m 281474976710655 = m % 281474976710656 := by
  rw [Bits.and64 0 48 m (by decide) (by decide) h0 h1 281474976710655 rfl]; simp

theorem mac_Kind_eq {m : Int} (h0 : 0 ≤ m) (h1 : m ≤ 18446744073709551615) : mac_Kind.f m = some (kindOf m) := by
  unfold mac_Kind.f kindOf
  rw [and48 h0 h1, Bits.andNot64 4 64 _ (by decide) (by decide) (by omega) (by omega) 15 rfl, Bits.and64 40 41 _ (by decide) (by decide) (by omega) (by omega) 1099511627776 rfl]
  simp only [Nat.reducePow, Nat.reduceSub, Int.cast_ofNat_Int]
  by_cases c1 : m % 281474976710656 = 281474976710655
  · rw [if_pos c1, if_pos c1]
  · rw [if_neg c1, if_neg c1]
    by_cases c2 : m % 281474976710656 / 16 = 103282638848
    · rw [if_pos (by omega), if_pos c2]
    · rw [if_neg (by omega), if_neg c2]
      by_cases c3 : m / 1099511627776 % 2 = 0
      · rw [if_pos (by omega), c3]
      · rw [if_neg (by omega)]; congr 1; omega

theorem ref_Bytes_eq {m : Int} (h0 : 0 ≤ m) (h1 : m ≤ 18446744073709551615) {k : Nat} (hk : 7 ≤ k) : patchbayref01_Bytes.f k m = some [m / 1099511627776 % 256, m / 4294967296 % 256, m / 16777216 % 256, m / 65536 % 256, m / 256 % 256, m % 256] := by
  obtain ⟨k, rfl⟩ : ∃ j, k = j + 7 := ⟨k - 7, by omega⟩
  have T : ∀ x : Int, 0 ≤ x → x ≤ 18446744073709551615 → IntKind.u64.wrap (Int.tdiv x 256) = x / 256 := by
    intro x a b; rw [Int.tdiv_eq_ediv_of_nonneg a, IntWalk.u64_in _ (by omega)]
  have M : ∀ x : Int, 0 ≤ x → Int.tmod x 256 % 256 = x % 256 := by
    intro x a; rw [Int.tmod_eq_emod_of_nonneg a, Int.emod_emod_of_dvd _ (by decide)]
  unfold patchbayref01_Bytes.f
  simp only [patchbayref01_Bytes.l0, Option.bind_some, List.length_cons, List.length_nil, List.cons_append, List.nil_append]
  have e1 : m / 256 / 256 = m / 65536 := by omega
  have e2 : m / 65536 / 256 = m / 16777216 := by omega
  have e3 : m / 16777216 / 256 = m / 4294967296 := by omega
  have e4 : m / 4294967296 / 256 = m / 1099511627776 := by omega
  rw [T m h0 h1, T (m / 256) (by omega) (by omega), e1, T (m / 65536) (by omega) (by omega), e2, T (m / 16777216) (by omega) (by omega), e3, T (m / 4294967296) (by omega) (by omega), e4]
  rw [M _ h0, M (m / 256) (by omega), M (m / 65536) (by omega), M (m / 16777216) (by omega), M (m / 4294967296) (by omega), M (m / 1099511627776) (by omega)]
  simp [wrap64]

theorem ref_Low_eq {m : Int} (h0 : 0 ≤ m) : patchbayref01_Low.f m = some (m % 281474976710656) := by
  unfold patchbayref01_Low.f; rw [Int.tmod_eq_emod_of_nonneg h0]

theorem ref_Kind_eq {m : Int} (h0 : 0 ≤ m) (h1 : m ≤ 18446744073709551615) {k : Nat} (hk : 7 ≤ k) : patchbayref01_Kind.f k m = some (kindOf m) := by
  unfold patchbayref01_Kind.f
  rw [ref_Bytes_eq h0 h1 hk, ref_Low_eq h0]
  simp only [Option.bind_some, List.length_cons, List.length_nil]
  unfold kindOf
  have W : wrap64 (Int.tmod (m / 1099511627776 % 256) 2) = m / 1099511627776 % 2 := by
    rw [Int.tmod_eq_emod_of_nonneg (by omega)]; unfold wrap64; omega
  have g0 : rd [m / 1099511627776 % 256, m / 4294967296 % 256, m / 16777216 % 256, m / 65536 % 256, m / 256 % 256, m % 256] 0 = m / 1099511627776 % 256 := rfl
  have g1 : rd [m / 1099511627776 % 256, m / 4294967296 % 256, m / 16777216 % 256, m / 65536 % 256, m / 256 % 256, m % 256] 1 = m / 4294967296 % 256 := rfl
  have g2 : rd [m / 1099511627776 % 256, m / 4294967296 % 256, m / 16777216 % 256, m / 65536 % 256, m / 256 % 256, m % 256] 2 = m / 16777216 % 256 := rfl
  have g3 : rd [m / 1099511627776 % 256, m / 4294967296 % 256, m / 16777216 % 256, m / 65536 % 256, m / 256 % 256, m % 256] 3 = m / 65536 % 256 := rfl
  have g4 : rd [m / 1099511627776 % 256, m / 4294967296 % 256, m / 16777216 % 256, m / 65536 % 256, m / 256 % 256, m % 256] 4 = m / 256 % 256 := rfl
  have g5 : rd [m / 1099511627776 % 256, m / 4294967296 % 256, m / 16777216 % 256, m / 65536 % 256, m / 256 % 256, m % 256] 5 = m % 256 := rfl
  have L0 : (0 : Int) < ((0 + 1 + 1 + 1 + 1 + 1 + 1 : Nat) : Int) := by decide
  have L1 : (1 : Int) < ((0 + 1 + 1 + 1 + 1 + 1 + 1 : Nat) : Int) := by decide
  have L2 : (2 : Int) < ((0 + 1 + 1 + 1 + 1 + 1 + 1 : Nat) : Int) := by decide
  have L3 : (3 : Int) < ((0 + 1 + 1 + 1 + 1 + 1 + 1 : Nat) : Int) := by decide
  have L4 : (4 : Int) < ((0 + 1 + 1 + 1 + 1 + 1 + 1 : Nat) : Int) := by decide
  have L5 : (5 : Int) < ((0 + 1 + 1 + 1 + 1 + 1 + 1 : Nat) : Int) := by decide
  rw [g0, g1, g2, g3, g4, g5, W, if_pos L0, if_pos L1, if_pos L2, if_pos L3, if_pos L4, if_pos L5]
  by_cases c1 : m % 281474976710656 = 281474976710655
  · rw [if_pos c1, if_pos c1]
  · rw [if_neg c1, if_neg c1]
    by_cases c2 : m % 281474976710656 / 16 = 103282638848
    · rw [if_pos c2, if_pos (by omega), if_pos (by omega), if_pos (by omega), if_pos (by omega), if_pos (by omega), if_pos (by omega)]
    · rw [if_neg c2]
      by_cases d0 : m / 1099511627776 % 256 = 1
      · rw [if_pos d0]
        by_cases d1 : m / 4294967296 % 256 = 128
        · rw [if_pos d1]
          by_cases d2 : m / 16777216 % 256 = 194
          · rw [if_pos d2]
            by_cases d3 : m / 65536 % 256 = 0
            · rw [if_pos d3]
              by_cases d4 : m / 256 % 256 = 0
              · rw [if_pos d4, if_neg (by omega)]
              · rw [if_neg d4]
            · rw [if_neg d3]
          · rw [if_neg d2]
        · rw [if_neg d1]
      · rw [if_neg d0]

/-- May a key be? -/
def kr (v m : Int) : Bool := decide (1 ≤ v ∧ v ≤ 4094 ∧ 0 < m ∧ m < 281474976710656 ∧ m / 1099511627776 % 2 = 0)

theorem kr_iff (v m : Int) : kr v m = true ↔ (1 ≤ v ∧ v ≤ 4094 ∧ 0 < m ∧ m < 281474976710656 ∧ m / 1099511627776 % 2 = 0) := by unfold kr; rw [decide_eq_true_iff]

theorem kr_false {v m : Int} (h : kr v m = false) (h1 : 1 ≤ v) (h2 : v ≤ 4094) (h3 : 0 < m) (h4 : m < 281474976710656) : m / 1099511627776 % 2 ≠ 0 := by
  intro h5
  rw [(kr_iff v m).2 ⟨h1, h2, h3, h4, h5⟩] at h; cases h

theorem kind0 {m : Int} (h : m < 281474976710656) (h0 : 0 ≤ m) : (kindOf m == 0) = decide (m / 1099511627776 % 2 = 0) := by
  unfold kindOf
  by_cases c1 : m % 281474976710656 = 281474976710655
  · rw [if_pos c1]; rw [show decide (m / 1099511627776 % 2 = 0) = false from decide_eq_false (by omega)]; rfl
  · rw [if_neg c1]
    by_cases c2 : m % 281474976710656 / 16 = 103282638848
    · rw [if_pos c2]; rw [show decide (m / 1099511627776 % 2 = 0) = false from decide_eq_false (by omega)]; rfl
    · rw [if_neg c2]
      by_cases c3 : m / 1099511627776 % 2 = 0 <;> simp [c3]

theorem key_Right_eq {v m : Int} (h0 : 0 ≤ m) (h1 : m ≤ 18446744073709551615) : key_Right.f v m = some (kr v m) := by
  unfold key_Right.f mac_Right.f kr
  rw [mac_Kind_eq h0 h1]
  simp only [Option.bind_some]
  by_cases c1 : v ≥ 1
  · by_cases c2 : v ≤ 4094
    · by_cases c3 : m = 0
      · simp [c1, c2, c3]
      · by_cases c4 : m ≤ 281474976710655
        · have : 0 < m := by omega
          have : m < 281474976710656 := by omega
          rw [kind0 (by omega) h0]
          simp [*]
        · have : ¬ m < 281474976710656 := by omega
          simp [c1, c2, c3, c4, this]
    · simp [c1, c2]
  · simp [c1]

theorem ref_Right_eq {v m : Int} (h0 : 0 ≤ m) (h1 : m ≤ 18446744073709551615) {k : Nat} (hk : 7 ≤ k) : patchbayref08_Right.f k v m = some (kr v m) := by
  unfold patchbayref08_Right.f kr
  rw [ref_Low_eq h0, ref_Kind_eq h0 h1 hk]
  simp only [Option.bind_some]
  by_cases c1 : v ≥ 1
  · by_cases c2 : v ≤ 4094
    · by_cases c3 : m > 0
      · by_cases c4 : m < 281474976710656
        · have : m = m % 281474976710656 := by omega
          rw [if_pos c1, if_pos c2, if_pos c3, if_pos this, kind0 (by omega) h0]
          simp [c1, c2, c3, c4]
        · have : ¬ m = m % 281474976710656 := by omega
          rw [if_pos c1, if_pos c2, if_pos c3, if_neg this]
          simp [c4]
      · have : ¬ 0 < m := by omega
        simp [this]
    · simp [c1, c2]
  · simp [c1]

theorem key_Word_eq {v m : Int} (h : kr v m = true) : key_Word.f v m = some (1152921504606846976 + v * 281474976710656 + m) := by
  have hk := (kr_iff v m).1 h
  unfold key_Word.f
  rw [key_Right_eq (by omega) (by omega), h]
  simp only [Option.bind_some, if_true]
  rw [IntWalk.u64_in v (by omega), IntWalk.u64_in _ (by omega), Bits.or64 60 _ (v * 281474976710656) (by omega) (by omega) (by omega) (by omega) (by decide) (by omega)]
  rw [Bits.or64 48 _ m (by omega) (by omega) (by omega) (by omega) (by omega) (by omega)]

theorem key_Word_no {v m : Int} (h : kr v m = false) (h0 : 0 ≤ m) (h1 : m ≤ 18446744073709551615) : key_Word.f v m = some 0 := by
  unfold key_Word.f
  rw [key_Right_eq h0 h1, h]; rfl

/-- Whose word is it? -/
def ofW (w : Int) : Int × Int × Bool := if 1152921504606846976 ≤ w ∧ w < 2305843009213693952 ∧ kr ((w - 1152921504606846976) / 281474976710656) (w % 281474976710656) = true then ((w - 1152921504606846976) / 281474976710656, w % 281474976710656, true) else (0, 0, false)

theorem key_Of_eq {w : Int} (h0 : 0 ≤ w) (h1 : w ≤ 18446744073709551615) : key_Of.f w = some (ofW w) := by
  unfold key_Of.f ofW
  rw [Bits.and64 60 61 w (by decide) (by decide) h0 h1 1152921504606846976 rfl, Bits.andNot60 w h0 h1, and48 h0 h1]
  simp only [Nat.reducePow, Nat.reduceSub, Int.cast_ofNat_Int]
  have hw : wrap64 ((w / 2305843009213693952 * 2305843009213693952 + w % 1152921504606846976) / 281474976710656) = (w / 2305843009213693952 * 2305843009213693952 + w % 1152921504606846976) / 281474976710656 := by unfold wrap64; omega
  rw [hw, key_Right_eq (by omega) (by omega)]
  by_cases c : w / 1152921504606846976 % 2 * 1152921504606846976 = 0
  · rw [if_pos c, if_neg (by omega)]
  · rw [if_neg c]
    simp only [Option.bind_some]
    by_cases c2 : w < 2305843009213693952
    · rw [show (w / 2305843009213693952 * 2305843009213693952 + w % 1152921504606846976) = w - 1152921504606846976 from by omega]
      by_cases c3 : kr ((w - 1152921504606846976) / 281474976710656) (w % 281474976710656) = true
      · rw [if_pos c3, if_pos ⟨by omega, c2, c3⟩]
      · rw [if_neg c3, if_neg (fun h => c3 h.2.2)]
    · rw [if_neg (fun h => by have := (kr_iff _ _).1 h; omega), if_neg (by omega)]

theorem ofW_back {w : Int} (h : (ofW w).2.2 = true) : kr (ofW w).1 (ofW w).2.1 = true ∧ 1152921504606846976 + (ofW w).1 * 281474976710656 + (ofW w).2.1 = w := by
  unfold ofW at h ⊢
  split at h
  · rename_i c
    rw [if_pos c]
    exact ⟨c.2.2, by simp only; omega⟩
  · cases h

theorem ofW_word {v m : Int} (h : kr v m = true) : ofW (1152921504606846976 + v * 281474976710656 + m) = (v, m, true) := by
  have hk := (kr_iff v m).1 h
  unfold ofW
  rw [show (1152921504606846976 + v * 281474976710656 + m - 1152921504606846976) / 281474976710656 = v from by omega, show (1152921504606846976 + v * 281474976710656 + m) % 281474976710656 = m from by omega, if_pos ⟨by omega, by omega, h⟩]

/-- A key's word; 0: it may not be. -/
def wordK (v m : Int) : Int := if kr v m = true then 1152921504606846976 + v * 281474976710656 + m else 0

theorem key_Word_is {v m : Int} (h0 : 0 ≤ m) (h1 : m ≤ 18446744073709551615) : key_Word.f v m = some (wordK v m) := by
  unfold wordK
  by_cases c : kr v m = true
  · rw [if_pos c, key_Word_eq c]
  · rw [if_neg c, key_Word_no (by simpa using c) h0 h1]

theorem ref_Word_is {v m : Int} (h0 : 0 ≤ m) (h1 : m ≤ 18446744073709551615) {k : Nat} (hk : 7 ≤ k) : patchbayref08_Word.f k v m = some (wordK v m) := by
  unfold patchbayref08_Word.f wordK
  rw [ref_Right_eq h0 h1 hk]
  simp only [Option.bind_some]
  by_cases c : kr v m = true
  · have hk := (kr_iff v m).1 c
    rw [if_pos c, if_pos c, IntWalk.u64_in v (by omega), IntWalk.u64_in (v * 281474976710656) (by omega), IntWalk.u64_in (1152921504606846976 + v * 281474976710656) (by omega), IntWalk.u64_in _ (by omega)]
  · rw [if_neg c, if_neg c]

theorem wordK_range (v m : Int) : 0 ≤ wordK v m ∧ wordK v m ≤ 18446744073709551615 := by
  unfold wordK
  by_cases c : kr v m = true
  · have hk := (kr_iff v m).1 c
    rw [if_pos c]; omega
  · rw [if_neg c]; omega

/-- A right key, out of any numbers. -/
def fixV (v : Int) : Int := 1 + v % 18446744073709551616 % 4094
def fixM (m : Int) : Int := if m % 281474976710656 / 1099511627776 % 2 = 1 then (if m % 281474976710656 = 1099511627776 then 1 else m % 281474976710656 - 1099511627776) else if m % 281474976710656 = 0 then 1 else m % 281474976710656

theorem fix_right (v m : Int) : kr (fixV v) (fixM m) = true := by
  rw [kr_iff]
  unfold fixV fixM
  by_cases c : m % 281474976710656 / 1099511627776 % 2 = 1
  · rw [if_pos c]
    by_cases d : m % 281474976710656 = 1099511627776
    · rw [if_pos d]; omega
    · rw [if_neg d]; omega
  · rw [if_neg c]
    by_cases d : m % 281474976710656 = 0
    · rw [if_pos d]; omega
    · rw [if_neg d]; omega

theorem ref_Fix_eq {v m : Int} (h0 : 0 ≤ m) {k : Nat} (hk : 7 ≤ k) : patchbayref08_Fix.f k v m = some (fixV v, fixM m) := by
  unfold patchbayref08_Fix.f fixM
  have ev : wrap64 (1 + (wrap64 (Int.tmod (IntKind.u64.wrap (v)) 4094))) = fixV v := by
    rw [IntKind.wrap_u64, Int.tmod_eq_emod_of_nonneg (by omega)]; unfold wrap64 fixV; omega
  rw [ref_Low_eq h0, ev]
  simp only [Option.bind_some]
  rw [ref_Bytes_eq (by omega) (by omega) hk]
  simp only [Option.bind_some, List.length_cons, List.length_nil]
  have g0 : rd [m % 281474976710656 / 1099511627776 % 256, m % 281474976710656 / 4294967296 % 256, m % 281474976710656 / 16777216 % 256, m % 281474976710656 / 65536 % 256, m % 281474976710656 / 256 % 256, m % 281474976710656 % 256] 0 = m % 281474976710656 / 1099511627776 % 256 := rfl
  rw [g0, if_pos (by decide), Int.tmod_eq_emod_of_nonneg (by omega)]
  by_cases c : m % 281474976710656 / 1099511627776 % 2 = 1
  · rw [if_pos (by omega), if_pos c, IntWalk.u64_in _ (by omega)]
    by_cases d : m % 281474976710656 = 1099511627776
    · rw [if_pos (by omega), if_pos d]
    · rw [if_neg (by omega), if_neg d]
  · rw [if_neg (by omega), if_neg c]
    by_cases d : m % 281474976710656 = 0
    · rw [if_pos d, if_pos d]
    · rw [if_neg d, if_neg d]

theorem word_eq_iff {v m v' m' : Int} (h : kr v m = true) (h' : kr v' m' = true) : (wordK v m == wordK v' m') = (v == v' && m == m') := by
  have hk := (kr_iff v m).1 h
  have hk' := (kr_iff v' m').1 h'
  unfold wordK
  rw [if_pos h, if_pos h', Bool.eq_iff_iff]
  simp only [beq_iff_eq, Bool.and_eq_true]
  constructor
  · intro e; omega
  · rintro ⟨rfl, rfl⟩; rfl

/-- May an entry be? -/
def sr (v m p : Int) (s : Bool) (t : Int) : Bool := kr v m && (decide (0 ≤ p ∧ p < 64) && (!s || t == 0))

theorem slot_Right_eq {v m p t : Int} {s : Bool} (h0 : 0 ≤ m) (h1 : m ≤ 18446744073709551615) : slot_Right.f v m p s t = some (sr v m p s t) := by
  unfold slot_Right.f sr
  rw [key_Right_eq h0 h1]
  simp only [Option.bind_some]
  cases kr v m
  · simp
  · by_cases c1 : p ≥ 0
    · by_cases c2 : p < 64
      · cases s <;> simp [c1, c2]
      · simp [c2]
    · have : ¬ 0 ≤ p := by omega
      simp [this]

theorem ref_SRight_eq {v m p t : Int} {s : Bool} (h0 : 0 ≤ m) (h1 : m ≤ 18446744073709551615) {k : Nat} (hk : 7 ≤ k) : patchbayref09_Right.f k v m p s t = some (sr v m p s t) := by
  unfold patchbayref09_Right.f sr
  rw [ref_Right_eq h0 h1 hk]
  simp only [Option.bind_some]
  cases kr v m
  · simp
  · by_cases c1 : p ≥ 0
    · by_cases c2 : p < 64
      · cases s
        · simp [c1, c2]
        · by_cases c3 : t = 0
          · simp [c1, c2, c3]
          · simp [c1, c2]; rfl
      · simp [c2]
    · have : ¬ 0 ≤ p := by omega
      simp [this]

/-- The second word of an entry. -/
def second (p : Int) (s : Bool) (t : Int) : Int := t * 4294967296 + (if s = true then 256 else 0) + p

theorem slot_Words_eq {v m p t : Int} {s : Bool} (h : sr v m p s t = true) (t0 : 0 ≤ t) (t1 : t ≤ 4294967295) : slot_Words.f v m p s t = some (1152921504606846976 + v * 281474976710656 + m, second p s t) := by
  have hk : kr v m = true := by unfold sr at h; cases e : kr v m <;> simp [e] at h ⊢
  have hh := (kr_iff v m).1 hk
  have hp : 0 ≤ p ∧ p < 64 := by unfold sr at h; rw [hk] at h; simp at h; exact h.1
  unfold slot_Words.f second
  rw [slot_Right_eq (by omega) (by omega), h, key_Word_eq hk]
  simp only [Option.bind_some, if_true]
  rw [IntWalk.u64_in p (by omega), IntWalk.u64_in t (by omega), IntWalk.u64_in (t * 4294967296) (by omega), Bits.or64' 32 p _ (by omega) (by omega) (by omega) (by omega) (by omega) (by omega)]
  cases s
  · simp; omega
  · have ht : t = 0 := by unfold sr at h; rw [hk] at h; simp at h; exact h.2
    subst ht
    simp only [if_true]
    rw [Bits.or64' 8 _ 256 (by omega) (by omega) (by omega) (by omega) (by decide) (by omega)]
    congr 2; omega

theorem slot_Words_no {v m p t : Int} {s : Bool} (h : sr v m p s t = false) (h0 : 0 ≤ m) (h1 : m ≤ 18446744073709551615) : slot_Words.f v m p s t = some (0, 0) := by
  unfold slot_Words.f
  rw [slot_Right_eq h0 h1, h]; rfl

/-- Whose words are they? -/
def ofS (a b : Int) : Int × Int × Int × Bool × Int × Bool :=
  if (ofW a).2.2 = true ∧ sr (ofW a).1 (ofW a).2.1 (b % 256) (b / 256 % 2 == 1) (b / 4294967296) = true ∧ b / 512 % 8388608 = 0 then ((ofW a).1, (ofW a).2.1, b % 256, b / 256 % 2 == 1, b / 4294967296, true) else (0, 0, 0, false, 0, false)

theorem ofW_range {w : Int} (_h0 : 0 ≤ w) (_h1 : w ≤ 18446744073709551615) : 0 ≤ (ofW w).2.1 ∧ (ofW w).2.1 ≤ 18446744073709551615 := by
  unfold ofW
  split
  · simp only; omega
  · simp

theorem slot_Of_eq {a b : Int} (a0 : 0 ≤ a) (a1 : a ≤ 18446744073709551615) (b0 : 0 ≤ b) (b1 : b ≤ 18446744073709551615) : slot_Of.f a b = some (ofS a b) := by
  unfold slot_Of.f ofS
  rw [key_Of_eq a0 a1, Bits.and64 0 8 b (by decide) (by decide) b0 b1 255 rfl, Bits.and64 8 9 b (by decide) (by decide) b0 b1 256 rfl, Bits.andNot64 9 32 b (by decide) (by decide) b0 b1 18446744069414584831 rfl]
  simp only [Nat.reducePow, Nat.reduceSub, Int.cast_ofNat_Int, Option.bind_some]
  have e1 : wrap64 (b / 1 % 256 * 1) = b % 256 := by unfold wrap64; omega
  have e2 : (b / 256 % 2 * 256 != 0) = (b / 256 % 2 == 1) := by
    by_cases c : b / 256 % 2 = 1
    · rw [c]; rfl
    · rw [show b / 256 % 2 = 0 from by omega]; rfl
  have e3 : b / 4294967296 % 4294967296 = b / 4294967296 := by omega
  rw [e1, e2, e3]
  have hr := ofW_range a0 a1
  rw [slot_Right_eq hr.1 hr.2]
  simp only [Option.bind_some]
  by_cases c1 : (ofW a).2.2 = true
  · rw [if_pos c1]
    by_cases c2 : sr (ofW a).1 (ofW a).2.1 (b % 256) (b / 256 % 2 == 1) (b / 4294967296) = true
    · rw [if_pos c2]
      by_cases c3 : b / 512 % 8388608 = 0
      · rw [if_pos (by omega), if_pos ⟨c1, c2, c3⟩]
      · rw [if_neg (by omega), if_neg (fun h => c3 h.2.2)]
    · rw [if_neg c2, if_neg (fun h => c2 h.2.1)]
  · rw [if_neg c1, if_neg (fun h => c1 h.1)]

theorem ofS_back {a b : Int} (_b0 : 0 ≤ b) (h : (ofS a b).2.2.2.2.2 = true) :
    sr (ofS a b).1 (ofS a b).2.1 (ofS a b).2.2.1 (ofS a b).2.2.2.1 (ofS a b).2.2.2.2.1 = true ∧ 1152921504606846976 + (ofS a b).1 * 281474976710656 + (ofS a b).2.1 = a ∧ second (ofS a b).2.2.1 (ofS a b).2.2.2.1 (ofS a b).2.2.2.2.1 = b := by
  unfold ofS at h ⊢
  split at h
  · rename_i c
    rw [if_pos c]
    obtain ⟨k1, k2⟩ := ofW_back c.1
    refine ⟨c.2.1, k2, ?_⟩
    unfold second
    simp only
    by_cases e : b / 256 % 2 = 1
    · simp only [e, beq_self_eq_true, if_true]; omega
    · simp only [beq_iff_eq, if_neg e]; omega
  · cases h

def wordsS (v m p : Int) (s : Bool) (t : Int) : Int × Int := if sr v m p s t = true then (1152921504606846976 + v * 281474976710656 + m, second p s t) else (0, 0)

theorem sr_parts {v m p t : Int} {s : Bool} (h : sr v m p s t = true) : kr v m = true ∧ 0 ≤ p ∧ p < 64 ∧ (s = true → t = 0) := by
  unfold sr at h
  cases e : kr v m
  · rw [e] at h; cases h
  · rw [e] at h
    simp at h
    refine ⟨rfl, h.1.1, h.1.2, fun hs => ?_⟩
    rw [hs] at h
    simpa using h.2

theorem sr_mk {v m p t : Int} {s : Bool} (h : kr v m = true) (h0 : 0 ≤ p) (h1 : p < 64) (h2 : s = true → t = 0) : sr v m p s t = true := by
  unfold sr
  rw [h, decide_eq_true (show 0 ≤ p ∧ p < 64 from ⟨h0, h1⟩)]
  cases s
  · rfl
  · rw [h2 rfl]; rfl

theorem slot_Words_is {v m p t : Int} {s : Bool} (h0 : 0 ≤ m) (h1 : m ≤ 18446744073709551615) (t0 : 0 ≤ t) (t1 : t ≤ 4294967295) : slot_Words.f v m p s t = some (wordsS v m p s t) := by
  unfold wordsS
  by_cases c : sr v m p s t = true
  · rw [if_pos c, slot_Words_eq c t0 t1]
  · rw [if_neg c, slot_Words_no (by simpa using c) h0 h1]

theorem ref_SWords_is {v m p t : Int} {s : Bool} (h0 : 0 ≤ m) (h1 : m ≤ 18446744073709551615) (t0 : 0 ≤ t) (t1 : t ≤ 4294967295) {k : Nat} (hk : 7 ≤ k) : patchbayref09_Words.f k v m p s t = some (wordsS v m p s t) := by
  unfold patchbayref09_Words.f wordsS
  rw [ref_SRight_eq h0 h1 hk, ref_Word_is h0 h1 hk]
  simp only [Option.bind_some]
  by_cases c : sr v m p s t = true
  · obtain ⟨hk, p0, p1, hs⟩ := sr_parts c
    rw [if_pos c, if_pos c]
    unfold wordK second
    rw [if_pos hk, IntWalk.u64_in p (by omega), IntWalk.u64_in t (by omega), IntWalk.u64_in (4294967296 * t) (by omega), IntWalk.u64_in (p + 4294967296 * t) (by omega)]
    cases s
    · simp; omega
    · rw [hs rfl, IntWalk.u64_in _ (by omega)]; simp; omega
  · rw [if_neg c, if_neg c]

def fixP (p : Int) : Int := p % 18446744073709551616 % 64
def fixT (s : Bool) (t : Int) : Int := if s = true then 0 else t

theorem ref_SFix_eq {v m p t : Int} {s : Bool} (h0 : 0 ≤ m) {k : Nat} (hk : 7 ≤ k) : patchbayref09_Fix.f k v m p s t = some (fixV v, fixM m, fixP p, s, fixT s t) := by
  unfold patchbayref09_Fix.f fixT
  have e : wrap64 (Int.tmod (IntKind.u64.wrap p) 64) = fixP p := by
    rw [IntKind.wrap_u64, Int.tmod_eq_emod_of_nonneg (by omega)]; unfold wrap64 fixP; omega
  rw [ref_Fix_eq h0 hk, e]
  cases s <;> simp

theorem sfix_right (v m p t : Int) (s : Bool) : sr (fixV v) (fixM m) (fixP p) s (fixT s t) = true := by
  refine sr_mk (fix_right v m) ?_ ?_ ?_
  · unfold fixP; omega
  · unfold fixP; omega
  · intro h; unfold fixT; rw [if_pos h]

theorem second_range {v m p t : Int} {s : Bool} (h : sr v m p s t = true) (t0 : 0 ≤ t) (t1 : t ≤ 4294967295) : 0 ≤ second p s t ∧ second p s t ≤ 18446744073709551615 := by
  obtain ⟨_, p0, p1, _⟩ := sr_parts h
  unfold second
  cases s <;> simp <;> omega

theorem ofS_word {v m p t : Int} {s : Bool} (h : sr v m p s t = true) (_t0 : 0 ≤ t) (_t1 : t ≤ 4294967295) : ofS (1152921504606846976 + v * 281474976710656 + m) (second p s t) = (v, m, p, s, t, true) := by
  obtain ⟨hk, p0, p1, hs⟩ := sr_parts h
  have e1 : second p s t % 256 = p := by unfold second; cases s <;> simp <;> omega
  have e2 : (second p s t / 256 % 2 == 1) = s := by
    unfold second
    cases s
    · rw [show (t * 4294967296 + (if false = true then 256 else 0) + p) / 256 % 2 = 0 from by simp; omega]; rfl
    · rw [show (t * 4294967296 + (if true = true then 256 else 0) + p) / 256 % 2 = 1 from by simp; omega]; rfl
  have e3 : second p s t / 4294967296 = t := by unfold second; cases s <;> simp <;> omega
  have e4 : second p s t / 512 % 8388608 = 0 := by unfold second; cases s <;> simp <;> omega
  unfold ofS
  rw [ofW_word hk, e1, e2, e3, e4, if_pos ⟨rfl, h, rfl⟩]

theorem fixT_range {s : Bool} {t : Int} (t0 : 0 ≤ t) (t1 : t ≤ 4294967295) : 0 ≤ fixT s t ∧ fixT s t ≤ 4294967295 := by
  unfold fixT; cases s <;> simp <;> omega

theorem wordsS_fix (v m p t : Int) (s : Bool) : wordsS (fixV v) (fixM m) (fixP p) s (fixT s t) = (1152921504606846976 + fixV v * 281474976710656 + fixM m, second (fixP p) s (fixT s t)) := if_pos (sfix_right v m p t s)

theorem second_inj {p t p' t' : Int} {s s' : Bool} (h0 : 0 ≤ p) (h1 : p < 64) (h0' : 0 ≤ p') (h1' : p' < 64) : (second p s t == second p' s' t') = (p == p' && (s == s' && t == t')) := by
  unfold second
  rw [Bool.eq_iff_iff]
  simp only [beq_iff_eq, Bool.and_eq_true]
  cases s <;> cases s' <;> simp <;> omega

theorem told1 : patchbaylaw09_told.f = some true := by decide +kernel

theorem SlotWords (v m p : Int) (s : Bool) (t v' m' p' : Int) (s' : Bool) (t' : Int) (_h1 : (Lit.int .i64 v).wf = true) (h2 : (Lit.int .u64 m).wf = true) (_h3 : (Lit.int .i64 p).wf = true) (h4 : (Lit.int .u32 t).wf = true) (_h5 : (Lit.int .i64 v').wf = true) (h6 : (Lit.int .u64 m').wf = true) (_h7 : (Lit.int .i64 p').wf = true) (h8 : (Lit.int .u32 t').wf = true) : ∃ k, patchbaylaw09_SlotWords.f k v m p s t v' m' p' s' t' = some true := by
  have bm := bounds_u64 h2
  have bm' := bounds_u64 h6
  have bt := bounds_u32 h4
  have bt' := bounds_u32 h8
  refine ⟨8, ?_⟩
  have G := (kr_iff _ _).1 (fix_right v m)
  have G' := (kr_iff _ _).1 (fix_right v' m')
  have S := sfix_right v m p t s
  have T := fixT_range (s := s) bt.1 bt.2
  have T' := fixT_range (s := s') bt'.1 bt'.2
  have R := second_range S T.1 T.2
  have O := ofS_word S T.1 T.2
  have W := word_eq_iff (fix_right v m) (fix_right v' m')
  unfold wordK at W
  rw [if_pos (fix_right v m), if_pos (fix_right v' m')] at W
  have Q : (second (fixP p) s (fixT s t) == second (fixP p') s' (fixT s' t')) = (fixP p == fixP p' && (s == s' && fixT s t == fixT s' t')) := second_inj (by unfold fixP; omega) (by unfold fixP; omega) (by unfold fixP; omega) (by unfold fixP; omega)
  have fin : patchbaylaw09_SlotWords.j0 8 false v m p s t v' m' p' s' t' = some true := by
    simp only [patchbaylaw09_SlotWords.j0, ref_SFix_eq bm.1 (show 7 ≤ 7 by decide), ref_SFix_eq bm'.1 (show 7 ≤ 7 by decide), Option.bind_some, patchbaylaw09_To.f, patchbaylaw08_To.f, patchbaylaw09_From.f, patchbaylaw08_From.f]
    rw [slot_Words_is (by omega) (by omega) T.1 T.2, slot_Words_is (by omega) (by omega) T'.1 T'.2, wordsS_fix, wordsS_fix]
    simp only [Option.bind_some]
    rw [slot_Of_eq (by omega) (by omega) R.1 R.2, O]
    simp only [Option.bind_some, Q]
    by_cases c : 1152921504606846976 + fixV v * 281474976710656 + fixM m = 1152921504606846976 + fixV v' * 281474976710656 + fixM m'
    · have W' : (fixV v == fixV v' && fixM m == fixM m') = true := by rw [← W]; simpa using c
      simp only [if_pos c, W']
      simp
    · have W' : (fixV v == fixV v' && fixM m == fixM m') = false := by rw [← W]; simpa using c
      simp only [if_neg c, W']
      simp
  unfold patchbaylaw09_SlotWords.f
  simp only [patchbaylaw09_To.f, patchbaylaw08_To.f, Option.bind_some]
  rw [slot_Words_is bm.1 bm.2 bt.1 bt.2, ref_SWords_is bm.1 bm.2 bt.1 bt.2 (by decide), slot_Right_eq bm.1 bm.2, ref_SRight_eq bm.1 bm.2 (by decide)]
  simp only [Option.bind_some, told1, if_true, bne_self_eq_false]
  exact fin

end Go.Proofs.Ytigaajkophmhoaa.Pure
