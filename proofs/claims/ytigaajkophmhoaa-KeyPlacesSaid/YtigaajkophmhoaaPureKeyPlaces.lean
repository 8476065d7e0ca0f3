/- Of every key and two counts the shard and the bucket; no condition. -/
import Derived.OpenShut
import Derived.IntWalk
import Derived.Test.YtigaajkophmhoaaBits
import Derived.Test.YtigaajkophmhoaaPKeyPlacesx4
namespace Go.Proofs.Ytigaajkophmhoaa.Pure
open Go.RowKit Go.Proofs.Ytigaajkophmhoaa.PKeyPlaces Go.Proofs.YtigaajkophmhoaaW.PrintWords Go.Proofs.YtigaajkophmhoaaW.PrintLast
open Go.Proofs.Ytigaajkophmhoaa

/-- An address's kind: 3 reserved, 2 broadcast, 1 group, 0 one station's. -/
def kindOf (m : Int) : Int := if m % 281474976710656 = 281474976710655 then 2 else if m % 281474976710656 / 16 = 103282638848 then 3 else m / 1099511627776 % 2

theorem and48 {m : Int} (h0 : 0 ≤ m) (h1 : m ≤ 18446744073709551615) : Go.bits .and .u64 m 281474976710655 = m % 281474976710656 := by
  rw [Bits.and64 0 48 m (by decide) (by decide) h0 h1 281474976710655 rfl]; simp

theorem mac_Kind_eq {m : Int} (h0 : 0 ≤ m) (h1 : m ≤ 18446744073709551615) : mac_Kind.f m = some (kindOf m) := by
  unfold mac_Kind.f kindOf
  rw [and48 h0 h1, Bits.andNot64 4 64 _ (by decide) (by decide) (by omega) (by omega) 15 rfl, Bits.and64 40 41 _ (by decide) (by decide) (by omega) (by omega) 1099511627776 rfl]
  simp only [Nat.reducePow, Nat.reduceSub, Int.cast_ofNat_Int]
  by_cases c1 : m % 281474976710656 = 281474976710655
  · rw [if_pos c1, if_pos c1]
  · rw [if_neg c1, if_neg c1]
    by_cases c2 : m % 281474976710656 / 16 = 103282638848
    · rw [if_pos (by omega), if_pos c2]
    · rw [if_neg (by omega), if_neg c2]
      by_cases c3 : m / 1099511627776 % 2 = 0
      · rw [if_pos (by omega), c3]
      · rw [if_neg (by omega)]; congr 1; omega

theorem ref_Bytes_eq {m : Int} (h0 : 0 ≤ m) (h1 : m ≤ 18446744073709551615) {k : Nat} (hk : 7 ≤ k) : patchbayref01_Bytes.f k m = some [m / 1099511627776 % 256, m / 4294967296 % 256, m / 16777216 % 256, m / 65536 % 256, m / 256 % 256, m % 256] := by
  obtain ⟨k, rfl⟩ : ∃ j, k = j + 7 := ⟨k - 7, by omega⟩
  have T : ∀ x : Int, 0 ≤ x → x ≤ 18446744073709551615 → IntKind.u64.wrap (Int.tdiv x 256) = x / 256 := by
    intro x a b; rw [Int.tdiv_eq_ediv_of_nonneg a, IntWalk.u64_in _ (by omega)]
  have M : ∀ x : Int, 0 ≤ x → Int.tmod x 256 % 256 = x % 256 := by
    intro x a; rw [Int.tmod_eq_emod_of_nonneg a, Int.emod_emod_of_dvd _ (by decide)]
  unfold patchbayref01_Bytes.f
  simp only [patchbayref01_Bytes.l0, Option.bind_some, List.length_cons, List.length_nil, List.cons_append, List.nil_append]
  have e1 : m / 256 / 256 = m / 65536 := by omega
  have e2 : m / 65536 / 256 = m / 16777216 := by omega
  have e3 : m / 16777216 / 256 = m / 4294967296 := by omega
  have e4 : m / 4294967296 / 256 = m / 1099511627776 := by omega
  rw [T m h0 h1, T (m / 256) (by omega) (by omega), e1, T (m / 65536) (by omega) (by omega), e2, T (m / 16777216) (by omega) (by omega), e3, T (m / 4294967296) (by omega) (by omega), e4]
  rw [M _ h0, M (m / 256) (by omega), M (m / 65536) (by omega), M (m / 16777216) (by omega), M (m / 4294967296) (by omega), M (m / 1099511627776) (by omega)]
  simp [wrap64]

theorem ref_Low_eq {m : Int} (h0 : 0 ≤ m) : patchbayref01_Low.f m = some (m % 281474976710656) := by
  unfold patchbayref01_Low.f; rw [Int.tmod_eq_emod_of_nonneg h0]

theorem ref_Kind_eq {m : Int} (h0 : 0 ≤ m) (h1 : m ≤ 18446744073709551615) {k : Nat} (hk : 7 ≤ k) : patchbayref01_Kind.f k m = some (kindOf m) := by
  unfold patchbayref01_Kind.f
  rw [ref_Bytes_eq h0 h1 hk, ref_Low_eq h0]
  simp only [Option.bind_some, List.length_cons, List.length_nil]
  unfold kindOf
  have W : wrap64 (Int.tmod (m / 1099511627776 % 256) 2) = m / 1099511627776 % 2 := by
    rw [Int.tmod_eq_emod_of_nonneg (by omega)]; unfold wrap64; omega
  have g0 : rd [m / 1099511627776 % 256, m / 4294967296 % 256, m / 16777216 % 256, m / 65536 % 256, m / 256 % 256, m % 256] 0 = m / 1099511627776 % 256 := rfl
  have g1 : rd [m / 1099511627776 % 256, m / 4294967296 % 256, m / 16777216 % 256, m / 65536 % 256, m / 256 % 256, m % 256] 1 = m / 4294967296 % 256 := rfl
  have g2 : rd [m / 1099511627776 % 256, m / 4294967296 % 256, m / 16777216 % 256, m / 65536 % 256, m / 256 % 256, m % 256] 2 = m / 16777216 % 256 := rfl
  have g3 : rd [m / 1099511627776 % 256, m / 4294967296 % 256, m / 16777216 % 256, m / 65536 % 256, m / 256 % 256, m % 256] 3 = m / 65536 % 256 := rfl
  have g4 : rd [m / 1099511627776 % 256, m / 4294967296 % 256, m / 16777216 % 256, m / 65536 % 256, m / 256 % 256, m % 256] 4 = m / 256 % 256 := rfl
  have g5 : rd [m / 1099511627776 % 256, m / 4294967296 % 256, m / 16777216 % 256, m / 65536 % 256, m / 256 % 256, m % 256] 5 = m % 256 := rfl
  have L0 : (0 : Int) < ((0 + 1 + 1 + 1 + 1 + 1 + 1 : Nat) : Int) := by decide
  have L1 : (1 : Int) < ((0 + 1 + 1 + 1 + 1 + 1 + 1 : Nat) : Int) := by decide
  have L2 : (2 : Int) < ((0 + 1 + 1 + 1 + 1 + 1 + 1 : Nat) : Int) := by decide
  have L3 : (3 : Int) < ((0 + 1 + 1 + 1 + 1 + 1 + 1 : Nat) : Int) := by decide
  have L4 : (4 : Int) < ((0 + 1 + 1 + 1 + 1 + 1 + 1 : Nat) : Int) := by decide
  have L5 : (5 : Int) < ((0 + 1 + 1 + 1 + 1 + 1 + 1 : Nat) : Int) := by decide
  rw [g0, g1, g2, g3, g4, g5, W, if_pos L0, if_pos L1, if_pos L2, if_pos L3, if_pos L4, if_pos L5]
  by_cases c1 : m % 281474976710656 = 281474976710655
  · rw [if_pos c1, if_pos c1]
  · rw [if_neg c1, if_neg c1]
    by_cases c2 : m % 281474976710656 / 16 = 103282638848
    · rw [if_pos c2, if_pos (by omega), if_pos (by omega), if_pos (by omega), if_pos (by omega), if_pos (by omega), if_pos (by omega)]
    · rw [if_neg c2]
      by_cases d0 : m / 1099511627776 % 256 = 1
      · rw [if_pos d0]
        by_cases d1 : m / 4294967296 % 256 = 128
        · rw [if_pos d1]
          by_cases d2 : m / 16777216 % 256 = 194
          · rw [if_pos d2]
            by_cases d3 : m / 65536 % 256 = 0
            · rw [if_pos d3]
              by_cases d4 : m / 256 % 256 = 0
              · rw [if_pos d4, if_neg (by omega)]
              · rw [if_neg d4]
            · rw [if_neg d3]
          · rw [if_neg d2]
        · rw [if_neg d1]
      · rw [if_neg d0]

/-- May a key be? -/
def kr (v m : Int) : Bool := decide (1 ≤ v ∧ v ≤ 4094 ∧ 0 < m ∧ m < 281474976710656 ∧ m / 1099511627776 % 2 = 0)

theorem kr_iff (v m : Int) : kr v m = true ↔ (1 ≤ v ∧ v ≤ 4094 ∧ 0 < m ∧ m < 281474976710656 ∧ m / 1099511627776 % 2 = 0) := by unfold kr; rw [decide_eq_true_iff]

theorem kr_false {v m : Int} (h : kr v m = false) (h1 : 1 ≤ v) (h2 : v ≤ 4094) (h3 : 0 < m) (h4 : m < 281474976710656) : m / 1099511627776 % 2 ≠ 0 := by
  intro h5
  rw [(kr_iff v m).2 ⟨h1, h2, h3, h4, h5⟩] at h; cases h

theorem kind0 {m : Int} (h : m < 281474976710656) (h0 : 0 ≤ m) : (kindOf m == 0) = decide (m / 1099511627776 % 2 = 0) := by
  unfold kindOf
  by_cases c1 : m % 281474976710656 = 281474976710655
  · rw [if_pos c1]; rw [show decide (m / 1099511627776 % 2 = 0) = false from decide_eq_false (by omega)]; rfl
  · rw [if_neg c1]
    by_cases c2 : m % 281474976710656 / 16 = 103282638848
    · rw [if_pos c2]; rw [show decide (m / 1099511627776 % 2 = 0) = false from decide_eq_false (by omega)]; rfl
    · rw [if_neg c2]
      by_cases c3 : m / 1099511627776 % 2 = 0 <;> simp [c3]

theorem key_Right_eq {v m : Int} (h0 : 0 ≤ m) (h1 : m ≤ 18446744073709551615) : key_Right.f v m = some (kr v m) := by
  unfold key_Right.f mac_Right.f kr
  rw [mac_Kind_eq h0 h1]
  simp only [Option.bind_some]
  by_cases c1 : v ≥ 1
  · by_cases c2 : v ≤ 4094
    · by_cases c3 : m = 0
      · simp [c1, c2, c3]
      · by_cases c4 : m ≤ 281474976710655
        · have : 0 < m := by omega
          have : m < 281474976710656 := by omega
          rw [kind0 (by omega) h0]
          simp [*]
        · have : ¬ m < 281474976710656 := by omega
          simp [c1, c2, c3, c4, this]
    · simp [c1, c2]
  · simp [c1]

theorem ref_Right_eq {v m : Int} (h0 : 0 ≤ m) (h1 : m ≤ 18446744073709551615) {k : Nat} (hk : 7 ≤ k) : patchbayref08_Right.f k v m = some (kr v m) := by
  unfold patchbayref08_Right.f kr
  rw [ref_Low_eq h0, ref_Kind_eq h0 h1 hk]
  simp only [Option.bind_some]
  by_cases c1 : v ≥ 1
  · by_cases c2 : v ≤ 4094
    · by_cases c3 : m > 0
      · by_cases c4 : m < 281474976710656
        · have : m = m % 281474976710656 := by omega
          rw [if_pos c1, if_pos c2, if_pos c3, if_pos this, kind0 (by omega) h0]
          simp [c1, c2, c3, c4]
        · have : ¬ m = m % 281474976710656 := by omega
          rw [if_pos c1, if_pos c2, if_pos c3, if_neg this]
          simp [c4]
      · have : ¬ 0 < m := by omega
        simp [this]
    · simp [c1, c2]
  · simp [c1]

theorem key_Word_eq {v m : Int} (h : kr v m = true) : key_Word.f v m = some (1152921504606846976 + v * 281474976710656 + m) := by
  have hk := (kr_iff v m).1 h
  unfold key_Word.f
  rw [key_Right_eq (by omega) (by omega), h]
  simp only [Option.bind_some, if_true]
  rw [IntWalk.u64_in v (by omega), IntWalk.u64_in _ (by omega), Bits.or64 60 _ (v * 281474976710656) (by omega) (by omega) (by omega) (by omega) (by decide) (by omega)]
  rw [Bits.or64 48 _ m (by omega) (by omega) (by omega) (by omega) (by omega) (by omega)]

theorem key_Word_no {v m : Int} (h : kr v m = false) (h0 : 0 ≤ m) (h1 : m ≤ 18446744073709551615) : key_Word.f v m = some 0 := by
  unfold key_Word.f
  rw [key_Right_eq h0 h1, h]; rfl

/-- Whose word is it? -/
def ofW (w : Int) : Int × Int × Bool := if 1152921504606846976 ≤ w ∧ w < 2305843009213693952 ∧ kr ((w - 1152921504606846976) / 281474976710656) (w % 281474976710656) = true then ((w - 1152921504606846976) / 281474976710656, w % 281474976710656, true) else (0, 0, false)

theorem key_Of_eq {w : Int} (h0 : 0 ≤ w) (h1 : w ≤ 18446744073709551615) : key_Of.f w = some (ofW w) := by
  unfold key_Of.f ofW
  rw [Bits.and64 60 61 w (by decide) (by decide) h0 h1 1152921504606846976 rfl, Bits.andNot60 w h0 h1, and48 h0 h1]
  simp only [Nat.reducePow, Nat.reduceSub, Int.cast_ofNat_Int]
  have hw : wrap64 ((w / 2305843009213693952 * 2305843009213693952 + w % 1152921504606846976) / 281474976710656) = (w / 2305843009213693952 * 2305843009213693952 + w % 1152921504606846976) / 281474976710656 := by unfold wrap64; omega
  rw [hw, key_Right_eq (by omega) (by omega)]
  by_cases c : w / 1152921504606846976 % 2 * 1152921504606846976 = 0
  · rw [if_pos c, if_neg (by omega)]
  · rw [if_neg c]
    simp only [Option.bind_some]
    by_cases c2 : w < 2305843009213693952
    · rw [show (w / 2305843009213693952 * 2305843009213693952 + w % 1152921504606846976) = w - 1152921504606846976 from by omega]
      by_cases c3 : kr ((w - 1152921504606846976) / 281474976710656) (w % 281474976710656) = true
      · rw [if_pos c3, if_pos ⟨by omega, c2, c3⟩]
      · rw [if_neg c3, if_neg (fun h => c3 h.2.2)]
    · rw [if_neg (fun h => by have := (kr_iff _ _).1 h; omega), if_neg (by omega)]

theorem ofW_back {w : Int} (h : (ofW w).2.2 = true) : kr (ofW w).1 (ofW w).2.1 = true ∧ 1152921504606846976 + (ofW w).1 * 281474976710656 + (ofW w).2.1 = w := by
  unfold ofW at h ⊢
  split at h
  · rename_i c
    rw [if_pos c]
    exact ⟨c.2.2, by simp only; omega⟩
  · cases h

theorem ofW_word {v m : Int} (h : kr v m = true) : ofW (1152921504606846976 + v * 281474976710656 + m) = (v, m, true) := by
  have hk := (kr_iff v m).1 h
  unfold ofW
  rw [show (1152921504606846976 + v * 281474976710656 + m - 1152921504606846976) / 281474976710656 = v from by omega, show (1152921504606846976 + v * 281474976710656 + m) % 281474976710656 = m from by omega, if_pos ⟨by omega, by omega, h⟩]

/-- A key's word; 0: it may not be. -/
def wordK (v m : Int) : Int := if kr v m = true then 1152921504606846976 + v * 281474976710656 + m else 0

theorem key_Word_is {v m : Int} (h0 : 0 ≤ m) (h1 : m ≤ 18446744073709551615) : key_Word.f v m = some (wordK v m) := by
  unfold wordK
  by_cases c : kr v m = true
  · rw [if_pos c, key_Word_eq c]
  · rw [if_neg c, key_Word_no (by simpa using c) h0 h1]

theorem ref_Word_is {v m : Int} (h0 : 0 ≤ m) (h1 : m ≤ 18446744073709551615) {k : Nat} (hk : 7 ≤ k) : patchbayref08_Word.f k v m = some (wordK v m) := by
  unfold patchbayref08_Word.f wordK
  rw [ref_Right_eq h0 h1 hk]
  simp only [Option.bind_some]
  by_cases c : kr v m = true
  · have hk := (kr_iff v m).1 c
    rw [if_pos c, if_pos c, IntWalk.u64_in v (by omega), IntWalk.u64_in (v * 281474976710656) (by omega), IntWalk.u64_in (1152921504606846976 + v * 281474976710656) (by omega), IntWalk.u64_in _ (by omega)]
  · rw [if_neg c, if_neg c]

theorem wordK_range (v m : Int) : 0 ≤ wordK v m ∧ wordK v m ≤ 18446744073709551615 := by
  unfold wordK
  by_cases c : kr v m = true
  · have hk := (kr_iff v m).1 c
    rw [if_pos c]; omega
  · rw [if_neg c]; omega

/-- A right key, out of any numbers. -/
def fixV (v : Int) : Int := 1 + v % 18446744073709551616 % 4094
def fixM (m : Int) : Int := if m % 281474976710656 / 1099511627776 % 2 = 1 then (if m % 281474976710656 = 1099511627776 then 1 else m % 281474976710656 - 1099511627776) else if m % 281474976710656 = 0 then 1 else m % 281474976710656

theorem fix_right (v m : Int) : kr (fixV v) (fixM m) = true := by
  rw [kr_iff]
  unfold fixV fixM
  by_cases c : m % 281474976710656 / 1099511627776 % 2 = 1
  · rw [if_pos c]
    by_cases d : m % 281474976710656 = 1099511627776
    · rw [if_pos d]; omega
    · rw [if_neg d]; omega
  · rw [if_neg c]
    by_cases d : m % 281474976710656 = 0
    · rw [if_pos d]; omega
    · rw [if_neg d]; omega

theorem ref_Fix_eq {v m : Int} (h0 : 0 ≤ m) {k : Nat} (hk : 7 ≤ k) : patchbayref08_Fix.f k v m = some (fixV v, fixM m) := by
  unfold patchbayref08_Fix.f fixM
  have ev : wrap64 (1 + (wrap64 (Int.tmod (IntKind.u64.wrap (v)) 4094))) = fixV v := by
    rw [IntKind.wrap_u64, Int.tmod_eq_emod_of_nonneg (by omega)]; unfold wrap64 fixV; omega
  rw [ref_Low_eq h0, ev]
  simp only [Option.bind_some]
  rw [ref_Bytes_eq (by omega) (by omega) hk]
  simp only [Option.bind_some, List.length_cons, List.length_nil]
  have g0 : rd [m % 281474976710656 / 1099511627776 % 256, m % 281474976710656 / 4294967296 % 256, m % 281474976710656 / 16777216 % 256, m % 281474976710656 / 65536 % 256, m % 281474976710656 / 256 % 256, m % 281474976710656 % 256] 0 = m % 281474976710656 / 1099511627776 % 256 := rfl
  rw [g0, if_pos (by decide), Int.tmod_eq_emod_of_nonneg (by omega)]
  by_cases c : m % 281474976710656 / 1099511627776 % 2 = 1
  · rw [if_pos (by omega), if_pos c, IntWalk.u64_in _ (by omega)]
    by_cases d : m % 281474976710656 = 1099511627776
    · rw [if_pos (by omega), if_pos d]
    · rw [if_neg (by omega), if_neg d]
  · rw [if_neg (by omega), if_neg c]
    by_cases d : m % 281474976710656 = 0
    · rw [if_pos d, if_pos d]
    · rw [if_neg d, if_neg d]

theorem word_eq_iff {v m v' m' : Int} (h : kr v m = true) (h' : kr v' m' = true) : (wordK v m == wordK v' m') = (v == v' && m == m') := by
  have hk := (kr_iff v m).1 h
  have hk' := (kr_iff v' m').1 h'
  unfold wordK
  rw [if_pos h, if_pos h', Bool.eq_iff_iff]
  simp only [beq_iff_eq, Bool.and_eq_true]
  constructor
  · intro e; omega
  · rintro ⟨rfl, rfl⟩; rfl

theorem td (y c : Int) (hc : 0 < c) : IntKind.u64.wrap (Int.tdiv (IntKind.u64.wrap y) c) = IntKind.u64.wrap y / c := by
  rw [IntKind.wrap_u64 y, Int.tdiv_eq_ediv_of_nonneg (by omega), IntKind.wrap_u64]
  have h0 : 0 ≤ y % 18446744073709551616 := by omega
  have h1 : y % 18446744073709551616 < 18446744073709551616 := by omega
  have h2 : 0 ≤ y % 18446744073709551616 / c := Int.ediv_nonneg h0 (by omega)
  have h3 : y % 18446744073709551616 / c ≤ y % 18446744073709551616 := Int.ediv_le_self _ h0
  exact Int.emod_eq_of_lt h2 (by omega)

theorem mix_eq (n : Int) : turn_Mix.f n = patchbayref07_Mix.f n := by
  unfold turn_Mix.f patchbayref07_Mix.f
  simp only [td _ 1073741824 (by decide), td _ 134217728 (by decide), td _ 2147483648 (by decide)]

theorem mix_some (n : Int) : ∃ h, patchbayref07_Mix.f n = some h ∧ 0 ≤ h ∧ h ≤ 18446744073709551615 :=
  ⟨_, rfl, bounds_u64 (wf_bits _ _ _ _)⟩

theorem told1 : patchbaylaw08_told.f = some true := by decide +kernel

def placeOf (v m s n h : Int) : Int × Int := if kr v m = true ∧ 1 ≤ s ∧ 1 ≤ n then (h % s, h / 4294967296 % n) else (0, 0)

theorem w64m {h s : Int} (h0 : 0 ≤ h) (s0 : 1 ≤ s) (s1 : s ≤ 9223372036854775807) : wrap64 (Int.tmod h (IntKind.u64.wrap s)) = h % s := by
  rw [IntWalk.u64_in s (by omega), Int.tmod_eq_emod_of_nonneg h0]
  have a := Int.emod_nonneg h (show s ≠ 0 by omega)
  have c := Int.emod_lt_of_pos h (show 0 < s by omega)
  generalize h % s = x at *
  unfold wrap64; omega

theorem place_eq {v m s n h : Int} (m0 : 0 ≤ m) (m1 : m ≤ 18446744073709551615) (s1 : s ≤ 9223372036854775807) (n1 : n ≤ 9223372036854775807) (hh : patchbayref07_Mix.f (wordK v m) = some h) (h0 : 0 ≤ h) {k : Nat} (hk : 1 ≤ k) : key_Place.f k v m s n = some (placeOf v m s n h) := by
  obtain ⟨k, rfl⟩ : ∃ j, k = j + 1 := ⟨k - 1, by omega⟩
  unfold key_Place.f placeOf
  rw [key_Right_eq m0 m1]
  simp only [Option.bind_some, key_Place.j0, key_Word_is m0 m1, mix_eq, hh]
  by_cases c : kr v m = true
  · rw [if_pos c]
    by_cases d : s < 1
    · rw [if_pos d, if_pos trivial, if_neg (fun x => by omega)]
    · rw [if_neg d]
      by_cases e : n < 1
      · rw [if_pos (decide_eq_true e), if_neg (fun x => by omega)]
      · rw [if_neg (by simpa using e), w64m h0 (by omega) s1, w64m (show 0 ≤ h / 4294967296 by omega) (by omega) n1, IntWalk.u64_in s (by omega), IntWalk.u64_in n (by omega), if_neg (by omega), if_neg (by omega), if_pos ⟨c, by omega, by omega⟩]
  · rw [if_neg c, if_pos trivial, if_neg (fun x => c x.1)]

theorem ref_place_eq {v m s n h : Int} (m0 : 0 ≤ m) (m1 : m ≤ 18446744073709551615) (s1 : s ≤ 9223372036854775807) (n1 : n ≤ 9223372036854775807) (hh : patchbayref07_Mix.f (wordK v m) = some h) (h0 : 0 ≤ h) (h1 : h ≤ 18446744073709551615) {k : Nat} (hk : 8 ≤ k) : patchbayref08_Place.f k v m s n = some (placeOf v m s n h) := by
  obtain ⟨k, rfl⟩ : ∃ j, k = j + 1 := ⟨k - 1, by omega⟩
  unfold patchbayref08_Place.f placeOf
  rw [ref_Right_eq m0 m1 (by omega)]
  simp only [Option.bind_some, patchbayref08_Place.j0, ref_Word_is m0 m1 (show 7 ≤ k by omega), hh]
  by_cases c : kr v m = true
  · rw [if_pos c]
    by_cases d : s < 1
    · rw [if_pos d, if_pos trivial, if_neg (fun x => by omega)]
    · rw [if_neg d]
      by_cases e : n < 1
      · rw [if_pos (decide_eq_true e), if_neg (fun x => by omega)]
      · rw [if_neg (by simpa using e), Int.tdiv_eq_ediv_of_nonneg h0, IntWalk.u64_in (h / 4294967296) (by omega), w64m h0 (by omega) s1, w64m (show 0 ≤ h / 4294967296 by omega) (by omega) n1, IntWalk.u64_in s (by omega), IntWalk.u64_in n (by omega), if_neg (by omega), if_neg (by omega), if_pos ⟨c, by omega, by omega⟩]
  · rw [if_neg c, if_pos trivial, if_neg (fun x => c x.1)]

theorem KeyPlaces (v m s n : Int) (_hv : (Lit.int .i64 v).wf = true) (hm : (Lit.int .u64 m).wf = true) (hs : (Lit.int .i64 s).wf = true) (hn : (Lit.int .i64 n).wf = true) : ∃ k, patchbaylaw08_KeyPlaces.f k v m s n = some true := by
  have b := bounds_u64 hm
  have bs := bounds_i64 hs
  have bn := bounds_i64 hn
  refine ⟨9, ?_⟩
  have F := fix_right v m
  have G := (kr_iff _ _).1 F
  obtain ⟨h, hh, h0, h1⟩ := mix_some (wordK v m)
  obtain ⟨g, hg, g0, g1⟩ := mix_some (wordK (fixV v) (fixM m))
  have ex : wrap64 (1 + (wrap64 (Int.tmod (IntKind.u64.wrap s) 8))) = 1 + s % 18446744073709551616 % 8 := by
    rw [IntKind.wrap_u64, Int.tmod_eq_emod_of_nonneg (by omega)]; unfold wrap64; omega
  have ey : wrap64 (1 + (wrap64 (Int.tmod (IntKind.u64.wrap n) 16))) = 1 + n % 18446744073709551616 % 16 := by
    rw [IntKind.wrap_u64, Int.tmod_eq_emod_of_nonneg (by omega)]; unfold wrap64; omega
  have fin : patchbaylaw08_KeyPlaces.j0 9 s n false v m = some true := by
    simp only [patchbaylaw08_KeyPlaces.j0, ref_Fix_eq b.1 (show 7 ≤ 8 by decide), Option.bind_some, patchbaylaw08_To.f, ex, ey]
    rw [place_eq (show 0 ≤ fixM m by omega) (show fixM m ≤ 18446744073709551615 by omega) (by omega) (by omega) hg g0 (by decide)]
    have P : placeOf (fixV v) (fixM m) (1 + s % 18446744073709551616 % 8) (1 + n % 18446744073709551616 % 16) g = (g % (1 + s % 18446744073709551616 % 8), g / 4294967296 % (1 + n % 18446744073709551616 % 16)) := if_pos ⟨F, by omega, by omega⟩
    simp only [Option.bind_some, P, Bool.false_eq_true, if_false]
    have a1 := Int.emod_nonneg g (show 1 + s % 18446744073709551616 % 8 ≠ 0 by omega)
    have a2 := Int.emod_lt_of_pos g (show 0 < 1 + s % 18446744073709551616 % 8 by omega)
    have a3 := Int.emod_nonneg (g / 4294967296) (show 1 + n % 18446744073709551616 % 16 ≠ 0 by omega)
    have a4 := Int.emod_lt_of_pos (g / 4294967296) (show 0 < 1 + n % 18446744073709551616 % 16 by omega)
    rw [if_pos (by simpa using a1), if_pos a2, if_pos (by simpa using a3), decide_eq_true a4]
  unfold patchbaylaw08_KeyPlaces.f
  simp only [patchbaylaw08_To.f, Option.bind_some, told1, if_true, place_eq b.1 b.2 bs.2 bn.2 hh h0 (show 1 ≤ 9 by decide), ref_place_eq b.1 b.2 bs.2 bn.2 hh h0 h1 (show 8 ≤ 9 by decide), bne_self_eq_false]
  exact fin

end Go.Proofs.Ytigaajkophmhoaa.Pure
