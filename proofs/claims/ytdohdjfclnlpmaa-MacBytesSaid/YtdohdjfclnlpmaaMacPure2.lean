/- Addresses: kinds, told, the reference's Parse: plain laws. -/
import Derived.Test.YtdohdjfclnlpmaaMacPure
namespace Go.Proofs.Ytdohdjfclnlpmaa.Pure
open Go.RowKit Go.Proofs.Ytdohdjfclnlpmaa.PMac Go.Proofs.YtdohdjfclnlpmaaW.PrintWords Go.Proofs.YtdohdjfclnlpmaaW.PrintLast Go.Proofs.Ytdohdjfclnlpmaa.MacW Go.Proofs.Ytdohdjfclnlpmaa
set_option linter.unusedVariables false
set_option linter.unusedSimpArgs false

/-- An address's kind: 3 reserved, 2 broadcast, 1 group, 0 one station's. -/
def kindOf (m : Int) : Int := if m % 281474976710656 = 281474976710655 then 2 else if m % 281474976710656 / 16 = 103282638848 then 3 else m / 1099511627776 % 2

theorem and48 {m : Int} (h0 : 0 ≤ m) (h1 : m ≤ 18446744073709551615) : Go.bits .and .u64 m 281474976710655 = m % 281474976710656 := by
  rw [Bits.and64 0 48 m (by decide) (by decide) h0 h1 281474976710655 rfl]; simp

theorem mac_Kind_eq {m : Int} (h0 : 0 ≤ m) (h1 : m ≤ 18446744073709551615) : mac_Kind.f m = some (kindOf m) := by
  unfold mac_Kind.f kindOf
  rw [and48 h0 h1, Bits.andNot64 4 64 _ (by decide) (by decide) (by omega) (by omega) 15 rfl, Bits.and64 40 41 _ (by decide) (by decide) (by omega) (by omega) 1099511627776 rfl]
  simp only [Nat.reducePow, Nat.reduceSub, Int.cast_ofNat_Int]
  by_cases c1 : m % 281474976710656 = 281474976710655
  · rw [if_pos c1, if_pos c1]
  · rw [if_neg c1, if_neg c1]
    by_cases c2 : m % 281474976710656 / 16 = 103282638848
    · rw [if_pos (by omega), if_pos c2]
    · rw [if_neg (by omega), if_neg c2]
      by_cases c3 : m / 1099511627776 % 2 = 0
      · rw [if_pos (by omega), c3]
      · rw [if_neg (by omega)]; congr 1; omega

theorem ref_Bytes_eq {m : Int} (h0 : 0 ≤ m) (h1 : m ≤ 18446744073709551615) {k : Nat} (hk : 7 ≤ k) : patchbayref01_Bytes.f k m = some [m / 1099511627776 % 256, m / 4294967296 % 256, m / 16777216 % 256, m / 65536 % 256, m / 256 % 256, m % 256] := by
  obtain ⟨k, rfl⟩ : ∃ j, k = j + 7 := ⟨k - 7, by omega⟩
  have T : ∀ x : Int, 0 ≤ x → x ≤ 18446744073709551615 → IntKind.u64.wrap (Int.tdiv x 256) = x / 256 := by
    intro x a b; rw [Int.tdiv_eq_ediv_of_nonneg a, IntWalk.u64_in _ (by omega)]
  have M : ∀ x : Int, 0 ≤ x → Int.tmod x 256 % 256 = x % 256 := by
    intro x a; rw [Int.tmod_eq_emod_of_nonneg a, Int.emod_emod_of_dvd _ (by decide)]
  unfold patchbayref01_Bytes.f
  simp only [patchbayref01_Bytes.l0, Option.bind_some, List.length_cons, List.length_nil, List.cons_append, List.nil_append]
  have e1 : m / 256 / 256 = m / 65536 := by omega
  have e2 : m / 65536 / 256 = m / 16777216 := by omega
  have e3 : m / 16777216 / 256 = m / 4294967296 := by omega
  have e4 : m / 4294967296 / 256 = m / 1099511627776 := by omega
  rw [T m h0 h1, T (m / 256) (by omega) (by omega), e1, T (m / 65536) (by omega) (by omega), e2, T (m / 16777216) (by omega) (by omega), e3, T (m / 4294967296) (by omega) (by omega), e4]
  rw [M _ h0, M (m / 256) (by omega), M (m / 65536) (by omega), M (m / 16777216) (by omega), M (m / 4294967296) (by omega), M (m / 1099511627776) (by omega)]
  simp [wrap64]

theorem ref_Low_eq {m : Int} (h0 : 0 ≤ m) : patchbayref01_Low.f m = some (m % 281474976710656) := by
  unfold patchbayref01_Low.f; rw [Int.tmod_eq_emod_of_nonneg h0]

theorem ref_Kind_eq {m : Int} (h0 : 0 ≤ m) (h1 : m ≤ 18446744073709551615) {k : Nat} (hk : 7 ≤ k) : patchbayref01_Kind.f k m = some (kindOf m) := by
  unfold patchbayref01_Kind.f
  rw [ref_Bytes_eq h0 h1 hk, ref_Low_eq h0]
  simp only [Option.bind_some, List.length_cons, List.length_nil]
  unfold kindOf
  have W : wrap64 (Int.tmod (m / 1099511627776 % 256) 2) = m / 1099511627776 % 2 := by
    rw [Int.tmod_eq_emod_of_nonneg (by omega)]; unfold wrap64; omega
  have g0 : rd [m / 1099511627776 % 256, m / 4294967296 % 256, m / 16777216 % 256, m / 65536 % 256, m / 256 % 256, m % 256] 0 = m / 1099511627776 % 256 := rfl
  have g1 : rd [m / 1099511627776 % 256, m / 4294967296 % 256, m / 16777216 % 256, m / 65536 % 256, m / 256 % 256, m % 256] 1 = m / 4294967296 % 256 := rfl
  have g2 : rd [m / 1099511627776 % 256, m / 4294967296 % 256, m / 16777216 % 256, m / 65536 % 256, m / 256 % 256, m % 256] 2 = m / 16777216 % 256 := rfl
  have g3 : rd [m / 1099511627776 % 256, m / 4294967296 % 256, m / 16777216 % 256, m / 65536 % 256, m / 256 % 256, m % 256] 3 = m / 65536 % 256 := rfl
  have g4 : rd [m / 1099511627776 % 256, m / 4294967296 % 256, m / 16777216 % 256, m / 65536 % 256, m / 256 % 256, m % 256] 4 = m / 256 % 256 := rfl
  have g5 : rd [m / 1099511627776 % 256, m / 4294967296 % 256, m / 16777216 % 256, m / 65536 % 256, m / 256 % 256, m % 256] 5 = m % 256 := rfl
  have L0 : (0 : Int) < ((0 + 1 + 1 + 1 + 1 + 1 + 1 : Nat) : Int) := by decide
  have L1 : (1 : Int) < ((0 + 1 + 1 + 1 + 1 + 1 + 1 : Nat) : Int) := by decide
  have L2 : (2 : Int) < ((0 + 1 + 1 + 1 + 1 + 1 + 1 : Nat) : Int) := by decide
  have L3 : (3 : Int) < ((0 + 1 + 1 + 1 + 1 + 1 + 1 : Nat) : Int) := by decide
  have L4 : (4 : Int) < ((0 + 1 + 1 + 1 + 1 + 1 + 1 : Nat) : Int) := by decide
  have L5 : (5 : Int) < ((0 + 1 + 1 + 1 + 1 + 1 + 1 : Nat) : Int) := by decide
  rw [g0, g1, g2, g3, g4, g5, W, if_pos L0, if_pos L1, if_pos L2, if_pos L3, if_pos L4, if_pos L5]
  by_cases c1 : m % 281474976710656 = 281474976710655
  · rw [if_pos c1, if_pos c1]
  · rw [if_neg c1, if_neg c1]
    by_cases c2 : m % 281474976710656 / 16 = 103282638848
    · rw [if_pos c2, if_pos (by omega), if_pos (by omega), if_pos (by omega), if_pos (by omega), if_pos (by omega), if_pos (by omega)]
    · rw [if_neg c2]
      by_cases d0 : m / 1099511627776 % 256 = 1
      · rw [if_pos d0]
        by_cases d1 : m / 4294967296 % 256 = 128
        · rw [if_pos d1]
          by_cases d2 : m / 16777216 % 256 = 194
          · rw [if_pos d2]
            by_cases d3 : m / 65536 % 256 = 0
            · rw [if_pos d3]
              by_cases d4 : m / 256 % 256 = 0
              · rw [if_pos d4, if_neg (by omega)]
              · rw [if_neg d4]
            · rw [if_neg d3]
          · rw [if_neg d2]
        · rw [if_neg d1]
      · rw [if_neg d0]

theorem ref_Bytes_b6 {m : Int} (h0 : 0 ≤ m) (h1 : m ≤ 18446744073709551615) : patchbayref01_Bytes.f 30 m = some (mac_Text.b6 m) := ref_Bytes_eq h0 h1 (by decide)

theorem mac_Bytes_b6 {m : Int} (h0 : 0 ≤ m) (h1 : m ≤ 18446744073709551615) : mac_Bytes.f 30 m = some (mac_Text.b6 m) := by
  unfold mac_Bytes.f
  simp [mac_Bytes.l0, wrap64, shr, mac_Text.b6, List.replicate]
  exact ⟨rfl, rfl, rfl, rfl, rfl⟩

theorem mac_Text_eq {m : Int} (h0 : 0 ≤ m) (h1 : m ≤ 18446744073709551615) : mac_Text.f m = some ⟨(txt (mac_Text.b6 m) 6).toArray⟩ := by
  unfold mac_Text.f; rw [if_pos ⟨h0, h1⟩]

theorem ref_Text_eq {m : Int} (h0 : 0 ≤ m) (h1 : m ≤ 18446744073709551615) : patchbayref01_Text.f m = some ⟨(txt (mac_Text.b6 m) 6).toArray⟩ := by
  unfold patchbayref01_Text.f; rw [if_pos ⟨h0, h1⟩]

set_option maxRecDepth 100000 in
theorem told30 : patchbaylaw01_told.f 30 = some true := by
  have e1 : mac_Parse.f (⟨#[48, 49, 45, 56, 48, 45, 99, 50, 45, 48, 48, 45, 48, 48, 45, 48, 101]⟩ : ByteArray) = some (1652522221582, 0) := by
    have h := prs_txt (m := 1652522221582) (by decide)
    have hx : (⟨(txt (mac_Text.b6 1652522221582) 6).toArray⟩ : ByteArray) = ⟨#[48, 49, 45, 56, 48, 45, 99, 50, 45, 48, 48, 45, 48, 48, 45, 48, 101]⟩ := by decide
    rw [hx] at h
    unfold mac_Parse.f
    rw [h]
    rfl
  have e2 : mac_Text.f 1652522221582 = some ⟨#[48, 49, 45, 56, 48, 45, 99, 50, 45, 48, 48, 45, 48, 48, 45, 48, 101]⟩ := by
    rw [mac_Text_eq (by decide) (by decide)]
    have hx : (⟨(txt (mac_Text.b6 1652522221582) 6).toArray⟩ : ByteArray) = ⟨#[48, 49, 45, 56, 48, 45, 99, 50, 45, 48, 48, 45, 48, 48, 45, 48, 101]⟩ := by decide
    rw [hx]
  unfold patchbaylaw01_told.f
  rw [e1, Option.bind_some, if_pos rfl, if_pos rfl, mac_Kind_eq (by decide) (by decide), Option.bind_some, if_pos (by decide), e2, Option.bind_some, if_pos (by rw [ByteArray.toList_eq]), mac_Bytes_b6 (by decide) (by decide), Option.bind_some]
  rfl
end Go.Proofs.Ytdohdjfclnlpmaa.Pure
