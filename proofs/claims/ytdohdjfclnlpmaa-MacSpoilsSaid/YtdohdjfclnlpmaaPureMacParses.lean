/- MacParses: the plain law. -/
import Derived.Test.YtdohdjfclnlpmaaMacPure2
namespace Go.Proofs.Ytdohdjfclnlpmaa.Pure
open Go.RowKit Go.Proofs.Ytdohdjfclnlpmaa.PMac Go.Proofs.YtdohdjfclnlpmaaW.PrintWords Go.Proofs.YtdohdjfclnlpmaaW.PrintLast Go.Proofs.Ytdohdjfclnlpmaa.MacW Go.Proofs.Ytdohdjfclnlpmaa
set_option linter.unusedVariables false
set_option linter.unusedSimpArgs false

theorem bt_get {s : ByteArray} {i : Nat} (h : i < s.size) : bt s (i : Int) = ((s.data.toList.getD i 0).toNat : Int) := by
  unfold bt
  rw [dif_pos (by simpa using h)]
  simp only [Int.toNat_natCast]
  rw [List.getD_eq_getElem?_getD, List.getElem?_eq_getElem (by rw [Array.length_toList]; exact h)]
  rfl

theorem digit_all : (List.range 256).all (fun c => (Lib.indexByte hexL (UInt8.ofNat c) == (if 48 ≤ c ∧ c ≤ 57 then (c : Int) - 48 else if 97 ≤ c ∧ c ≤ 102 then (c : Int) - 87 else -1))) = true := by kernel_rfl

theorem digit_eq (c : UInt8) (k : Nat) : patchbayref01_digit.f (k + 1) (c.toNat : Int) = some (Lib.indexByte hexL c) := by
  have h := List.all_eq_true.mp digit_all c.toNat (List.mem_range.mpr c.toNat_lt)
  rw [UInt8.ofNat_toNat] at h
  rw [beq_iff_eq.mp h]
  unfold patchbayref01_digit.f
  have hl : c.toNat < 256 := c.toNat_lt
  by_cases c1 : 48 ≤ c.toNat
  · rw [if_pos (by omega)]
    rw [patchbayref01_digit.j0]
    by_cases c2 : c.toNat ≤ 57
    · rw [if_pos (decide_eq_true (by omega)), if_pos ⟨c1, c2⟩]
      congr 1; omega
    · rw [if_neg (by simp; omega), if_neg (show ¬ (48 ≤ c.toNat ∧ c.toNat ≤ 57) from by omega)]
      by_cases c3 : 97 ≤ c.toNat
      · rw [if_pos (by omega)]
        by_cases c4 : c.toNat ≤ 102
        · rw [if_pos (by omega), if_pos ⟨c3, c4⟩]; congr 1; omega
        · rw [if_neg (by omega), if_neg (by omega)]
      · rw [if_neg (by omega), if_neg (by omega)]
  · rw [if_neg (by omega)]
    rw [patchbayref01_digit.j0]
    rw [if_neg (by simp), if_neg (by omega), if_neg (by omega), if_neg (by omega)]

theorem pow_le (i : Nat) (hi : i < 17) (h3 : i % 3 ≠ 2) : (16 : Int) ^ (i - i / 3) ≤ 17592186044416 := by
  have h : (16 : Nat) ^ (i - i / 3) ≤ 16 ^ 11 := Nat.pow_le_pow_right (by decide) (by omega)
  have h2 : ((16 ^ (i - i / 3) : Nat) : Int) ≤ ((16 ^ 11 : Nat) : Int) := by exact_mod_cast h
  simpa using h2

theorem ref_l0 {s : ByteArray} (hs : s.size = 17) : ∀ (d k i : Nat) (n : Int), i + d = 17 → d < k → 0 ≤ n → n < (16 : Int) ^ (i - i / 3) →
    patchbayref01_Parse.l0 k s n (i : Int) = some (match pr (s.data.toList.drop i) i n with | some v => (v, true) | none => (0, false))
  | 0, k, i, n, hi, hk, n0, n1 => by
    obtain ⟨j, rfl⟩ : ∃ j, k = j + 1 := ⟨k - 1, by omega⟩
    obtain rfl : i = 17 := by omega
    rw [List.drop_of_length_le (by rw [Array.length_toList]; exact Nat.le_of_eq hs)]
    rw [patchbayref01_Parse.l0]
    rw [if_neg (by omega)]
    rfl
  | d + 1, k, i, n, hi, hk, n0, n1 => by
    obtain ⟨j, rfl⟩ : ∃ j, k = j + 2 := ⟨k - 2, by omega⟩
    have hlen : i < s.data.toList.length := by rw [Array.length_toList]; show i < s.size; omega
    have hd : s.data.toList.drop i = s.data.toList.getD i 0 :: s.data.toList.drop (i + 1) := by
      rw [List.drop_eq_getElem_cons hlen, List.getD_eq_getElem?_getD, List.getElem?_eq_getElem hlen]; rfl
    have hw : wrap64 ((i : Int) + 1) = ((i + 1 : Nat) : Int) := by unfold wrap64; omega
    have ih := ref_l0 hs d (j + 1) (i + 1)
    rw [hd]
    rw [show patchbayref01_Parse.l0 (j + 2) s n (i : Int) = patchbayref01_Parse.l0 (j + 1 + 1) s n (i : Int) from rfl]
    rw [patchbayref01_Parse.l0]
    rw [if_pos (by omega), bt_get (by omega), hw, Int.tmod_eq_emod_of_nonneg (by omega)]
    generalize s.data.toList.getD i 0 = c
    by_cases h3 : i % 3 = 2
    · rw [if_pos (by omega), if_pos (by omega), if_pos (by omega)]
      unfold pr
      rw [if_pos h3]
      by_cases hc : c = 45
      · rw [if_pos (by rw [hc]; rfl), if_pos hc]
        exact ih n (by omega) (by omega) n0 (by rw [show (i + 1) - (i + 1) / 3 = i - i / 3 from by omega]; exact n1)
      · rw [if_neg (fun e => hc (UInt8.toNat_inj.mp (by show c.toNat = 45; omega))), if_neg hc]
    · rw [if_neg (by omega), if_pos (by omega), if_pos (by omega), digit_eq, Option.bind_some]
      unfold pr
      rw [if_neg h3]
      by_cases hc : Lib.indexByte hexL c < 0
      · rw [if_pos hc, if_pos hc]
      · have hp := pow_le i (by omega) h3
        have hr := idx_range c hexL
        have h16 : (hexL.length : Int) = 16 := rfl
        rw [if_neg hc, if_neg hc, st_or n0 (by omega) (by omega) (by omega), IntWalk.u64_in (n * 16) (by omega), IntWalk.u64_in (Lib.indexByte hexL c) (by omega), IntWalk.u64_in _ (by omega)]
        refine ih _ (by omega) (by omega) (by omega) ?_
        rw [show (i + 1) - (i + 1) / 3 = (i - i / 3) + 1 from by omega, Int.pow_succ]
        omega

theorem MacParses : patchbaylaw01_MacParses.Pure := by
  intro s _
  refine ⟨30, ?_⟩
  unfold patchbaylaw01_MacParses.f mac_Parse.f
  rw [Option.bind_some]
  unfold patchbayref01_Parse.f
  by_cases hs : s.size = 17
  · have hr := ref_l0 hs 17 30 0 0 (by omega) (by omega) (by omega) (by decide)
    have hp : prs s = (match pr s.data.toList 0 0 with | some n => (n, 0) | none => (0, 4)) := by unfold prs; rw [if_pos hs]; rfl
    rw [if_pos (by omega), show patchbayref01_Parse.l0 30 s 0 0 = _ from hr, List.drop_zero, hp]
    match hq : pr s.data.toList 0 0 with
    | none => simp [told30]
    | some v =>
      rw [hq] at hp
      obtain ⟨_, _, v0, v1, ht⟩ := text_of_parse hp
      simp only [Option.bind_some, told30, if_true]
      rw [if_neg (by simp), mac_Text_eq v0 (by omega), Option.bind_some, ← ht, if_pos rfl]
  · have hp : prs s = (0, 4) := by unfold prs; rw [if_neg hs]
    rw [if_neg (by omega), hp]
    simp [told30]
end Go.Proofs.Ytdohdjfclnlpmaa.Pure
