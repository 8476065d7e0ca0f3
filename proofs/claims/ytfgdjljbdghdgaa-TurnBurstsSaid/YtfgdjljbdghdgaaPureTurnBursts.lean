/- The turns of the law are as the reference tells; no condition. -/
import Derived.OpenShut
import Derived.IntWalk
import Derived.Test.YtfgdjljbdghdgaaBits
import Derived.Test.YtfgdjljbdghdgaaPTurnx3
namespace Go.Proofs.Ytfgdjljbdghdgaa.Pure
open Go.RowKit Go.Proofs.Ytfgdjljbdghdgaa.PTurn Go.Proofs.YtfgdjljbdghdgaaW.PrintWords Go.Proofs.YtfgdjljbdghdgaaW.PrintLast Go.Proofs.YtfgdjljbdghdgaaW.PrintMore
open Go.Proofs.Ytfgdjljbdghdgaa

theorem td (y c : Int) (hc : 0 < c) : IntKind.u64.wrap (Int.tdiv (IntKind.u64.wrap y) c) = IntKind.u64.wrap y / c := by
  rw [IntKind.wrap_u64 y, Int.tdiv_eq_ediv_of_nonneg (by omega), IntKind.wrap_u64]
  have h0 : 0 ≤ y % 18446744073709551616 := by omega
  have h1 : y % 18446744073709551616 < 18446744073709551616 := by omega
  have h2 : 0 ≤ y % 18446744073709551616 / c := Int.ediv_nonneg h0 (by omega)
  have h3 : y % 18446744073709551616 / c ≤ y % 18446744073709551616 := Int.ediv_le_self _ h0
  exact Int.emod_eq_of_lt h2 (by omega)

theorem mix_eq (n : Int) : turn_Mix.f n = patchbayref07_Mix.f n := by
  unfold turn_Mix.f patchbayref07_Mix.f
  simp only [td _ 1073741824 (by decide), td _ 134217728 (by decide), td _ 2147483648 (by decide)]

theorem ints_self (l : List Int) (hn : l.length ≤ 140737488355328) (d : Nat) : ∀ (k : Nat) (i : Int), 0 ≤ i → i ≤ l.length → (l.length : Int) - i = d → d < k → patchbaylaw03_Ints.l0 k l l i = some true := by
  induction d with
  | zero =>
    intro k i h0 h1 hd hk
    obtain ⟨k, rfl⟩ : ∃ m, k = m + 1 := ⟨k - 1, by omega⟩
    simp only [patchbaylaw03_Ints.l0]; rw [if_neg (by omega)]
  | succ d ih =>
    intro k i h0 h1 hd hk
    obtain ⟨k, rfl⟩ : ∃ m, k = m + 1 := ⟨k - 1, by omega⟩
    simp only [patchbaylaw03_Ints.l0]
    rw [if_pos (by omega), if_pos h0, if_pos (by omega), if_pos trivial, show wrap64 (i + 1) = i + 1 from by unfold wrap64; omega]
    exact ih k (i + 1) (by omega) (by omega) (by omega) (by omega)

theorem ints_eq {l : List Int} (hn : l.length ≤ 140737488355328) {k : Nat} (hk : l.length < k) : patchbaylaw03_Ints.f k l l = some true := by
  unfold patchbaylaw03_Ints.f
  rw [if_pos rfl]
  exact ints_self l hn l.length k 0 (by omega) (by omega) (by omega) hk

theorem w64m {h s : Int} (h0 : 0 ≤ h) (s0 : 1 ≤ s) (s1 : s ≤ 9223372036854775807) : wrap64 (Int.tmod h (IntKind.u64.wrap s)) = h % s := by
  rw [IntWalk.u64_in s (by omega), Int.tmod_eq_emod_of_nonneg h0]
  have a := Int.emod_nonneg h (show s ≠ 0 by omega)
  have c := Int.emod_lt_of_pos h (show 0 < s by omega)
  generalize h % s = x at *
  unfold wrap64; omega

theorem turnsL_full (n : Nat) (g : Nat → Int) : turnsL n g n = (List.range n).map g := by
  unfold turnsL
  apply List.map_congr_left
  intro i hi
  rw [if_pos (List.mem_range.1 hi)]

theorem range_snoc (n : Nat) (g : Nat → Int) : (List.range (n + 1)).map g = (List.range n).map g ++ [g n] := by
  rw [List.range_succ, List.map_append]; rfl

/-- How many turns there are. -/
def len (c : Int) : Nat := (mn c 100000).toNat

theorem len_eq (c : Int) : (c < 1 ∧ len c = 0) ∨ (1 ≤ c ∧ (len c : Int) ≤ c ∧ len c ≤ 100000 ∧ (len c < 100000 → (len c : Int) = c)) := by
  unfold len mn; omega

theorem ref_Round_loop (many count : Int) (hm : 1 ≤ many) (d : Nat) : ∀ (k i : Nat), i ≤ len count → len count - i = d → d < k → patchbayref07_Round.l0 k many count ((List.range i).map fun (j : Nat) => (j : Int) % many) (i : Int) = some ((List.range (len count)).map fun (j : Nat) => (j : Int) % many) := by
  have hl := len_eq count
  induction d with
  | zero =>
    intro k i h1 hd hk
    obtain ⟨k, rfl⟩ : ∃ m, k = m + 1 := ⟨k - 1, by omega⟩
    obtain rfl : i = len count := by omega
    simp only [patchbayref07_Round.l0]
    by_cases c : ((len count : Nat) : Int) < count
    · rw [if_pos c, if_neg (by omega)]
    · rw [if_neg c]
  | succ d ih =>
    intro k i h1 hd hk
    obtain ⟨k, rfl⟩ : ∃ m, k = m + 1 := ⟨k - 1, by omega⟩
    simp only [patchbayref07_Round.l0]
    rw [if_pos (by omega), if_pos (by omega), if_neg (by omega), if_pos (by rw [List.length_map, List.length_range]; omega), show wrap64 ((i : Int) + 1) = ((i + 1 : Nat) : Int) from by unfold wrap64; omega, Int.tmod_eq_emod_of_nonneg (by omega), ← range_snoc i (fun (j : Nat) => (j : Int) % many)]
    exact ih k (i + 1) (by omega) (by omega) (by omega)

theorem round_eq {many count : Int} (hm : -9223372036854775808 ≤ many ∧ many ≤ 9223372036854775807) (hc : -9223372036854775808 ≤ count ∧ count ≤ 9223372036854775807) : turn_Round.f many count = some (if many < 1 then [] else (List.range (len count)).map fun (j : Nat) => (j : Int) % many) := by
  unfold turn_Round.f in64
  rw [if_pos (by simp [hm, hc])]
  have hl := len_eq count
  by_cases c : many < 1
  · rw [if_pos (.inl c), if_pos c]
  · rw [if_neg c]
    by_cases d : count < 1
    · rw [if_pos (.inr d), show len count = 0 from by omega]; rfl
    · rw [if_neg (by omega)]
      exact congrArg some (turnsL_full _ _)

theorem ref_round_eq {many count : Int} {k : Nat} (hk : len count < k) : patchbayref07_Round.f k many count = some (if many < 1 then [] else (List.range (len count)).map fun (j : Nat) => (j : Int) % many) := by
  unfold patchbayref07_Round.f
  by_cases c : many < 1
  · rw [if_pos c, if_pos c]
  · rw [if_neg c, if_neg c]
    exact ref_Round_loop many count (by omega) (len count) k 0 (by omega) (by omega) hk

theorem ref_Bursts_loop (many count long seed : Int) (hm : 1 ≤ many) (hm1 : many ≤ 9223372036854775807) (hl1 : 1 ≤ long) (d : Nat) : ∀ (k i : Nat), i ≤ len count → len count - i = d → d < k → patchbayref07_Bursts.l0 k many count long seed ((List.range i).map (burst many long seed)) (i : Int) = some ((List.range (len count)).map (burst many long seed)) := by
  have hl := len_eq count
  induction d with
  | zero =>
    intro k i h1 hd hk
    obtain ⟨k, rfl⟩ : ∃ m, k = m + 1 := ⟨k - 1, by omega⟩
    obtain rfl : i = len count := by omega
    simp only [patchbayref07_Bursts.l0]
    by_cases c : ((len count : Nat) : Int) < count
    · rw [if_pos c, if_neg (by omega)]
    · rw [if_neg c]
  | succ d ih =>
    intro k i h1 hd hk
    obtain ⟨k, rfl⟩ : ∃ m, k = m + 1 := ⟨k - 1, by omega⟩
    obtain ⟨h, hh, h0, h2⟩ := mix_some (IntKind.u64.wrap (seed + (i : Int) / long))
    have hb : burst many long seed i = h % many := by unfold burst; rw [hh]; rfl
    have hq0 : 0 ≤ (i : Int) / long := Int.ediv_nonneg (by omega) (by omega)
    have hq1 : (i : Int) / long ≤ i := Int.ediv_le_self _ (by omega)
    simp only [patchbayref07_Bursts.l0]
    rw [if_pos (by omega), if_pos (by omega), if_neg (by omega), Int.tdiv_eq_ediv_of_nonneg (by omega), show wrap64 ((i : Int) / long) = (i : Int) / long from by (generalize (i : Int) / long = q at *; unfold wrap64; omega), IntWalk.u64_in ((i : Int) / long) (by omega), ← mix_eq, hh]
    simp only [Option.bind_some]
    rw [w64m h0 hm hm1, IntWalk.u64_in many (by omega), if_neg (by omega), if_pos (by rw [List.length_map, List.length_range]; omega), show wrap64 ((i : Int) + 1) = ((i + 1 : Nat) : Int) from by unfold wrap64; omega, ← hb, ← range_snoc i (burst many long seed)]
    exact ih k (i + 1) (by omega) (by omega) (by omega)

theorem bursts_eq {many count long seed : Int} (hm : -9223372036854775808 ≤ many ∧ many ≤ 9223372036854775807) (hc : -9223372036854775808 ≤ count ∧ count ≤ 9223372036854775807) (hl : -9223372036854775808 ≤ long ∧ long ≤ 9223372036854775807) (hs : 0 ≤ seed ∧ seed ≤ 18446744073709551615) : turn_Bursts.f many count long seed = some (if many < 1 then [] else (List.range (len count)).map (burst many (mx long 1) seed)) := by
  unfold turn_Bursts.f in64
  rw [if_pos (by simp [hm, hc, hl, hs])]
  have hl := len_eq count
  by_cases c : many < 1
  · rw [if_pos (.inl c), if_pos c]
  · rw [if_neg c]
    by_cases d : count < 1
    · rw [if_pos (.inr d), show len count = 0 from by omega]; rfl
    · rw [if_neg (by omega)]
      exact congrArg some (turnsL_full _ _)

theorem ref_bursts_eq {many count long seed : Int} (hm : many ≤ 9223372036854775807) {k : Nat} (hk : len count + 1 < k) : patchbayref07_Bursts.f k many count long seed = some (if many < 1 then [] else (List.range (len count)).map (burst many (mx long 1) seed)) := by
  obtain ⟨k, rfl⟩ : ∃ m, k = m + 1 := ⟨k - 1, by omega⟩
  unfold patchbayref07_Bursts.f
  simp only [patchbayref07_Bursts.j0]
  by_cases c : many < 1
  · rw [if_pos c, if_pos c]
  · rw [if_neg c, if_neg c]
    by_cases d : long < 1
    · rw [if_pos d, show mx long 1 = 1 from by unfold mx; omega]
      exact ref_Bursts_loop many count 1 seed (by omega) hm (by omega) (len count) k 0 (by omega) (by omega) (by omega)
    · rw [if_neg d, show mx long 1 = long from by unfold mx; omega]
      exact ref_Bursts_loop many count long seed (by omega) hm (by omega) (len count) k 0 (by omega) (by omega) (by omega)

theorem told4 : patchbaylaw07_told.f 4000 = some true := by decide +kernel

theorem TurnBursts (many count long seed : Int) (hm : (Lit.int .i64 many).wf = true) (hc : (Lit.int .i64 count).wf = true) (hl : (Lit.int .i64 long).wf = true) (hs : (Lit.int .u64 seed).wf = true) : ∃ k, patchbaylaw07_TurnBursts.f k many count long seed = some true := by
  have bm := bounds_i64 hm
  have bc := bounds_i64 hc
  have bl := bounds_i64 hl
  have bs := bounds_u64 hs
  refine ⟨4000, ?_⟩
  unfold patchbaylaw07_TurnBursts.f
  have hl := len_eq count
  by_cases c : count > 3000
  · rw [if_pos c, told4]; rfl
  · rw [if_neg c, told4, bursts_eq bm bc bl bs, ref_bursts_eq bm.2 (by omega)]
    simp only [Option.bind_some, if_true]
    have L2 : (if many < 1 then [] else (List.range (len count)).map (burst many (mx long 1) seed)).length ≤ 3000 := by
      split
      · simp
      · rw [List.length_map, List.length_range]; omega
    rw [ints_eq (by omega) (by omega)]
    rfl

end Go.Proofs.Ytfgdjljbdghdgaa.Pure
