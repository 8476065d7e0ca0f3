/- TurnCounts: the plain law. -/
import Derived.OpenShut
import Derived.IntWalk
import Derived.Test.YtfgdjljbdghdgaaBits
import Derived.Test.YtfgdjljbdghdgaaPTurnx5
namespace Go.Proofs.Ytfgdjljbdghdgaa.Pure
open Go.RowKit Go.Proofs.Ytfgdjljbdghdgaa.PTurn Go.Proofs.YtfgdjljbdghdgaaW.PrintWords Go.Proofs.YtfgdjljbdghdgaaW.PrintLast Go.Proofs.YtfgdjljbdghdgaaW.PrintMore
open Go.Proofs.Ytfgdjljbdghdgaa

theorem td (y c : Int) (hc : 0 < c) : IntKind.u64.wrap (Int.tdiv (IntKind.u64.wrap y) c) = IntKind.u64.wrap y / c := by
  rw [IntKind.wrap_u64 y, Int.tdiv_eq_ediv_of_nonneg (by omega), IntKind.wrap_u64]
  have h0 : 0 ≤ y % 18446744073709551616 := by omega
  have h1 : y % 18446744073709551616 < 18446744073709551616 := by omega
  have h2 : 0 ≤ y % 18446744073709551616 / c := Int.ediv_nonneg h0 (by omega)
  have h3 : y % 18446744073709551616 / c ≤ y % 18446744073709551616 := Int.ediv_le_self _ h0
  exact Int.emod_eq_of_lt h2 (by omega)

theorem mix_eq (n : Int) : turn_Mix.f n = patchbayref07_Mix.f n := by
  unfold turn_Mix.f patchbayref07_Mix.f
  simp only [td _ 1073741824 (by decide), td _ 134217728 (by decide), td _ 2147483648 (by decide)]

theorem ints_self (l : List Int) (hn : l.length ≤ 140737488355328) (d : Nat) : ∀ (k : Nat) (i : Int), 0 ≤ i → i ≤ l.length → (l.length : Int) - i = d → d < k → patchbaylaw03_Ints.l0 k l l i = some true := by
  induction d with
  | zero =>
    intro k i h0 h1 hd hk
    obtain ⟨k, rfl⟩ : ∃ m, k = m + 1 := ⟨k - 1, by omega⟩
    simp only [patchbaylaw03_Ints.l0]; rw [if_neg (by omega)]
  | succ d ih =>
    intro k i h0 h1 hd hk
    obtain ⟨k, rfl⟩ : ∃ m, k = m + 1 := ⟨k - 1, by omega⟩
    simp only [patchbaylaw03_Ints.l0]
    rw [if_pos (by omega), if_pos h0, if_pos (by omega), if_pos trivial, show wrap64 (i + 1) = i + 1 from by unfold wrap64; omega]
    exact ih k (i + 1) (by omega) (by omega) (by omega) (by omega)

theorem ints_eq {l : List Int} (hn : l.length ≤ 140737488355328) {k : Nat} (hk : l.length < k) : patchbaylaw03_Ints.f k l l = some true := by
  unfold patchbaylaw03_Ints.f
  rw [if_pos rfl]
  exact ints_self l hn l.length k 0 (by omega) (by omega) (by omega) hk

theorem w64m {h s : Int} (h0 : 0 ≤ h) (s0 : 1 ≤ s) (s1 : s ≤ 9223372036854775807) : wrap64 (Int.tmod h (IntKind.u64.wrap s)) = h % s := by
  rw [IntWalk.u64_in s (by omega), Int.tmod_eq_emod_of_nonneg h0]
  have a := Int.emod_nonneg h (show s ≠ 0 by omega)
  have c := Int.emod_lt_of_pos h (show 0 < s by omega)
  generalize h % s = x at *
  unfold wrap64; omega

theorem turnsL_full (n : Nat) (g : Nat → Int) : turnsL n g n = (List.range n).map g := by
  unfold turnsL
  apply List.map_congr_left
  intro i hi
  rw [if_pos (List.mem_range.1 hi)]

theorem range_snoc (n : Nat) (g : Nat → Int) : (List.range (n + 1)).map g = (List.range n).map g ++ [g n] := by
  rw [List.range_succ, List.map_append]; rfl

/-- How many turns there are. -/
def len (c : Int) : Nat := (mn c 100000).toNat

theorem len_eq (c : Int) : (c < 1 ∧ len c = 0) ∨ (1 ≤ c ∧ (len c : Int) ≤ c ∧ len c ≤ 100000 ∧ (len c < 100000 → (len c : Int) = c)) := by
  unfold len mn; omega

theorem round_eq {many count : Int} (hm : -9223372036854775808 ≤ many ∧ many ≤ 9223372036854775807) (hc : -9223372036854775808 ≤ count ∧ count ≤ 9223372036854775807) : turn_Round.f many count = some (if many < 1 then [] else (List.range (len count)).map fun (j : Nat) => (j : Int) % many) := by
  unfold turn_Round.f in64
  rw [if_pos (by simp [hm, hc])]
  have hl := len_eq count
  by_cases c : many < 1
  · rw [if_pos (.inl c), if_pos c]
  · rw [if_neg c]
    by_cases d : count < 1
    · rw [if_pos (.inr d), show len count = 0 from by omega]; rfl
    · rw [if_neg (by omega)]
      exact congrArg some (turnsL_full _ _)

theorem bursts_eq {many count long seed : Int} (hm : -9223372036854775808 ≤ many ∧ many ≤ 9223372036854775807) (hc : -9223372036854775808 ≤ count ∧ count ≤ 9223372036854775807) (hl : -9223372036854775808 ≤ long ∧ long ≤ 9223372036854775807) (hs : 0 ≤ seed ∧ seed ≤ 18446744073709551615) : turn_Bursts.f many count long seed = some (if many < 1 then [] else (List.range (len count)).map (burst many (mx long 1) seed)) := by
  unfold turn_Bursts.f in64
  rw [if_pos (by simp [hm, hc, hl, hs])]
  have hl := len_eq count
  by_cases c : many < 1
  · rw [if_pos (.inl c), if_pos c]
  · rw [if_neg c]
    by_cases d : count < 1
    · rw [if_pos (.inr d), show len count = 0 from by omega]; rfl
    · rw [if_neg (by omega)]
      exact congrArg some (turnsL_full _ _)

/-- Whose turn a draw is. -/
def wo (m x : Int) : Int := (patchbayref07_Who.f x m).getD 0

theorem who_eq {m : Int} (hm : m ≤ 9223372036854775807) (x : Int) : patchbayref07_Who.f x m = some (wo m x) := by
  unfold wo
  unfold patchbayref07_Who.f
  by_cases c : m < 1
  · rw [if_pos c]; rfl
  · rw [if_neg c, IntWalk.u64_in m (by omega), if_neg (by omega)]; rfl

theorem who_eq' {m : Int} (hm : m ≤ 9223372036854775807) (x : Int) : turn_Who.f x m = some (wo m x) := by
  rw [show turn_Who.f x m = patchbayref07_Who.f x m from rfl]; exact who_eq hm x

theorem wo_at {m x : Int} (hm : 1 ≤ m) (hm1 : m ≤ 9223372036854775807) : wo m x = IntKind.u64.wrap x % m := by
  have h := who_eq hm1 x
  unfold patchbayref07_Who.f at h
  rw [if_neg (by omega), IntWalk.u64_in m (by omega), if_neg (by omega)] at h
  have h0 : 0 ≤ IntKind.u64.wrap x := by rw [IntKind.wrap_u64]; omega
  have := w64m h0 hm hm1
  rw [IntWalk.u64_in m (by omega)] at this
  rw [this] at h
  exact (Option.some.inj h).symm

/-- How many of the draws are the turn of i. -/
def ct (m : Int) (l : List Int) (i : Int) : Nat := l.countP (fun x => decide (wo m x = i))

theorem ct_le (m : Int) (l : List Int) (i : Int) : ct m l i ≤ l.length := List.countP_le_length

theorem take_snoc (l : List Int) (j : Nat) (h : j < l.length) : l.take (j + 1) = l.take j ++ [rd l (j : Int)] := by
  rw [List.take_add_one, List.getElem?_eq_getElem h, Option.toList_some]
  congr 2
  simp [rd, List.getD_eq_getElem?_getD, h]

theorem ct_snoc (m : Int) (l : List Int) (x i : Int) : ct m (l ++ [x]) i = ct m l i + (if wo m x = i then 1 else 0) := by
  unfold ct
  rw [List.countP_append, List.countP_cons, List.countP_nil]
  simp

/-- How many counts there are. -/
def cn (m : Int) : Nat := (mx 0 (mn m 64)).toNat

theorem cn_eq (m : Int) : cn m ≤ 64 ∧ (m < 1 → cn m = 0) ∧ (1 ≤ m → (cn m : Int) ≤ m ∧ (cn m < 64 → (cn m : Int) = m)) := by
  unfold cn mx mn; omega

theorem cn_nat (m : Int) : mx 0 (mn m 64) = (cn m : Int) := by
  unfold cn mx mn; omega

theorem set_counts (m : Int) (l : List Int) (x : Int) (n : Nat) (h0 : 0 ≤ wo m x) (h1 : wo m x < n) (hb : l.length < 1000000) : ((List.range n).map fun (i : Nat) => (ct m l (i : Int) : Int)).set (wo m x).toNat (wrap64 (rd ((List.range n).map fun (i : Nat) => (ct m l (i : Int) : Int)) (wo m x) + 1)) = (List.range n).map fun (i : Nat) => (ct m (l ++ [x]) (i : Int) : Int) := by
  apply List.ext_getElem (by simp)
  intro i h2 h3
  simp only [List.getElem_set, List.getElem_map, List.getElem_range, ct_snoc]
  have hl := ct_le m l (i : Int)
  by_cases c : (wo m x).toNat = i
  · rw [if_pos c, if_pos (by omega)]
    have : rd ((List.range n).map fun (i : Nat) => (ct m l (i : Int) : Int)) (wo m x) = (ct m l (i : Int) : Int) := by
      simp [rd, c, List.getD_eq_getElem?_getD, show i < n from by omega]
    rw [this]; unfold wrap64; omega
  · rw [if_neg c, if_neg (by omega)]; rfl

theorem same_counts (m : Int) (l : List Int) (x : Int) (n : Nat) (h : ¬ (0 ≤ wo m x ∧ wo m x < n)) : ((List.range n).map fun (i : Nat) => (ct m l (i : Int) : Int)) = (List.range n).map fun (i : Nat) => (ct m (l ++ [x]) (i : Int) : Int) := by
  apply List.map_congr_left
  intro i hi
  have := List.mem_range.1 hi
  rw [ct_snoc, if_neg (by omega)]; rfl

theorem turn_Counts_loop {m : Int} (hm : m ≤ 9223372036854775807) (l : List Int) (hl : l.length < 1000000) (n : Nat) (d : Nat) : ∀ (k j : Nat), j ≤ l.length → l.length - j = d → d < k → turn_Counts.l0 k m ((List.range n).map fun (i : Nat) => (ct m (l.take j) (i : Int) : Int)) l (l.length : Int) (j : Int) = some ((List.range n).map fun (i : Nat) => (ct m l (i : Int) : Int)) := by
  induction d with
  | zero =>
    intro k j h1 hd hk
    obtain ⟨k, rfl⟩ : ∃ q, k = q + 1 := ⟨k - 1, by omega⟩
    obtain rfl : j = l.length := by omega
    simp only [turn_Counts.l0]
    rw [if_neg (by omega), List.take_length]
  | succ d ih =>
    intro k j h1 hd hk
    obtain ⟨k, rfl⟩ : ∃ q, k = q + 1 := ⟨k - 1, by omega⟩
    have hs := take_snoc l j (by omega)
    have hlt : (l.take j).length < 1000000 := by rw [List.length_take]; omega
    simp only [turn_Counts.l0]
    rw [if_pos (by omega), if_pos (by omega), if_pos (by omega), who_eq' hm]
    simp only [Option.bind_some]
    rw [show wrap64 ((j : Int) + 1) = ((j + 1 : Nat) : Int) from by unfold wrap64; omega]
    have ih' := ih k (j + 1) (by omega) (by omega) (by omega)
    rw [hs] at ih'
    by_cases c : wo m (rd l (j : Int)) ≥ 0
    · rw [if_pos c]
      by_cases e : wo m (rd l (j : Int)) < (n : Int)
      · rw [if_pos (by rw [List.length_map, List.length_range]; exact e), if_pos c, set_counts m _ _ n c e hlt]
        exact ih'
      · rw [if_neg (by rw [List.length_map, List.length_range]; exact e), same_counts m (l.take j) (rd l (j : Int)) n (by omega)]
        exact ih'
    · rw [if_neg c, same_counts m (l.take j) (rd l (j : Int)) n (by omega)]
      exact ih'

theorem turn_Counts_eq {m : Int} (hm : m ≤ 9223372036854775807) (l : List Int) (hl : l.length < 1000000) {k : Nat} (hk : l.length < k) : turn_Counts.f k m l = some ((List.range (cn m)).map fun (i : Nat) => (ct m l (i : Int) : Int)) := by
  have h := turn_Counts_loop hm l hl (cn m) l.length k 0 (by omega) (by omega) hk
  have hc := cn_eq m
  unfold turn_Counts.f
  rw [cn_nat, if_pos (by omega), if_pos (by omega), Int.toNat_natCast]
  rw [show (List.range (cn m)).map (fun (i : Nat) => (ct m (l.take 0) (i : Int) : Int)) = List.replicate (cn m) 0 from by
    apply List.ext_getElem (by simp)
    intro i h2 h3
    simp [ct]] at h
  exact h

theorem ref_Counts_in {m : Int} (hm : m ≤ 9223372036854775807) (l : List Int) (hl : l.length < 1000000) (acc : List Int) (ha : acc.length < 1000000) (x : Int) (hx : 0 ≤ x ∧ x < 1000) (d : Nat) : ∀ (k j : Nat), j ≤ l.length → l.length - j = d → patchbayref07_Counts.l1 (k + d + 1) m l acc x (ct m (l.take j) x : Int) (j : Int) = patchbayref07_Counts.l0 k m l (acc ++ [(ct m l x : Int)]) (x + 1) := by
  induction d with
  | zero =>
    intro k j h1 hd
    obtain rfl : j = l.length := by omega
    simp only [patchbayref07_Counts.l1]
    rw [if_neg (by omega), if_pos (by omega), List.take_length, show wrap64 (x + 1) = x + 1 from by unfold wrap64; omega]
  | succ d ih =>
    intro k j h1 hd
    have hs := take_snoc l j (by omega)
    have hlt : (l.take j).length < 1000000 := by rw [List.length_take]; omega
    have hcl := ct_le m (l.take j) x
    simp only [patchbayref07_Counts.l1]
    rw [if_pos (by omega), if_pos (by omega), who_eq hm]
    simp only [Option.bind_some]
    rw [show wrap64 ((j : Int) + 1) = ((j + 1 : Nat) : Int) from by unfold wrap64; omega]
    have ih' := ih k (j + 1) (by omega) (by omega)
    rw [hs, ct_snoc] at ih'
    by_cases c : wo m (rd l (j : Int)) = x
    · rw [if_pos c, show wrap64 ((ct m (l.take j) x : Int) + 1) = ((ct m (l.take j) x + 1 : Nat) : Int) from by unfold wrap64; omega]
      rw [if_pos c] at ih'
      exact ih'
    · rw [if_neg c]
      rw [if_neg c] at ih'
      exact ih'

theorem ref_Counts_loop {m : Int} (hm : m ≤ 9223372036854775807) (l : List Int) (hl : l.length < 1000000) (d : Nat) : ∀ (k i : Nat), i ≤ cn m → cn m - i = d → d * (l.length + 3) + 2 ≤ k → patchbayref07_Counts.l0 k m l ((List.range i).map fun (i : Nat) => (ct m l (i : Int) : Int)) (i : Int) = some ((List.range (cn m)).map fun (i : Nat) => (ct m l (i : Int) : Int)) := by
  have hc := cn_eq m
  induction d with
  | zero =>
    intro k i h1 hd hk
    obtain ⟨k, rfl⟩ : ∃ q, k = q + 2 := ⟨k - 2, by omega⟩
    obtain rfl : i = cn m := by omega
    simp only [patchbayref07_Counts.l0, patchbayref07_Counts.j1]
    by_cases c : ((cn m : Nat) : Int) < m
    · rw [if_pos c, if_neg (by simp; omega)]
    · rw [if_neg c, if_neg (by decide)]
  | succ d ih =>
    intro k i h1 hd hk
    have hk' : d * (l.length + 3) + (l.length + 3) + 2 ≤ k := by rw [Nat.succ_mul] at hk; omega
    obtain ⟨k, rfl⟩ : ∃ q, k = q + l.length + 1 + 2 := ⟨k - (l.length + 3), by omega⟩
    simp only [patchbayref07_Counts.l0, patchbayref07_Counts.j1]
    rw [if_pos (by omega), if_pos (by simp; omega)]
    have h := ref_Counts_in hm l hl ((List.range i).map fun (i : Nat) => (ct m l (i : Int) : Int)) (by rw [List.length_map, List.length_range]; omega) (i : Int) (by omega) l.length k 0 (by omega) (by omega)
    rw [show (ct m (l.take 0) (i : Int) : Int) = 0 from by simp [ct]] at h
    refine Eq.trans h ?_
    rw [← range_snoc i (fun (i : Nat) => (ct m l (i : Int) : Int))]
    exact ih k (i + 1) (by omega) (by omega) (by omega)

theorem ref_Counts_eq {m : Int} (hm : m ≤ 9223372036854775807) (l : List Int) (hl : l.length < 1000000) {k : Nat} (hk : 64 * (l.length + 3) + 2 ≤ k) : patchbayref07_Counts.f k m l = some ((List.range (cn m)).map fun (i : Nat) => (ct m l (i : Int) : Int)) := by
  have hc := cn_eq m
  have : cn m * (l.length + 3) ≤ 64 * (l.length + 3) := Nat.mul_le_mul_right _ hc.1
  exact ref_Counts_loop hm l hl (cn m) k 0 (by omega) (by omega) (by omega)

theorem told4 : patchbaylaw07_told.f 40000 = some true := by decide +kernel

theorem TurnCounts : patchbaylaw07_TurnCounts.Pure := by
  intro m l hm _ _ _
  have bm := bounds_i64 hm
  refine ⟨40000, ?_⟩
  unfold patchbaylaw07_TurnCounts.f
  have hn : (l.take (mn (l.length : Int) 500).toNat).length ≤ 500 := by rw [List.length_take]; unfold mn; omega
  have hq : 0 ≤ mn (l.length : Int) 500 ∧ mn (l.length : Int) 500 ≤ (l.length : Int) := by unfold mn; omega
  simp only [Option.bind_some, List.nil_append, List.length_nil]
  rw [if_pos hq.1, if_pos hq.2]
  generalize l.take (mn (l.length : Int) 500).toNat = y at hn
  rw [if_pos (by omega), turn_Counts_eq bm.2 y (by omega) (by omega), told4, ref_Counts_eq bm.2 y (by omega) (by omega)]
  simp only [Option.bind_some, if_true]
  have hc := cn_eq m
  rw [ints_eq (by rw [List.length_map, List.length_range]; omega) (by rw [List.length_map, List.length_range]; omega), ints_eq (by omega) (by omega)]
  rfl

end Go.Proofs.Ytfgdjljbdghdgaa.Pure
