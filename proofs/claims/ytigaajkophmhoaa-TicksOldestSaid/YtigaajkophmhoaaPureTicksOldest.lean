/- The place of the oldest of up to 100 ticks is told, of every list; no condition. -/
import Derived.OpenShut
import Derived.IntWalk
import Derived.Test.YtigaajkophmhoaaHandOldest
namespace Go.Proofs.Ytigaajkophmhoaa.Pure
open Go.RowKit Go.Proofs.Ytigaajkophmhoaa.PTicksOldest Go.Proofs.YtigaajkophmhoaaW.PrintWords Go.Proofs.YtigaajkophmhoaaW.PrintLast

theorem told1 : patchbaylaw04_told.f 1 = some true := by decide

theorem refAge {a b : Int} (h : 0 ≤ a ∧ a ≤ 4294967295) (k : 0 ≤ b ∧ b ≤ 4294967295) : patchbayref04_Age.f a b = ticks_Age.f a b := by
  unfold patchbayref04_Age.f ticks_Age.f
  rw [IntWalk.u64_in a (by omega), IntWalk.u64_in b (by omega), IntWalk.u64_in (a + 4294967296) (by omega), IntWalk.u64_in (a + 4294967296 - b) (by omega), Int.tmod_eq_emod_of_nonneg (by omega)]
  rw [show (a + 4294967296 - b) % 4294967296 = (a - b) % 4294967296 from by omega, Int.emod_emod_of_dvd _ (by decide)]

def age (a b : Int) : Int := if ((a - b) % 4294967296) ≥ 2147483648 then 0 else (a - b) % 4294967296

theorem age_eq (a b : Int) : ticks_Age.f a b = some (age a b) := by
  unfold ticks_Age.f age; split <;> rfl

theorem wrap_in {i : Int} {n : Nat} (h0 : 0 ≤ i) (h : i < (n : Int)) (hn : n ≤ 100) : wrap64 (i + 1) = i + 1 := by
  unfold wrap64
  omega

def Inv (now : Int) (l : List Int) (i best : Int) : Prop :=
  (best = -1 ∧ i = 0) ∨ (0 ≤ best ∧ best < i ∧ ∀ j : Int, 0 ≤ j → j < i → age now (rd l j) ≤ age now (rd l best) ∧ (j < best → age now (rd l j) < age now (rd l best)))

theorem Inv.first {now : Int} {l : List Int} {i best : Int} (h : Inv now l i best) (hb : best < 0) : Inv now l (i + 1) i := by
  rcases h with ⟨_, rfl⟩ | ⟨h, _⟩
  · right
    refine ⟨by omega, by omega, fun j h0 h1 => ?_⟩
    obtain rfl : j = 0 := by omega
    exact ⟨Int.le_refl _, fun h => by omega⟩
  · omega

theorem Inv.more {now : Int} {l : List Int} {i best : Int} (h : Inv now l i best) (hb : 0 ≤ best) (hm : age now (rd l i) > age now (rd l best)) : Inv now l (i + 1) i := by
  rcases h with ⟨_, rfl⟩ | ⟨h, h', H⟩
  · omega
  · right
    refine ⟨by omega, by omega, fun j h0 h1 => ?_⟩
    by_cases e : j = i
    · subst e; exact ⟨Int.le_refl _, fun h => by omega⟩
    · have := (H j h0 (by omega)).1
      exact ⟨by omega, fun _ => by omega⟩

theorem Inv.keep {now : Int} {l : List Int} {i best : Int} (h : Inv now l i best) (hb : 0 ≤ best) (hm : ¬ age now (rd l i) > age now (rd l best)) : Inv now l (i + 1) best := by
  rcases h with ⟨_, rfl⟩ | ⟨h, h', H⟩
  · omega
  · right
    refine ⟨by omega, by omega, fun j h0 h1 => ?_⟩
    by_cases e : j = i
    · subst e; exact ⟨by omega, fun h => by omega⟩
    · exact H j h0 (by omega)

theorem loops (now : Int) (l : List Int) (hnow : 0 ≤ now ∧ now ≤ 4294967295) (hl : ∀ j : Int, 0 ≤ j → j < l.length → 0 ≤ rd l j ∧ rd l j ≤ 4294967295) (hn : l.length ≤ 100) (d : Nat) : ∀ (k : Nat) (i best g : Int), 0 ≤ i → i ≤ l.length → (l.length : Int) - i = d → d < k → Inv now l i best → (0 ≤ best → g = age now (rd l best)) →
    ∃ r, ticks_Oldest.l0 k now best g l (l.length : Int) i = some r ∧ patchbayref04_Oldest.l0 k now l best i = some r ∧ Inv now l l.length r := by
  induction d with
  | zero =>
    intro k i best g h0 h1 hd hk hI hg
    obtain ⟨k, rfl⟩ : ∃ m, k = m + 1 := ⟨k - 1, by omega⟩
    obtain rfl : i = l.length := by omega
    refine ⟨best, ?_, ?_, hI⟩
    · simp only [ticks_Oldest.l0]; rw [if_neg (by omega)]
    · simp only [patchbayref04_Oldest.l0]; rw [if_neg (by omega)]
  | succ d ih =>
    intro k i best g h0 h1 hd hk hI hg
    obtain ⟨k, rfl⟩ : ∃ m, k = m + 1 := ⟨k - 1, by omega⟩
    have hlt : i < (l.length : Int) := by omega
    simp only [ticks_Oldest.l0, patchbayref04_Oldest.l0]
    rw [if_pos hlt, if_pos h0, if_pos hlt, if_pos hlt, wrap_in h0 hlt hn, age_eq, Option.bind_some]
    by_cases hb : best < 0
    · rw [if_pos hb, if_pos hb]
      exact ih k (i + 1) i _ (by omega) (by omega) (by omega) (by omega) (hI.first hb) (fun _ => rfl)
    · have hbi : best < l.length := by
        rcases hI with ⟨h, _⟩ | ⟨_, h, _⟩ <;> omega
      rw [if_neg hb, if_neg hb, if_pos h0, refAge hnow (hl i h0 hlt), age_eq, Option.bind_some, if_pos (show (0 : Int) ≤ best by omega), if_pos hbi, refAge hnow (hl best (by omega) hbi), age_eq, Option.bind_some, ← hg (by omega)]
      have hge := hg (by omega)
      by_cases hm : age now (rd l i) > g
      · rw [if_pos hm, if_pos hm]
        exact ih k (i + 1) i _ (by omega) (by omega) (by omega) (by omega) (hI.more (by omega) (by rw [← hge]; exact hm)) (fun _ => rfl)
      · rw [if_neg hm, if_neg hm]
        exact ih k (i + 1) best _ (by omega) (by omega) (by omega) (by omega) (hI.keep (by omega) (by rw [← hge]; exact hm)) (fun _ => hge)

theorem Prem (now : Int) (l : List Int) (hnow : 0 ≤ now ∧ now ≤ 4294967295) (hl : ∀ j : Int, 0 ≤ j → j < l.length → 0 ≤ rd l j ∧ rd l j ≤ 4294967295) (hn : l.length ≤ 100) :
    ∃ k r, ticks_Oldest.f k now l = some r ∧ patchbaylaw04_told.f k = some true ∧ patchbayref04_Oldest.f k now l = some r ∧
    (∀ i : Nat, i < l.length → 0 ≤ r ∧ r < (l.length : Int) ∧ ∃ x y, patchbayref04_Age.f now (rd l (i : Int)) = some x ∧ patchbayref04_Age.f now (rd l r) = some y ∧ ¬ x > y ∧ ((i : Int) < r → x ≠ y)) ∧ (l.length = 0 → r = -1) := by
  obtain ⟨r, e1, e2, hI⟩ := loops now l hnow hl hn l.length 102 0 (-1) 0 (by omega) (by omega) (by omega) (by omega) (.inl ⟨rfl, rfl⟩) (fun h => by omega)
  have t : patchbaylaw04_told.f 102 = some true := by decide
  refine ⟨102, r, by unfold ticks_Oldest.f; exact e1, t, by unfold patchbayref04_Oldest.f; exact e2, fun i hi => ?_, fun h0 => ?_⟩
  · rcases hI with ⟨_, h⟩ | ⟨h0, h1, h2⟩
    · omega
    · have hh := h2 i (by omega) (by omega)
      refine ⟨h0, h1, age now (rd l i), age now (rd l r), ?_, ?_, by omega, fun hlt => by have := hh.2 hlt; omega⟩
      · rw [refAge hnow (hl i (by omega) (by omega)), age_eq]
      · rw [refAge hnow (hl r h0 h1), age_eq]
  · rcases hI with ⟨h, _⟩ | ⟨h0', h1, _⟩
    · exact h
    · omega

end Go.Proofs.Ytigaajkophmhoaa.Pure
