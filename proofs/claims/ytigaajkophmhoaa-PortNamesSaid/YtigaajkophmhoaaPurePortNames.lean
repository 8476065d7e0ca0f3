/- Of every state and every text the name, and whose it is, are told; no condition. -/
import Derived.OpenShut
import Derived.IntWalk
import Derived.Test.YtigaajkophmhoaaBits
import Derived.Test.YtigaajkophmhoaaPPortNamesx1
namespace Go.Proofs.Ytigaajkophmhoaa.Pure
open Go.RowKit Go.Proofs.Ytigaajkophmhoaa.PPortNames Go.Proofs.YtigaajkophmhoaaW.PrintWords Go.Proofs.YtigaajkophmhoaaW.PrintLast
open Go.Proofs.Ytigaajkophmhoaa

theorem toList_inj {a b : ByteArray} : a.toList = b.toList ↔ a = b := by
  constructor
  · intro h
    rw [ByteArray.toList_eq, ByteArray.toList_eq] at h
    cases a; cases b
    simp only [ByteArray.mk.injEq]
    exact Array.toList_inj.1 h
  · intro h; rw [h]

theorem told1 : patchbaylaw16_told.f = some true := by decide +kernel

theorem PortNames : patchbaylaw16_PortNames.Pure := by
  intro a0 s h0 hs
  have b0 := bounds_i64 h0
  refine ⟨20, ?_⟩
  unfold patchbaylaw16_PortNames.f patchbayref16_Names.f
  have hr : patchbayref16_Right.f a0 = some (decide (0 ≤ a0 ∧ a0 ≤ 4)) := by
    unfold patchbayref16_Right.f
    by_cases c : a0 ≥ 0
    · simp [c]
    · have : ¬ 0 ≤ a0 := by omega
      simp [this]
  have hn : ∀ l : List ByteArray, l = [(⟨#[100, 105, 115, 97, 98, 108, 101, 100]⟩ : ByteArray), (⟨#[98, 108, 111, 99, 107, 105, 110, 103]⟩ : ByteArray), (⟨#[108, 105, 115, 116, 101, 110, 105, 110, 103]⟩ : ByteArray), (⟨#[108, 101, 97, 114, 110, 105, 110, 103]⟩ : ByteArray), (⟨#[102, 111, 114, 119, 97, 114, 100, 105, 110, 103]⟩ : ByteArray)] → port_Name.f a0 = some (if 0 ≤ a0 ∧ a0 ≤ 4 then rdOf ByteArray.empty l a0 else ⟨#[]⟩) := by
    intro l hl
    unfold port_Name.f port_Right.f port_names.f
    rw [← hl]
    by_cases c : a0 ≥ 0
    · by_cases c2 : a0 ≤ 4
      · have : a0 < (l.length : Int) := by rw [hl]; simp; omega
        simp [c, c2, this]
      · simp [c, c2]
    · have : ¬ 0 ≤ a0 := by omega
      simp [this]
  generalize hl : ([(⟨#[100, 105, 115, 97, 98, 108, 101, 100]⟩ : ByteArray), (⟨#[98, 108, 111, 99, 107, 105, 110, 103]⟩ : ByteArray), (⟨#[108, 105, 115, 116, 101, 110, 105, 110, 103]⟩ : ByteArray), (⟨#[108, 101, 97, 114, 110, 105, 110, 103]⟩ : ByteArray), (⟨#[102, 111, 114, 119, 97, 114, 100, 105, 110, 103]⟩ : ByteArray)] : List ByteArray) = l at hn ⊢
  have hname := hn l rfl
  clear hn
  have hlen : l.length = 5 := by rw [← hl]; rfl
  have r0 : rdOf ByteArray.empty l 0 = ⟨#[100, 105, 115, 97, 98, 108, 101, 100]⟩ := by rw [← hl]; rfl
  have r1 : rdOf ByteArray.empty l 1 = ⟨#[98, 108, 111, 99, 107, 105, 110, 103]⟩ := by rw [← hl]; rfl
  have r2 : rdOf ByteArray.empty l 2 = ⟨#[108, 105, 115, 116, 101, 110, 105, 110, 103]⟩ := by rw [← hl]; rfl
  have r3 : rdOf ByteArray.empty l 3 = ⟨#[108, 101, 97, 114, 110, 105, 110, 103]⟩ := by rw [← hl]; rfl
  have r4 : rdOf ByteArray.empty l 4 = ⟨#[102, 111, 114, 119, 97, 114, 100, 105, 110, 103]⟩ := by rw [← hl]; rfl
  have hend : ∀ (want p e : Int) (is : Bool) (k : Nat), port_Parse.f k s = some (p, e) → p = want → (is = true → e = 0) → (is = false → e = 11) → patchbaylaw16_PortNames.l0 (k + 1) a0 s l want is 5 = some true := by
    intro want p e is k hp hw h1 h2
    simp only [patchbaylaw16_PortNames.l0, hlen, hr, hp, Option.bind_some, told1, hname]
    rw [if_neg (by decide)]
    have hw' : (if p = want then (if is = true then (if e = 0 then (some true : Option Bool) else some false) else some (e == 11)) else some false) = some true := by
      rw [if_pos hw]
      cases is
      · rw [h2 rfl]; rfl
      · rw [h1 rfl]; rfl
    by_cases c : 0 ≤ a0 ∧ a0 ≤ 4
    · have d : decide (0 ≤ a0 ∧ a0 ≤ 4) = true := decide_eq_true c
      rw [d, if_pos rfl, if_pos c.1, if_pos (by omega), if_pos c]
      simp only [if_true]
      exact hw'
    · have d : decide (0 ≤ a0 ∧ a0 ≤ 4) = false := decide_eq_false c
      rw [d, if_neg (by decide), if_neg c]
      simp only [if_true]
      rw [if_pos (by rw [ByteArray.toList_eq])]
      exact hw'
  have hparse : ∀ k, port_Parse.f (k + 6) s = some (if rdOf ByteArray.empty l 0 = s then (0, 0) else if rdOf ByteArray.empty l 1 = s then (1, 0) else if rdOf ByteArray.empty l 2 = s then (2, 0) else if rdOf ByteArray.empty l 3 = s then (3, 0) else if rdOf ByteArray.empty l 4 = s then (4, 0) else (0, 11)) := by
    intro k
    unfold port_Parse.f port_names.f slices_Index_string_string.f
    rw [hl]
    simp only [slices_Index_string_string.l0, Option.bind_some, hlen, toList_inj, show wrap64 (0 + 1) = 1 from by unfold wrap64; omega, show wrap64 (1 + 1) = 2 from by unfold wrap64; omega, show wrap64 (2 + 1) = 3 from by unfold wrap64; omega, show wrap64 (3 + 1) = 4 from by unfold wrap64; omega, show wrap64 (4 + 1) = 5 from by unfold wrap64; omega]
    by_cases c0 : rdOf ByteArray.empty l 0 = s
    · simp [c0]
    · by_cases c1 : rdOf ByteArray.empty l 1 = s
      · simp [c0, c1, Ne.symm c0]
      · by_cases c2 : rdOf ByteArray.empty l 2 = s
        · simp [c0, c1, c2, Ne.symm c0, Ne.symm c1]
        · by_cases c3 : rdOf ByteArray.empty l 3 = s
          · simp [c0, c1, c2, c3, Ne.symm c0, Ne.symm c1, Ne.symm c2]
          · by_cases c4 : rdOf ByteArray.empty l 4 = s
            · simp [c0, c1, c2, c3, c4, Ne.symm c0, Ne.symm c1, Ne.symm c2, Ne.symm c3]
            · simp [c0, c1, c2, c3, c4, Ne.symm c0, Ne.symm c1, Ne.symm c2, Ne.symm c3, Ne.symm c4]
  have step : ∀ (k : Nat) (i want : Int) (is : Bool), 0 ≤ i → i < 5 → patchbaylaw16_PortNames.l0 (k + 1) a0 s l want is i = (if rdOf ByteArray.empty l i = s then patchbaylaw16_PortNames.l0 k a0 s l i true (i + 1) else patchbaylaw16_PortNames.l0 k a0 s l want is (i + 1)) := by
    intro k i want is i0 i1
    simp only [patchbaylaw16_PortNames.l0]
    rw [if_pos (by omega), if_pos i0, show wrap64 (i + 1) = i + 1 from by unfold wrap64; omega]
    simp only [toList_inj]
  have P := hparse 8
  rw [Option.bind_some, step 19 0 _ _ (by decide) (by decide), step 18 _ _ _ (by decide) (by decide), step 18 _ _ _ (by decide) (by decide)]
  rw [step 17 _ _ _ (by decide) (by decide), step 17 _ _ _ (by decide) (by decide), step 17 _ _ _ (by decide) (by decide)]
  rw [step 16 _ _ _ (by decide) (by decide), step 16 _ _ _ (by decide) (by decide), step 16 _ _ _ (by decide) (by decide), step 16 _ _ _ (by decide) (by decide)]
  rw [step 15 _ _ _ (by decide) (by decide), step 15 _ _ _ (by decide) (by decide), step 15 _ _ _ (by decide) (by decide), step 15 _ _ _ (by decide) (by decide), step 15 _ _ _ (by decide) (by decide)]
  simp only [show (0 : Int) + 1 = 1 from rfl, show (1 : Int) + 1 = 2 from rfl, show (2 : Int) + 1 = 3 from rfl, show (3 : Int) + 1 = 4 from rfl, show (4 : Int) + 1 = 5 from rfl]
  rw [r0, r1, r2, r3, r4] at P ⊢
  by_cases c0 : (⟨#[100, 105, 115, 97, 98, 108, 101, 100]⟩ : ByteArray) = s
  · subst c0
    simp at P ⊢
    exact hend _ _ _ _ 14 P rfl (fun _ => rfl) (fun h => by cases h)
  · by_cases c1 : (⟨#[98, 108, 111, 99, 107, 105, 110, 103]⟩ : ByteArray) = s
    · subst c1
      simp at P ⊢
      exact hend _ _ _ _ 14 P rfl (fun _ => rfl) (fun h => by cases h)
    · by_cases c2 : (⟨#[108, 105, 115, 116, 101, 110, 105, 110, 103]⟩ : ByteArray) = s
      · subst c2
        simp at P ⊢
        exact hend _ _ _ _ 14 P rfl (fun _ => rfl) (fun h => by cases h)
      · by_cases c3 : (⟨#[108, 101, 97, 114, 110, 105, 110, 103]⟩ : ByteArray) = s
        · subst c3
          simp at P ⊢
          exact hend _ _ _ _ 14 P rfl (fun _ => rfl) (fun h => by cases h)
        · by_cases c4 : (⟨#[102, 111, 114, 119, 97, 114, 100, 105, 110, 103]⟩ : ByteArray) = s
          · subst c4
            simp at P ⊢
            exact hend _ _ _ _ 14 P rfl (fun _ => rfl) (fun h => by cases h)
          · simp only [if_neg c0, if_neg c1, if_neg c2, if_neg c3, if_neg c4] at P ⊢
            exact hend _ _ _ _ 14 P rfl (fun h => by cases h) (fun _ => rfl)

end Go.Proofs.Ytigaajkophmhoaa.Pure
