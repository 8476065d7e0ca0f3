/- Plain Lean functions of what a law comes to, and their contracts: the machine's call does what they say; no condition. Written by wip/myprint.sh over the kit's print.py. -/
import Derived.Test.YtdohdjfclnlpmaaPFramex0
import Derived.Test.YtdohdjfclnlpmaaPFramex2
import Derived.Test.YtdohdjfclnlpmaaPFramex4
import Derived.Test.YtdohdjfclnlpmaaPFramex6
import Derived.Test.YtdohdjfclnlpmaaPFramex7
import Derived.Test.YtdohdjfclnlpmaaPFramex8
import Derived.Test.YtdohdjfclnlpmaaPFramex9
namespace Go.Proofs.Ytdohdjfclnlpmaa.PFrame
open Go.RowKit Go.Proofs.YtdohdjfclnlpmaaW.PrintWords Go.Proofs.YtdohdjfclnlpmaaW.PrintLast Go.Proofs.YtdohdjfclnlpmaaW.PrintMore
attribute [local go_sem] max2_int min2_int max_two min_two max_three min_three max_four min_four   -- for this text's walks alone
set_option linter.unusedVariables false
set_option linter.unusedSimpArgs false

/-! ### patchbaylaw02_FrameParses: function 13 -/
mutual
def patchbaylaw02_FrameParses.j0 : Nat → List Int → Int → Bool → Int → Int → Bool → Int → Int → List Int → Option (Bool)
  | 0, _, _, _, _, _, _, _, _, _ => none
  | k + 1, x0, x7, x47, x307000, x307001, x307002, x307003, x307004, x307005 => if x47 = true then (some false) else (if x7 = 0 then ((frame_Write.f k x307000 x307001 x307002 x307003 x307004 x307005).bind fun bt328 => (if x307002 = true then (patchbaylaw02_FrameParses.j1 k x0 bt328.1 bt328.2 (bt328.2 != 0)) else (patchbaylaw02_FrameParses.j1 k x0 bt328.1 bt328.2 true))) else (some true))
def patchbaylaw02_FrameParses.j1 : Nat → List Int → List Int → Int → Bool → Option (Bool)
  | 0, _, _, _, _ => none
  | k + 1, x0, x8, x9, x61 => if x61 = true then (if x9 = 0 then ((patchbayref01_Same.f k x8 x0).bind fun t332 => (some t332)) else (some false)) else ((patchbayref01_Same.f k x8 x0).bind fun t333 => (some t333))
end
def patchbaylaw02_FrameParses.f (k : Nat) (l0 : List Int) : Option (Bool) := if 0 ≤ (mn (l0.length : Int) 1600) then (if (mn (l0.length : Int) 1600) ≤ (l0.length : Int) then ((some (([] : List Int) : List Int)).bind fun y291 => (if y291.length + (l0.take ((mn (l0.length : Int) 1600) : Int).toNat).length < 140737488355328 then ((some (y291 ++ (l0.take ((mn (l0.length : Int) 1600) : Int).toNat) : List Int)).bind fun y294 => ((frame_Parse.f k y294).bind fun bt297 => ((patchbayref02_Parse.f k (l0.take ((mn (l0.length : Int) 1600) : Int).toNat)).bind fun bt307 => ((patchbaylaw02_told.f k).bind fun t317 => (if t317 = true then (if bt297.2.2.2.2.2.2 = bt307.2.2.2.2.2.2 then ((patchbaylaw02_From.f bt297.1 bt297.2.1 bt297.2.2.1 bt297.2.2.2.1 bt297.2.2.2.2.1 bt297.2.2.2.2.2.1).bind fun bt318 => ((patchbaylaw02_same.f k bt307.1 bt307.2.1 bt307.2.2.1 bt307.2.2.2.1 bt307.2.2.2.2.1 bt307.2.2.2.2.2.1 bt318.1 bt318.2.1 bt318.2.2.1 bt318.2.2.2.1 bt318.2.2.2.2.1 bt318.2.2.2.2.2 false).bind fun t326 => (if t326 = true then ((patchbayref01_Same.f k y294 (l0.take ((mn (l0.length : Int) 1600) : Int).toNat)).bind fun t327 => (patchbaylaw02_FrameParses.j0 k (l0.take ((mn (l0.length : Int) 1600) : Int).toNat) bt307.2.2.2.2.2.2 (!t327) bt297.1 bt297.2.1 bt297.2.2.1 bt297.2.2.2.1 bt297.2.2.2.2.1 bt297.2.2.2.2.2.1)) else (patchbaylaw02_FrameParses.j0 k (l0.take ((mn (l0.length : Int) 1600) : Int).toNat) bt307.2.2.2.2.2.2 true bt297.1 bt297.2.1 bt297.2.2.1 bt297.2.2.2.1 bt297.2.2.2.2.1 bt297.2.2.2.2.2.1)))) else (patchbaylaw02_FrameParses.j0 k (l0.take ((mn (l0.length : Int) 1600) : Int).toNat) bt307.2.2.2.2.2.2 true bt297.1 bt297.2.1 bt297.2.2.1 bt297.2.2.2.1 bt297.2.2.2.2.1 bt297.2.2.2.2.2.1)) else (patchbaylaw02_FrameParses.j0 k (l0.take ((mn (l0.length : Int) 1600) : Int).toNat) bt307.2.2.2.2.2.2 true bt297.1 bt297.2.1 bt297.2.2.1 bt297.2.2.2.1 bt297.2.2.2.2.1 bt297.2.2.2.2.2.1)))))) else (none))) else (none)) else (none)
theorem patchbaylaw02_FrameParses.mono_l : ∀ k, (∀ y0 y1 y2 y3 y4 y5 y6 y7 y8, LeO (patchbaylaw02_FrameParses.j0 k y0 y1 y2 y3 y4 y5 y6 y7 y8) (patchbaylaw02_FrameParses.j0 (k + 1) y0 y1 y2 y3 y4 y5 y6 y7 y8)) ∧ (∀ y0 y1 y2 y3, LeO (patchbaylaw02_FrameParses.j1 k y0 y1 y2 y3) (patchbaylaw02_FrameParses.j1 (k + 1) y0 y1 y2 y3))
  | 0 => ⟨fun _ _ _ _ _ _ _ _ _ r h => by simp [patchbaylaw02_FrameParses.j0] at h, fun _ _ _ _ r h => by simp [patchbaylaw02_FrameParses.j1] at h⟩
  | k + 1 => by
    obtain ⟨ih0, ih1⟩ := patchbaylaw02_FrameParses.mono_l k
    refine ⟨?_, ?_⟩
    · intro y0 y1 y2 y3 y4 y5 y6 y7 y8
      unfold patchbaylaw02_FrameParses.j0
      repeat' first
      | (with_reducible exact ih0 _ _ _ _ _ _ _ _ _)
      | (with_reducible exact ih1 _ _ _ _)
      | (with_reducible exact frame_Parse.mono _ _)
      | (with_reducible exact frame_Write.mono _ _ _ _ _ _ _)
      | (with_reducible exact patchbaylaw02_same.mono _ _ _ _ _ _ _ _ _ _ _ _ _ _)
      | (with_reducible exact patchbaylaw02_told.mono _)
      | (with_reducible exact patchbayref01_Same.mono _ _ _)
      | (with_reducible exact patchbayref02_Parse.mono _ _)
      | (with_reducible exact LeO.refl _)
      | (with_reducible exact LeO.none _)
      | (with_reducible refine LeO.ite ?_ ?_)
      | (with_reducible refine LeO.bind ?_ (fun _ => ?_))
      | exact ih0 _ _ _ _ _ _ _ _ _
      | exact ih1 _ _ _ _
      | exact frame_Parse.mono _ _
      | exact frame_Write.mono _ _ _ _ _ _ _
      | exact patchbaylaw02_same.mono _ _ _ _ _ _ _ _ _ _ _ _ _ _
      | exact patchbaylaw02_told.mono _
      | exact patchbayref01_Same.mono _ _ _
      | exact patchbayref02_Parse.mono _ _
      | exact LeO.none _
      | refine LeO.ite ?_ ?_
      | refine LeO.bind ?_ (fun _ => ?_)
    · intro y0 y1 y2 y3
      unfold patchbaylaw02_FrameParses.j1
      repeat' first
      | (with_reducible exact ih0 _ _ _ _ _ _ _ _ _)
      | (with_reducible exact ih1 _ _ _ _)
      | (with_reducible exact frame_Parse.mono _ _)
      | (with_reducible exact frame_Write.mono _ _ _ _ _ _ _)
      | (with_reducible exact patchbaylaw02_same.mono _ _ _ _ _ _ _ _ _ _ _ _ _ _)
      | (with_reducible exact patchbaylaw02_told.mono _)
      | (with_reducible exact patchbayref01_Same.mono _ _ _)
      | (with_reducible exact patchbayref02_Parse.mono _ _)
      | (with_reducible exact LeO.refl _)
      | (with_reducible exact LeO.none _)
      | (with_reducible refine LeO.ite ?_ ?_)
      | (with_reducible refine LeO.bind ?_ (fun _ => ?_))
      | exact ih0 _ _ _ _ _ _ _ _ _
      | exact ih1 _ _ _ _
      | exact frame_Parse.mono _ _
      | exact frame_Write.mono _ _ _ _ _ _ _
      | exact patchbaylaw02_same.mono _ _ _ _ _ _ _ _ _ _ _ _ _ _
      | exact patchbaylaw02_told.mono _
      | exact patchbayref01_Same.mono _ _ _
      | exact patchbayref02_Parse.mono _ _
      | exact LeO.none _
      | refine LeO.ite ?_ ?_
      | refine LeO.bind ?_ (fun _ => ?_)
theorem patchbaylaw02_FrameParses.mono : ∀ a0 k, LeO (patchbaylaw02_FrameParses.f k a0) (patchbaylaw02_FrameParses.f (k + 1) a0) := by
  intro a0 k
  obtain ⟨ih0, ih1⟩ := patchbaylaw02_FrameParses.mono_l k
  unfold patchbaylaw02_FrameParses.f
  repeat' first
      | (with_reducible exact ih0 _ _ _ _ _ _ _ _ _)
      | (with_reducible exact ih1 _ _ _ _)
      | (with_reducible exact frame_Parse.mono _ _)
      | (with_reducible exact frame_Write.mono _ _ _ _ _ _ _)
      | (with_reducible exact patchbaylaw02_same.mono _ _ _ _ _ _ _ _ _ _ _ _ _ _)
      | (with_reducible exact patchbaylaw02_told.mono _)
      | (with_reducible exact patchbayref01_Same.mono _ _ _)
      | (with_reducible exact patchbayref02_Parse.mono _ _)
      | (with_reducible exact LeO.refl _)
      | (with_reducible exact LeO.none _)
      | (with_reducible refine LeO.ite ?_ ?_)
      | (with_reducible refine LeO.bind ?_ (fun _ => ?_))
      | exact ih0 _ _ _ _ _ _ _ _ _
      | exact ih1 _ _ _ _
      | exact frame_Parse.mono _ _
      | exact frame_Write.mono _ _ _ _ _ _ _
      | exact patchbaylaw02_same.mono _ _ _ _ _ _ _ _ _ _ _ _ _ _
      | exact patchbaylaw02_told.mono _
      | exact patchbayref01_Same.mono _ _ _
      | exact patchbayref02_Parse.mono _ _
      | exact LeO.none _
      | refine LeO.ite ?_ ?_
      | refine LeO.bind ?_ (fun _ => ?_)
def patchbaylaw02_FrameParses.T5 : Bool × List (List Nat × List Nat) := (true, [([], []), ([0], [0]), ([1, 0], [1]), ([2], [2]), ([2], [2]), ([3, 4, 2], [2, 3, 4]), ([2, 5], [2, 5]), ([6, 2], [6]), ([7], [7]), ([7], [7]), ([9, 7, 7], [7, 9]), ([8, 10, 10, 7], [7, 8, 10]), ([11, 7], [7, 11]), ([7, 12], [7, 12]), ([13, 11], [13]), ([14], [14]), ([14], [14]), ([15, 16, 14, 14], [14, 15, 16]), ([17, 14], [14, 17]), ([14, 18], [14, 18])])
def patchbaylaw02_FrameParses.B5 : List Nat := [0, 1, 3, 7, 7, 31, 63, 127, 255, 255, 767, 2047, 4095, 8191, 16383, 32767, 32767, 131071, 262143, 524287]
theorem patchbaylaw02_FrameParses.tab5 : rtab .any (opsOf Try.f13 5) = patchbaylaw02_FrameParses.T5 := by kernel_rfl
theorem patchbaylaw02_FrameParses.bits5 : waitsOk patchbaylaw02_FrameParses.T5.2 patchbaylaw02_FrameParses.B5 = true := by kernel_rfl
set_option maxHeartbeats 8000000 in
set_option maxRecDepth 100000 in
theorem patchbaylaw02_FrameParses.calls (k : Nat) (A0 : Option Addr) (c0 : Nat) (l0 : List Int) (r : Bool) (w : World) (hr0 : Kd.C (Kd.int .u8) w A0 l0.length l0) (hc0 : l0.length ≤ c0) (h : patchbaylaw02_FrameParses.f k l0 = some r) :
    Calls Try.prog 13 #[.slice A0 l0.length c0] w fun e w' => e = .returned (.bool r) ∧ Below w.heap.size w w' := by
  have hu39 := Try.underlying39
  have hu34 := Try.underlying34
  have HR0 := Aside0.mk hr0
  have HC0 := Aside0.mk hc0
  clear hr0 hc0
  have HB := Aside0.mk (Below.refl w.heap.size w)
  have H : (if 0 ≤ (mn (l0.length : Int) 1600) then (if (mn (l0.length : Int) 1600) ≤ (l0.length : Int) then ((some (([] : List Int) : List Int)).bind fun y291 => (if y291.length + (l0.take ((mn (l0.length : Int) 1600) : Int).toNat).length < 140737488355328 then ((some (y291 ++ (l0.take ((mn (l0.length : Int) 1600) : Int).toNat) : List Int)).bind fun y294 => ((frame_Parse.f k y294).bind fun bt297 => ((patchbayref02_Parse.f k (l0.take ((mn (l0.length : Int) 1600) : Int).toNat)).bind fun bt307 => ((patchbaylaw02_told.f k).bind fun t317 => (if t317 = true then (if bt297.2.2.2.2.2.2 = bt307.2.2.2.2.2.2 then ((patchbaylaw02_From.f bt297.1 bt297.2.1 bt297.2.2.1 bt297.2.2.2.1 bt297.2.2.2.2.1 bt297.2.2.2.2.2.1).bind fun bt318 => ((patchbaylaw02_same.f k bt307.1 bt307.2.1 bt307.2.2.1 bt307.2.2.2.1 bt307.2.2.2.2.1 bt307.2.2.2.2.2.1 bt318.1 bt318.2.1 bt318.2.2.1 bt318.2.2.2.1 bt318.2.2.2.2.1 bt318.2.2.2.2.2 false).bind fun t326 => (if t326 = true then ((patchbayref01_Same.f k y294 (l0.take ((mn (l0.length : Int) 1600) : Int).toNat)).bind fun t327 => (patchbaylaw02_FrameParses.j0 k (l0.take ((mn (l0.length : Int) 1600) : Int).toNat) bt307.2.2.2.2.2.2 (!t327) bt297.1 bt297.2.1 bt297.2.2.1 bt297.2.2.2.1 bt297.2.2.2.2.1 bt297.2.2.2.2.2.1)) else (patchbaylaw02_FrameParses.j0 k (l0.take ((mn (l0.length : Int) 1600) : Int).toNat) bt307.2.2.2.2.2.2 true bt297.1 bt297.2.1 bt297.2.2.1 bt297.2.2.2.1 bt297.2.2.2.2.1 bt297.2.2.2.2.2.1)))) else (patchbaylaw02_FrameParses.j0 k (l0.take ((mn (l0.length : Int) 1600) : Int).toNat) bt307.2.2.2.2.2.2 true bt297.1 bt297.2.1 bt297.2.2.1 bt297.2.2.2.1 bt297.2.2.2.2.1 bt297.2.2.2.2.2.1)) else (patchbaylaw02_FrameParses.j0 k (l0.take ((mn (l0.length : Int) 1600) : Int).toNat) bt307.2.2.2.2.2.2 true bt297.1 bt297.2.1 bt297.2.2.1 bt297.2.2.2.1 bt297.2.2.2.2.1 bt297.2.2.2.2.2.1)))))) else (none))) else (none)) else (none)) = some r := h
  clear h
  obtain ⟨ji2, hji2⟩ : ∃ j_ : Int, (mn (l0.length : Int) 1600) = j_ := ⟨_, rfl⟩
  replace H : (if 0 ≤ (ji2) then (if (ji2) ≤ (l0.length : Int) then ((some (([] : List Int) : List Int)).bind fun y291 => (if y291.length + (l0.take ((ji2) : Int).toNat).length < 140737488355328 then ((some (y291 ++ (l0.take ((ji2) : Int).toNat) : List Int)).bind fun y294 => ((frame_Parse.f k y294).bind fun bt297 => ((patchbayref02_Parse.f k (l0.take ((ji2) : Int).toNat)).bind fun bt307 => ((patchbaylaw02_told.f k).bind fun t317 => (if t317 = true then (if bt297.2.2.2.2.2.2 = bt307.2.2.2.2.2.2 then ((patchbaylaw02_From.f bt297.1 bt297.2.1 bt297.2.2.1 bt297.2.2.2.1 bt297.2.2.2.2.1 bt297.2.2.2.2.2.1).bind fun bt318 => ((patchbaylaw02_same.f k bt307.1 bt307.2.1 bt307.2.2.1 bt307.2.2.2.1 bt307.2.2.2.2.1 bt307.2.2.2.2.2.1 bt318.1 bt318.2.1 bt318.2.2.1 bt318.2.2.2.1 bt318.2.2.2.2.1 bt318.2.2.2.2.2 false).bind fun t326 => (if t326 = true then ((patchbayref01_Same.f k y294 (l0.take ((ji2) : Int).toNat)).bind fun t327 => (patchbaylaw02_FrameParses.j0 k (l0.take ((ji2) : Int).toNat) bt307.2.2.2.2.2.2 (!t327) bt297.1 bt297.2.1 bt297.2.2.1 bt297.2.2.2.1 bt297.2.2.2.2.1 bt297.2.2.2.2.2.1)) else (patchbaylaw02_FrameParses.j0 k (l0.take ((ji2) : Int).toNat) bt307.2.2.2.2.2.2 true bt297.1 bt297.2.1 bt297.2.2.1 bt297.2.2.2.1 bt297.2.2.2.2.1 bt297.2.2.2.2.2.1)))) else (patchbaylaw02_FrameParses.j0 k (l0.take ((ji2) : Int).toNat) bt307.2.2.2.2.2.2 true bt297.1 bt297.2.1 bt297.2.2.1 bt297.2.2.2.1 bt297.2.2.2.2.1 bt297.2.2.2.2.2.1)) else (patchbaylaw02_FrameParses.j0 k (l0.take ((ji2) : Int).toNat) bt307.2.2.2.2.2.2 true bt297.1 bt297.2.1 bt297.2.2.1 bt297.2.2.2.1 bt297.2.2.2.2.1 bt297.2.2.2.2.2.1)))))) else (none))) else (none)) else (none)) = some r := by first | (rw [hji2] at H; exact H) | (simp only [hji2] at H ⊢; exact H)
  (try (have hji2h : ji2 ≤ 1600 := by (rw [← hji2]; unfold mn; (repeat' split) <;> omega)))
  (try (have hji2g : ji2 ≤ 64 := by omega))
  (try (have hji2l : 0 ≤ ji2 := by (rw [← hji2]; unfold mn; (repeat' split) <;> omega)))
  (try (have hji2m : 0 ≤ ji2 := by omega))
  have hji2_ : (if 1600 < (l0.length : Int) then 1600 else (l0.length : Int)) = ji2 := hji2
  have hji2k : decide ((ji2 : Int) ≤ (l0.length : Int)) = true := decide_eq_true (by rw [← hji2]; unfold mn; (repeat' split) <;> omega)
  by_cases c3 : 0 ≤ (ji2)
  · rw [if_pos c3] at H
    have c3b0 := eq_true c3
    have c3b1 : decide (0 ≤ (ji2)) = true := decide_eq_true c3
    clear c3
    by_cases c4 : (ji2) ≤ (l0.length : Int)
    · rw [if_pos c4] at H
      have c4b0 := eq_true c4
      have c4b1 : decide ((ji2) ≤ (l0.length : Int)) = true := decide_eq_true c4
      clear c4
      obtain ⟨y291, hy291⟩ : ∃ y_ : List Int, y_ = (([] : List Int)) := ⟨_, rfl⟩
      replace H : (if y291.length + (l0.take ((ji2) : Int).toNat).length < 140737488355328 then ((some (y291 ++ (l0.take ((ji2) : Int).toNat) : List Int)).bind fun y294 => ((frame_Parse.f k y294).bind fun bt297 => ((patchbayref02_Parse.f k (l0.take ((ji2) : Int).toNat)).bind fun bt307 => ((patchbaylaw02_told.f k).bind fun t317 => (if t317 = true then (if bt297.2.2.2.2.2.2 = bt307.2.2.2.2.2.2 then ((patchbaylaw02_From.f bt297.1 bt297.2.1 bt297.2.2.1 bt297.2.2.2.1 bt297.2.2.2.2.1 bt297.2.2.2.2.2.1).bind fun bt318 => ((patchbaylaw02_same.f k bt307.1 bt307.2.1 bt307.2.2.1 bt307.2.2.2.1 bt307.2.2.2.2.1 bt307.2.2.2.2.2.1 bt318.1 bt318.2.1 bt318.2.2.1 bt318.2.2.2.1 bt318.2.2.2.2.1 bt318.2.2.2.2.2 false).bind fun t326 => (if t326 = true then ((patchbayref01_Same.f k y294 (l0.take ((ji2) : Int).toNat)).bind fun t327 => (patchbaylaw02_FrameParses.j0 k (l0.take ((ji2) : Int).toNat) bt307.2.2.2.2.2.2 (!t327) bt297.1 bt297.2.1 bt297.2.2.1 bt297.2.2.2.1 bt297.2.2.2.2.1 bt297.2.2.2.2.2.1)) else (patchbaylaw02_FrameParses.j0 k (l0.take ((ji2) : Int).toNat) bt307.2.2.2.2.2.2 true bt297.1 bt297.2.1 bt297.2.2.1 bt297.2.2.2.1 bt297.2.2.2.2.1 bt297.2.2.2.2.2.1)))) else (patchbaylaw02_FrameParses.j0 k (l0.take ((ji2) : Int).toNat) bt307.2.2.2.2.2.2 true bt297.1 bt297.2.1 bt297.2.2.1 bt297.2.2.2.1 bt297.2.2.2.2.1 bt297.2.2.2.2.2.1)) else (patchbaylaw02_FrameParses.j0 k (l0.take ((ji2) : Int).toNat) bt307.2.2.2.2.2.2 true bt297.1 bt297.2.1 bt297.2.2.1 bt297.2.2.2.1 bt297.2.2.2.2.1 bt297.2.2.2.2.2.1)))))) else (none)) = some r := by first | (rw [hy291]; with_reducible exact H) | (have H2_ := (Option.bind_some _ _).symm.trans H; rw [hy291]; with_reducible exact H2_) | (have H2_ := (Option.bind_some _ _).symm.trans H; with_reducible exact H2_) | with_reducible exact H | (rw [hy291]; exact H) | exact H
      have Ny291 := Aside0.mk hy291
      clear hy291
      by_cases c5 : y291.length + (l0.take ((ji2) : Int).toNat).length < 140737488355328
      · rw [if_pos c5] at H
        have LMc5 := Aside0.mk c5
        clear c5
        obtain ⟨y294, hy294⟩ : ∃ y_ : List Int, y_ = (y291 ++ (l0.take ((ji2) : Int).toNat)) := ⟨_, rfl⟩
        replace H : ((frame_Parse.f k y294).bind fun bt297 => ((patchbayref02_Parse.f k (l0.take ((ji2) : Int).toNat)).bind fun bt307 => ((patchbaylaw02_told.f k).bind fun t317 => (if t317 = true then (if bt297.2.2.2.2.2.2 = bt307.2.2.2.2.2.2 then ((patchbaylaw02_From.f bt297.1 bt297.2.1 bt297.2.2.1 bt297.2.2.2.1 bt297.2.2.2.2.1 bt297.2.2.2.2.2.1).bind fun bt318 => ((patchbaylaw02_same.f k bt307.1 bt307.2.1 bt307.2.2.1 bt307.2.2.2.1 bt307.2.2.2.2.1 bt307.2.2.2.2.2.1 bt318.1 bt318.2.1 bt318.2.2.1 bt318.2.2.2.1 bt318.2.2.2.2.1 bt318.2.2.2.2.2 false).bind fun t326 => (if t326 = true then ((patchbayref01_Same.f k y294 (l0.take ((ji2) : Int).toNat)).bind fun t327 => (patchbaylaw02_FrameParses.j0 k (l0.take ((ji2) : Int).toNat) bt307.2.2.2.2.2.2 (!t327) bt297.1 bt297.2.1 bt297.2.2.1 bt297.2.2.2.1 bt297.2.2.2.2.1 bt297.2.2.2.2.2.1)) else (patchbaylaw02_FrameParses.j0 k (l0.take ((ji2) : Int).toNat) bt307.2.2.2.2.2.2 true bt297.1 bt297.2.1 bt297.2.2.1 bt297.2.2.2.1 bt297.2.2.2.2.1 bt297.2.2.2.2.2.1)))) else (patchbaylaw02_FrameParses.j0 k (l0.take ((ji2) : Int).toNat) bt307.2.2.2.2.2.2 true bt297.1 bt297.2.1 bt297.2.2.1 bt297.2.2.2.1 bt297.2.2.2.2.1 bt297.2.2.2.2.2.1)) else (patchbaylaw02_FrameParses.j0 k (l0.take ((ji2) : Int).toNat) bt307.2.2.2.2.2.2 true bt297.1 bt297.2.1 bt297.2.2.1 bt297.2.2.2.1 bt297.2.2.2.2.1 bt297.2.2.2.2.2.1))))) = some r := by first | (rw [hy294]; with_reducible exact H) | (have H2_ := (Option.bind_some _ _).symm.trans H; rw [hy294]; with_reducible exact H2_) | (have H2_ := (Option.bind_some _ _).symm.trans H; with_reducible exact H2_) | with_reducible exact H | (rw [hy294]; exact H) | exact H
        have Ny294 := Aside0.mk hy294
        clear hy294
        replace H := Option.bind_eq_some_iff.mp H
        obtain ⟨⟨t297, t298, t299, t300, t301, t302, t305⟩, A60, H⟩ := H
        replace H : ((patchbayref02_Parse.f k (l0.take ((ji2) : Int).toNat)).bind fun bt307 => ((patchbaylaw02_told.f k).bind fun t317 => (if t317 = true then (if t305 = bt307.2.2.2.2.2.2 then ((patchbaylaw02_From.f t297 t298 t299 t300 t301 t302).bind fun bt318 => ((patchbaylaw02_same.f k bt307.1 bt307.2.1 bt307.2.2.1 bt307.2.2.2.1 bt307.2.2.2.2.1 bt307.2.2.2.2.2.1 bt318.1 bt318.2.1 bt318.2.2.1 bt318.2.2.2.1 bt318.2.2.2.2.1 bt318.2.2.2.2.2 false).bind fun t326 => (if t326 = true then ((patchbayref01_Same.f k y294 (l0.take ((ji2) : Int).toNat)).bind fun t327 => (patchbaylaw02_FrameParses.j0 k (l0.take ((ji2) : Int).toNat) bt307.2.2.2.2.2.2 (!t327) t297 t298 t299 t300 t301 t302)) else (patchbaylaw02_FrameParses.j0 k (l0.take ((ji2) : Int).toNat) bt307.2.2.2.2.2.2 true t297 t298 t299 t300 t301 t302)))) else (patchbaylaw02_FrameParses.j0 k (l0.take ((ji2) : Int).toNat) bt307.2.2.2.2.2.2 true t297 t298 t299 t300 t301 t302)) else (patchbaylaw02_FrameParses.j0 k (l0.take ((ji2) : Int).toNat) bt307.2.2.2.2.2.2 true t297 t298 t299 t300 t301 t302)))) = some r := H
        have A6 := Aside0.mk A60
        clear A60
        replace H := Option.bind_eq_some_iff.mp H
        obtain ⟨⟨t307, t308, t309, t310, t311, t312, t315⟩, A70, H⟩ := H
        replace H : ((patchbaylaw02_told.f k).bind fun t317 => (if t317 = true then (if t305 = t315 then ((patchbaylaw02_From.f t297 t298 t299 t300 t301 t302).bind fun bt318 => ((patchbaylaw02_same.f k t307 t308 t309 t310 t311 t312 bt318.1 bt318.2.1 bt318.2.2.1 bt318.2.2.2.1 bt318.2.2.2.2.1 bt318.2.2.2.2.2 false).bind fun t326 => (if t326 = true then ((patchbayref01_Same.f k y294 (l0.take ((ji2) : Int).toNat)).bind fun t327 => (patchbaylaw02_FrameParses.j0 k (l0.take ((ji2) : Int).toNat) t315 (!t327) t297 t298 t299 t300 t301 t302)) else (patchbaylaw02_FrameParses.j0 k (l0.take ((ji2) : Int).toNat) t315 true t297 t298 t299 t300 t301 t302)))) else (patchbaylaw02_FrameParses.j0 k (l0.take ((ji2) : Int).toNat) t315 true t297 t298 t299 t300 t301 t302)) else (patchbaylaw02_FrameParses.j0 k (l0.take ((ji2) : Int).toNat) t315 true t297 t298 t299 t300 t301 t302))) = some r := H
        have A7 := Aside0.mk A70
        clear A70
        have HC8 := Aside0.mk H
        clear H
        obtain ⟨i09, hi09, _, hsz9, _⟩ := info_parts info5
        obtain ⟨hcut9, hA9, hC9⟩ := print_take_of (P := Try.prog) (Value.int .u8) 0 22 5 .i64 Try.underlying22 hi09 hsz9 A0 c0 l0 (ji2) (of_decide_eq_true (by first | (with_reducible assumption) | assumption)) (of_decide_eq_true (by first | (with_reducible assumption) | assumption)) HC0.out
        have HR290 := Aside0.mk (Kd.C_of_reads (h1 := fun _ => rfl) (hA9 _ (Kd.reads_of_C HR0.out)))
        have HC290 := Aside0.mk hC9
        clear hA9 hC9 hi09 hsz9
        go_enter Try.func13, Try.ntmps13
        go_upto_region 5 with (first | ((with_reducible refine gate_dst (N := 15) rfl ?_); refine Kd.R_lit (Kd.int .u8) _ 5 ?hg (N := 15) ?hd (xs := ([] : List Int)) (inner := []) (ok := fun _ => True) (okp := fun _ => True) ?hr ?hp (fun _ hk => hk) trivial (Below.refl _ _) (Nat.le_refl _) (by simp) ?_; (case hd => rfl); (case hg => rfl); (case hr => first | (go_simp; done) | (go_simp; rfl)); (case hp => exact (Reps.none _ _)); intro v292 w10 ho11 hb hg_ hnew_; clear hg_ hnew_; (first | rw [← Ny291.out] at ho11 | (simp only [Int.reduceToNat] at ho11; rw [← Ny291.out] at ho11)); have n0_ := Aside0.mk (Kd.R_lower ho11 (below_size (by repeat (first | (with_reducible first | exact HB.out | apply below_alloc | apply pw_below_drewN | apply below_drew1) | exact HB.out)))); have n1_ := Aside0.mk (below_step (by repeat (first | (with_reducible first | exact HB.out | apply below_alloc | apply pw_below_drewN | apply below_drew1) | exact HB.out)) hb); clear HB; have HO293 := n0_; have HB := n1_; clear n0_ n1_; clear hb ho11) | ((with_reducible refine gate_builtin (b := .append) (xs := #[.tmp 15, .tmp 16]) rfl ?_); at_builtin; refine Kd.R_append_rows (Kd.int .u8) (w0 := w) w.heap.size rfl (.tmp 15) (.tmp 16) 22 5 (.int .u8 0) 1 rfl Try.underlying22 info5 rfl (by decide) (by omega) v292 y291 (l0.take ((ji2) : Int).toNat) _ _ _ (fun _ => True) (fun _ => False) rfl rfl ?aO ?aR (fun _ _ h => h) (fun _ h => h.elim) ?aF ?aB ?aS ?aL ?_; (case aR => first | (have q_ := Kd.C_below HR290.out HB.out; rw [(show (l0.take ((ji2) : Int).toNat).length = (((ji2) : Int).toNat : Nat) from (by rw [List.length_take]; have h_ : (ji2 : Int) ≤ (l0.length : Int) := of_decide_eq_true (by first | (with_reducible assumption) | assumption); omega))] at q_; exact q_) | (rw [← List.length_take]; repeat (first | exact (Kd.C_below HR290.out HB.out) | (with_reducible refine Kd.C_alloc ?_ _) | (with_reducible refine Kd.C_drewN ?_ _) | (with_reducible refine Kd.C_drew ?_))) | (rw [← show (l0.take ((ji2) : Int).toNat).length = (ji2).toNat from (by rw [List.length_take]; have h_ : ((ji2) : Int) ≤ (l0.length : Int) := of_decide_eq_true (by first | (with_reducible assumption) | assumption); omega)]; repeat (first | exact (Kd.C_below HR290.out HB.out) | (with_reducible refine Kd.C_alloc ?_ _) | (with_reducible refine Kd.C_drewN ?_ _) | (with_reducible refine Kd.C_drew ?_))) | (repeat (first | exact (Kd.C_below HR290.out HB.out) | (with_reducible refine Kd.C_alloc ?_ _) | (with_reducible refine Kd.C_drewN ?_ _) | (with_reducible refine Kd.C_drew ?_)))); (case aB => exact (by repeat (first | (with_reducible first | exact HB.out | apply below_alloc | apply pw_below_drewN | apply below_drew1) | exact HB.out))); (case aF => exact (fun _ _ => trivial)); (case aO => exact (by (with_reducible repeat (first | apply Kd.R_alloc | apply Kd.R_drewN | apply Kd.R_drew)); exact HO293.out)); (case aS => exact (below_size (by repeat (first | (with_reducible first | exact HB.out | apply below_alloc | apply pw_below_drewN | apply below_drew1) | exact HB.out)))); (case aL => have := LMc5.out; have hlx_ := (show (l0.take ((ji2) : Int).toNat).length = (ji2).toNat from (by rw [List.length_take]; have h_ : ((ji2) : Int) ≤ (l0.length : Int) := of_decide_eq_true (by first | (with_reducible assumption) | assumption); omega)); omega); intro v295 w12 ho hb hg hat; rw [← Ny294.out] at ho; have n0_ := Aside0.mk (hb); have n1_ := Aside0.mk (ho); clear HB; clear HO293; have HB := n0_; have HO296 := n1_; clear n0_ n1_; clear ho hb hg hat; obtain ⟨Ao13, co13, eo13⟩ := Kd.R_slice HO296.out; subst eo13) | ((with_reducible refine gate_callee (f := 21) rfl ?_); refine goesL_ (some 20) rfl rfl Try.func21 (by kernel_rfl) rfl #[.slice Ao13 y294.length co13] rfl (by (try simp only [List.map_toArray, List.map_cons, List.map_nil]); first | done | rfl | (simp only [List.length_drop, List.length_take]; rfl)) ?_; (with_reducible refine (frame_Parse.calls k _ _ y294 t297 t298 t299 t300 t301 t302 t305 _ ?side1 ?side2 A6.out).mono ?_); (case side1 => repeat (first | exact (Kd.R_reads' HO296.out).2.2 | (with_reducible refine Kd.C_alloc ?_ _) | (with_reducible refine Kd.C_drewN ?_ _) | (with_reducible refine Kd.C_drew ?_))); (case side2 => exact (Kd.R_reads' HO296.out).2.1); rintro e w14 ⟨v303, rfl, ho0, hb⟩; refine ⟨_, rfl, ?_⟩; have n0_ := Aside0.mk (Kd.R_elder' (by (with_reducible repeat (first | apply Kd.R_alloc | apply Kd.R_drewN | apply Kd.R_drew)); exact HO296.out) (Kd.R_base ho0) hb); have n1_ := Aside0.mk (Kd.R_lower (Kd.R_new' ho0 (Kd.R_lt (by (with_reducible repeat (first | apply Kd.R_alloc | apply Kd.R_drewN | apply Kd.R_drew)); exact HO296.out))) (below_size (by repeat (first | (with_reducible first | exact HB.out | apply below_alloc | apply pw_below_drewN | apply below_drew1) | exact HB.out)))); have n2_ := Aside0.mk (below_step (by repeat (first | (with_reducible first | exact HB.out | apply below_alloc | apply pw_below_drewN | apply below_drew1) | exact HB.out)) hb); clear HO296; clear HB; have HO296 := n0_; have HO304 := n1_; have HB := n2_; clear n0_ n1_ n2_; (try clear hb); (try clear hb2); (try clear hk); (try clear hi); (try clear ho0)) | ((with_reducible refine gate_dst (N := 4) rfl ?_); refine box_event ?hg (N := 4) ?hd (cs := #[.int .u64 0, .int .u64 0, .bool false, .int .u16 0, .int .u16 0, .slice none 0 0]) (t := 39) ?hr ?_; (case hd => rfl); (case hg => rfl); (case hr => first | (go_simp; done) | (go_simp; rfl)); intro gb306 hg w15 hbox hb; have n0_ := Aside0.mk (Kd.R_below (by (with_reducible repeat (first | apply Kd.R_alloc | apply Kd.R_drewN | apply Kd.R_drew)); exact HO296.out) hb); have n1_ := Aside0.mk (Kd.R_below (by (with_reducible repeat (first | apply Kd.R_alloc | apply Kd.R_drewN | apply Kd.R_drew)); exact HO304.out) hb); have n2_ := Aside0.mk (below_step (by repeat (first | (with_reducible first | exact HB.out | apply below_alloc | apply pw_below_drewN | apply below_drew1) | exact HB.out)) hb); have n3_ := Aside0.mk (hbox); have n4_ := Aside0.mk ((by rw [hg]; exact (below_size (by repeat (first | (with_reducible first | exact HB.out | apply below_alloc | apply pw_below_drewN | apply below_drew1) | exact HB.out))) : w.heap.size ≤ gb306)); have n5_ := Aside0.mk ((by rw [hg]; exact (below_size (by repeat (first | (with_reducible first | exact HB.out | apply below_alloc | apply pw_below_drewN | apply below_drew1) | exact HB.out))) : w.heap.size ≤ gb306)); clear HO296; clear HO304; clear HB; have HO296 := n0_; have HO304 := n1_; have HB := n2_; have BK306 := n3_; have GW306 := n4_; have GE306 := n5_; clear n0_ n1_ n2_ n3_ n4_ n5_; clear hb hbox hg; have hcz16_0 : w15.cell? ⟨gb306, 0, none⟩ = some (.int .u64 0) := (blk_cell BK306.out 0).trans rfl; have hcz16_1 : w15.cell? ⟨gb306, 1, none⟩ = some (.int .u64 0) := (blk_cell BK306.out 1).trans rfl; have hcz16_2 : w15.cell? ⟨gb306, 2, none⟩ = some (.bool false) := (blk_cell BK306.out 2).trans rfl; have hcz16_3 : w15.cell? ⟨gb306, 3, none⟩ = some (.int .u16 0) := (blk_cell BK306.out 3).trans rfl; have hcz16_4 : w15.cell? ⟨gb306, 4, none⟩ = some (.int .u16 0) := (blk_cell BK306.out 4).trans rfl; have hcz16_5 : w15.cell? ⟨gb306, 5, none⟩ = some (.slice none 0 0) := (blk_cell BK306.out 5).trans rfl; have hfz16_0 := blk_frozen BK306.out 0; have hfz16_1 := blk_frozen BK306.out 1; have hfz16_2 := blk_frozen BK306.out 2; have hfz16_3 := blk_frozen BK306.out 3; have hfz16_4 := blk_frozen BK306.out 4; have hfz16_5 := blk_frozen BK306.out 5; obtain ⟨Ao17, co17, eo17⟩ := Kd.R_slice HO304.out; subst eo17) | ((with_reducible refine gate_callee (f := 20) rfl ?_); refine goesL_ (some 25) rfl rfl Try.func20 (by kernel_rfl) rfl #[.slice A0 (l0.take ((ji2) : Int).toNat).length c0] rfl (by (try simp only [List.map_toArray, List.map_cons, List.map_nil]); first | done | (rw [(show (l0.take ((ji2) : Int).toNat).length = ((ji2 : Int).toNat : Nat) from (by rw [List.length_take]; have h_ : (ji2 : Int) ≤ (l0.length : Int) := of_decide_eq_true (by first | (with_reducible assumption) | assumption); omega))] <;> rfl) | (rw [show (l0.take ((ji2) : Int).toNat).length = (ji2).toNat from (by rw [List.length_take]; have h_ : ((ji2) : Int) ≤ (l0.length : Int) := of_decide_eq_true (by first | (with_reducible assumption) | assumption); omega)] <;> rfl) | (simp only [hji2]; rfl) | rfl | (simp only [List.length_drop, List.length_take]; rfl)) ?_; (with_reducible refine (patchbayref02_Parse.calls k _ _ (l0.take ((ji2) : Int).toNat) t307 t308 t309 t310 t311 t312 t315 _ ?side1 ?side2 A7.out).mono ?_); (case side1 => exact Kd.C_below HR290.out (by repeat (first | (with_reducible first | exact HB.out | apply below_alloc | apply pw_below_drewN | apply below_drew1 | refine below_set ?_ GE306.out) | exact HB.out))); (case side2 => exact HC290.out); rintro e w18 ⟨v313, rfl, ho0, hb⟩; refine ⟨_, rfl, ?_⟩; have n0_ := Aside0.mk (Kd.R_elder' (by (with_reducible repeat (first | apply Kd.R_alloc | apply Kd.R_drewN | apply Kd.R_drew)); exact (Kd.R_mono (Kd.R_far (p := ⟨gb306, 5, none⟩) (Kd.R_far (p := ⟨gb306, 4, none⟩) (Kd.R_far (p := ⟨gb306, 3, none⟩) (Kd.R_far (p := ⟨gb306, 2, none⟩) (Kd.R_far (p := ⟨gb306, 1, none⟩) (Kd.R_far (p := ⟨gb306, 0, none⟩) (Kd.R_types HO296.out BK306.out (by decide)) (fun _ hk => hk.2) (.int .u64 t297)) (fun _ hk => hk.2) (.int .u64 t298)) (fun _ hk => hk.2) (.bool t299)) (fun _ hk => hk.2) (.int .u16 t300)) (fun _ hk => hk.2) (.int .u16 t301)) (fun _ hk => hk.2) (.slice Ao17 t302.length co17)) (fun _ h_ => h_.1))) (Kd.R_base ho0) hb); have n1_ := Aside0.mk (Kd.R_elder' (by (with_reducible repeat (first | apply Kd.R_alloc | apply Kd.R_drewN | apply Kd.R_drew)); exact (Kd.R_mono (Kd.R_far (p := ⟨gb306, 5, none⟩) (Kd.R_far (p := ⟨gb306, 4, none⟩) (Kd.R_far (p := ⟨gb306, 3, none⟩) (Kd.R_far (p := ⟨gb306, 2, none⟩) (Kd.R_far (p := ⟨gb306, 1, none⟩) (Kd.R_far (p := ⟨gb306, 0, none⟩) (Kd.R_types HO304.out BK306.out (by decide)) (fun _ hk => hk.2) (.int .u64 t297)) (fun _ hk => hk.2) (.int .u64 t298)) (fun _ hk => hk.2) (.bool t299)) (fun _ hk => hk.2) (.int .u16 t300)) (fun _ hk => hk.2) (.int .u16 t301)) (fun _ hk => hk.2) (.slice Ao17 t302.length co17)) (fun _ h_ => h_.1))) (Kd.R_base ho0) hb); have n2_ := Aside0.mk (Kd.R_lower (Kd.R_new' (Kd.R_new' ho0 (Kd.R_lt (by (with_reducible repeat (first | apply Kd.R_alloc | apply Kd.R_drewN | apply Kd.R_drew)); exact (Kd.R_mono (Kd.R_far (p := ⟨gb306, 5, none⟩) (Kd.R_far (p := ⟨gb306, 4, none⟩) (Kd.R_far (p := ⟨gb306, 3, none⟩) (Kd.R_far (p := ⟨gb306, 2, none⟩) (Kd.R_far (p := ⟨gb306, 1, none⟩) (Kd.R_far (p := ⟨gb306, 0, none⟩) (Kd.R_types HO296.out BK306.out (by decide)) (fun _ hk => hk.2) (.int .u64 t297)) (fun _ hk => hk.2) (.int .u64 t298)) (fun _ hk => hk.2) (.bool t299)) (fun _ hk => hk.2) (.int .u16 t300)) (fun _ hk => hk.2) (.int .u16 t301)) (fun _ hk => hk.2) (.slice Ao17 t302.length co17)) (fun _ h_ => h_.1))))) (Kd.R_lt (by (with_reducible repeat (first | apply Kd.R_alloc | apply Kd.R_drewN | apply Kd.R_drew)); exact (Kd.R_mono (Kd.R_far (p := ⟨gb306, 5, none⟩) (Kd.R_far (p := ⟨gb306, 4, none⟩) (Kd.R_far (p := ⟨gb306, 3, none⟩) (Kd.R_far (p := ⟨gb306, 2, none⟩) (Kd.R_far (p := ⟨gb306, 1, none⟩) (Kd.R_far (p := ⟨gb306, 0, none⟩) (Kd.R_types HO304.out BK306.out (by decide)) (fun _ hk => hk.2) (.int .u64 t297)) (fun _ hk => hk.2) (.int .u64 t298)) (fun _ hk => hk.2) (.bool t299)) (fun _ hk => hk.2) (.int .u16 t300)) (fun _ hk => hk.2) (.int .u16 t301)) (fun _ hk => hk.2) (.slice Ao17 t302.length co17)) (fun _ h_ => h_.1))))) (below_size (by repeat (first | (with_reducible first | exact HB.out | apply below_alloc | apply pw_below_drewN | apply below_drew1 | refine below_set ?_ GE306.out) | exact HB.out)))); have n3_ := Aside0.mk (blk_below (g := gb306) (o := .cells #[.int .u64 t297, .int .u64 t298, .bool t299, .int .u16 t300, .int .u16 t301, .slice Ao17 t302.length co17] 39 (0, 0)) (by (with_reducible repeat (first | refine blk_drewN ?_ _ | refine blk_drew ?_ | refine blk_alloc ?_ _)); refine blk_put (cs := #[.int .u64 t297, .int .u64 t298, .bool t299, .int .u16 t300, .int .u16 t301, .slice none 0 0]) ?_ 5 _ rfl; (with_reducible repeat (first | refine blk_drewN ?_ _ | refine blk_drew ?_ | refine blk_alloc ?_ _)); refine blk_put (cs := #[.int .u64 t297, .int .u64 t298, .bool t299, .int .u16 t300, .int .u16 0, .slice none 0 0]) ?_ 4 _ rfl; (with_reducible repeat (first | refine blk_drewN ?_ _ | refine blk_drew ?_ | refine blk_alloc ?_ _)); refine blk_put (cs := #[.int .u64 t297, .int .u64 t298, .bool t299, .int .u16 0, .int .u16 0, .slice none 0 0]) ?_ 3 _ rfl; (with_reducible repeat (first | refine blk_drewN ?_ _ | refine blk_drew ?_ | refine blk_alloc ?_ _)); refine blk_put (cs := #[.int .u64 t297, .int .u64 t298, .bool false, .int .u16 0, .int .u16 0, .slice none 0 0]) ?_ 2 _ rfl; (with_reducible repeat (first | refine blk_drewN ?_ _ | refine blk_drew ?_ | refine blk_alloc ?_ _)); refine blk_put (cs := #[.int .u64 t297, .int .u64 0, .bool false, .int .u16 0, .int .u16 0, .slice none 0 0]) ?_ 1 _ rfl; (with_reducible repeat (first | refine blk_drewN ?_ _ | refine blk_drew ?_ | refine blk_alloc ?_ _)); refine blk_put (cs := #[.int .u64 0, .int .u64 0, .bool false, .int .u16 0, .int .u16 0, .slice none 0 0]) ?_ 0 _ rfl; (with_reducible repeat (first | refine blk_drewN ?_ _ | refine blk_drew ?_ | refine blk_alloc ?_ _)); exact BK306.out) hb); have n4_ := Aside0.mk (below_step (by repeat (first | (with_reducible first | exact HB.out | apply below_alloc | apply pw_below_drewN | apply below_drew1 | refine below_set ?_ GE306.out) | exact HB.out)) hb); clear HO296; clear HO304; clear BK306; clear HB; have HO296 := n0_; have HO304 := n1_; have HO314 := n2_; have BK306 := n3_; have HB := n4_; clear n0_ n1_ n2_ n3_ n4_; (try clear hb); (try clear hb2); (try clear hk); (try clear hi); (try clear ho0)) | ((with_reducible refine gate_dst (N := 6) rfl ?_); refine box_event ?hg (N := 6) ?hd (cs := #[.int .u64 0, .int .u64 0, .bool false, .int .u16 0, .int .u16 0, .slice none 0 0]) (t := 34) ?hr ?_; (case hd => rfl); (case hg => rfl); (case hr => first | (go_simp; done) | (go_simp; rfl)); intro gb316 hg w19 hbox hb; have n0_ := Aside0.mk (Kd.R_below (by (with_reducible repeat (first | apply Kd.R_alloc | apply Kd.R_drewN | apply Kd.R_drew)); exact HO296.out) hb); have n1_ := Aside0.mk (Kd.R_below (by (with_reducible repeat (first | apply Kd.R_alloc | apply Kd.R_drewN | apply Kd.R_drew)); exact HO304.out) hb); have n2_ := Aside0.mk (Kd.R_below (by (with_reducible repeat (first | apply Kd.R_alloc | apply Kd.R_drewN | apply Kd.R_drew)); exact HO314.out) hb); have n3_ := Aside0.mk (blk_below (g := gb306) (o := .cells #[.int .u64 t297, .int .u64 t298, .bool t299, .int .u16 t300, .int .u16 t301, .slice Ao17 t302.length co17] 39 (0, 0)) (by (with_reducible repeat (first | refine blk_drewN ?_ _ | refine blk_drew ?_ | refine blk_alloc ?_ _)); exact BK306.out) hb); have n4_ := Aside0.mk (below_step (by repeat (first | (with_reducible first | exact HB.out | apply below_alloc | apply pw_below_drewN | apply below_drew1 | refine below_set ?_ GE306.out) | exact HB.out)) hb); have n5_ := Aside0.mk (hbox); have n6_ := Aside0.mk ((by rw [hg]; exact (below_size (by repeat (first | (with_reducible first | exact HB.out | apply below_alloc | apply pw_below_drewN | apply below_drew1 | refine below_set ?_ GE306.out) | exact HB.out))) : w.heap.size ≤ gb316)); have n7_ := Aside0.mk ((by rw [hg]; exact (below_size (by repeat (first | (with_reducible first | exact HB.out | apply below_alloc | apply pw_below_drewN | apply below_drew1 | refine below_set ?_ GE306.out) | exact HB.out))) : w.heap.size ≤ gb316)); have n8_ := Aside0.mk ((by rw [hg]; exact Nat.ne_of_lt (blk_lt (g := gb306) (o := .cells #[.int .u64 t297, .int .u64 t298, .bool t299, .int .u16 t300, .int .u16 t301, .slice Ao17 t302.length co17] 39 (0, 0)) (by (with_reducible repeat (first | refine blk_drewN ?_ _ | refine blk_drew ?_ | refine blk_alloc ?_ _)); exact BK306.out)) : gb306 ≠ gb316)); have n9_ := Aside0.mk ((by rw [hg]; exact Nat.ne_of_gt (blk_lt (g := gb306) (o := .cells #[.int .u64 t297, .int .u64 t298, .bool t299, .int .u16 t300, .int .u16 t301, .slice Ao17 t302.length co17] 39 (0, 0)) (by (with_reducible repeat (first | refine blk_drewN ?_ _ | refine blk_drew ?_ | refine blk_alloc ?_ _)); exact BK306.out)) : gb316 ≠ gb306)); clear HO296; clear HO304; clear HO314; clear BK306; clear HB; have HO296 := n0_; have HO304 := n1_; have HO314 := n2_; have BK306 := n3_; have HB := n4_; have BK316 := n5_; have GW316 := n6_; have GE316 := n7_; have NB306_316 := n8_; have NB316_306 := n9_; clear n0_ n1_ n2_ n3_ n4_ n5_ n6_ n7_ n8_ n9_; clear hb hbox hg; have hnb20 := NB316_306.out; have hnc20 := NB306_316.out; have hcz21_0 : w19.cell? ⟨gb316, 0, none⟩ = some (.int .u64 0) := (blk_cell BK316.out 0).trans rfl; have hcz21_1 : w19.cell? ⟨gb316, 1, none⟩ = some (.int .u64 0) := (blk_cell BK316.out 1).trans rfl; have hcz21_2 : w19.cell? ⟨gb316, 2, none⟩ = some (.bool false) := (blk_cell BK316.out 2).trans rfl; have hcz21_3 : w19.cell? ⟨gb316, 3, none⟩ = some (.int .u16 0) := (blk_cell BK316.out 3).trans rfl; have hcz21_4 : w19.cell? ⟨gb316, 4, none⟩ = some (.int .u16 0) := (blk_cell BK316.out 4).trans rfl; have hcz21_5 : w19.cell? ⟨gb316, 5, none⟩ = some (.slice none 0 0) := (blk_cell BK316.out 5).trans rfl; have hfz21_0 := blk_frozen BK316.out 0; have hfz21_1 := blk_frozen BK316.out 1; have hfz21_2 := blk_frozen BK316.out 2; have hfz21_3 := blk_frozen BK316.out 3; have hfz21_4 := blk_frozen BK316.out 4; have hfz21_5 := blk_frozen BK316.out 5; obtain ⟨Ao22, co22, eo22⟩ := Kd.R_slice HO314.out; subst eo22))
        (try simp only [Act.put, List.setIfInBounds_toArray, List.set_cons_zero, List.set_cons_succ])
        go_cut [47] (fun v47 wc => ∃ (kq : Nat) (x47_7 : Bool), v47 = .bool x47_7 ∧ Aside0 (patchbaylaw02_FrameParses.j0 kq (l0.take ((ji2) : Int).toNat) t315 x47_7 t297 t298 t299 t300 t301 t302 = some r) ∧ Aside0 (kq ≤ k) ∧ Aside0 (Kd.R (Kd.int .u8) 5 wc w.heap.size (fun k_ => some k_ ≠ ((.slice Ao22 t312.length co22) : Value).ownBlock) (.slice Ao17 t302.length co17) t302) ∧ Aside0 (Kd.R (Kd.int .u8) 5 wc w.heap.size (fun k_ => some k_ ≠ ((.slice Ao17 t302.length co17) : Value).ownBlock) (.slice Ao22 t312.length co22) t312) ∧ Aside0 (wc.heap[gb306]? = some (.cells #[.int .u64 t297, .int .u64 t298, .bool t299, .int .u16 t300, .int .u16 t301, (.slice Ao17 t302.length co17)] 39 (0, 0))) ∧ Aside0 (wc.heap[gb316]? = some (.cells #[.int .u64 t307, .int .u64 t308, .bool t309, .int .u16 t310, .int .u16 t311, (.slice Ao22 t312.length co22)] 34 (0, 0))) ∧ Aside0 (Below w.heap.size w wc))
        case first =>
          have H := HC8.out
          clear HC8
          replace H := Option.bind_eq_some_iff.mp H
          obtain ⟨t317, A230, H⟩ := H
          replace H : (if t317 = true then (if t305 = t315 then ((patchbaylaw02_From.f t297 t298 t299 t300 t301 t302).bind fun bt318 => ((patchbaylaw02_same.f k t307 t308 t309 t310 t311 t312 bt318.1 bt318.2.1 bt318.2.2.1 bt318.2.2.2.1 bt318.2.2.2.2.1 bt318.2.2.2.2.2 false).bind fun t326 => (if t326 = true then ((patchbayref01_Same.f k y294 (l0.take ((ji2) : Int).toNat)).bind fun t327 => (patchbaylaw02_FrameParses.j0 k (l0.take ((ji2) : Int).toNat) t315 (!t327) t297 t298 t299 t300 t301 t302)) else (patchbaylaw02_FrameParses.j0 k (l0.take ((ji2) : Int).toNat) t315 true t297 t298 t299 t300 t301 t302)))) else (patchbaylaw02_FrameParses.j0 k (l0.take ((ji2) : Int).toNat) t315 true t297 t298 t299 t300 t301 t302)) else (patchbaylaw02_FrameParses.j0 k (l0.take ((ji2) : Int).toNat) t315 true t297 t298 t299 t300 t301 t302)) = some r := H
          have A23 := Aside0.mk A230
          clear A230
          by_cases c24 : t317 = true
          · subst c24
            have H1 : (if t305 = t315 then ((patchbaylaw02_From.f t297 t298 t299 t300 t301 t302).bind fun bt318 => ((patchbaylaw02_same.f k t307 t308 t309 t310 t311 t312 bt318.1 bt318.2.1 bt318.2.2.1 bt318.2.2.2.1 bt318.2.2.2.2.1 bt318.2.2.2.2.2 false).bind fun t326 => (if t326 = true then ((patchbayref01_Same.f k y294 (l0.take ((ji2) : Int).toNat)).bind fun t327 => (patchbaylaw02_FrameParses.j0 k (l0.take ((ji2) : Int).toNat) t315 (!t327) t297 t298 t299 t300 t301 t302)) else (patchbaylaw02_FrameParses.j0 k (l0.take ((ji2) : Int).toNat) t315 true t297 t298 t299 t300 t301 t302)))) else (patchbaylaw02_FrameParses.j0 k (l0.take ((ji2) : Int).toNat) t315 true t297 t298 t299 t300 t301 t302)) = some r := by rw [if_pos rfl] at H; exact H
            clear H
            have H := H1
            clear H1
            by_cases c25 : t305 = t315
            · rw [if_pos c25] at H
              have c25b0 : (t305 == t315) = true := beq_iff_eq.mpr c25
              have c25b1 : (t305 != t315) = false := bne_eq_false_iff_eq.mpr c25
              clear c25
              (first | rw [c25b0] | (simp only [i64_w, i32_w]; rw [c25b0]) | skip)
              replace H := Option.bind_eq_some_iff.mp H
              obtain ⟨⟨t318, t319, t320, t321, t322, t323⟩, A260, H⟩ := H
              replace H : ((patchbaylaw02_same.f k t307 t308 t309 t310 t311 t312 t318 t319 t320 t321 t322 t323 false).bind fun t326 => (if t326 = true then ((patchbayref01_Same.f k y294 (l0.take ((ji2) : Int).toNat)).bind fun t327 => (patchbaylaw02_FrameParses.j0 k (l0.take ((ji2) : Int).toNat) t315 (!t327) t297 t298 t299 t300 t301 t302)) else (patchbaylaw02_FrameParses.j0 k (l0.take ((ji2) : Int).toNat) t315 true t297 t298 t299 t300 t301 t302))) = some r := H
              have A26 := Aside0.mk A260
              clear A260
              replace H := Option.bind_eq_some_iff.mp H
              obtain ⟨t326, A270, H⟩ := H
              replace H : (if t326 = true then ((patchbayref01_Same.f k y294 (l0.take ((ji2) : Int).toNat)).bind fun t327 => (patchbaylaw02_FrameParses.j0 k (l0.take ((ji2) : Int).toNat) t315 (!t327) t297 t298 t299 t300 t301 t302)) else (patchbaylaw02_FrameParses.j0 k (l0.take ((ji2) : Int).toNat) t315 true t297 t298 t299 t300 t301 t302)) = some r := H
              have A27 := Aside0.mk A270
              clear A270
              by_cases c28 : t326 = true
              · subst c28
                have H1 : ((patchbayref01_Same.f k y294 (l0.take ((ji2) : Int).toNat)).bind fun t327 => (patchbaylaw02_FrameParses.j0 k (l0.take ((ji2) : Int).toNat) t315 (!t327) t297 t298 t299 t300 t301 t302)) = some r := by rw [if_pos rfl] at H; exact H
                clear H
                have H := H1
                clear H1
                replace H := Option.bind_eq_some_iff.mp H
                obtain ⟨t327, A290, H⟩ := H
                replace H : (patchbaylaw02_FrameParses.j0 k (l0.take ((ji2) : Int).toNat) t315 (!t327) t297 t298 t299 t300 t301 t302) = some r := H
                have A29 := Aside0.mk A290
                clear A290
                have H' := Aside0.mk H
                clear H
                try go_wp2
                have n0_ : Aside0 (Kd.R (Kd.int .u8) 5 ((((((w19.setCell ⟨gb316, 0, none⟩ (.int .u64 t307)).setCell ⟨gb316, 1, none⟩ (.int .u64 t308)).setCell ⟨gb316, 2, none⟩ (.bool t309)).setCell ⟨gb316, 3, none⟩ (.int .u16 t310)).setCell ⟨gb316, 4, none⟩ (.int .u16 t311)).setCell ⟨gb316, 5, none⟩ (.slice Ao22 t312.length co22)) w.heap.size (fun k_ => some k_ ≠ (.slice Ao17 t302.length co17 : Value).ownBlock ∧ some k_ ≠ (.slice Ao22 t312.length co22 : Value).ownBlock) (.slice Ao13 y294.length co13) y294) := ⟨by (with_reducible repeat (first | apply Kd.R_alloc | apply Kd.R_drewN | apply Kd.R_drew)); exact Kd.R_mono (Kd.R_far (p := ⟨gb316, 5, none⟩) (Kd.R_far (p := ⟨gb316, 4, none⟩) (Kd.R_far (p := ⟨gb316, 3, none⟩) (Kd.R_far (p := ⟨gb316, 2, none⟩) (Kd.R_far (p := ⟨gb316, 1, none⟩) (Kd.R_far (p := ⟨gb316, 0, none⟩) (Kd.R_types HO296.out BK316.out (by decide)) (fun _ hk => hk.2) (.int .u64 t307)) (fun _ hk => hk.2) (.int .u64 t308)) (fun _ hk => hk.2) (.bool t309)) (fun _ hk => hk.2) (.int .u16 t310)) (fun _ hk => hk.2) (.int .u16 t311)) (fun _ hk => hk.2) (.slice Ao22 t312.length co22)) (fun _ hk => ⟨hk.1.1.2, hk.1.2⟩)⟩
                have n1_ : Aside0 (Kd.R (Kd.int .u8) 5 ((((((w19.setCell ⟨gb316, 0, none⟩ (.int .u64 t307)).setCell ⟨gb316, 1, none⟩ (.int .u64 t308)).setCell ⟨gb316, 2, none⟩ (.bool t309)).setCell ⟨gb316, 3, none⟩ (.int .u16 t310)).setCell ⟨gb316, 4, none⟩ (.int .u16 t311)).setCell ⟨gb316, 5, none⟩ (.slice Ao22 t312.length co22)) w.heap.size (fun k_ => some k_ ≠ (.slice Ao13 y294.length co13 : Value).ownBlock ∧ some k_ ≠ (.slice Ao22 t312.length co22 : Value).ownBlock) (.slice Ao17 t302.length co17) t302) := ⟨by (with_reducible repeat (first | apply Kd.R_alloc | apply Kd.R_drewN | apply Kd.R_drew)); exact Kd.R_mono (Kd.R_far (p := ⟨gb316, 5, none⟩) (Kd.R_far (p := ⟨gb316, 4, none⟩) (Kd.R_far (p := ⟨gb316, 3, none⟩) (Kd.R_far (p := ⟨gb316, 2, none⟩) (Kd.R_far (p := ⟨gb316, 1, none⟩) (Kd.R_far (p := ⟨gb316, 0, none⟩) (Kd.R_types HO304.out BK316.out (by decide)) (fun _ hk => hk.2) (.int .u64 t307)) (fun _ hk => hk.2) (.int .u64 t308)) (fun _ hk => hk.2) (.bool t309)) (fun _ hk => hk.2) (.int .u16 t310)) (fun _ hk => hk.2) (.int .u16 t311)) (fun _ hk => hk.2) (.slice Ao22 t312.length co22)) (fun _ hk => ⟨hk.1.1.2, hk.1.2⟩)⟩
                have n2_ : Aside0 (Kd.R (Kd.int .u8) 5 ((((((w19.setCell ⟨gb316, 0, none⟩ (.int .u64 t307)).setCell ⟨gb316, 1, none⟩ (.int .u64 t308)).setCell ⟨gb316, 2, none⟩ (.bool t309)).setCell ⟨gb316, 3, none⟩ (.int .u16 t310)).setCell ⟨gb316, 4, none⟩ (.int .u16 t311)).setCell ⟨gb316, 5, none⟩ (.slice Ao22 t312.length co22)) w.heap.size (fun k_ => some k_ ≠ (.slice Ao13 y294.length co13 : Value).ownBlock ∧ some k_ ≠ (.slice Ao17 t302.length co17 : Value).ownBlock) (.slice Ao22 t312.length co22) t312) := ⟨by (with_reducible repeat (first | apply Kd.R_alloc | apply Kd.R_drewN | apply Kd.R_drew)); exact Kd.R_mono (Kd.R_far (p := ⟨gb316, 5, none⟩) (Kd.R_far (p := ⟨gb316, 4, none⟩) (Kd.R_far (p := ⟨gb316, 3, none⟩) (Kd.R_far (p := ⟨gb316, 2, none⟩) (Kd.R_far (p := ⟨gb316, 1, none⟩) (Kd.R_far (p := ⟨gb316, 0, none⟩) (Kd.R_types HO314.out BK316.out (by decide)) (fun _ hk => hk.2) (.int .u64 t307)) (fun _ hk => hk.2) (.int .u64 t308)) (fun _ hk => hk.2) (.bool t309)) (fun _ hk => hk.2) (.int .u16 t310)) (fun _ hk => hk.2) (.int .u16 t311)) (fun _ hk => hk.2) (.slice Ao22 t312.length co22)) (fun _ hk => ⟨hk.1.1.2, hk.1.2⟩)⟩
                have n3_ : Aside0 (((((((w19.setCell ⟨gb316, 0, none⟩ (.int .u64 t307)).setCell ⟨gb316, 1, none⟩ (.int .u64 t308)).setCell ⟨gb316, 2, none⟩ (.bool t309)).setCell ⟨gb316, 3, none⟩ (.int .u16 t310)).setCell ⟨gb316, 4, none⟩ (.int .u16 t311)).setCell ⟨gb316, 5, none⟩ (.slice Ao22 t312.length co22)).heap[gb306]? = some (.cells #[.int .u64 t297, .int .u64 t298, .bool t299, .int .u16 t300, .int .u16 t301, .slice Ao17 t302.length co17] 39 (0, 0))) := ⟨by (with_reducible repeat (first | refine blk_drewN ?_ _ | refine blk_drew ?_ | refine blk_alloc ?_ _)); refine blk_far ?_ NB306_316.out _; (with_reducible repeat (first | refine blk_drewN ?_ _ | refine blk_drew ?_ | refine blk_alloc ?_ _)); refine blk_far ?_ NB306_316.out _; (with_reducible repeat (first | refine blk_drewN ?_ _ | refine blk_drew ?_ | refine blk_alloc ?_ _)); refine blk_far ?_ NB306_316.out _; (with_reducible repeat (first | refine blk_drewN ?_ _ | refine blk_drew ?_ | refine blk_alloc ?_ _)); refine blk_far ?_ NB306_316.out _; (with_reducible repeat (first | refine blk_drewN ?_ _ | refine blk_drew ?_ | refine blk_alloc ?_ _)); refine blk_far ?_ NB306_316.out _; (with_reducible repeat (first | refine blk_drewN ?_ _ | refine blk_drew ?_ | refine blk_alloc ?_ _)); refine blk_far ?_ NB306_316.out _; (with_reducible repeat (first | refine blk_drewN ?_ _ | refine blk_drew ?_ | refine blk_alloc ?_ _)); exact BK306.out⟩
                have n4_ : Aside0 (((((((w19.setCell ⟨gb316, 0, none⟩ (.int .u64 t307)).setCell ⟨gb316, 1, none⟩ (.int .u64 t308)).setCell ⟨gb316, 2, none⟩ (.bool t309)).setCell ⟨gb316, 3, none⟩ (.int .u16 t310)).setCell ⟨gb316, 4, none⟩ (.int .u16 t311)).setCell ⟨gb316, 5, none⟩ (.slice Ao22 t312.length co22)).heap[gb316]? = some (.cells #[.int .u64 t307, .int .u64 t308, .bool t309, .int .u16 t310, .int .u16 t311, .slice Ao22 t312.length co22] 34 (0, 0))) := ⟨by (with_reducible repeat (first | refine blk_drewN ?_ _ | refine blk_drew ?_ | refine blk_alloc ?_ _)); refine blk_put (cs := #[.int .u64 t307, .int .u64 t308, .bool t309, .int .u16 t310, .int .u16 t311, .slice none 0 0]) ?_ 5 _ rfl; (with_reducible repeat (first | refine blk_drewN ?_ _ | refine blk_drew ?_ | refine blk_alloc ?_ _)); refine blk_put (cs := #[.int .u64 t307, .int .u64 t308, .bool t309, .int .u16 t310, .int .u16 0, .slice none 0 0]) ?_ 4 _ rfl; (with_reducible repeat (first | refine blk_drewN ?_ _ | refine blk_drew ?_ | refine blk_alloc ?_ _)); refine blk_put (cs := #[.int .u64 t307, .int .u64 t308, .bool t309, .int .u16 0, .int .u16 0, .slice none 0 0]) ?_ 3 _ rfl; (with_reducible repeat (first | refine blk_drewN ?_ _ | refine blk_drew ?_ | refine blk_alloc ?_ _)); refine blk_put (cs := #[.int .u64 t307, .int .u64 t308, .bool false, .int .u16 0, .int .u16 0, .slice none 0 0]) ?_ 2 _ rfl; (with_reducible repeat (first | refine blk_drewN ?_ _ | refine blk_drew ?_ | refine blk_alloc ?_ _)); refine blk_put (cs := #[.int .u64 t307, .int .u64 0, .bool false, .int .u16 0, .int .u16 0, .slice none 0 0]) ?_ 1 _ rfl; (with_reducible repeat (first | refine blk_drewN ?_ _ | refine blk_drew ?_ | refine blk_alloc ?_ _)); refine blk_put (cs := #[.int .u64 0, .int .u64 0, .bool false, .int .u16 0, .int .u16 0, .slice none 0 0]) ?_ 0 _ rfl; (with_reducible repeat (first | refine blk_drewN ?_ _ | refine blk_drew ?_ | refine blk_alloc ?_ _)); exact BK316.out⟩
                have n5_ : Aside0 (Below w.heap.size w ((((((w19.setCell ⟨gb316, 0, none⟩ (.int .u64 t307)).setCell ⟨gb316, 1, none⟩ (.int .u64 t308)).setCell ⟨gb316, 2, none⟩ (.bool t309)).setCell ⟨gb316, 3, none⟩ (.int .u16 t310)).setCell ⟨gb316, 4, none⟩ (.int .u16 t311)).setCell ⟨gb316, 5, none⟩ (.slice Ao22 t312.length co22))) := ⟨by repeat (first | (with_reducible first | exact HB.out | apply below_alloc | apply pw_below_drewN | apply below_drew1 | refine below_set ?_ GE306.out | refine below_set ?_ GE316.out) | exact HB.out)⟩
                (try clear HO296)
                (try clear HO304)
                (try clear HO314)
                (try clear BK306)
                (try clear BK316)
                (try clear HB)
                generalize ((((((w19.setCell ⟨gb316, 0, none⟩ (.int .u64 t307)).setCell ⟨gb316, 1, none⟩ (.int .u64 t308)).setCell ⟨gb316, 2, none⟩ (.bool t309)).setCell ⟨gb316, 3, none⟩ (.int .u16 t310)).setCell ⟨gb316, 4, none⟩ (.int .u16 t311)).setCell ⟨gb316, 5, none⟩ (.slice Ao22 t312.length co22)) = w30 at n0_ n1_ n2_ n3_ n4_ n5_ ⊢
                have HO296 := n0_
                have HO304 := n1_
                have HO314 := n2_
                have BK306 := n3_
                have BK316 := n4_
                have HB := n5_
                clear n0_ n1_ n2_ n3_ n4_ n5_
                have n0_ := Aside0.mk (Kd.R_drew HO296.out)
                have n1_ := Aside0.mk (Kd.R_drew HO304.out)
                have n2_ := Aside0.mk (Kd.R_drew HO314.out)
                have n3_ := Aside0.mk (blk_drew BK306.out)
                have n4_ := Aside0.mk (blk_drew BK316.out)
                have n5_ := Aside0.mk (below_drew1 HB.out)
                clear HO296
                clear HO304
                clear HO314
                clear BK306
                clear BK316
                clear HB
                have HO296 := n0_
                have HO304 := n1_
                have HO314 := n2_
                have BK306 := n3_
                have BK316 := n4_
                have HB := n5_
                clear n0_ n1_ n2_ n3_ n4_ n5_
                refine start_ (n := 20) (S := fun w' => w'.cell? ⟨gb316, 0, none⟩ = some (.int .u64 t307) ∧ w'.cell? ⟨gb316, 1, none⟩ = some (.int .u64 t308) ∧ w'.cell? ⟨gb316, 2, none⟩ = some (.bool t309) ∧ w'.cell? ⟨gb316, 3, none⟩ = some (.int .u16 t310) ∧ w'.cell? ⟨gb316, 4, none⟩ = some (.int .u16 t311) ∧ w'.cell? ⟨gb316, 5, none⟩ = some (.slice Ao22 t312.length co22) ∧ w'.cell? ⟨gb306, 0, none⟩ = some (.int .u64 t297) ∧ w'.cell? ⟨gb306, 1, none⟩ = some (.int .u64 t298) ∧ w'.cell? ⟨gb306, 2, none⟩ = some (.bool t299) ∧ w'.cell? ⟨gb306, 3, none⟩ = some (.int .u16 t300) ∧ w'.cell? ⟨gb306, 4, none⟩ = some (.int .u16 t301) ∧ w'.cell? ⟨gb306, 5, none⟩ = some (.slice Ao17 t302.length co17)) (ds := []) #[false, false, false, false, false, false, false, false, false, false, false, false, false, false, false, false, false, false, false, false] (by kernel_rfl) rfl rfl ⟨(blk_cell BK316.out 0).trans rfl, (blk_cell BK316.out 1).trans rfl, (blk_cell BK316.out 2).trans rfl, (blk_cell BK316.out 3).trans rfl, (blk_cell BK316.out 4).trans rfl, (blk_cell BK316.out 5).trans rfl, (blk_cell BK306.out 0).trans rfl, (blk_cell BK306.out 1).trans rfl, (blk_cell BK306.out 2).trans rfl, (blk_cell BK306.out 3).trans rfl, (blk_cell BK306.out 4).trans rfl, (blk_cell BK306.out 5).trans rfl⟩ (fun hHeld => ?_); refine with_tabW patchbaylaw02_FrameParses.tab5 patchbaylaw02_FrameParses.bits5 (fun HT_ HW_ => ?_)
                generalize w30.drew = w31 at HO296 HO304 HO314 BK306 BK316 HB hHeld ⊢
                refine one_ (i := 0) (N := some 28) #[true, false, false, false, false, false, false, false, false, false, false, false, false, false, false, false, false, false, false, false] rfl rfl (one_of HT_.out (by kernel_rfl)) (by decide) (fun K hK => ?_)
                refine goes_ Try.func18 (by kernel_rfl) rfl #[] (by rfl) rfl rfl (by (try simp only [List.map_toArray, List.map_cons, List.map_nil]); first | done | rfl | (simp only [List.length_drop, List.length_take]; rfl)) ?_
                with_reducible refine (patchbaylaw02_told.calls k  true _ A23.out).mono ?_
                rintro e w32 ⟨rfl, hb⟩
                refine ⟨_, rfl, ?_⟩
                have n0_ := Aside0.mk (Kd.R_below (by (with_reducible repeat (first | apply Kd.R_alloc | apply Kd.R_drewN | apply Kd.R_drew)); exact HO296.out) hb)
                have n1_ := Aside0.mk (Kd.R_below (by (with_reducible repeat (first | apply Kd.R_alloc | apply Kd.R_drewN | apply Kd.R_drew)); exact HO304.out) hb)
                have n2_ := Aside0.mk (Kd.R_below (by (with_reducible repeat (first | apply Kd.R_alloc | apply Kd.R_drewN | apply Kd.R_drew)); exact HO314.out) hb)
                have n3_ := Aside0.mk (blk_below (g := gb306) (o := .cells #[.int .u64 t297, .int .u64 t298, .bool t299, .int .u16 t300, .int .u16 t301, .slice Ao17 t302.length co17] 39 (0, 0)) (by (with_reducible repeat (first | refine blk_drewN ?_ _ | refine blk_drew ?_ | refine blk_alloc ?_ _)); exact BK306.out) hb)
                have n4_ := Aside0.mk (blk_below (g := gb316) (o := .cells #[.int .u64 t307, .int .u64 t308, .bool t309, .int .u16 t310, .int .u16 t311, .slice Ao22 t312.length co22] 34 (0, 0)) (by (with_reducible repeat (first | refine blk_drewN ?_ _ | refine blk_drew ?_ | refine blk_alloc ?_ _)); exact BK316.out) hb)
                have n5_ := Aside0.mk (below_step (by repeat (first | (with_reducible first | exact HB.out | apply below_alloc | apply pw_below_drewN | apply below_drew1 | refine below_set ?_ GE306.out | refine below_set ?_ GE316.out) | exact HB.out)) hb)
                clear HO296
                clear HO304
                clear HO314
                clear BK306
                clear BK316
                clear HB
                have HO296 := n0_
                have HO304 := n1_
                have HO314 := n2_
                have BK306 := n3_
                have BK316 := n4_
                have HB := n5_
                clear n0_ n1_ n2_ n3_ n4_ n5_
                (try clear hb)
                (try clear hb2)
                (try clear hk)
                (try clear hi)
                refine hK.out _ _ ⟨(blk_cell BK316.out 0).trans rfl, (blk_cell BK316.out 1).trans rfl, (blk_cell BK316.out 2).trans rfl, (blk_cell BK316.out 3).trans rfl, (blk_cell BK316.out 4).trans rfl, (blk_cell BK316.out 5).trans rfl, (blk_cell BK306.out 0).trans rfl, (blk_cell BK306.out 1).trans rfl, (blk_cell BK306.out 2).trans rfl, (blk_cell BK306.out 3).trans rfl, (blk_cell BK306.out 4).trans rfl, (blk_cell BK306.out 5).trans rfl⟩ (fun hHeld => ?_)
                clear hK K
                refine norm_ (a' := ?_) ?_ ?_
                rotate_left
                · show Act.put _ (some 28) _ = _
                  simp only [Act.put, List.setIfInBounds_toArray, List.set_cons_zero, List.set_cons_succ, i64_w, i32_w]
                  rfl
                refine pure_ (i := 1) (N := some 29) (v := ?_) (a' := ?_) #[true, true, false, false, false, false, false, false, false, false, false, false, false, false, false, false, false, false, false, false] rfl rfl (any_of HT_.out (by kernel_rfl)) (fun _ _ _ h => h) (Or.inl ⟨by rfl, ?_⟩) ?_ ?_
                rotate_left
                · intro w'
                  go_simp
                  with_reducible rfl
                rotate_left
                · simp only [Act.put, List.setIfInBounds_toArray, List.set_cons_zero, List.set_cons_succ, i64_w, i32_w]
                  rfl
                refine pure_ (i := 2) (N := some 30) (v := ?_) (a' := ?_) #[true, true, true, false, false, false, false, false, false, false, false, false, false, false, false, false, false, false, false, false] rfl rfl (any_of HT_.out (by kernel_rfl)) (fun _ _ _ h => h) (Or.inl ⟨by rfl, ?_⟩) ?_ ?_
                rotate_left
                · intro w'
                  go_simp
                  with_reducible rfl
                rotate_left
                · simp only [Act.put, List.setIfInBounds_toArray, List.set_cons_zero, List.set_cons_succ, i64_w, i32_w]
                  rfl
                refine pure_ (i := 3) (N := some 31) (v := ?_) (a' := ?_) #[true, true, true, true, false, false, false, false, false, false, false, false, false, false, false, false, false, false, false, false] rfl rfl (any_of HT_.out (by kernel_rfl)) (fun _ _ _ h => h) (Or.inl ⟨by rfl, ?_⟩) ?_ ?_
                rotate_left
                · intro w'
                  go_simp
                  with_reducible rfl
                rotate_left
                · simp only [Act.put, List.setIfInBounds_toArray, List.set_cons_zero, List.set_cons_succ, i64_w, i32_w]
                  rfl
                refine pure_ (i := 4) (N := some 32) (v := ?_) (a' := ?_) #[true, true, true, true, true, false, false, false, false, false, false, false, false, false, false, false, false, false, false, false] rfl rfl (any_of HT_.out (by kernel_rfl)) (fun _ _ _ h => h) (Or.inl ⟨by rfl, ?_⟩) ?_ ?_
                rotate_left
                · intro w'
                  go_simp
                  with_reducible rfl
                rotate_left
                · simp only [Act.put, List.setIfInBounds_toArray, List.set_cons_zero, List.set_cons_succ, i64_w, i32_w]
                  rfl
                refine pure_ (i := 5) (N := some 33) (v := ?_) (a' := ?_) #[true, true, true, true, true, true, false, false, false, false, false, false, false, false, false, false, false, false, false, false] rfl rfl (any_of HT_.out (by kernel_rfl)) (fun _ _ _ h => h) (Or.inl ⟨by rfl, ?_⟩) ?_ ?_
                rotate_left
                · intro w'
                  go_simp
                  with_reducible rfl
                rotate_left
                · simp only [Act.put, List.setIfInBounds_toArray, List.set_cons_zero, List.set_cons_succ, i64_w, i32_w]
                  rfl
                refine pure_ (i := 6) (N := some 34) (v := ?_) (a' := ?_) #[true, true, true, true, true, true, true, false, false, false, false, false, false, false, false, false, false, false, false, false] rfl rfl (any_of HT_.out (by kernel_rfl)) (fun _ _ _ h => h) (Or.inl ⟨by rfl, ?_⟩) ?_ ?_
                rotate_left
                · intro w'
                  go_simp
                  with_reducible rfl
                rotate_left
                · simp only [Act.put, List.setIfInBounds_toArray, List.set_cons_zero, List.set_cons_succ, i64_w, i32_w]
                  rfl
                refine pure_ (i := 7) (N := some 35) (v := ?_) (a' := ?_) #[true, true, true, true, true, true, true, true, false, false, false, false, false, false, false, false, false, false, false, false] rfl rfl (any_of HT_.out (by kernel_rfl)) (fun _ _ _ h => h) (Or.inl ⟨by rfl, ?_⟩) ?_ ?_
                rotate_left
                · intro w'
                  go_simp
                  with_reducible rfl
                rotate_left
                · simp only [Act.put, List.setIfInBounds_toArray, List.set_cons_zero, List.set_cons_succ, i64_w, i32_w]
                  rfl
                refine take_ (i := 8) (N := some 36) (v := ?_) (a' := ?_) #[true, true, true, true, true, true, true, true, true, false, false, false, false, false, false, false, false, false, false, false] rfl rfl (take_ofW HT_.out HW_.out (by kernel_rfl)) (fun _ _ _ h => h) (Or.inl ⟨by rfl, ?_⟩) hHeld ?_ ?_
                rotate_left
                · rintro w' ⟨s0, s1, s2, s3, s4, s5, s6, s7, s8, s9, s10, s11⟩
                  go_simp
                  with_reducible rfl
                rotate_left
                · simp only [Act.put, List.setIfInBounds_toArray, List.set_cons_zero, List.set_cons_succ, i64_w, i32_w]
                  rfl
                refine take_ (i := 9) (N := some 37) (v := ?_) (a' := ?_) #[true, true, true, true, true, true, true, true, true, true, false, false, false, false, false, false, false, false, false, false] rfl rfl (take_ofW HT_.out HW_.out (by kernel_rfl)) (fun _ _ _ h => h) (Or.inl ⟨by rfl, ?_⟩) hHeld ?_ ?_
                rotate_left
                · rintro w' ⟨s0, s1, s2, s3, s4, s5, s6, s7, s8, s9, s10, s11⟩
                  go_simp
                  with_reducible rfl
                rotate_left
                · simp only [Act.put, List.setIfInBounds_toArray, List.set_cons_zero, List.set_cons_succ, i64_w, i32_w]
                  rfl
                refine one_ (i := 10) (N := some 38) #[true, true, true, true, true, true, true, true, true, true, true, false, false, false, false, false, false, false, false, false] rfl rfl (one_of HT_.out (by kernel_rfl)) (by decide) (fun K hK => ?_)
                refine goes_ Try.func41 (by kernel_rfl) rfl #[.agg #[.int .u64 t297, .int .u64 t298, .bool t299, .int .u16 t300, .int .u16 t301, .slice Ao17 t302.length co17]] (by rfl) rfl rfl (by (try simp only [List.map_toArray, List.map_cons, List.map_nil]); first | done | rfl | (simp only [List.length_drop, List.length_take]; rfl)) ?_
                with_reducible refine (patchbaylaw02_From.calls t297 t298 t299 t300 t301 _ _ t302 t318 t319 t320 t321 t322 t323 _ ?side1 ?side2 A26.out).mono ?_
                (case side1 => repeat (first | exact (Kd.R_reads' HO304.out).2.2 | (with_reducible refine Kd.C_alloc ?_ _) | (with_reducible refine Kd.C_drewN ?_ _) | (with_reducible refine Kd.C_drew ?_)))
                (case side2 => exact (Kd.R_reads' HO304.out).2.1)
                rintro e w33 ⟨v324, rfl, ho0, hb⟩
                refine ⟨_, rfl, ?_⟩
                have n0_ := Aside0.mk (Kd.R_elder' (by (with_reducible repeat (first | apply Kd.R_alloc | apply Kd.R_drewN | apply Kd.R_drew)); exact HO296.out) (Kd.R_base ho0) hb)
                have n1_ := Aside0.mk (Kd.R_elder' (by (with_reducible repeat (first | apply Kd.R_alloc | apply Kd.R_drewN | apply Kd.R_drew)); exact HO304.out) (Kd.R_base ho0) hb)
                have n2_ := Aside0.mk (Kd.R_elder' (by (with_reducible repeat (first | apply Kd.R_alloc | apply Kd.R_drewN | apply Kd.R_drew)); exact HO314.out) (Kd.R_base ho0) hb)
                have n3_ := Aside0.mk (Kd.R_lower (Kd.R_new' (Kd.R_new' (Kd.R_new' ho0 (Kd.R_lt (by (with_reducible repeat (first | apply Kd.R_alloc | apply Kd.R_drewN | apply Kd.R_drew)); exact HO296.out))) (Kd.R_lt (by (with_reducible repeat (first | apply Kd.R_alloc | apply Kd.R_drewN | apply Kd.R_drew)); exact HO304.out))) (Kd.R_lt (by (with_reducible repeat (first | apply Kd.R_alloc | apply Kd.R_drewN | apply Kd.R_drew)); exact HO314.out))) (below_size (by repeat (first | (with_reducible first | exact HB.out | apply below_alloc | apply pw_below_drewN | apply below_drew1 | refine below_set ?_ GE306.out | refine below_set ?_ GE316.out) | exact HB.out))))
                have n4_ := Aside0.mk (blk_below (g := gb306) (o := .cells #[.int .u64 t297, .int .u64 t298, .bool t299, .int .u16 t300, .int .u16 t301, .slice Ao17 t302.length co17] 39 (0, 0)) (by (with_reducible repeat (first | refine blk_drewN ?_ _ | refine blk_drew ?_ | refine blk_alloc ?_ _)); exact BK306.out) hb)
                have n5_ := Aside0.mk (blk_below (g := gb316) (o := .cells #[.int .u64 t307, .int .u64 t308, .bool t309, .int .u16 t310, .int .u16 t311, .slice Ao22 t312.length co22] 34 (0, 0)) (by (with_reducible repeat (first | refine blk_drewN ?_ _ | refine blk_drew ?_ | refine blk_alloc ?_ _)); exact BK316.out) hb)
                have n6_ := Aside0.mk (below_step (by repeat (first | (with_reducible first | exact HB.out | apply below_alloc | apply pw_below_drewN | apply below_drew1 | refine below_set ?_ GE306.out | refine below_set ?_ GE316.out) | exact HB.out)) hb)
                clear HO296
                clear HO304
                clear HO314
                clear BK306
                clear BK316
                clear HB
                have HO296 := n0_
                have HO304 := n1_
                have HO314 := n2_
                have HO325 := n3_
                have BK306 := n4_
                have BK316 := n5_
                have HB := n6_
                clear n0_ n1_ n2_ n3_ n4_ n5_ n6_
                (try clear hb)
                (try clear hb2)
                (try clear hk)
                (try clear hi)
                (try clear ho0)
                obtain ⟨Ao34, co34, eo34⟩ := Kd.R_slice HO325.out
                (first | subst eo34 | (injection eo34 with f1_ f2_ f3_; have f4_ := f1_.symm; have f5_ := f3_.symm; clear f1_ f2_ f3_; subst f4_; subst f5_))
                refine hK.out _ _ ⟨(blk_cell BK316.out 0).trans rfl, (blk_cell BK316.out 1).trans rfl, (blk_cell BK316.out 2).trans rfl, (blk_cell BK316.out 3).trans rfl, (blk_cell BK316.out 4).trans rfl, (blk_cell BK316.out 5).trans rfl, (blk_cell BK306.out 0).trans rfl, (blk_cell BK306.out 1).trans rfl, (blk_cell BK306.out 2).trans rfl, (blk_cell BK306.out 3).trans rfl, (blk_cell BK306.out 4).trans rfl, (blk_cell BK306.out 5).trans rfl⟩ (fun hHeld => ?_)
                clear hK K
                refine norm_ (a' := ?_) ?_ ?_
                rotate_left
                · show Act.put _ (some 38) _ = _
                  simp only [Act.put, List.setIfInBounds_toArray, List.set_cons_zero, List.set_cons_succ, i64_w, i32_w]
                  rfl
                refine one_ (i := 11) (N := some 39) #[true, true, true, true, true, true, true, true, true, true, true, true, false, false, false, false, false, false, false, false] rfl rfl (one_of HT_.out (by kernel_rfl)) (by decide) (fun K hK => ?_)
                refine goes_ Try.func40 (by kernel_rfl) rfl #[.agg #[.int .u64 t307, .int .u64 t308, .bool t309, .int .u16 t310, .int .u16 t311, .slice Ao22 t312.length co22], .agg #[.int .u64 t318, .int .u64 t319, .bool t320, .int .u16 t321, .int .u16 t322, .slice Ao34 t323.length co34], .bool false] (by rfl) rfl rfl (by (try simp only [List.map_toArray, List.map_cons, List.map_nil]); first | done | rfl | (simp only [List.length_drop, List.length_take]; rfl)) ?_
                with_reducible refine (patchbaylaw02_same.calls k t307 t308 t309 t310 t311 _ _ t312 t318 t319 t320 t321 t322 _ _ t323 false true _ ?side1 ?side2 ?side3 ?side4 A27.out).mono ?_
                (case side1 => repeat (first | exact (Kd.R_reads' HO314.out).2.2 | (with_reducible refine Kd.C_alloc ?_ _) | (with_reducible refine Kd.C_drewN ?_ _) | (with_reducible refine Kd.C_drew ?_)))
                (case side2 => exact (Kd.R_reads' HO314.out).2.1)
                (case side3 => repeat (first | exact (Kd.R_reads' HO325.out).2.2 | (with_reducible refine Kd.C_alloc ?_ _) | (with_reducible refine Kd.C_drewN ?_ _) | (with_reducible refine Kd.C_drew ?_)))
                (case side4 => exact (Kd.R_reads' HO325.out).2.1)
                rintro e w35 ⟨rfl, hb⟩
                refine ⟨_, rfl, ?_⟩
                have n0_ := Aside0.mk (Kd.R_below (by (with_reducible repeat (first | apply Kd.R_alloc | apply Kd.R_drewN | apply Kd.R_drew)); exact HO296.out) hb)
                have n1_ := Aside0.mk (Kd.R_below (by (with_reducible repeat (first | apply Kd.R_alloc | apply Kd.R_drewN | apply Kd.R_drew)); exact HO304.out) hb)
                have n2_ := Aside0.mk (Kd.R_below (by (with_reducible repeat (first | apply Kd.R_alloc | apply Kd.R_drewN | apply Kd.R_drew)); exact HO314.out) hb)
                have n3_ := Aside0.mk (Kd.R_below (by (with_reducible repeat (first | apply Kd.R_alloc | apply Kd.R_drewN | apply Kd.R_drew)); exact HO325.out) hb)
                have n4_ := Aside0.mk (blk_below (g := gb306) (o := .cells #[.int .u64 t297, .int .u64 t298, .bool t299, .int .u16 t300, .int .u16 t301, .slice Ao17 t302.length co17] 39 (0, 0)) (by (with_reducible repeat (first | refine blk_drewN ?_ _ | refine blk_drew ?_ | refine blk_alloc ?_ _)); exact BK306.out) hb)
                have n5_ := Aside0.mk (blk_below (g := gb316) (o := .cells #[.int .u64 t307, .int .u64 t308, .bool t309, .int .u16 t310, .int .u16 t311, .slice Ao22 t312.length co22] 34 (0, 0)) (by (with_reducible repeat (first | refine blk_drewN ?_ _ | refine blk_drew ?_ | refine blk_alloc ?_ _)); exact BK316.out) hb)
                have n6_ := Aside0.mk (below_step (by repeat (first | (with_reducible first | exact HB.out | apply below_alloc | apply pw_below_drewN | apply below_drew1 | refine below_set ?_ GE306.out | refine below_set ?_ GE316.out) | exact HB.out)) hb)
                clear HO296
                clear HO304
                clear HO314
                clear HO325
                clear BK306
                clear BK316
                clear HB
                have HO296 := n0_
                have HO304 := n1_
                have HO314 := n2_
                have HO325 := n3_
                have BK306 := n4_
                have BK316 := n5_
                have HB := n6_
                clear n0_ n1_ n2_ n3_ n4_ n5_ n6_
                (try clear hb)
                (try clear hb2)
                (try clear hk)
                (try clear hi)
                refine hK.out _ _ ⟨(blk_cell BK316.out 0).trans rfl, (blk_cell BK316.out 1).trans rfl, (blk_cell BK316.out 2).trans rfl, (blk_cell BK316.out 3).trans rfl, (blk_cell BK316.out 4).trans rfl, (blk_cell BK316.out 5).trans rfl, (blk_cell BK306.out 0).trans rfl, (blk_cell BK306.out 1).trans rfl, (blk_cell BK306.out 2).trans rfl, (blk_cell BK306.out 3).trans rfl, (blk_cell BK306.out 4).trans rfl, (blk_cell BK306.out 5).trans rfl⟩ (fun hHeld => ?_)
                clear hK K
                refine norm_ (a' := ?_) ?_ ?_
                rotate_left
                · show Act.put _ (some 39) _ = _
                  simp only [Act.put, List.setIfInBounds_toArray, List.set_cons_zero, List.set_cons_succ, i64_w, i32_w]
                  rfl
                refine pure_ (i := 12) (N := some 40) (v := ?_) (a' := ?_) #[true, true, true, true, true, true, true, true, true, true, true, true, true, false, false, false, false, false, false, false] rfl rfl (any_of HT_.out (by kernel_rfl)) (fun _ _ _ h => h) (Or.inl ⟨by rfl, ?_⟩) ?_ ?_
                rotate_left
                · intro w'
                  go_simp
                  with_reducible rfl
                rotate_left
                · simp only [Act.put, List.setIfInBounds_toArray, List.set_cons_zero, List.set_cons_succ, i64_w, i32_w]
                  rfl
                refine pure_ (i := 13) (N := some 41) (v := ?_) (a' := ?_) #[true, true, true, true, true, true, true, true, true, true, true, true, true, true, false, false, false, false, false, false] rfl rfl (any_of HT_.out (by kernel_rfl)) (fun _ _ _ h => h) (Or.inl ⟨by rfl, ?_⟩) ?_ ?_
                rotate_left
                · intro w'
                  go_simp
                  with_reducible rfl
                rotate_left
                · simp only [Act.put, List.setIfInBounds_toArray, List.set_cons_zero, List.set_cons_succ, i64_w, i32_w]
                  rfl
                refine pure_ (i := 14) (N := some 42) (v := ?_) (a' := ?_) #[true, true, true, true, true, true, true, true, true, true, true, true, true, true, true, false, false, false, false, false] rfl rfl (any_of HT_.out (by kernel_rfl)) (fun _ _ _ h => h) (Or.inl ⟨by rfl, ?_⟩) ?_ ?_
                rotate_left
                · intro w'
                  go_simp
                  with_reducible rfl
                rotate_left
                · simp only [Act.put, List.setIfInBounds_toArray, List.set_cons_zero, List.set_cons_succ, i64_w, i32_w]
                  rfl
                refine pure_ (i := 15) (N := some 43) (v := ?_) (a' := ?_) #[true, true, true, true, true, true, true, true, true, true, true, true, true, true, true, true, false, false, false, false] rfl rfl (any_of HT_.out (by kernel_rfl)) (fun _ _ _ h => h) (Or.inl ⟨by rfl, ?_⟩) ?_ ?_
                rotate_left
                · intro w'
                  go_simp
                  with_reducible rfl
                rotate_left
                · simp only [Act.put, List.setIfInBounds_toArray, List.set_cons_zero, List.set_cons_succ, i64_w, i32_w]
                  rfl
                refine pure_ (i := 16) (N := some 44) (v := ?_) (a' := ?_) #[true, true, true, true, true, true, true, true, true, true, true, true, true, true, true, true, true, false, false, false] rfl rfl (any_of HT_.out (by kernel_rfl)) (fun _ _ _ h => h) (Or.inl ⟨by rfl, ?_⟩) ?_ ?_
                rotate_left
                · intro w'
                  go_simp
                  with_reducible rfl
                rotate_left
                · simp only [Act.put, List.setIfInBounds_toArray, List.set_cons_zero, List.set_cons_succ, i64_w, i32_w]
                  rfl
                refine one_ (i := 17) (N := some 45) #[true, true, true, true, true, true, true, true, true, true, true, true, true, true, true, true, true, true, false, false] rfl rfl (one_of HT_.out (by kernel_rfl)) (by decide) (fun K hK => ?_)
                refine goes_ Try.func19 (by kernel_rfl) rfl #[.slice Ao13 y294.length co13, .slice A0 (l0.take ((ji2) : Int).toNat).length c0] (by rfl) rfl rfl (by (try simp only [List.map_toArray, List.map_cons, List.map_nil]); first | done | (rw [(show (l0.take ((ji2) : Int).toNat).length = ((ji2 : Int).toNat : Nat) from (by rw [List.length_take]; have h_ : (ji2 : Int) ≤ (l0.length : Int) := of_decide_eq_true (by first | (with_reducible assumption) | assumption); omega))] <;> rfl) | (rw [show (l0.take ((ji2) : Int).toNat).length = (ji2).toNat from (by rw [List.length_take]; have h_ : ((ji2) : Int) ≤ (l0.length : Int) := of_decide_eq_true (by first | (with_reducible assumption) | assumption); omega)] <;> rfl) | (simp only [hji2]; rfl) | rfl | (simp only [List.length_drop, List.length_take]; rfl)) ?_
                with_reducible refine (patchbayref01_Same.calls k _ _ y294 _ _ (l0.take ((ji2) : Int).toNat) t327 _ ?side1 ?side2 ?side3 ?side4 A29.out).mono ?_
                (case side1 => repeat (first | exact (Kd.R_reads' HO296.out).2.2 | (with_reducible refine Kd.C_alloc ?_ _) | (with_reducible refine Kd.C_drewN ?_ _) | (with_reducible refine Kd.C_drew ?_)))
                (case side2 => exact (Kd.R_reads' HO296.out).2.1)
                (case side3 => repeat (first | exact (Kd.C_below HR290.out HB.out) | (with_reducible refine Kd.C_alloc ?_ _) | (with_reducible refine Kd.C_drewN ?_ _) | (with_reducible refine Kd.C_drew ?_)))
                (case side4 => exact HC290.out)
                rintro e w' ⟨rfl, ⟨nd, rfl⟩⟩
                refine ⟨_, rfl, ?_⟩
                refine hK.out _ _ ⟨(blk_cell BK316.out 0).trans rfl, (blk_cell BK316.out 1).trans rfl, (blk_cell BK316.out 2).trans rfl, (blk_cell BK316.out 3).trans rfl, (blk_cell BK316.out 4).trans rfl, (blk_cell BK316.out 5).trans rfl, (blk_cell BK306.out 0).trans rfl, (blk_cell BK306.out 1).trans rfl, (blk_cell BK306.out 2).trans rfl, (blk_cell BK306.out 3).trans rfl, (blk_cell BK306.out 4).trans rfl, (blk_cell BK306.out 5).trans rfl⟩ (fun hHeld => ?_)
                clear hK K
                refine norm_ (a' := ?_) ?_ ?_
                rotate_left
                · show Act.put _ (some 45) _ = _
                  simp only [Act.put, List.setIfInBounds_toArray, List.set_cons_zero, List.set_cons_succ, i64_w, i32_w]
                  rfl
                refine pure_ (i := 18) (N := some 46) (v := ?_) (a' := ?_) #[true, true, true, true, true, true, true, true, true, true, true, true, true, true, true, true, true, true, true, false] rfl rfl (any_of HT_.out (by kernel_rfl)) (fun _ _ _ h => h) (Or.inl ⟨by rfl, ?_⟩) ?_ ?_
                rotate_left
                · intro w'
                  go_simp
                  with_reducible rfl
                rotate_left
                · simp only [Act.put, List.setIfInBounds_toArray, List.set_cons_zero, List.set_cons_succ, i64_w, i32_w]
                  rfl
                refine pure_ (i := 19) (N := some 47) (v := ?_) (a' := ?_) #[true, true, true, true, true, true, true, true, true, true, true, true, true, true, true, true, true, true, true, true] rfl rfl (any_of HT_.out (by kernel_rfl)) (fun _ _ _ h => h) (Or.inl ⟨by rfl, ?_⟩) ?_ ?_
                rotate_left
                · intro w'
                  go_simp
                  with_reducible rfl
                rotate_left
                · simp only [Act.put, List.setIfInBounds_toArray, List.set_cons_zero, List.set_cons_succ, i64_w, i32_w]
                  rfl
                refine done_ (done_of HT_.out (by kernel_rfl)) ?_
                try go_wp2
                go_meet
                case rel => exact ⟨_, (!t327), (by first | rfl | (simp; done) | (simp [*]; done)), H', ⟨by first | omega | exact Nat.le_refl _⟩, ⟨by (with_reducible repeat (first | apply Kd.R_alloc | apply Kd.R_drewN | apply Kd.R_drew)); exact Kd.R_mono HO304.out (fun _ hk => hk.1.2)⟩, ⟨by (with_reducible repeat (first | apply Kd.R_alloc | apply Kd.R_drewN | apply Kd.R_drew)); exact Kd.R_mono HO314.out (fun _ hk => hk.1.2)⟩, ⟨by (with_reducible repeat (first | refine blk_drewN ?_ _ | refine blk_drew ?_ | refine blk_alloc ?_ _)); exact BK306.out⟩, ⟨by (with_reducible repeat (first | refine blk_drewN ?_ _ | refine blk_drew ?_ | refine blk_alloc ?_ _)); exact BK316.out⟩, ⟨by repeat (first | (with_reducible first | exact HB.out | apply below_alloc | apply pw_below_drewN | apply below_drew1 | refine below_set ?_ GE306.out | refine below_set ?_ GE316.out) | exact HB.out)⟩⟩
              · replace c28 := Bool.eq_false_iff.mpr c28
                subst c28
                have H1 : (patchbaylaw02_FrameParses.j0 k (l0.take ((ji2) : Int).toNat) t315 true t297 t298 t299 t300 t301 t302) = some r := by rw [if_neg (show ¬ (false = true) by decide)] at H; exact H
                clear H
                have H := H1
                clear H1
                have H' := Aside0.mk H
                clear H
                try go_wp2
                have n0_ : Aside0 (Kd.R (Kd.int .u8) 5 ((((((w19.setCell ⟨gb316, 0, none⟩ (.int .u64 t307)).setCell ⟨gb316, 1, none⟩ (.int .u64 t308)).setCell ⟨gb316, 2, none⟩ (.bool t309)).setCell ⟨gb316, 3, none⟩ (.int .u16 t310)).setCell ⟨gb316, 4, none⟩ (.int .u16 t311)).setCell ⟨gb316, 5, none⟩ (.slice Ao22 t312.length co22)) w.heap.size (fun k_ => some k_ ≠ (.slice Ao17 t302.length co17 : Value).ownBlock ∧ some k_ ≠ (.slice Ao22 t312.length co22 : Value).ownBlock) (.slice Ao13 y294.length co13) y294) := ⟨by (with_reducible repeat (first | apply Kd.R_alloc | apply Kd.R_drewN | apply Kd.R_drew)); exact Kd.R_mono (Kd.R_far (p := ⟨gb316, 5, none⟩) (Kd.R_far (p := ⟨gb316, 4, none⟩) (Kd.R_far (p := ⟨gb316, 3, none⟩) (Kd.R_far (p := ⟨gb316, 2, none⟩) (Kd.R_far (p := ⟨gb316, 1, none⟩) (Kd.R_far (p := ⟨gb316, 0, none⟩) (Kd.R_types HO296.out BK316.out (by decide)) (fun _ hk => hk.2) (.int .u64 t307)) (fun _ hk => hk.2) (.int .u64 t308)) (fun _ hk => hk.2) (.bool t309)) (fun _ hk => hk.2) (.int .u16 t310)) (fun _ hk => hk.2) (.int .u16 t311)) (fun _ hk => hk.2) (.slice Ao22 t312.length co22)) (fun _ hk => ⟨hk.1.1.2, hk.1.2⟩)⟩
                have n1_ : Aside0 (Kd.R (Kd.int .u8) 5 ((((((w19.setCell ⟨gb316, 0, none⟩ (.int .u64 t307)).setCell ⟨gb316, 1, none⟩ (.int .u64 t308)).setCell ⟨gb316, 2, none⟩ (.bool t309)).setCell ⟨gb316, 3, none⟩ (.int .u16 t310)).setCell ⟨gb316, 4, none⟩ (.int .u16 t311)).setCell ⟨gb316, 5, none⟩ (.slice Ao22 t312.length co22)) w.heap.size (fun k_ => some k_ ≠ (.slice Ao13 y294.length co13 : Value).ownBlock ∧ some k_ ≠ (.slice Ao22 t312.length co22 : Value).ownBlock) (.slice Ao17 t302.length co17) t302) := ⟨by (with_reducible repeat (first | apply Kd.R_alloc | apply Kd.R_drewN | apply Kd.R_drew)); exact Kd.R_mono (Kd.R_far (p := ⟨gb316, 5, none⟩) (Kd.R_far (p := ⟨gb316, 4, none⟩) (Kd.R_far (p := ⟨gb316, 3, none⟩) (Kd.R_far (p := ⟨gb316, 2, none⟩) (Kd.R_far (p := ⟨gb316, 1, none⟩) (Kd.R_far (p := ⟨gb316, 0, none⟩) (Kd.R_types HO304.out BK316.out (by decide)) (fun _ hk => hk.2) (.int .u64 t307)) (fun _ hk => hk.2) (.int .u64 t308)) (fun _ hk => hk.2) (.bool t309)) (fun _ hk => hk.2) (.int .u16 t310)) (fun _ hk => hk.2) (.int .u16 t311)) (fun _ hk => hk.2) (.slice Ao22 t312.length co22)) (fun _ hk => ⟨hk.1.1.2, hk.1.2⟩)⟩
                have n2_ : Aside0 (Kd.R (Kd.int .u8) 5 ((((((w19.setCell ⟨gb316, 0, none⟩ (.int .u64 t307)).setCell ⟨gb316, 1, none⟩ (.int .u64 t308)).setCell ⟨gb316, 2, none⟩ (.bool t309)).setCell ⟨gb316, 3, none⟩ (.int .u16 t310)).setCell ⟨gb316, 4, none⟩ (.int .u16 t311)).setCell ⟨gb316, 5, none⟩ (.slice Ao22 t312.length co22)) w.heap.size (fun k_ => some k_ ≠ (.slice Ao13 y294.length co13 : Value).ownBlock ∧ some k_ ≠ (.slice Ao17 t302.length co17 : Value).ownBlock) (.slice Ao22 t312.length co22) t312) := ⟨by (with_reducible repeat (first | apply Kd.R_alloc | apply Kd.R_drewN | apply Kd.R_drew)); exact Kd.R_mono (Kd.R_far (p := ⟨gb316, 5, none⟩) (Kd.R_far (p := ⟨gb316, 4, none⟩) (Kd.R_far (p := ⟨gb316, 3, none⟩) (Kd.R_far (p := ⟨gb316, 2, none⟩) (Kd.R_far (p := ⟨gb316, 1, none⟩) (Kd.R_far (p := ⟨gb316, 0, none⟩) (Kd.R_types HO314.out BK316.out (by decide)) (fun _ hk => hk.2) (.int .u64 t307)) (fun _ hk => hk.2) (.int .u64 t308)) (fun _ hk => hk.2) (.bool t309)) (fun _ hk => hk.2) (.int .u16 t310)) (fun _ hk => hk.2) (.int .u16 t311)) (fun _ hk => hk.2) (.slice Ao22 t312.length co22)) (fun _ hk => ⟨hk.1.1.2, hk.1.2⟩)⟩
                have n3_ : Aside0 (((((((w19.setCell ⟨gb316, 0, none⟩ (.int .u64 t307)).setCell ⟨gb316, 1, none⟩ (.int .u64 t308)).setCell ⟨gb316, 2, none⟩ (.bool t309)).setCell ⟨gb316, 3, none⟩ (.int .u16 t310)).setCell ⟨gb316, 4, none⟩ (.int .u16 t311)).setCell ⟨gb316, 5, none⟩ (.slice Ao22 t312.length co22)).heap[gb306]? = some (.cells #[.int .u64 t297, .int .u64 t298, .bool t299, .int .u16 t300, .int .u16 t301, .slice Ao17 t302.length co17] 39 (0, 0))) := ⟨by (with_reducible repeat (first | refine blk_drewN ?_ _ | refine blk_drew ?_ | refine blk_alloc ?_ _)); refine blk_far ?_ NB306_316.out _; (with_reducible repeat (first | refine blk_drewN ?_ _ | refine blk_drew ?_ | refine blk_alloc ?_ _)); refine blk_far ?_ NB306_316.out _; (with_reducible repeat (first | refine blk_drewN ?_ _ | refine blk_drew ?_ | refine blk_alloc ?_ _)); refine blk_far ?_ NB306_316.out _; (with_reducible repeat (first | refine blk_drewN ?_ _ | refine blk_drew ?_ | refine blk_alloc ?_ _)); refine blk_far ?_ NB306_316.out _; (with_reducible repeat (first | refine blk_drewN ?_ _ | refine blk_drew ?_ | refine blk_alloc ?_ _)); refine blk_far ?_ NB306_316.out _; (with_reducible repeat (first | refine blk_drewN ?_ _ | refine blk_drew ?_ | refine blk_alloc ?_ _)); refine blk_far ?_ NB306_316.out _; (with_reducible repeat (first | refine blk_drewN ?_ _ | refine blk_drew ?_ | refine blk_alloc ?_ _)); exact BK306.out⟩
                have n4_ : Aside0 (((((((w19.setCell ⟨gb316, 0, none⟩ (.int .u64 t307)).setCell ⟨gb316, 1, none⟩ (.int .u64 t308)).setCell ⟨gb316, 2, none⟩ (.bool t309)).setCell ⟨gb316, 3, none⟩ (.int .u16 t310)).setCell ⟨gb316, 4, none⟩ (.int .u16 t311)).setCell ⟨gb316, 5, none⟩ (.slice Ao22 t312.length co22)).heap[gb316]? = some (.cells #[.int .u64 t307, .int .u64 t308, .bool t309, .int .u16 t310, .int .u16 t311, .slice Ao22 t312.length co22] 34 (0, 0))) := ⟨by (with_reducible repeat (first | refine blk_drewN ?_ _ | refine blk_drew ?_ | refine blk_alloc ?_ _)); refine blk_put (cs := #[.int .u64 t307, .int .u64 t308, .bool t309, .int .u16 t310, .int .u16 t311, .slice none 0 0]) ?_ 5 _ rfl; (with_reducible repeat (first | refine blk_drewN ?_ _ | refine blk_drew ?_ | refine blk_alloc ?_ _)); refine blk_put (cs := #[.int .u64 t307, .int .u64 t308, .bool t309, .int .u16 t310, .int .u16 0, .slice none 0 0]) ?_ 4 _ rfl; (with_reducible repeat (first | refine blk_drewN ?_ _ | refine blk_drew ?_ | refine blk_alloc ?_ _)); refine blk_put (cs := #[.int .u64 t307, .int .u64 t308, .bool t309, .int .u16 0, .int .u16 0, .slice none 0 0]) ?_ 3 _ rfl; (with_reducible repeat (first | refine blk_drewN ?_ _ | refine blk_drew ?_ | refine blk_alloc ?_ _)); refine blk_put (cs := #[.int .u64 t307, .int .u64 t308, .bool false, .int .u16 0, .int .u16 0, .slice none 0 0]) ?_ 2 _ rfl; (with_reducible repeat (first | refine blk_drewN ?_ _ | refine blk_drew ?_ | refine blk_alloc ?_ _)); refine blk_put (cs := #[.int .u64 t307, .int .u64 0, .bool false, .int .u16 0, .int .u16 0, .slice none 0 0]) ?_ 1 _ rfl; (with_reducible repeat (first | refine blk_drewN ?_ _ | refine blk_drew ?_ | refine blk_alloc ?_ _)); refine blk_put (cs := #[.int .u64 0, .int .u64 0, .bool false, .int .u16 0, .int .u16 0, .slice none 0 0]) ?_ 0 _ rfl; (with_reducible repeat (first | refine blk_drewN ?_ _ | refine blk_drew ?_ | refine blk_alloc ?_ _)); exact BK316.out⟩
                have n5_ : Aside0 (Below w.heap.size w ((((((w19.setCell ⟨gb316, 0, none⟩ (.int .u64 t307)).setCell ⟨gb316, 1, none⟩ (.int .u64 t308)).setCell ⟨gb316, 2, none⟩ (.bool t309)).setCell ⟨gb316, 3, none⟩ (.int .u16 t310)).setCell ⟨gb316, 4, none⟩ (.int .u16 t311)).setCell ⟨gb316, 5, none⟩ (.slice Ao22 t312.length co22))) := ⟨by repeat (first | (with_reducible first | exact HB.out | apply below_alloc | apply pw_below_drewN | apply below_drew1 | refine below_set ?_ GE306.out | refine below_set ?_ GE316.out) | exact HB.out)⟩
                (try clear HO296)
                (try clear HO304)
                (try clear HO314)
                (try clear BK306)
                (try clear BK316)
                (try clear HB)
                generalize ((((((w19.setCell ⟨gb316, 0, none⟩ (.int .u64 t307)).setCell ⟨gb316, 1, none⟩ (.int .u64 t308)).setCell ⟨gb316, 2, none⟩ (.bool t309)).setCell ⟨gb316, 3, none⟩ (.int .u16 t310)).setCell ⟨gb316, 4, none⟩ (.int .u16 t311)).setCell ⟨gb316, 5, none⟩ (.slice Ao22 t312.length co22)) = w36 at n0_ n1_ n2_ n3_ n4_ n5_ ⊢
                have HO296 := n0_
                have HO304 := n1_
                have HO314 := n2_
                have BK306 := n3_
                have BK316 := n4_
                have HB := n5_
                clear n0_ n1_ n2_ n3_ n4_ n5_
                have n0_ := Aside0.mk (Kd.R_drew HO296.out)
                have n1_ := Aside0.mk (Kd.R_drew HO304.out)
                have n2_ := Aside0.mk (Kd.R_drew HO314.out)
                have n3_ := Aside0.mk (blk_drew BK306.out)
                have n4_ := Aside0.mk (blk_drew BK316.out)
                have n5_ := Aside0.mk (below_drew1 HB.out)
                clear HO296
                clear HO304
                clear HO314
                clear BK306
                clear BK316
                clear HB
                have HO296 := n0_
                have HO304 := n1_
                have HO314 := n2_
                have BK306 := n3_
                have BK316 := n4_
                have HB := n5_
                clear n0_ n1_ n2_ n3_ n4_ n5_
                refine start_ (n := 20) (S := fun w' => w'.cell? ⟨gb316, 0, none⟩ = some (.int .u64 t307) ∧ w'.cell? ⟨gb316, 1, none⟩ = some (.int .u64 t308) ∧ w'.cell? ⟨gb316, 2, none⟩ = some (.bool t309) ∧ w'.cell? ⟨gb316, 3, none⟩ = some (.int .u16 t310) ∧ w'.cell? ⟨gb316, 4, none⟩ = some (.int .u16 t311) ∧ w'.cell? ⟨gb316, 5, none⟩ = some (.slice Ao22 t312.length co22) ∧ w'.cell? ⟨gb306, 0, none⟩ = some (.int .u64 t297) ∧ w'.cell? ⟨gb306, 1, none⟩ = some (.int .u64 t298) ∧ w'.cell? ⟨gb306, 2, none⟩ = some (.bool t299) ∧ w'.cell? ⟨gb306, 3, none⟩ = some (.int .u16 t300) ∧ w'.cell? ⟨gb306, 4, none⟩ = some (.int .u16 t301) ∧ w'.cell? ⟨gb306, 5, none⟩ = some (.slice Ao17 t302.length co17)) (ds := []) #[false, false, false, false, false, false, false, false, false, false, false, false, false, false, false, false, false, false, false, false] (by kernel_rfl) rfl rfl ⟨(blk_cell BK316.out 0).trans rfl, (blk_cell BK316.out 1).trans rfl, (blk_cell BK316.out 2).trans rfl, (blk_cell BK316.out 3).trans rfl, (blk_cell BK316.out 4).trans rfl, (blk_cell BK316.out 5).trans rfl, (blk_cell BK306.out 0).trans rfl, (blk_cell BK306.out 1).trans rfl, (blk_cell BK306.out 2).trans rfl, (blk_cell BK306.out 3).trans rfl, (blk_cell BK306.out 4).trans rfl, (blk_cell BK306.out 5).trans rfl⟩ (fun hHeld => ?_); refine with_tabW patchbaylaw02_FrameParses.tab5 patchbaylaw02_FrameParses.bits5 (fun HT_ HW_ => ?_)
                generalize w36.drew = w37 at HO296 HO304 HO314 BK306 BK316 HB hHeld ⊢
                refine one_ (i := 0) (N := some 28) #[true, false, false, false, false, false, false, false, false, false, false, false, false, false, false, false, false, false, false, false] rfl rfl (one_of HT_.out (by kernel_rfl)) (by decide) (fun K hK => ?_)
                refine goes_ Try.func18 (by kernel_rfl) rfl #[] (by rfl) rfl rfl (by (try simp only [List.map_toArray, List.map_cons, List.map_nil]); first | done | rfl | (simp only [List.length_drop, List.length_take]; rfl)) ?_
                with_reducible refine (patchbaylaw02_told.calls k  true _ A23.out).mono ?_
                rintro e w38 ⟨rfl, hb⟩
                refine ⟨_, rfl, ?_⟩
                have n0_ := Aside0.mk (Kd.R_below (by (with_reducible repeat (first | apply Kd.R_alloc | apply Kd.R_drewN | apply Kd.R_drew)); exact HO296.out) hb)
                have n1_ := Aside0.mk (Kd.R_below (by (with_reducible repeat (first | apply Kd.R_alloc | apply Kd.R_drewN | apply Kd.R_drew)); exact HO304.out) hb)
                have n2_ := Aside0.mk (Kd.R_below (by (with_reducible repeat (first | apply Kd.R_alloc | apply Kd.R_drewN | apply Kd.R_drew)); exact HO314.out) hb)
                have n3_ := Aside0.mk (blk_below (g := gb306) (o := .cells #[.int .u64 t297, .int .u64 t298, .bool t299, .int .u16 t300, .int .u16 t301, .slice Ao17 t302.length co17] 39 (0, 0)) (by (with_reducible repeat (first | refine blk_drewN ?_ _ | refine blk_drew ?_ | refine blk_alloc ?_ _)); exact BK306.out) hb)
                have n4_ := Aside0.mk (blk_below (g := gb316) (o := .cells #[.int .u64 t307, .int .u64 t308, .bool t309, .int .u16 t310, .int .u16 t311, .slice Ao22 t312.length co22] 34 (0, 0)) (by (with_reducible repeat (first | refine blk_drewN ?_ _ | refine blk_drew ?_ | refine blk_alloc ?_ _)); exact BK316.out) hb)
                have n5_ := Aside0.mk (below_step (by repeat (first | (with_reducible first | exact HB.out | apply below_alloc | apply pw_below_drewN | apply below_drew1 | refine below_set ?_ GE306.out | refine below_set ?_ GE316.out) | exact HB.out)) hb)
                clear HO296
                clear HO304
                clear HO314
                clear BK306
                clear BK316
                clear HB
                have HO296 := n0_
                have HO304 := n1_
                have HO314 := n2_
                have BK306 := n3_
                have BK316 := n4_
                have HB := n5_
                clear n0_ n1_ n2_ n3_ n4_ n5_
                (try clear hb)
                (try clear hb2)
                (try clear hk)
                (try clear hi)
                refine hK.out _ _ ⟨(blk_cell BK316.out 0).trans rfl, (blk_cell BK316.out 1).trans rfl, (blk_cell BK316.out 2).trans rfl, (blk_cell BK316.out 3).trans rfl, (blk_cell BK316.out 4).trans rfl, (blk_cell BK316.out 5).trans rfl, (blk_cell BK306.out 0).trans rfl, (blk_cell BK306.out 1).trans rfl, (blk_cell BK306.out 2).trans rfl, (blk_cell BK306.out 3).trans rfl, (blk_cell BK306.out 4).trans rfl, (blk_cell BK306.out 5).trans rfl⟩ (fun hHeld => ?_)
                clear hK K
                refine norm_ (a' := ?_) ?_ ?_
                rotate_left
                · show Act.put _ (some 28) _ = _
                  simp only [Act.put, List.setIfInBounds_toArray, List.set_cons_zero, List.set_cons_succ, i64_w, i32_w]
                  rfl
                refine pure_ (i := 1) (N := some 29) (v := ?_) (a' := ?_) #[true, true, false, false, false, false, false, false, false, false, false, false, false, false, false, false, false, false, false, false] rfl rfl (any_of HT_.out (by kernel_rfl)) (fun _ _ _ h => h) (Or.inl ⟨by rfl, ?_⟩) ?_ ?_
                rotate_left
                · intro w'
                  go_simp
                  with_reducible rfl
                rotate_left
                · simp only [Act.put, List.setIfInBounds_toArray, List.set_cons_zero, List.set_cons_succ, i64_w, i32_w]
                  rfl
                refine pure_ (i := 2) (N := some 30) (v := ?_) (a' := ?_) #[true, true, true, false, false, false, false, false, false, false, false, false, false, false, false, false, false, false, false, false] rfl rfl (any_of HT_.out (by kernel_rfl)) (fun _ _ _ h => h) (Or.inl ⟨by rfl, ?_⟩) ?_ ?_
                rotate_left
                · intro w'
                  go_simp
                  with_reducible rfl
                rotate_left
                · simp only [Act.put, List.setIfInBounds_toArray, List.set_cons_zero, List.set_cons_succ, i64_w, i32_w]
                  rfl
                refine pure_ (i := 3) (N := some 31) (v := ?_) (a' := ?_) #[true, true, true, true, false, false, false, false, false, false, false, false, false, false, false, false, false, false, false, false] rfl rfl (any_of HT_.out (by kernel_rfl)) (fun _ _ _ h => h) (Or.inl ⟨by rfl, ?_⟩) ?_ ?_
                rotate_left
                · intro w'
                  go_simp
                  with_reducible rfl
                rotate_left
                · simp only [Act.put, List.setIfInBounds_toArray, List.set_cons_zero, List.set_cons_succ, i64_w, i32_w]
                  rfl
                refine pure_ (i := 4) (N := some 32) (v := ?_) (a' := ?_) #[true, true, true, true, true, false, false, false, false, false, false, false, false, false, false, false, false, false, false, false] rfl rfl (any_of HT_.out (by kernel_rfl)) (fun _ _ _ h => h) (Or.inl ⟨by rfl, ?_⟩) ?_ ?_
                rotate_left
                · intro w'
                  go_simp
                  with_reducible rfl
                rotate_left
                · simp only [Act.put, List.setIfInBounds_toArray, List.set_cons_zero, List.set_cons_succ, i64_w, i32_w]
                  rfl
                refine pure_ (i := 5) (N := some 33) (v := ?_) (a' := ?_) #[true, true, true, true, true, true, false, false, false, false, false, false, false, false, false, false, false, false, false, false] rfl rfl (any_of HT_.out (by kernel_rfl)) (fun _ _ _ h => h) (Or.inl ⟨by rfl, ?_⟩) ?_ ?_
                rotate_left
                · intro w'
                  go_simp
                  with_reducible rfl
                rotate_left
                · simp only [Act.put, List.setIfInBounds_toArray, List.set_cons_zero, List.set_cons_succ, i64_w, i32_w]
                  rfl
                refine pure_ (i := 6) (N := some 34) (v := ?_) (a' := ?_) #[true, true, true, true, true, true, true, false, false, false, false, false, false, false, false, false, false, false, false, false] rfl rfl (any_of HT_.out (by kernel_rfl)) (fun _ _ _ h => h) (Or.inl ⟨by rfl, ?_⟩) ?_ ?_
                rotate_left
                · intro w'
                  go_simp
                  with_reducible rfl
                rotate_left
                · simp only [Act.put, List.setIfInBounds_toArray, List.set_cons_zero, List.set_cons_succ, i64_w, i32_w]
                  rfl
                refine pure_ (i := 7) (N := some 35) (v := ?_) (a' := ?_) #[true, true, true, true, true, true, true, true, false, false, false, false, false, false, false, false, false, false, false, false] rfl rfl (any_of HT_.out (by kernel_rfl)) (fun _ _ _ h => h) (Or.inl ⟨by rfl, ?_⟩) ?_ ?_
                rotate_left
                · intro w'
                  go_simp
                  with_reducible rfl
                rotate_left
                · simp only [Act.put, List.setIfInBounds_toArray, List.set_cons_zero, List.set_cons_succ, i64_w, i32_w]
                  rfl
                refine take_ (i := 8) (N := some 36) (v := ?_) (a' := ?_) #[true, true, true, true, true, true, true, true, true, false, false, false, false, false, false, false, false, false, false, false] rfl rfl (take_ofW HT_.out HW_.out (by kernel_rfl)) (fun _ _ _ h => h) (Or.inl ⟨by rfl, ?_⟩) hHeld ?_ ?_
                rotate_left
                · rintro w' ⟨s0, s1, s2, s3, s4, s5, s6, s7, s8, s9, s10, s11⟩
                  go_simp
                  with_reducible rfl
                rotate_left
                · simp only [Act.put, List.setIfInBounds_toArray, List.set_cons_zero, List.set_cons_succ, i64_w, i32_w]
                  rfl
                refine take_ (i := 9) (N := some 37) (v := ?_) (a' := ?_) #[true, true, true, true, true, true, true, true, true, true, false, false, false, false, false, false, false, false, false, false] rfl rfl (take_ofW HT_.out HW_.out (by kernel_rfl)) (fun _ _ _ h => h) (Or.inl ⟨by rfl, ?_⟩) hHeld ?_ ?_
                rotate_left
                · rintro w' ⟨s0, s1, s2, s3, s4, s5, s6, s7, s8, s9, s10, s11⟩
                  go_simp
                  with_reducible rfl
                rotate_left
                · simp only [Act.put, List.setIfInBounds_toArray, List.set_cons_zero, List.set_cons_succ, i64_w, i32_w]
                  rfl
                refine one_ (i := 10) (N := some 38) #[true, true, true, true, true, true, true, true, true, true, true, false, false, false, false, false, false, false, false, false] rfl rfl (one_of HT_.out (by kernel_rfl)) (by decide) (fun K hK => ?_)
                refine goes_ Try.func41 (by kernel_rfl) rfl #[.agg #[.int .u64 t297, .int .u64 t298, .bool t299, .int .u16 t300, .int .u16 t301, .slice Ao17 t302.length co17]] (by rfl) rfl rfl (by (try simp only [List.map_toArray, List.map_cons, List.map_nil]); first | done | rfl | (simp only [List.length_drop, List.length_take]; rfl)) ?_
                with_reducible refine (patchbaylaw02_From.calls t297 t298 t299 t300 t301 _ _ t302 t318 t319 t320 t321 t322 t323 _ ?side1 ?side2 A26.out).mono ?_
                (case side1 => repeat (first | exact (Kd.R_reads' HO304.out).2.2 | (with_reducible refine Kd.C_alloc ?_ _) | (with_reducible refine Kd.C_drewN ?_ _) | (with_reducible refine Kd.C_drew ?_)))
                (case side2 => exact (Kd.R_reads' HO304.out).2.1)
                rintro e w39 ⟨v324, rfl, ho0, hb⟩
                refine ⟨_, rfl, ?_⟩
                have n0_ := Aside0.mk (Kd.R_elder' (by (with_reducible repeat (first | apply Kd.R_alloc | apply Kd.R_drewN | apply Kd.R_drew)); exact HO296.out) (Kd.R_base ho0) hb)
                have n1_ := Aside0.mk (Kd.R_elder' (by (with_reducible repeat (first | apply Kd.R_alloc | apply Kd.R_drewN | apply Kd.R_drew)); exact HO304.out) (Kd.R_base ho0) hb)
                have n2_ := Aside0.mk (Kd.R_elder' (by (with_reducible repeat (first | apply Kd.R_alloc | apply Kd.R_drewN | apply Kd.R_drew)); exact HO314.out) (Kd.R_base ho0) hb)
                have n3_ := Aside0.mk (Kd.R_lower (Kd.R_new' (Kd.R_new' (Kd.R_new' ho0 (Kd.R_lt (by (with_reducible repeat (first | apply Kd.R_alloc | apply Kd.R_drewN | apply Kd.R_drew)); exact HO296.out))) (Kd.R_lt (by (with_reducible repeat (first | apply Kd.R_alloc | apply Kd.R_drewN | apply Kd.R_drew)); exact HO304.out))) (Kd.R_lt (by (with_reducible repeat (first | apply Kd.R_alloc | apply Kd.R_drewN | apply Kd.R_drew)); exact HO314.out))) (below_size (by repeat (first | (with_reducible first | exact HB.out | apply below_alloc | apply pw_below_drewN | apply below_drew1 | refine below_set ?_ GE306.out | refine below_set ?_ GE316.out) | exact HB.out))))
                have n4_ := Aside0.mk (blk_below (g := gb306) (o := .cells #[.int .u64 t297, .int .u64 t298, .bool t299, .int .u16 t300, .int .u16 t301, .slice Ao17 t302.length co17] 39 (0, 0)) (by (with_reducible repeat (first | refine blk_drewN ?_ _ | refine blk_drew ?_ | refine blk_alloc ?_ _)); exact BK306.out) hb)
                have n5_ := Aside0.mk (blk_below (g := gb316) (o := .cells #[.int .u64 t307, .int .u64 t308, .bool t309, .int .u16 t310, .int .u16 t311, .slice Ao22 t312.length co22] 34 (0, 0)) (by (with_reducible repeat (first | refine blk_drewN ?_ _ | refine blk_drew ?_ | refine blk_alloc ?_ _)); exact BK316.out) hb)
                have n6_ := Aside0.mk (below_step (by repeat (first | (with_reducible first | exact HB.out | apply below_alloc | apply pw_below_drewN | apply below_drew1 | refine below_set ?_ GE306.out | refine below_set ?_ GE316.out) | exact HB.out)) hb)
                clear HO296
                clear HO304
                clear HO314
                clear BK306
                clear BK316
                clear HB
                have HO296 := n0_
                have HO304 := n1_
                have HO314 := n2_
                have HO325 := n3_
                have BK306 := n4_
                have BK316 := n5_
                have HB := n6_
                clear n0_ n1_ n2_ n3_ n4_ n5_ n6_
                (try clear hb)
                (try clear hb2)
                (try clear hk)
                (try clear hi)
                (try clear ho0)
                obtain ⟨Ao40, co40, eo40⟩ := Kd.R_slice HO325.out
                (first | subst eo40 | (injection eo40 with f1_ f2_ f3_; have f4_ := f1_.symm; have f5_ := f3_.symm; clear f1_ f2_ f3_; subst f4_; subst f5_))
                refine hK.out _ _ ⟨(blk_cell BK316.out 0).trans rfl, (blk_cell BK316.out 1).trans rfl, (blk_cell BK316.out 2).trans rfl, (blk_cell BK316.out 3).trans rfl, (blk_cell BK316.out 4).trans rfl, (blk_cell BK316.out 5).trans rfl, (blk_cell BK306.out 0).trans rfl, (blk_cell BK306.out 1).trans rfl, (blk_cell BK306.out 2).trans rfl, (blk_cell BK306.out 3).trans rfl, (blk_cell BK306.out 4).trans rfl, (blk_cell BK306.out 5).trans rfl⟩ (fun hHeld => ?_)
                clear hK K
                refine norm_ (a' := ?_) ?_ ?_
                rotate_left
                · show Act.put _ (some 38) _ = _
                  simp only [Act.put, List.setIfInBounds_toArray, List.set_cons_zero, List.set_cons_succ, i64_w, i32_w]
                  rfl
                refine one_ (i := 11) (N := some 39) #[true, true, true, true, true, true, true, true, true, true, true, true, false, false, false, false, false, false, false, false] rfl rfl (one_of HT_.out (by kernel_rfl)) (by decide) (fun K hK => ?_)
                refine goes_ Try.func40 (by kernel_rfl) rfl #[.agg #[.int .u64 t307, .int .u64 t308, .bool t309, .int .u16 t310, .int .u16 t311, .slice Ao22 t312.length co22], .agg #[.int .u64 t318, .int .u64 t319, .bool t320, .int .u16 t321, .int .u16 t322, .slice Ao40 t323.length co40], .bool false] (by rfl) rfl rfl (by (try simp only [List.map_toArray, List.map_cons, List.map_nil]); first | done | rfl | (simp only [List.length_drop, List.length_take]; rfl)) ?_
                with_reducible refine (patchbaylaw02_same.calls k t307 t308 t309 t310 t311 _ _ t312 t318 t319 t320 t321 t322 _ _ t323 false false _ ?side1 ?side2 ?side3 ?side4 A27.out).mono ?_
                (case side1 => repeat (first | exact (Kd.R_reads' HO314.out).2.2 | (with_reducible refine Kd.C_alloc ?_ _) | (with_reducible refine Kd.C_drewN ?_ _) | (with_reducible refine Kd.C_drew ?_)))
                (case side2 => exact (Kd.R_reads' HO314.out).2.1)
                (case side3 => repeat (first | exact (Kd.R_reads' HO325.out).2.2 | (with_reducible refine Kd.C_alloc ?_ _) | (with_reducible refine Kd.C_drewN ?_ _) | (with_reducible refine Kd.C_drew ?_)))
                (case side4 => exact (Kd.R_reads' HO325.out).2.1)
                rintro e w41 ⟨rfl, hb⟩
                refine ⟨_, rfl, ?_⟩
                have n0_ := Aside0.mk (Kd.R_below (by (with_reducible repeat (first | apply Kd.R_alloc | apply Kd.R_drewN | apply Kd.R_drew)); exact HO296.out) hb)
                have n1_ := Aside0.mk (Kd.R_below (by (with_reducible repeat (first | apply Kd.R_alloc | apply Kd.R_drewN | apply Kd.R_drew)); exact HO304.out) hb)
                have n2_ := Aside0.mk (Kd.R_below (by (with_reducible repeat (first | apply Kd.R_alloc | apply Kd.R_drewN | apply Kd.R_drew)); exact HO314.out) hb)
                have n3_ := Aside0.mk (Kd.R_below (by (with_reducible repeat (first | apply Kd.R_alloc | apply Kd.R_drewN | apply Kd.R_drew)); exact HO325.out) hb)
                have n4_ := Aside0.mk (blk_below (g := gb306) (o := .cells #[.int .u64 t297, .int .u64 t298, .bool t299, .int .u16 t300, .int .u16 t301, .slice Ao17 t302.length co17] 39 (0, 0)) (by (with_reducible repeat (first | refine blk_drewN ?_ _ | refine blk_drew ?_ | refine blk_alloc ?_ _)); exact BK306.out) hb)
                have n5_ := Aside0.mk (blk_below (g := gb316) (o := .cells #[.int .u64 t307, .int .u64 t308, .bool t309, .int .u16 t310, .int .u16 t311, .slice Ao22 t312.length co22] 34 (0, 0)) (by (with_reducible repeat (first | refine blk_drewN ?_ _ | refine blk_drew ?_ | refine blk_alloc ?_ _)); exact BK316.out) hb)
                have n6_ := Aside0.mk (below_step (by repeat (first | (with_reducible first | exact HB.out | apply below_alloc | apply pw_below_drewN | apply below_drew1 | refine below_set ?_ GE306.out | refine below_set ?_ GE316.out) | exact HB.out)) hb)
                clear HO296
                clear HO304
                clear HO314
                clear HO325
                clear BK306
                clear BK316
                clear HB
                have HO296 := n0_
                have HO304 := n1_
                have HO314 := n2_
                have HO325 := n3_
                have BK306 := n4_
                have BK316 := n5_
                have HB := n6_
                clear n0_ n1_ n2_ n3_ n4_ n5_ n6_
                (try clear hb)
                (try clear hb2)
                (try clear hk)
                (try clear hi)
                refine hK.out _ _ ⟨(blk_cell BK316.out 0).trans rfl, (blk_cell BK316.out 1).trans rfl, (blk_cell BK316.out 2).trans rfl, (blk_cell BK316.out 3).trans rfl, (blk_cell BK316.out 4).trans rfl, (blk_cell BK316.out 5).trans rfl, (blk_cell BK306.out 0).trans rfl, (blk_cell BK306.out 1).trans rfl, (blk_cell BK306.out 2).trans rfl, (blk_cell BK306.out 3).trans rfl, (blk_cell BK306.out 4).trans rfl, (blk_cell BK306.out 5).trans rfl⟩ (fun hHeld => ?_)
                clear hK K
                refine norm_ (a' := ?_) ?_ ?_
                rotate_left
                · show Act.put _ (some 39) _ = _
                  simp only [Act.put, List.setIfInBounds_toArray, List.set_cons_zero, List.set_cons_succ, i64_w, i32_w]
                  rfl
                refine pure_ (i := 12) (N := some 40) (v := ?_) (a' := ?_) #[true, true, true, true, true, true, true, true, true, true, true, true, true, false, false, false, false, false, false, false] rfl rfl (any_of HT_.out (by kernel_rfl)) (fun _ _ _ h => h) (Or.inl ⟨by rfl, ?_⟩) ?_ ?_
                rotate_left
                · intro w'
                  go_simp
                  with_reducible rfl
                rotate_left
                · simp only [Act.put, List.setIfInBounds_toArray, List.set_cons_zero, List.set_cons_succ, i64_w, i32_w]
                  rfl
                refine pure_ (i := 13) (N := some 41) (v := ?_) (a' := ?_) #[true, true, true, true, true, true, true, true, true, true, true, true, true, true, false, false, false, false, false, false] rfl rfl (any_of HT_.out (by kernel_rfl)) (fun _ _ _ h => h) (Or.inl ⟨by rfl, ?_⟩) ?_ ?_
                rotate_left
                · intro w'
                  go_simp
                  with_reducible rfl
                rotate_left
                · simp only [Act.put, List.setIfInBounds_toArray, List.set_cons_zero, List.set_cons_succ, i64_w, i32_w]
                  rfl
                refine pure_ (i := 14) (N := some 42) (v := ?_) (a' := ?_) #[true, true, true, true, true, true, true, true, true, true, true, true, true, true, true, false, false, false, false, false] rfl rfl (any_of HT_.out (by kernel_rfl)) (fun _ _ _ h => h) (Or.inl ⟨by rfl, ?_⟩) ?_ ?_
                rotate_left
                · intro w'
                  go_simp
                  with_reducible rfl
                rotate_left
                · simp only [Act.put, List.setIfInBounds_toArray, List.set_cons_zero, List.set_cons_succ, i64_w, i32_w]
                  rfl
                refine pure_ (i := 15) (N := some 43) (v := undef) (a' := ?_) #[true, true, true, true, true, true, true, true, true, true, true, true, true, true, true, true, false, false, false, false] rfl rfl (any_of HT_.out (by kernel_rfl)) (fun _ _ _ h => h) (Or.inr ⟨by rfl, rfl⟩) ?_ ?_
                rotate_left
                · simp only [Act.put, List.setIfInBounds_toArray, List.set_cons_zero, List.set_cons_succ, i64_w, i32_w]
                  rfl
                refine pure_ (i := 16) (N := some 44) (v := undef) (a' := ?_) #[true, true, true, true, true, true, true, true, true, true, true, true, true, true, true, true, true, false, false, false] rfl rfl (any_of HT_.out (by kernel_rfl)) (fun _ _ _ h => h) (Or.inr ⟨by rfl, rfl⟩) ?_ ?_
                rotate_left
                · simp only [Act.put, List.setIfInBounds_toArray, List.set_cons_zero, List.set_cons_succ, i64_w, i32_w]
                  rfl
                refine pure_ (i := 17) (N := some 45) (v := undef) (a' := ?_) #[true, true, true, true, true, true, true, true, true, true, true, true, true, true, true, true, true, true, false, false] rfl rfl (any_of HT_.out (by kernel_rfl)) (fun _ _ _ h => h) (Or.inr ⟨by rfl, rfl⟩) ?_ ?_
                rotate_left
                · simp only [Act.put, List.setIfInBounds_toArray, List.set_cons_zero, List.set_cons_succ, i64_w, i32_w]
                  rfl
                refine pure_ (i := 18) (N := some 46) (v := undef) (a' := ?_) #[true, true, true, true, true, true, true, true, true, true, true, true, true, true, true, true, true, true, true, false] rfl rfl (any_of HT_.out (by kernel_rfl)) (fun _ _ _ h => h) (Or.inr ⟨by rfl, rfl⟩) ?_ ?_
                rotate_left
                · simp only [Act.put, List.setIfInBounds_toArray, List.set_cons_zero, List.set_cons_succ, i64_w, i32_w]
                  rfl
                refine pure_ (i := 19) (N := some 47) (v := ?_) (a' := ?_) #[true, true, true, true, true, true, true, true, true, true, true, true, true, true, true, true, true, true, true, true] rfl rfl (any_of HT_.out (by kernel_rfl)) (fun _ _ _ h => h) (Or.inl ⟨by rfl, ?_⟩) ?_ ?_
                rotate_left
                · intro w'
                  go_simp
                  with_reducible rfl
                rotate_left
                · simp only [Act.put, List.setIfInBounds_toArray, List.set_cons_zero, List.set_cons_succ, i64_w, i32_w]
                  rfl
                refine done_ (done_of HT_.out (by kernel_rfl)) ?_
                try go_wp2
                go_meet
                case rel => exact ⟨_, (true), (by first | rfl | (simp; done) | (simp [*]; done)), H', ⟨by first | omega | exact Nat.le_refl _⟩, ⟨by (with_reducible repeat (first | apply Kd.R_alloc | apply Kd.R_drewN | apply Kd.R_drew)); exact Kd.R_mono HO304.out (fun _ hk => hk.1.2)⟩, ⟨by (with_reducible repeat (first | apply Kd.R_alloc | apply Kd.R_drewN | apply Kd.R_drew)); exact Kd.R_mono HO314.out (fun _ hk => hk.1.2)⟩, ⟨by (with_reducible repeat (first | refine blk_drewN ?_ _ | refine blk_drew ?_ | refine blk_alloc ?_ _)); exact BK306.out⟩, ⟨by (with_reducible repeat (first | refine blk_drewN ?_ _ | refine blk_drew ?_ | refine blk_alloc ?_ _)); exact BK316.out⟩, ⟨by repeat (first | (with_reducible first | exact HB.out | apply below_alloc | apply pw_below_drewN | apply below_drew1 | refine below_set ?_ GE306.out | refine below_set ?_ GE316.out) | exact HB.out)⟩⟩
            · rw [if_neg c25] at H
              have c25b0 : (t305 == t315) = false := beq_eq_false_iff_ne.mpr c25
              have c25b1 : (t305 != t315) = true := bne_iff_ne.mpr c25
              (first | rw [c25b0] | (simp only [i64_w, i32_w]; rw [c25b0]) | skip)
              have H' := Aside0.mk H
              clear H
              try go_wp2
              have n0_ : Aside0 (Kd.R (Kd.int .u8) 5 ((((((w19.setCell ⟨gb316, 0, none⟩ (.int .u64 t307)).setCell ⟨gb316, 1, none⟩ (.int .u64 t308)).setCell ⟨gb316, 2, none⟩ (.bool t309)).setCell ⟨gb316, 3, none⟩ (.int .u16 t310)).setCell ⟨gb316, 4, none⟩ (.int .u16 t311)).setCell ⟨gb316, 5, none⟩ (.slice Ao22 t312.length co22)) w.heap.size (fun k_ => some k_ ≠ (.slice Ao17 t302.length co17 : Value).ownBlock ∧ some k_ ≠ (.slice Ao22 t312.length co22 : Value).ownBlock) (.slice Ao13 y294.length co13) y294) := ⟨by (with_reducible repeat (first | apply Kd.R_alloc | apply Kd.R_drewN | apply Kd.R_drew)); exact Kd.R_mono (Kd.R_far (p := ⟨gb316, 5, none⟩) (Kd.R_far (p := ⟨gb316, 4, none⟩) (Kd.R_far (p := ⟨gb316, 3, none⟩) (Kd.R_far (p := ⟨gb316, 2, none⟩) (Kd.R_far (p := ⟨gb316, 1, none⟩) (Kd.R_far (p := ⟨gb316, 0, none⟩) (Kd.R_types HO296.out BK316.out (by decide)) (fun _ hk => hk.2) (.int .u64 t307)) (fun _ hk => hk.2) (.int .u64 t308)) (fun _ hk => hk.2) (.bool t309)) (fun _ hk => hk.2) (.int .u16 t310)) (fun _ hk => hk.2) (.int .u16 t311)) (fun _ hk => hk.2) (.slice Ao22 t312.length co22)) (fun _ hk => ⟨hk.1.1.2, hk.1.2⟩)⟩
              have n1_ : Aside0 (Kd.R (Kd.int .u8) 5 ((((((w19.setCell ⟨gb316, 0, none⟩ (.int .u64 t307)).setCell ⟨gb316, 1, none⟩ (.int .u64 t308)).setCell ⟨gb316, 2, none⟩ (.bool t309)).setCell ⟨gb316, 3, none⟩ (.int .u16 t310)).setCell ⟨gb316, 4, none⟩ (.int .u16 t311)).setCell ⟨gb316, 5, none⟩ (.slice Ao22 t312.length co22)) w.heap.size (fun k_ => some k_ ≠ (.slice Ao13 y294.length co13 : Value).ownBlock ∧ some k_ ≠ (.slice Ao22 t312.length co22 : Value).ownBlock) (.slice Ao17 t302.length co17) t302) := ⟨by (with_reducible repeat (first | apply Kd.R_alloc | apply Kd.R_drewN | apply Kd.R_drew)); exact Kd.R_mono (Kd.R_far (p := ⟨gb316, 5, none⟩) (Kd.R_far (p := ⟨gb316, 4, none⟩) (Kd.R_far (p := ⟨gb316, 3, none⟩) (Kd.R_far (p := ⟨gb316, 2, none⟩) (Kd.R_far (p := ⟨gb316, 1, none⟩) (Kd.R_far (p := ⟨gb316, 0, none⟩) (Kd.R_types HO304.out BK316.out (by decide)) (fun _ hk => hk.2) (.int .u64 t307)) (fun _ hk => hk.2) (.int .u64 t308)) (fun _ hk => hk.2) (.bool t309)) (fun _ hk => hk.2) (.int .u16 t310)) (fun _ hk => hk.2) (.int .u16 t311)) (fun _ hk => hk.2) (.slice Ao22 t312.length co22)) (fun _ hk => ⟨hk.1.1.2, hk.1.2⟩)⟩
              have n2_ : Aside0 (Kd.R (Kd.int .u8) 5 ((((((w19.setCell ⟨gb316, 0, none⟩ (.int .u64 t307)).setCell ⟨gb316, 1, none⟩ (.int .u64 t308)).setCell ⟨gb316, 2, none⟩ (.bool t309)).setCell ⟨gb316, 3, none⟩ (.int .u16 t310)).setCell ⟨gb316, 4, none⟩ (.int .u16 t311)).setCell ⟨gb316, 5, none⟩ (.slice Ao22 t312.length co22)) w.heap.size (fun k_ => some k_ ≠ (.slice Ao13 y294.length co13 : Value).ownBlock ∧ some k_ ≠ (.slice Ao17 t302.length co17 : Value).ownBlock) (.slice Ao22 t312.length co22) t312) := ⟨by (with_reducible repeat (first | apply Kd.R_alloc | apply Kd.R_drewN | apply Kd.R_drew)); exact Kd.R_mono (Kd.R_far (p := ⟨gb316, 5, none⟩) (Kd.R_far (p := ⟨gb316, 4, none⟩) (Kd.R_far (p := ⟨gb316, 3, none⟩) (Kd.R_far (p := ⟨gb316, 2, none⟩) (Kd.R_far (p := ⟨gb316, 1, none⟩) (Kd.R_far (p := ⟨gb316, 0, none⟩) (Kd.R_types HO314.out BK316.out (by decide)) (fun _ hk => hk.2) (.int .u64 t307)) (fun _ hk => hk.2) (.int .u64 t308)) (fun _ hk => hk.2) (.bool t309)) (fun _ hk => hk.2) (.int .u16 t310)) (fun _ hk => hk.2) (.int .u16 t311)) (fun _ hk => hk.2) (.slice Ao22 t312.length co22)) (fun _ hk => ⟨hk.1.1.2, hk.1.2⟩)⟩
              have n3_ : Aside0 (((((((w19.setCell ⟨gb316, 0, none⟩ (.int .u64 t307)).setCell ⟨gb316, 1, none⟩ (.int .u64 t308)).setCell ⟨gb316, 2, none⟩ (.bool t309)).setCell ⟨gb316, 3, none⟩ (.int .u16 t310)).setCell ⟨gb316, 4, none⟩ (.int .u16 t311)).setCell ⟨gb316, 5, none⟩ (.slice Ao22 t312.length co22)).heap[gb306]? = some (.cells #[.int .u64 t297, .int .u64 t298, .bool t299, .int .u16 t300, .int .u16 t301, .slice Ao17 t302.length co17] 39 (0, 0))) := ⟨by (with_reducible repeat (first | refine blk_drewN ?_ _ | refine blk_drew ?_ | refine blk_alloc ?_ _)); refine blk_far ?_ NB306_316.out _; (with_reducible repeat (first | refine blk_drewN ?_ _ | refine blk_drew ?_ | refine blk_alloc ?_ _)); refine blk_far ?_ NB306_316.out _; (with_reducible repeat (first | refine blk_drewN ?_ _ | refine blk_drew ?_ | refine blk_alloc ?_ _)); refine blk_far ?_ NB306_316.out _; (with_reducible repeat (first | refine blk_drewN ?_ _ | refine blk_drew ?_ | refine blk_alloc ?_ _)); refine blk_far ?_ NB306_316.out _; (with_reducible repeat (first | refine blk_drewN ?_ _ | refine blk_drew ?_ | refine blk_alloc ?_ _)); refine blk_far ?_ NB306_316.out _; (with_reducible repeat (first | refine blk_drewN ?_ _ | refine blk_drew ?_ | refine blk_alloc ?_ _)); refine blk_far ?_ NB306_316.out _; (with_reducible repeat (first | refine blk_drewN ?_ _ | refine blk_drew ?_ | refine blk_alloc ?_ _)); exact BK306.out⟩
              have n4_ : Aside0 (((((((w19.setCell ⟨gb316, 0, none⟩ (.int .u64 t307)).setCell ⟨gb316, 1, none⟩ (.int .u64 t308)).setCell ⟨gb316, 2, none⟩ (.bool t309)).setCell ⟨gb316, 3, none⟩ (.int .u16 t310)).setCell ⟨gb316, 4, none⟩ (.int .u16 t311)).setCell ⟨gb316, 5, none⟩ (.slice Ao22 t312.length co22)).heap[gb316]? = some (.cells #[.int .u64 t307, .int .u64 t308, .bool t309, .int .u16 t310, .int .u16 t311, .slice Ao22 t312.length co22] 34 (0, 0))) := ⟨by (with_reducible repeat (first | refine blk_drewN ?_ _ | refine blk_drew ?_ | refine blk_alloc ?_ _)); refine blk_put (cs := #[.int .u64 t307, .int .u64 t308, .bool t309, .int .u16 t310, .int .u16 t311, .slice none 0 0]) ?_ 5 _ rfl; (with_reducible repeat (first | refine blk_drewN ?_ _ | refine blk_drew ?_ | refine blk_alloc ?_ _)); refine blk_put (cs := #[.int .u64 t307, .int .u64 t308, .bool t309, .int .u16 t310, .int .u16 0, .slice none 0 0]) ?_ 4 _ rfl; (with_reducible repeat (first | refine blk_drewN ?_ _ | refine blk_drew ?_ | refine blk_alloc ?_ _)); refine blk_put (cs := #[.int .u64 t307, .int .u64 t308, .bool t309, .int .u16 0, .int .u16 0, .slice none 0 0]) ?_ 3 _ rfl; (with_reducible repeat (first | refine blk_drewN ?_ _ | refine blk_drew ?_ | refine blk_alloc ?_ _)); refine blk_put (cs := #[.int .u64 t307, .int .u64 t308, .bool false, .int .u16 0, .int .u16 0, .slice none 0 0]) ?_ 2 _ rfl; (with_reducible repeat (first | refine blk_drewN ?_ _ | refine blk_drew ?_ | refine blk_alloc ?_ _)); refine blk_put (cs := #[.int .u64 t307, .int .u64 0, .bool false, .int .u16 0, .int .u16 0, .slice none 0 0]) ?_ 1 _ rfl; (with_reducible repeat (first | refine blk_drewN ?_ _ | refine blk_drew ?_ | refine blk_alloc ?_ _)); refine blk_put (cs := #[.int .u64 0, .int .u64 0, .bool false, .int .u16 0, .int .u16 0, .slice none 0 0]) ?_ 0 _ rfl; (with_reducible repeat (first | refine blk_drewN ?_ _ | refine blk_drew ?_ | refine blk_alloc ?_ _)); exact BK316.out⟩
              have n5_ : Aside0 (Below w.heap.size w ((((((w19.setCell ⟨gb316, 0, none⟩ (.int .u64 t307)).setCell ⟨gb316, 1, none⟩ (.int .u64 t308)).setCell ⟨gb316, 2, none⟩ (.bool t309)).setCell ⟨gb316, 3, none⟩ (.int .u16 t310)).setCell ⟨gb316, 4, none⟩ (.int .u16 t311)).setCell ⟨gb316, 5, none⟩ (.slice Ao22 t312.length co22))) := ⟨by repeat (first | (with_reducible first | exact HB.out | apply below_alloc | apply pw_below_drewN | apply below_drew1 | refine below_set ?_ GE306.out | refine below_set ?_ GE316.out) | exact HB.out)⟩
              (try clear HO296)
              (try clear HO304)
              (try clear HO314)
              (try clear BK306)
              (try clear BK316)
              (try clear HB)
              generalize ((((((w19.setCell ⟨gb316, 0, none⟩ (.int .u64 t307)).setCell ⟨gb316, 1, none⟩ (.int .u64 t308)).setCell ⟨gb316, 2, none⟩ (.bool t309)).setCell ⟨gb316, 3, none⟩ (.int .u16 t310)).setCell ⟨gb316, 4, none⟩ (.int .u16 t311)).setCell ⟨gb316, 5, none⟩ (.slice Ao22 t312.length co22)) = w42 at n0_ n1_ n2_ n3_ n4_ n5_ ⊢
              have HO296 := n0_
              have HO304 := n1_
              have HO314 := n2_
              have BK306 := n3_
              have BK316 := n4_
              have HB := n5_
              clear n0_ n1_ n2_ n3_ n4_ n5_
              have n0_ := Aside0.mk (Kd.R_drew HO296.out)
              have n1_ := Aside0.mk (Kd.R_drew HO304.out)
              have n2_ := Aside0.mk (Kd.R_drew HO314.out)
              have n3_ := Aside0.mk (blk_drew BK306.out)
              have n4_ := Aside0.mk (blk_drew BK316.out)
              have n5_ := Aside0.mk (below_drew1 HB.out)
              clear HO296
              clear HO304
              clear HO314
              clear BK306
              clear BK316
              clear HB
              have HO296 := n0_
              have HO304 := n1_
              have HO314 := n2_
              have BK306 := n3_
              have BK316 := n4_
              have HB := n5_
              clear n0_ n1_ n2_ n3_ n4_ n5_
              refine start_ (n := 20) (S := fun w' => True) (ds := []) #[false, false, false, false, false, false, false, false, false, false, false, false, false, false, false, false, false, false, false, false] (by kernel_rfl) rfl rfl trivial (fun hHeld => ?_); refine with_tabW patchbaylaw02_FrameParses.tab5 patchbaylaw02_FrameParses.bits5 (fun HT_ HW_ => ?_)
              generalize w42.drew = w43 at HO296 HO304 HO314 BK306 BK316 HB hHeld ⊢
              refine one_ (i := 0) (N := some 28) #[true, false, false, false, false, false, false, false, false, false, false, false, false, false, false, false, false, false, false, false] rfl rfl (one_of HT_.out (by kernel_rfl)) (by decide) (fun K hK => ?_)
              refine goes_ Try.func18 (by kernel_rfl) rfl #[] (by rfl) rfl rfl (by (try simp only [List.map_toArray, List.map_cons, List.map_nil]); first | done | rfl | (simp only [List.length_drop, List.length_take]; rfl)) ?_
              with_reducible refine (patchbaylaw02_told.calls k  true _ A23.out).mono ?_
              rintro e w44 ⟨rfl, hb⟩
              refine ⟨_, rfl, ?_⟩
              have n0_ := Aside0.mk (Kd.R_below (by (with_reducible repeat (first | apply Kd.R_alloc | apply Kd.R_drewN | apply Kd.R_drew)); exact HO296.out) hb)
              have n1_ := Aside0.mk (Kd.R_below (by (with_reducible repeat (first | apply Kd.R_alloc | apply Kd.R_drewN | apply Kd.R_drew)); exact HO304.out) hb)
              have n2_ := Aside0.mk (Kd.R_below (by (with_reducible repeat (first | apply Kd.R_alloc | apply Kd.R_drewN | apply Kd.R_drew)); exact HO314.out) hb)
              have n3_ := Aside0.mk (blk_below (g := gb306) (o := .cells #[.int .u64 t297, .int .u64 t298, .bool t299, .int .u16 t300, .int .u16 t301, .slice Ao17 t302.length co17] 39 (0, 0)) (by (with_reducible repeat (first | refine blk_drewN ?_ _ | refine blk_drew ?_ | refine blk_alloc ?_ _)); exact BK306.out) hb)
              have n4_ := Aside0.mk (blk_below (g := gb316) (o := .cells #[.int .u64 t307, .int .u64 t308, .bool t309, .int .u16 t310, .int .u16 t311, .slice Ao22 t312.length co22] 34 (0, 0)) (by (with_reducible repeat (first | refine blk_drewN ?_ _ | refine blk_drew ?_ | refine blk_alloc ?_ _)); exact BK316.out) hb)
              have n5_ := Aside0.mk (below_step (by repeat (first | (with_reducible first | exact HB.out | apply below_alloc | apply pw_below_drewN | apply below_drew1 | refine below_set ?_ GE306.out | refine below_set ?_ GE316.out) | exact HB.out)) hb)
              clear HO296
              clear HO304
              clear HO314
              clear BK306
              clear BK316
              clear HB
              have HO296 := n0_
              have HO304 := n1_
              have HO314 := n2_
              have BK306 := n3_
              have BK316 := n4_
              have HB := n5_
              clear n0_ n1_ n2_ n3_ n4_ n5_
              (try clear hb)
              (try clear hb2)
              (try clear hk)
              (try clear hi)
              refine hK.out _ _ trivial (fun hHeld => ?_)
              clear hK K
              refine norm_ (a' := ?_) ?_ ?_
              rotate_left
              · show Act.put _ (some 28) _ = _
                simp only [Act.put, List.setIfInBounds_toArray, List.set_cons_zero, List.set_cons_succ, i64_w, i32_w]
                rfl
              refine pure_ (i := 1) (N := some 29) (v := ?_) (a' := ?_) #[true, true, false, false, false, false, false, false, false, false, false, false, false, false, false, false, false, false, false, false] rfl rfl (any_of HT_.out (by kernel_rfl)) (fun _ _ _ h => h) (Or.inl ⟨by rfl, ?_⟩) ?_ ?_
              rotate_left
              · intro w'
                go_simp
                with_reducible rfl
              rotate_left
              · simp only [Act.put, List.setIfInBounds_toArray, List.set_cons_zero, List.set_cons_succ, i64_w, i32_w]
                rfl
              refine pure_ (i := 2) (N := some 30) (v := ?_) (a' := ?_) #[true, true, true, false, false, false, false, false, false, false, false, false, false, false, false, false, false, false, false, false] rfl rfl (any_of HT_.out (by kernel_rfl)) (fun _ _ _ h => h) (Or.inl ⟨by rfl, ?_⟩) ?_ ?_
              rotate_left
              · intro w'
                go_simp
                with_reducible rfl
              rotate_left
              · simp only [Act.put, List.setIfInBounds_toArray, List.set_cons_zero, List.set_cons_succ, i64_w, i32_w]
                rfl
              refine pure_ (i := 3) (N := some 31) (v := ?_) (a' := ?_) #[true, true, true, true, false, false, false, false, false, false, false, false, false, false, false, false, false, false, false, false] rfl rfl (any_of HT_.out (by kernel_rfl)) (fun _ _ _ h => h) (Or.inl ⟨by rfl, ?_⟩) ?_ ?_
              rotate_left
              · intro w'
                go_simp
                with_reducible rfl
              rotate_left
              · simp only [Act.put, List.setIfInBounds_toArray, List.set_cons_zero, List.set_cons_succ, i64_w, i32_w]
                rfl
              refine pure_ (i := 4) (N := some 32) (v := ?_) (a' := ?_) #[true, true, true, true, true, false, false, false, false, false, false, false, false, false, false, false, false, false, false, false] rfl rfl (any_of HT_.out (by kernel_rfl)) (fun _ _ _ h => h) (Or.inl ⟨by rfl, ?_⟩) ?_ ?_
              rotate_left
              · intro w'
                go_simp
                with_reducible rfl
              rotate_left
              · simp only [Act.put, List.setIfInBounds_toArray, List.set_cons_zero, List.set_cons_succ, i64_w, i32_w]
                rfl
              refine pure_ (i := 5) (N := some 33) (v := ?_) (a' := ?_) #[true, true, true, true, true, true, false, false, false, false, false, false, false, false, false, false, false, false, false, false] rfl rfl (any_of HT_.out (by kernel_rfl)) (fun _ _ _ h => h) (Or.inl ⟨by rfl, ?_⟩) ?_ ?_
              rotate_left
              · intro w'
                go_simp
                with_reducible rfl
              rotate_left
              · simp only [Act.put, List.setIfInBounds_toArray, List.set_cons_zero, List.set_cons_succ, i64_w, i32_w]
                rfl
              refine pure_ (i := 6) (N := some 34) (v := ?_) (a' := ?_) #[true, true, true, true, true, true, true, false, false, false, false, false, false, false, false, false, false, false, false, false] rfl rfl (any_of HT_.out (by kernel_rfl)) (fun _ _ _ h => h) (Or.inl ⟨by rfl, ?_⟩) ?_ ?_
              rotate_left
              · intro w'
                go_simp
                with_reducible rfl
              rotate_left
              · simp only [Act.put, List.setIfInBounds_toArray, List.set_cons_zero, List.set_cons_succ, i64_w, i32_w]
                rfl
              refine pure_ (i := 7) (N := some 35) (v := ?_) (a' := ?_) #[true, true, true, true, true, true, true, true, false, false, false, false, false, false, false, false, false, false, false, false] rfl rfl (any_of HT_.out (by kernel_rfl)) (fun _ _ _ h => h) (Or.inl ⟨by rfl, ?_⟩) ?_ ?_
              rotate_left
              · intro w'
                go_simp
                with_reducible rfl
              rotate_left
              · simp only [Act.put, List.setIfInBounds_toArray, List.set_cons_zero, List.set_cons_succ, i64_w, i32_w]
                rfl
              refine pure_ (i := 8) (N := some 36) (v := undef) (a' := ?_) #[true, true, true, true, true, true, true, true, true, false, false, false, false, false, false, false, false, false, false, false] rfl rfl (any_of HT_.out (by kernel_rfl)) (fun _ _ _ h => h) (Or.inr ⟨by rfl, rfl⟩) ?_ ?_
              rotate_left
              · simp only [Act.put, List.setIfInBounds_toArray, List.set_cons_zero, List.set_cons_succ, i64_w, i32_w]
                rfl
              refine pure_ (i := 9) (N := some 37) (v := undef) (a' := ?_) #[true, true, true, true, true, true, true, true, true, true, false, false, false, false, false, false, false, false, false, false] rfl rfl (any_of HT_.out (by kernel_rfl)) (fun _ _ _ h => h) (Or.inr ⟨by rfl, rfl⟩) ?_ ?_
              rotate_left
              · simp only [Act.put, List.setIfInBounds_toArray, List.set_cons_zero, List.set_cons_succ, i64_w, i32_w]
                rfl
              refine pure_ (i := 10) (N := some 38) (v := undef) (a' := ?_) #[true, true, true, true, true, true, true, true, true, true, true, false, false, false, false, false, false, false, false, false] rfl rfl (any_of HT_.out (by kernel_rfl)) (fun _ _ _ h => h) (Or.inr ⟨by rfl, rfl⟩) ?_ ?_
              rotate_left
              · simp only [Act.put, List.setIfInBounds_toArray, List.set_cons_zero, List.set_cons_succ, i64_w, i32_w]
                rfl
              refine pure_ (i := 11) (N := some 39) (v := undef) (a' := ?_) #[true, true, true, true, true, true, true, true, true, true, true, true, false, false, false, false, false, false, false, false] rfl rfl (any_of HT_.out (by kernel_rfl)) (fun _ _ _ h => h) (Or.inr ⟨by rfl, rfl⟩) ?_ ?_
              rotate_left
              · simp only [Act.put, List.setIfInBounds_toArray, List.set_cons_zero, List.set_cons_succ, i64_w, i32_w]
                rfl
              refine pure_ (i := 12) (N := some 40) (v := undef) (a' := ?_) #[true, true, true, true, true, true, true, true, true, true, true, true, true, false, false, false, false, false, false, false] rfl rfl (any_of HT_.out (by kernel_rfl)) (fun _ _ _ h => h) (Or.inr ⟨by rfl, rfl⟩) ?_ ?_
              rotate_left
              · simp only [Act.put, List.setIfInBounds_toArray, List.set_cons_zero, List.set_cons_succ, i64_w, i32_w]
                rfl
              refine pure_ (i := 13) (N := some 41) (v := ?_) (a' := ?_) #[true, true, true, true, true, true, true, true, true, true, true, true, true, true, false, false, false, false, false, false] rfl rfl (any_of HT_.out (by kernel_rfl)) (fun _ _ _ h => h) (Or.inl ⟨by rfl, ?_⟩) ?_ ?_
              rotate_left
              · intro w'
                go_simp
                with_reducible rfl
              rotate_left
              · simp only [Act.put, List.setIfInBounds_toArray, List.set_cons_zero, List.set_cons_succ, i64_w, i32_w]
                rfl
              refine pure_ (i := 14) (N := some 42) (v := ?_) (a' := ?_) #[true, true, true, true, true, true, true, true, true, true, true, true, true, true, true, false, false, false, false, false] rfl rfl (any_of HT_.out (by kernel_rfl)) (fun _ _ _ h => h) (Or.inl ⟨by rfl, ?_⟩) ?_ ?_
              rotate_left
              · intro w'
                go_simp
                with_reducible rfl
              rotate_left
              · simp only [Act.put, List.setIfInBounds_toArray, List.set_cons_zero, List.set_cons_succ, i64_w, i32_w]
                rfl
              refine pure_ (i := 15) (N := some 43) (v := undef) (a' := ?_) #[true, true, true, true, true, true, true, true, true, true, true, true, true, true, true, true, false, false, false, false] rfl rfl (any_of HT_.out (by kernel_rfl)) (fun _ _ _ h => h) (Or.inr ⟨by rfl, rfl⟩) ?_ ?_
              rotate_left
              · simp only [Act.put, List.setIfInBounds_toArray, List.set_cons_zero, List.set_cons_succ, i64_w, i32_w]
                rfl
              refine pure_ (i := 16) (N := some 44) (v := undef) (a' := ?_) #[true, true, true, true, true, true, true, true, true, true, true, true, true, true, true, true, true, false, false, false] rfl rfl (any_of HT_.out (by kernel_rfl)) (fun _ _ _ h => h) (Or.inr ⟨by rfl, rfl⟩) ?_ ?_
              rotate_left
              · simp only [Act.put, List.setIfInBounds_toArray, List.set_cons_zero, List.set_cons_succ, i64_w, i32_w]
                rfl
              refine pure_ (i := 17) (N := some 45) (v := undef) (a' := ?_) #[true, true, true, true, true, true, true, true, true, true, true, true, true, true, true, true, true, true, false, false] rfl rfl (any_of HT_.out (by kernel_rfl)) (fun _ _ _ h => h) (Or.inr ⟨by rfl, rfl⟩) ?_ ?_
              rotate_left
              · simp only [Act.put, List.setIfInBounds_toArray, List.set_cons_zero, List.set_cons_succ, i64_w, i32_w]
                rfl
              refine pure_ (i := 18) (N := some 46) (v := undef) (a' := ?_) #[true, true, true, true, true, true, true, true, true, true, true, true, true, true, true, true, true, true, true, false] rfl rfl (any_of HT_.out (by kernel_rfl)) (fun _ _ _ h => h) (Or.inr ⟨by rfl, rfl⟩) ?_ ?_
              rotate_left
              · simp only [Act.put, List.setIfInBounds_toArray, List.set_cons_zero, List.set_cons_succ, i64_w, i32_w]
                rfl
              refine pure_ (i := 19) (N := some 47) (v := ?_) (a' := ?_) #[true, true, true, true, true, true, true, true, true, true, true, true, true, true, true, true, true, true, true, true] rfl rfl (any_of HT_.out (by kernel_rfl)) (fun _ _ _ h => h) (Or.inl ⟨by rfl, ?_⟩) ?_ ?_
              rotate_left
              · intro w'
                go_simp
                with_reducible rfl
              rotate_left
              · simp only [Act.put, List.setIfInBounds_toArray, List.set_cons_zero, List.set_cons_succ, i64_w, i32_w]
                rfl
              refine done_ (done_of HT_.out (by kernel_rfl)) ?_
              try go_wp2
              go_meet
              case rel => exact ⟨_, (true), (by first | rfl | (simp; done) | (simp [*]; done)), H', ⟨by first | omega | exact Nat.le_refl _⟩, ⟨by (with_reducible repeat (first | apply Kd.R_alloc | apply Kd.R_drewN | apply Kd.R_drew)); exact Kd.R_mono HO304.out (fun _ hk => hk.2)⟩, ⟨by (with_reducible repeat (first | apply Kd.R_alloc | apply Kd.R_drewN | apply Kd.R_drew)); exact Kd.R_mono HO314.out (fun _ hk => hk.2)⟩, ⟨by (with_reducible repeat (first | refine blk_drewN ?_ _ | refine blk_drew ?_ | refine blk_alloc ?_ _)); exact BK306.out⟩, ⟨by (with_reducible repeat (first | refine blk_drewN ?_ _ | refine blk_drew ?_ | refine blk_alloc ?_ _)); exact BK316.out⟩, ⟨by repeat (first | (with_reducible first | exact HB.out | apply below_alloc | apply pw_below_drewN | apply below_drew1 | refine below_set ?_ GE306.out | refine below_set ?_ GE316.out) | exact HB.out)⟩⟩
          · replace c24 := Bool.eq_false_iff.mpr c24
            subst c24
            have H1 : (patchbaylaw02_FrameParses.j0 k (l0.take ((ji2) : Int).toNat) t315 true t297 t298 t299 t300 t301 t302) = some r := by rw [if_neg (show ¬ (false = true) by decide)] at H; exact H
            clear H
            have H := H1
            clear H1
            have H' := Aside0.mk H
            clear H
            try go_wp2
            have n0_ : Aside0 (Kd.R (Kd.int .u8) 5 ((((((w19.setCell ⟨gb316, 0, none⟩ (.int .u64 t307)).setCell ⟨gb316, 1, none⟩ (.int .u64 t308)).setCell ⟨gb316, 2, none⟩ (.bool t309)).setCell ⟨gb316, 3, none⟩ (.int .u16 t310)).setCell ⟨gb316, 4, none⟩ (.int .u16 t311)).setCell ⟨gb316, 5, none⟩ (.slice Ao22 t312.length co22)) w.heap.size (fun k_ => some k_ ≠ (.slice Ao17 t302.length co17 : Value).ownBlock ∧ some k_ ≠ (.slice Ao22 t312.length co22 : Value).ownBlock) (.slice Ao13 y294.length co13) y294) := ⟨by (with_reducible repeat (first | apply Kd.R_alloc | apply Kd.R_drewN | apply Kd.R_drew)); exact Kd.R_mono (Kd.R_far (p := ⟨gb316, 5, none⟩) (Kd.R_far (p := ⟨gb316, 4, none⟩) (Kd.R_far (p := ⟨gb316, 3, none⟩) (Kd.R_far (p := ⟨gb316, 2, none⟩) (Kd.R_far (p := ⟨gb316, 1, none⟩) (Kd.R_far (p := ⟨gb316, 0, none⟩) (Kd.R_types HO296.out BK316.out (by decide)) (fun _ hk => hk.2) (.int .u64 t307)) (fun _ hk => hk.2) (.int .u64 t308)) (fun _ hk => hk.2) (.bool t309)) (fun _ hk => hk.2) (.int .u16 t310)) (fun _ hk => hk.2) (.int .u16 t311)) (fun _ hk => hk.2) (.slice Ao22 t312.length co22)) (fun _ hk => ⟨hk.1.1.2, hk.1.2⟩)⟩
            have n1_ : Aside0 (Kd.R (Kd.int .u8) 5 ((((((w19.setCell ⟨gb316, 0, none⟩ (.int .u64 t307)).setCell ⟨gb316, 1, none⟩ (.int .u64 t308)).setCell ⟨gb316, 2, none⟩ (.bool t309)).setCell ⟨gb316, 3, none⟩ (.int .u16 t310)).setCell ⟨gb316, 4, none⟩ (.int .u16 t311)).setCell ⟨gb316, 5, none⟩ (.slice Ao22 t312.length co22)) w.heap.size (fun k_ => some k_ ≠ (.slice Ao13 y294.length co13 : Value).ownBlock ∧ some k_ ≠ (.slice Ao22 t312.length co22 : Value).ownBlock) (.slice Ao17 t302.length co17) t302) := ⟨by (with_reducible repeat (first | apply Kd.R_alloc | apply Kd.R_drewN | apply Kd.R_drew)); exact Kd.R_mono (Kd.R_far (p := ⟨gb316, 5, none⟩) (Kd.R_far (p := ⟨gb316, 4, none⟩) (Kd.R_far (p := ⟨gb316, 3, none⟩) (Kd.R_far (p := ⟨gb316, 2, none⟩) (Kd.R_far (p := ⟨gb316, 1, none⟩) (Kd.R_far (p := ⟨gb316, 0, none⟩) (Kd.R_types HO304.out BK316.out (by decide)) (fun _ hk => hk.2) (.int .u64 t307)) (fun _ hk => hk.2) (.int .u64 t308)) (fun _ hk => hk.2) (.bool t309)) (fun _ hk => hk.2) (.int .u16 t310)) (fun _ hk => hk.2) (.int .u16 t311)) (fun _ hk => hk.2) (.slice Ao22 t312.length co22)) (fun _ hk => ⟨hk.1.1.2, hk.1.2⟩)⟩
            have n2_ : Aside0 (Kd.R (Kd.int .u8) 5 ((((((w19.setCell ⟨gb316, 0, none⟩ (.int .u64 t307)).setCell ⟨gb316, 1, none⟩ (.int .u64 t308)).setCell ⟨gb316, 2, none⟩ (.bool t309)).setCell ⟨gb316, 3, none⟩ (.int .u16 t310)).setCell ⟨gb316, 4, none⟩ (.int .u16 t311)).setCell ⟨gb316, 5, none⟩ (.slice Ao22 t312.length co22)) w.heap.size (fun k_ => some k_ ≠ (.slice Ao13 y294.length co13 : Value).ownBlock ∧ some k_ ≠ (.slice Ao17 t302.length co17 : Value).ownBlock) (.slice Ao22 t312.length co22) t312) := ⟨by (with_reducible repeat (first | apply Kd.R_alloc | apply Kd.R_drewN | apply Kd.R_drew)); exact Kd.R_mono (Kd.R_far (p := ⟨gb316, 5, none⟩) (Kd.R_far (p := ⟨gb316, 4, none⟩) (Kd.R_far (p := ⟨gb316, 3, none⟩) (Kd.R_far (p := ⟨gb316, 2, none⟩) (Kd.R_far (p := ⟨gb316, 1, none⟩) (Kd.R_far (p := ⟨gb316, 0, none⟩) (Kd.R_types HO314.out BK316.out (by decide)) (fun _ hk => hk.2) (.int .u64 t307)) (fun _ hk => hk.2) (.int .u64 t308)) (fun _ hk => hk.2) (.bool t309)) (fun _ hk => hk.2) (.int .u16 t310)) (fun _ hk => hk.2) (.int .u16 t311)) (fun _ hk => hk.2) (.slice Ao22 t312.length co22)) (fun _ hk => ⟨hk.1.1.2, hk.1.2⟩)⟩
            have n3_ : Aside0 (((((((w19.setCell ⟨gb316, 0, none⟩ (.int .u64 t307)).setCell ⟨gb316, 1, none⟩ (.int .u64 t308)).setCell ⟨gb316, 2, none⟩ (.bool t309)).setCell ⟨gb316, 3, none⟩ (.int .u16 t310)).setCell ⟨gb316, 4, none⟩ (.int .u16 t311)).setCell ⟨gb316, 5, none⟩ (.slice Ao22 t312.length co22)).heap[gb306]? = some (.cells #[.int .u64 t297, .int .u64 t298, .bool t299, .int .u16 t300, .int .u16 t301, .slice Ao17 t302.length co17] 39 (0, 0))) := ⟨by (with_reducible repeat (first | refine blk_drewN ?_ _ | refine blk_drew ?_ | refine blk_alloc ?_ _)); refine blk_far ?_ NB306_316.out _; (with_reducible repeat (first | refine blk_drewN ?_ _ | refine blk_drew ?_ | refine blk_alloc ?_ _)); refine blk_far ?_ NB306_316.out _; (with_reducible repeat (first | refine blk_drewN ?_ _ | refine blk_drew ?_ | refine blk_alloc ?_ _)); refine blk_far ?_ NB306_316.out _; (with_reducible repeat (first | refine blk_drewN ?_ _ | refine blk_drew ?_ | refine blk_alloc ?_ _)); refine blk_far ?_ NB306_316.out _; (with_reducible repeat (first | refine blk_drewN ?_ _ | refine blk_drew ?_ | refine blk_alloc ?_ _)); refine blk_far ?_ NB306_316.out _; (with_reducible repeat (first | refine blk_drewN ?_ _ | refine blk_drew ?_ | refine blk_alloc ?_ _)); refine blk_far ?_ NB306_316.out _; (with_reducible repeat (first | refine blk_drewN ?_ _ | refine blk_drew ?_ | refine blk_alloc ?_ _)); exact BK306.out⟩
            have n4_ : Aside0 (((((((w19.setCell ⟨gb316, 0, none⟩ (.int .u64 t307)).setCell ⟨gb316, 1, none⟩ (.int .u64 t308)).setCell ⟨gb316, 2, none⟩ (.bool t309)).setCell ⟨gb316, 3, none⟩ (.int .u16 t310)).setCell ⟨gb316, 4, none⟩ (.int .u16 t311)).setCell ⟨gb316, 5, none⟩ (.slice Ao22 t312.length co22)).heap[gb316]? = some (.cells #[.int .u64 t307, .int .u64 t308, .bool t309, .int .u16 t310, .int .u16 t311, .slice Ao22 t312.length co22] 34 (0, 0))) := ⟨by (with_reducible repeat (first | refine blk_drewN ?_ _ | refine blk_drew ?_ | refine blk_alloc ?_ _)); refine blk_put (cs := #[.int .u64 t307, .int .u64 t308, .bool t309, .int .u16 t310, .int .u16 t311, .slice none 0 0]) ?_ 5 _ rfl; (with_reducible repeat (first | refine blk_drewN ?_ _ | refine blk_drew ?_ | refine blk_alloc ?_ _)); refine blk_put (cs := #[.int .u64 t307, .int .u64 t308, .bool t309, .int .u16 t310, .int .u16 0, .slice none 0 0]) ?_ 4 _ rfl; (with_reducible repeat (first | refine blk_drewN ?_ _ | refine blk_drew ?_ | refine blk_alloc ?_ _)); refine blk_put (cs := #[.int .u64 t307, .int .u64 t308, .bool t309, .int .u16 0, .int .u16 0, .slice none 0 0]) ?_ 3 _ rfl; (with_reducible repeat (first | refine blk_drewN ?_ _ | refine blk_drew ?_ | refine blk_alloc ?_ _)); refine blk_put (cs := #[.int .u64 t307, .int .u64 t308, .bool false, .int .u16 0, .int .u16 0, .slice none 0 0]) ?_ 2 _ rfl; (with_reducible repeat (first | refine blk_drewN ?_ _ | refine blk_drew ?_ | refine blk_alloc ?_ _)); refine blk_put (cs := #[.int .u64 t307, .int .u64 0, .bool false, .int .u16 0, .int .u16 0, .slice none 0 0]) ?_ 1 _ rfl; (with_reducible repeat (first | refine blk_drewN ?_ _ | refine blk_drew ?_ | refine blk_alloc ?_ _)); refine blk_put (cs := #[.int .u64 0, .int .u64 0, .bool false, .int .u16 0, .int .u16 0, .slice none 0 0]) ?_ 0 _ rfl; (with_reducible repeat (first | refine blk_drewN ?_ _ | refine blk_drew ?_ | refine blk_alloc ?_ _)); exact BK316.out⟩
            have n5_ : Aside0 (Below w.heap.size w ((((((w19.setCell ⟨gb316, 0, none⟩ (.int .u64 t307)).setCell ⟨gb316, 1, none⟩ (.int .u64 t308)).setCell ⟨gb316, 2, none⟩ (.bool t309)).setCell ⟨gb316, 3, none⟩ (.int .u16 t310)).setCell ⟨gb316, 4, none⟩ (.int .u16 t311)).setCell ⟨gb316, 5, none⟩ (.slice Ao22 t312.length co22))) := ⟨by repeat (first | (with_reducible first | exact HB.out | apply below_alloc | apply pw_below_drewN | apply below_drew1 | refine below_set ?_ GE306.out | refine below_set ?_ GE316.out) | exact HB.out)⟩
            (try clear HO296)
            (try clear HO304)
            (try clear HO314)
            (try clear BK306)
            (try clear BK316)
            (try clear HB)
            generalize ((((((w19.setCell ⟨gb316, 0, none⟩ (.int .u64 t307)).setCell ⟨gb316, 1, none⟩ (.int .u64 t308)).setCell ⟨gb316, 2, none⟩ (.bool t309)).setCell ⟨gb316, 3, none⟩ (.int .u16 t310)).setCell ⟨gb316, 4, none⟩ (.int .u16 t311)).setCell ⟨gb316, 5, none⟩ (.slice Ao22 t312.length co22)) = w45 at n0_ n1_ n2_ n3_ n4_ n5_ ⊢
            have HO296 := n0_
            have HO304 := n1_
            have HO314 := n2_
            have BK306 := n3_
            have BK316 := n4_
            have HB := n5_
            clear n0_ n1_ n2_ n3_ n4_ n5_
            have n0_ := Aside0.mk (Kd.R_drew HO296.out)
            have n1_ := Aside0.mk (Kd.R_drew HO304.out)
            have n2_ := Aside0.mk (Kd.R_drew HO314.out)
            have n3_ := Aside0.mk (blk_drew BK306.out)
            have n4_ := Aside0.mk (blk_drew BK316.out)
            have n5_ := Aside0.mk (below_drew1 HB.out)
            clear HO296
            clear HO304
            clear HO314
            clear BK306
            clear BK316
            clear HB
            have HO296 := n0_
            have HO304 := n1_
            have HO314 := n2_
            have BK306 := n3_
            have BK316 := n4_
            have HB := n5_
            clear n0_ n1_ n2_ n3_ n4_ n5_
            refine start_ (n := 20) (S := fun w' => True) (ds := []) #[false, false, false, false, false, false, false, false, false, false, false, false, false, false, false, false, false, false, false, false] (by kernel_rfl) rfl rfl trivial (fun hHeld => ?_); refine with_tabW patchbaylaw02_FrameParses.tab5 patchbaylaw02_FrameParses.bits5 (fun HT_ HW_ => ?_)
            generalize w45.drew = w46 at HO296 HO304 HO314 BK306 BK316 HB hHeld ⊢
            refine one_ (i := 0) (N := some 28) #[true, false, false, false, false, false, false, false, false, false, false, false, false, false, false, false, false, false, false, false] rfl rfl (one_of HT_.out (by kernel_rfl)) (by decide) (fun K hK => ?_)
            refine goes_ Try.func18 (by kernel_rfl) rfl #[] (by rfl) rfl rfl (by (try simp only [List.map_toArray, List.map_cons, List.map_nil]); first | done | rfl | (simp only [List.length_drop, List.length_take]; rfl)) ?_
            with_reducible refine (patchbaylaw02_told.calls k  false _ A23.out).mono ?_
            rintro e w47 ⟨rfl, hb⟩
            refine ⟨_, rfl, ?_⟩
            have n0_ := Aside0.mk (Kd.R_below (by (with_reducible repeat (first | apply Kd.R_alloc | apply Kd.R_drewN | apply Kd.R_drew)); exact HO296.out) hb)
            have n1_ := Aside0.mk (Kd.R_below (by (with_reducible repeat (first | apply Kd.R_alloc | apply Kd.R_drewN | apply Kd.R_drew)); exact HO304.out) hb)
            have n2_ := Aside0.mk (Kd.R_below (by (with_reducible repeat (first | apply Kd.R_alloc | apply Kd.R_drewN | apply Kd.R_drew)); exact HO314.out) hb)
            have n3_ := Aside0.mk (blk_below (g := gb306) (o := .cells #[.int .u64 t297, .int .u64 t298, .bool t299, .int .u16 t300, .int .u16 t301, .slice Ao17 t302.length co17] 39 (0, 0)) (by (with_reducible repeat (first | refine blk_drewN ?_ _ | refine blk_drew ?_ | refine blk_alloc ?_ _)); exact BK306.out) hb)
            have n4_ := Aside0.mk (blk_below (g := gb316) (o := .cells #[.int .u64 t307, .int .u64 t308, .bool t309, .int .u16 t310, .int .u16 t311, .slice Ao22 t312.length co22] 34 (0, 0)) (by (with_reducible repeat (first | refine blk_drewN ?_ _ | refine blk_drew ?_ | refine blk_alloc ?_ _)); exact BK316.out) hb)
            have n5_ := Aside0.mk (below_step (by repeat (first | (with_reducible first | exact HB.out | apply below_alloc | apply pw_below_drewN | apply below_drew1 | refine below_set ?_ GE306.out | refine below_set ?_ GE316.out) | exact HB.out)) hb)
            clear HO296
            clear HO304
            clear HO314
            clear BK306
            clear BK316
            clear HB
            have HO296 := n0_
            have HO304 := n1_
            have HO314 := n2_
            have BK306 := n3_
            have BK316 := n4_
            have HB := n5_
            clear n0_ n1_ n2_ n3_ n4_ n5_
            (try clear hb)
            (try clear hb2)
            (try clear hk)
            (try clear hi)
            refine hK.out _ _ trivial (fun hHeld => ?_)
            clear hK K
            refine norm_ (a' := ?_) ?_ ?_
            rotate_left
            · show Act.put _ (some 28) _ = _
              simp only [Act.put, List.setIfInBounds_toArray, List.set_cons_zero, List.set_cons_succ, i64_w, i32_w]
              rfl
            refine pure_ (i := 1) (N := some 29) (v := ?_) (a' := ?_) #[true, true, false, false, false, false, false, false, false, false, false, false, false, false, false, false, false, false, false, false] rfl rfl (any_of HT_.out (by kernel_rfl)) (fun _ _ _ h => h) (Or.inl ⟨by rfl, ?_⟩) ?_ ?_
            rotate_left
            · intro w'
              go_simp
              with_reducible rfl
            rotate_left
            · simp only [Act.put, List.setIfInBounds_toArray, List.set_cons_zero, List.set_cons_succ, i64_w, i32_w]
              rfl
            refine pure_ (i := 2) (N := some 30) (v := ?_) (a' := ?_) #[true, true, true, false, false, false, false, false, false, false, false, false, false, false, false, false, false, false, false, false] rfl rfl (any_of HT_.out (by kernel_rfl)) (fun _ _ _ h => h) (Or.inl ⟨by rfl, ?_⟩) ?_ ?_
            rotate_left
            · intro w'
              go_simp
              with_reducible rfl
            rotate_left
            · simp only [Act.put, List.setIfInBounds_toArray, List.set_cons_zero, List.set_cons_succ, i64_w, i32_w]
              rfl
            refine pure_ (i := 3) (N := some 31) (v := undef) (a' := ?_) #[true, true, true, true, false, false, false, false, false, false, false, false, false, false, false, false, false, false, false, false] rfl rfl (any_of HT_.out (by kernel_rfl)) (fun _ _ _ h => h) (Or.inr ⟨by rfl, rfl⟩) ?_ ?_
            rotate_left
            · simp only [Act.put, List.setIfInBounds_toArray, List.set_cons_zero, List.set_cons_succ, i64_w, i32_w]
              rfl
            refine pure_ (i := 4) (N := some 32) (v := undef) (a' := ?_) #[true, true, true, true, true, false, false, false, false, false, false, false, false, false, false, false, false, false, false, false] rfl rfl (any_of HT_.out (by kernel_rfl)) (fun _ _ _ h => h) (Or.inr ⟨by rfl, rfl⟩) ?_ ?_
            rotate_left
            · simp only [Act.put, List.setIfInBounds_toArray, List.set_cons_zero, List.set_cons_succ, i64_w, i32_w]
              rfl
            refine pure_ (i := 5) (N := some 33) (v := undef) (a' := ?_) #[true, true, true, true, true, true, false, false, false, false, false, false, false, false, false, false, false, false, false, false] rfl rfl (any_of HT_.out (by kernel_rfl)) (fun _ _ _ h => h) (Or.inr ⟨by rfl, rfl⟩) ?_ ?_
            rotate_left
            · simp only [Act.put, List.setIfInBounds_toArray, List.set_cons_zero, List.set_cons_succ, i64_w, i32_w]
              rfl
            refine pure_ (i := 6) (N := some 34) (v := ?_) (a' := ?_) #[true, true, true, true, true, true, true, false, false, false, false, false, false, false, false, false, false, false, false, false] rfl rfl (any_of HT_.out (by kernel_rfl)) (fun _ _ _ h => h) (Or.inl ⟨by rfl, ?_⟩) ?_ ?_
            rotate_left
            · intro w'
              go_simp
              with_reducible rfl
            rotate_left
            · simp only [Act.put, List.setIfInBounds_toArray, List.set_cons_zero, List.set_cons_succ, i64_w, i32_w]
              rfl
            refine pure_ (i := 7) (N := some 35) (v := ?_) (a' := ?_) #[true, true, true, true, true, true, true, true, false, false, false, false, false, false, false, false, false, false, false, false] rfl rfl (any_of HT_.out (by kernel_rfl)) (fun _ _ _ h => h) (Or.inl ⟨by rfl, ?_⟩) ?_ ?_
            rotate_left
            · intro w'
              go_simp
              with_reducible rfl
            rotate_left
            · simp only [Act.put, List.setIfInBounds_toArray, List.set_cons_zero, List.set_cons_succ, i64_w, i32_w]
              rfl
            refine pure_ (i := 8) (N := some 36) (v := undef) (a' := ?_) #[true, true, true, true, true, true, true, true, true, false, false, false, false, false, false, false, false, false, false, false] rfl rfl (any_of HT_.out (by kernel_rfl)) (fun _ _ _ h => h) (Or.inr ⟨by rfl, rfl⟩) ?_ ?_
            rotate_left
            · simp only [Act.put, List.setIfInBounds_toArray, List.set_cons_zero, List.set_cons_succ, i64_w, i32_w]
              rfl
            refine pure_ (i := 9) (N := some 37) (v := undef) (a' := ?_) #[true, true, true, true, true, true, true, true, true, true, false, false, false, false, false, false, false, false, false, false] rfl rfl (any_of HT_.out (by kernel_rfl)) (fun _ _ _ h => h) (Or.inr ⟨by rfl, rfl⟩) ?_ ?_
            rotate_left
            · simp only [Act.put, List.setIfInBounds_toArray, List.set_cons_zero, List.set_cons_succ, i64_w, i32_w]
              rfl
            refine pure_ (i := 10) (N := some 38) (v := undef) (a' := ?_) #[true, true, true, true, true, true, true, true, true, true, true, false, false, false, false, false, false, false, false, false] rfl rfl (any_of HT_.out (by kernel_rfl)) (fun _ _ _ h => h) (Or.inr ⟨by rfl, rfl⟩) ?_ ?_
            rotate_left
            · simp only [Act.put, List.setIfInBounds_toArray, List.set_cons_zero, List.set_cons_succ, i64_w, i32_w]
              rfl
            refine pure_ (i := 11) (N := some 39) (v := undef) (a' := ?_) #[true, true, true, true, true, true, true, true, true, true, true, true, false, false, false, false, false, false, false, false] rfl rfl (any_of HT_.out (by kernel_rfl)) (fun _ _ _ h => h) (Or.inr ⟨by rfl, rfl⟩) ?_ ?_
            rotate_left
            · simp only [Act.put, List.setIfInBounds_toArray, List.set_cons_zero, List.set_cons_succ, i64_w, i32_w]
              rfl
            refine pure_ (i := 12) (N := some 40) (v := undef) (a' := ?_) #[true, true, true, true, true, true, true, true, true, true, true, true, true, false, false, false, false, false, false, false] rfl rfl (any_of HT_.out (by kernel_rfl)) (fun _ _ _ h => h) (Or.inr ⟨by rfl, rfl⟩) ?_ ?_
            rotate_left
            · simp only [Act.put, List.setIfInBounds_toArray, List.set_cons_zero, List.set_cons_succ, i64_w, i32_w]
              rfl
            refine pure_ (i := 13) (N := some 41) (v := ?_) (a' := ?_) #[true, true, true, true, true, true, true, true, true, true, true, true, true, true, false, false, false, false, false, false] rfl rfl (any_of HT_.out (by kernel_rfl)) (fun _ _ _ h => h) (Or.inl ⟨by rfl, ?_⟩) ?_ ?_
            rotate_left
            · intro w'
              go_simp
              with_reducible rfl
            rotate_left
            · simp only [Act.put, List.setIfInBounds_toArray, List.set_cons_zero, List.set_cons_succ, i64_w, i32_w]
              rfl
            refine pure_ (i := 14) (N := some 42) (v := ?_) (a' := ?_) #[true, true, true, true, true, true, true, true, true, true, true, true, true, true, true, false, false, false, false, false] rfl rfl (any_of HT_.out (by kernel_rfl)) (fun _ _ _ h => h) (Or.inl ⟨by rfl, ?_⟩) ?_ ?_
            rotate_left
            · intro w'
              go_simp
              with_reducible rfl
            rotate_left
            · simp only [Act.put, List.setIfInBounds_toArray, List.set_cons_zero, List.set_cons_succ, i64_w, i32_w]
              rfl
            refine pure_ (i := 15) (N := some 43) (v := undef) (a' := ?_) #[true, true, true, true, true, true, true, true, true, true, true, true, true, true, true, true, false, false, false, false] rfl rfl (any_of HT_.out (by kernel_rfl)) (fun _ _ _ h => h) (Or.inr ⟨by rfl, rfl⟩) ?_ ?_
            rotate_left
            · simp only [Act.put, List.setIfInBounds_toArray, List.set_cons_zero, List.set_cons_succ, i64_w, i32_w]
              rfl
            refine pure_ (i := 16) (N := some 44) (v := undef) (a' := ?_) #[true, true, true, true, true, true, true, true, true, true, true, true, true, true, true, true, true, false, false, false] rfl rfl (any_of HT_.out (by kernel_rfl)) (fun _ _ _ h => h) (Or.inr ⟨by rfl, rfl⟩) ?_ ?_
            rotate_left
            · simp only [Act.put, List.setIfInBounds_toArray, List.set_cons_zero, List.set_cons_succ, i64_w, i32_w]
              rfl
            refine pure_ (i := 17) (N := some 45) (v := undef) (a' := ?_) #[true, true, true, true, true, true, true, true, true, true, true, true, true, true, true, true, true, true, false, false] rfl rfl (any_of HT_.out (by kernel_rfl)) (fun _ _ _ h => h) (Or.inr ⟨by rfl, rfl⟩) ?_ ?_
            rotate_left
            · simp only [Act.put, List.setIfInBounds_toArray, List.set_cons_zero, List.set_cons_succ, i64_w, i32_w]
              rfl
            refine pure_ (i := 18) (N := some 46) (v := undef) (a' := ?_) #[true, true, true, true, true, true, true, true, true, true, true, true, true, true, true, true, true, true, true, false] rfl rfl (any_of HT_.out (by kernel_rfl)) (fun _ _ _ h => h) (Or.inr ⟨by rfl, rfl⟩) ?_ ?_
            rotate_left
            · simp only [Act.put, List.setIfInBounds_toArray, List.set_cons_zero, List.set_cons_succ, i64_w, i32_w]
              rfl
            refine pure_ (i := 19) (N := some 47) (v := ?_) (a' := ?_) #[true, true, true, true, true, true, true, true, true, true, true, true, true, true, true, true, true, true, true, true] rfl rfl (any_of HT_.out (by kernel_rfl)) (fun _ _ _ h => h) (Or.inl ⟨by rfl, ?_⟩) ?_ ?_
            rotate_left
            · intro w'
              go_simp
              with_reducible rfl
            rotate_left
            · simp only [Act.put, List.setIfInBounds_toArray, List.set_cons_zero, List.set_cons_succ, i64_w, i32_w]
              rfl
            refine done_ (done_of HT_.out (by kernel_rfl)) ?_
            try go_wp2
            go_meet
            case rel => exact ⟨_, (true), (by first | rfl | (simp; done) | (simp [*]; done)), H', ⟨by first | omega | exact Nat.le_refl _⟩, ⟨by (with_reducible repeat (first | apply Kd.R_alloc | apply Kd.R_drewN | apply Kd.R_drew)); exact Kd.R_mono HO304.out (fun _ hk => hk.2)⟩, ⟨by (with_reducible repeat (first | apply Kd.R_alloc | apply Kd.R_drewN | apply Kd.R_drew)); exact Kd.R_mono HO314.out (fun _ hk => hk.2)⟩, ⟨by (with_reducible repeat (first | refine blk_drewN ?_ _ | refine blk_drew ?_ | refine blk_alloc ?_ _)); exact BK306.out⟩, ⟨by (with_reducible repeat (first | refine blk_drewN ?_ _ | refine blk_drew ?_ | refine blk_alloc ?_ _)); exact BK316.out⟩, ⟨by repeat (first | (with_reducible first | exact HB.out | apply below_alloc | apply pw_below_drewN | apply below_drew1 | refine below_set ?_ GE306.out | refine below_set ?_ GE316.out) | exact HB.out)⟩⟩
        case rest =>
          clear HC8
          try clear c1
          try clear c2
          try clear p2
          try clear c4
          try clear c18
          try clear c24
          try clear c25
          try clear c25b0
          try clear c25b1
          try clear c40
          try clear c41
          obtain ⟨kq, x47_7, rfl, HA, HJ7, HO_307005, HO_317005, BK306, BK316, HB⟩ := hcut
          cases kq with
          | zero => exact absurd HA.out (by simp [patchbaylaw02_FrameParses.j0])
          | succ kj7 =>
            have H := HA.out
            clear HA
            simp only [patchbaylaw02_FrameParses.j0] at H
            by_cases c48 : x47_7 = true
            · subst c48
              have H1 : (some false) = some r := by rw [if_pos rfl] at H; exact H
              clear H
              have H := H1
              clear H1
              obtain rfl := Option.some.inj H
              go_wp2
              go_ret
              exact ⟨by first | rfl | (simp [errW_none, errW_some] <;> rfl) | (simp only [← hji2]; first | rfl | (simp [errW_none, errW_some] <;> rfl)) | (simp [*, errW_none, errW_some] <;> rfl), by repeat (first | (with_reducible first | exact HB.out | apply below_alloc | apply pw_below_drewN | apply below_drew1 | refine below_set ?_ GE306.out | refine below_set ?_ GE316.out) | exact HB.out)⟩
            · replace c48 := Bool.eq_false_iff.mpr c48
              subst c48
              have H1 : (if t315 = 0 then ((frame_Write.f kj7 t297 t298 t299 t300 t301 t302).bind fun bt328 => (if t299 = true then (patchbaylaw02_FrameParses.j1 kj7 (l0.take ((ji2) : Int).toNat) bt328.1 bt328.2 (bt328.2 != 0)) else (patchbaylaw02_FrameParses.j1 kj7 (l0.take ((ji2) : Int).toNat) bt328.1 bt328.2 true))) else (some true)) = some r := by rw [if_neg (show ¬ (false = true) by decide)] at H; exact H
              clear H
              have H := H1
              clear H1
              by_cases c49 : t315 = 0
              · rw [if_pos c49] at H
                have c49b0 : (t315 == 0) = true := beq_iff_eq.mpr c49
                have c49b1 : (t315 != 0) = false := bne_eq_false_iff_eq.mpr c49
                clear c49
                replace H := Option.bind_eq_some_iff.mp H
                obtain ⟨⟨t328, t331⟩, A500, H⟩ := H
                replace H : (if t299 = true then (patchbaylaw02_FrameParses.j1 kj7 (l0.take ((ji2) : Int).toNat) t328 t331 (t331 != 0)) else (patchbaylaw02_FrameParses.j1 kj7 (l0.take ((ji2) : Int).toNat) t328 t331 true)) = some r := H
                have A50 := Aside0.mk A500
                clear A500
                have HC51 := Aside0.mk H
                clear H
                have hnb52 := NB306_316.out
                have hnc52 := NB316_306.out
                have hcz53_0 : wc.cell? ⟨gb306, 0, none⟩ = some (.int .u64 t297) := (blk_cell BK306.out 0).trans rfl
                have hcz53_1 : wc.cell? ⟨gb306, 1, none⟩ = some (.int .u64 t298) := (blk_cell BK306.out 1).trans rfl
                have hcz53_2 : wc.cell? ⟨gb306, 2, none⟩ = some (.bool t299) := (blk_cell BK306.out 2).trans rfl
                have hcz53_3 : wc.cell? ⟨gb306, 3, none⟩ = some (.int .u16 t300) := (blk_cell BK306.out 3).trans rfl
                have hcz53_4 : wc.cell? ⟨gb306, 4, none⟩ = some (.int .u16 t301) := (blk_cell BK306.out 4).trans rfl
                have hcz53_5 : wc.cell? ⟨gb306, 5, none⟩ = some (.slice Ao17 t302.length co17) := (blk_cell BK306.out 5).trans rfl
                have hfz53_0 := blk_frozen BK306.out 0
                have hfz53_1 := blk_frozen BK306.out 1
                have hfz53_2 := blk_frozen BK306.out 2
                have hfz53_3 := blk_frozen BK306.out 3
                have hfz53_4 := blk_frozen BK306.out 4
                have hfz53_5 := blk_frozen BK306.out 5
                go_upto_region 10 with (first | ((with_reducible refine gate_callee (f := 42) rfl ?_); refine goesL_ (some 52) rfl rfl Try.func42 (by kernel_rfl) rfl #[.agg #[.int .u64 t297, .int .u64 t298, .bool t299, .int .u16 t300, .int .u16 t301, .slice Ao17 t302.length co17]] rfl (by (try simp only [List.map_toArray, List.map_cons, List.map_nil]); first | done | rfl | (simp only [List.length_drop, List.length_take]; rfl)) ?_; (with_reducible refine (frame_Write.calls kj7 t297 t298 t299 t300 t301 _ _ t302 t328 t331 _ ?side1 ?side2 A50.out).mono ?_); (case side1 => repeat (first | exact (Kd.R_reads' HO_307005.out).2.2 | (with_reducible refine Kd.C_alloc ?_ _) | (with_reducible refine Kd.C_drewN ?_ _) | (with_reducible refine Kd.C_drew ?_))); (case side2 => exact (Kd.R_reads' HO_307005.out).2.1); rintro e w54 ⟨v329, rfl, ho0, hb⟩; refine ⟨_, rfl, ?_⟩; have n0_ := Aside0.mk (Kd.R_elder' (by (with_reducible repeat (first | apply Kd.R_alloc | apply Kd.R_drewN | apply Kd.R_drew)); exact HO_307005.out) (Kd.R_base ho0) hb); have n1_ := Aside0.mk (Kd.R_elder' (by (with_reducible repeat (first | apply Kd.R_alloc | apply Kd.R_drewN | apply Kd.R_drew)); exact HO_317005.out) (Kd.R_base ho0) hb); have n2_ := Aside0.mk (Kd.R_lower (Kd.R_new' (Kd.R_new' ho0 (Kd.R_lt (by (with_reducible repeat (first | apply Kd.R_alloc | apply Kd.R_drewN | apply Kd.R_drew)); exact HO_307005.out))) (Kd.R_lt (by (with_reducible repeat (first | apply Kd.R_alloc | apply Kd.R_drewN | apply Kd.R_drew)); exact HO_317005.out))) (below_size (by repeat (first | (with_reducible first | exact HB.out | apply below_alloc | apply pw_below_drewN | apply below_drew1 | refine below_set ?_ GE306.out | refine below_set ?_ GE316.out) | exact HB.out)))); have n3_ := Aside0.mk (blk_below (g := gb306) (o := .cells #[.int .u64 t297, .int .u64 t298, .bool t299, .int .u16 t300, .int .u16 t301, .slice Ao17 t302.length co17] 39 (0, 0)) (by (with_reducible repeat (first | refine blk_drewN ?_ _ | refine blk_drew ?_ | refine blk_alloc ?_ _)); exact BK306.out) hb); have n4_ := Aside0.mk (blk_below (g := gb316) (o := .cells #[.int .u64 t307, .int .u64 t308, .bool t309, .int .u16 t310, .int .u16 t311, .slice Ao22 t312.length co22] 34 (0, 0)) (by (with_reducible repeat (first | refine blk_drewN ?_ _ | refine blk_drew ?_ | refine blk_alloc ?_ _)); exact BK316.out) hb); have n5_ := Aside0.mk (below_step (by repeat (first | (with_reducible first | exact HB.out | apply below_alloc | apply pw_below_drewN | apply below_drew1 | refine below_set ?_ GE306.out | refine below_set ?_ GE316.out) | exact HB.out)) hb); clear HO_307005; clear HO_317005; clear BK306; clear BK316; clear HB; have HO_307005 := n0_; have HO_317005 := n1_; have HO330 := n2_; have BK306 := n3_; have BK316 := n4_; have HB := n5_; clear n0_ n1_ n2_ n3_ n4_ n5_; (try clear hb); (try clear hb2); (try clear hk); (try clear hi); (try clear ho0)))
                (try simp only [Act.put, List.setIfInBounds_toArray, List.set_cons_zero, List.set_cons_succ])
                go_cut [61] (fun v61 wc => ∃ (kq : Nat) (x61_50 : Bool), v61 = .bool x61_50 ∧ Aside0 (patchbaylaw02_FrameParses.j1 kq (l0.take ((ji2) : Int).toNat) t328 t331 x61_50 = some r) ∧ Aside0 (kq ≤ kj7) ∧ Aside0 (Kd.R (Kd.int .u8) 5 wc w.heap.size (fun k_ => some k_ ≠ ((.slice Ao17 t302.length co17) : Value).ownBlock ∧ some k_ ≠ ((.slice Ao22 t312.length co22) : Value).ownBlock) v329 t328) ∧ Aside0 (Kd.R (Kd.int .u8) 5 wc w.heap.size (fun k_ => some k_ ≠ (v329 : Value).ownBlock ∧ some k_ ≠ ((.slice Ao22 t312.length co22) : Value).ownBlock) (.slice Ao17 t302.length co17) t302) ∧ Aside0 (Kd.R (Kd.int .u8) 5 wc w.heap.size (fun k_ => some k_ ≠ (v329 : Value).ownBlock ∧ some k_ ≠ ((.slice Ao17 t302.length co17) : Value).ownBlock) (.slice Ao22 t312.length co22) t312) ∧ Aside0 (wc.heap[gb306]? = some (.cells #[.int .u64 t297, .int .u64 t298, .bool t299, .int .u16 t300, .int .u16 t301, (.slice Ao17 t302.length co17)] 39 (0, 0))) ∧ Aside0 (wc.heap[gb316]? = some (.cells #[.int .u64 t307, .int .u64 t308, .bool t309, .int .u16 t310, .int .u16 t311, (.slice Ao22 t312.length co22)] 34 (0, 0))) ∧ Aside0 (Below w.heap.size w wc))
                case first =>
                  have H := HC51.out
                  clear HC51
                  by_cases c55 : t299 = true
                  · subst c55
                    have H1 : (patchbaylaw02_FrameParses.j1 kj7 (l0.take ((ji2) : Int).toNat) t328 t331 (t331 != 0)) = some r := by rw [if_pos rfl] at H; exact H
                    clear H
                    have H := H1
                    clear H1
                    have H' := Aside0.mk H
                    clear H
                    have hnb56 := NB306_316.out
                    have hnc56 := NB316_306.out
                    have hcz57_0 : w54.cell? ⟨gb306, 0, none⟩ = some (.int .u64 t297) := (blk_cell BK306.out 0).trans rfl
                    have hcz57_1 : w54.cell? ⟨gb306, 1, none⟩ = some (.int .u64 t298) := (blk_cell BK306.out 1).trans rfl
                    have hcz57_2 : w54.cell? ⟨gb306, 2, none⟩ = some (.bool true) := (blk_cell BK306.out 2).trans rfl
                    have hcz57_3 : w54.cell? ⟨gb306, 3, none⟩ = some (.int .u16 t300) := (blk_cell BK306.out 3).trans rfl
                    have hcz57_4 : w54.cell? ⟨gb306, 4, none⟩ = some (.int .u16 t301) := (blk_cell BK306.out 4).trans rfl
                    have hcz57_5 : w54.cell? ⟨gb306, 5, none⟩ = some (.slice Ao17 t302.length co17) := (blk_cell BK306.out 5).trans rfl
                    have hfz57_0 := blk_frozen BK306.out 0
                    have hfz57_1 := blk_frozen BK306.out 1
                    have hfz57_2 := blk_frozen BK306.out 2
                    have hfz57_3 := blk_frozen BK306.out 3
                    have hfz57_4 := blk_frozen BK306.out 4
                    have hfz57_5 := blk_frozen BK306.out 5
                    go_wp2
                    go_meet
                    case rel => exact ⟨_, ((t331 != 0)), (by first | rfl | (simp; done) | (simp [*]; done)), H', ⟨by have := HJ7.out; first | omega | exact Nat.le_refl _⟩, ⟨by (with_reducible repeat (first | apply Kd.R_alloc | apply Kd.R_drewN | apply Kd.R_drew)); exact Kd.R_mono HO330.out (fun _ hk => ⟨hk.1.2, hk.2⟩)⟩, ⟨by (with_reducible repeat (first | apply Kd.R_alloc | apply Kd.R_drewN | apply Kd.R_drew)); exact Kd.R_mono HO_307005.out (fun _ hk => ⟨hk.2, hk.1⟩)⟩, ⟨by (with_reducible repeat (first | apply Kd.R_alloc | apply Kd.R_drewN | apply Kd.R_drew)); exact Kd.R_mono HO_317005.out (fun _ hk => ⟨hk.2, hk.1⟩)⟩, ⟨by (with_reducible repeat (first | refine blk_drewN ?_ _ | refine blk_drew ?_ | refine blk_alloc ?_ _)); exact BK306.out⟩, ⟨by (with_reducible repeat (first | refine blk_drewN ?_ _ | refine blk_drew ?_ | refine blk_alloc ?_ _)); exact BK316.out⟩, ⟨by repeat (first | (with_reducible first | exact HB.out | apply below_alloc | apply pw_below_drewN | apply below_drew1 | refine below_set ?_ GE306.out | refine below_set ?_ GE316.out) | exact HB.out)⟩⟩
                  · replace c55 := Bool.eq_false_iff.mpr c55
                    subst c55
                    have H1 : (patchbaylaw02_FrameParses.j1 kj7 (l0.take ((ji2) : Int).toNat) t328 t331 true) = some r := by rw [if_neg (show ¬ (false = true) by decide)] at H; exact H
                    clear H
                    have H := H1
                    clear H1
                    have H' := Aside0.mk H
                    clear H
                    have hnb58 := NB306_316.out
                    have hnc58 := NB316_306.out
                    have hcz59_0 : w54.cell? ⟨gb306, 0, none⟩ = some (.int .u64 t297) := (blk_cell BK306.out 0).trans rfl
                    have hcz59_1 : w54.cell? ⟨gb306, 1, none⟩ = some (.int .u64 t298) := (blk_cell BK306.out 1).trans rfl
                    have hcz59_2 : w54.cell? ⟨gb306, 2, none⟩ = some (.bool false) := (blk_cell BK306.out 2).trans rfl
                    have hcz59_3 : w54.cell? ⟨gb306, 3, none⟩ = some (.int .u16 t300) := (blk_cell BK306.out 3).trans rfl
                    have hcz59_4 : w54.cell? ⟨gb306, 4, none⟩ = some (.int .u16 t301) := (blk_cell BK306.out 4).trans rfl
                    have hcz59_5 : w54.cell? ⟨gb306, 5, none⟩ = some (.slice Ao17 t302.length co17) := (blk_cell BK306.out 5).trans rfl
                    have hfz59_0 := blk_frozen BK306.out 0
                    have hfz59_1 := blk_frozen BK306.out 1
                    have hfz59_2 := blk_frozen BK306.out 2
                    have hfz59_3 := blk_frozen BK306.out 3
                    have hfz59_4 := blk_frozen BK306.out 4
                    have hfz59_5 := blk_frozen BK306.out 5
                    go_wp2
                    go_meet
                    case rel => exact ⟨_, (true), (by first | rfl | (simp; done) | (simp [*]; done)), H', ⟨by have := HJ7.out; first | omega | exact Nat.le_refl _⟩, ⟨by (with_reducible repeat (first | apply Kd.R_alloc | apply Kd.R_drewN | apply Kd.R_drew)); exact Kd.R_mono HO330.out (fun _ hk => ⟨hk.1.2, hk.2⟩)⟩, ⟨by (with_reducible repeat (first | apply Kd.R_alloc | apply Kd.R_drewN | apply Kd.R_drew)); exact Kd.R_mono HO_307005.out (fun _ hk => ⟨hk.2, hk.1⟩)⟩, ⟨by (with_reducible repeat (first | apply Kd.R_alloc | apply Kd.R_drewN | apply Kd.R_drew)); exact Kd.R_mono HO_317005.out (fun _ hk => ⟨hk.2, hk.1⟩)⟩, ⟨by (with_reducible repeat (first | refine blk_drewN ?_ _ | refine blk_drew ?_ | refine blk_alloc ?_ _)); exact BK306.out⟩, ⟨by (with_reducible repeat (first | refine blk_drewN ?_ _ | refine blk_drew ?_ | refine blk_alloc ?_ _)); exact BK316.out⟩, ⟨by repeat (first | (with_reducible first | exact HB.out | apply below_alloc | apply pw_below_drewN | apply below_drew1 | refine below_set ?_ GE306.out | refine below_set ?_ GE316.out) | exact HB.out)⟩⟩
                case rest =>
                  clear HC51
                  try clear c1
                  try clear c2
                  try clear p2
                  try clear c4
                  try clear c5
                  try clear c18
                  try clear c24
                  try clear c25
                  try clear c25b0
                  try clear c25b1
                  try clear c40
                  try clear c41
                  try clear c42
                  try clear c48
                  try clear c49
                  try clear c49b0
                  try clear c49b1
                  try clear c52
                  try clear c55
                  try clear c56
                  try clear c58
                  try clear hcz53_0
                  try clear hcz53_1
                  try clear hcz53_2
                  try clear hcz53_3
                  try clear hcz53_4
                  try clear hcz53_5
                  try clear hcz57_0
                  try clear hcz57_1
                  try clear hcz57_2
                  try clear hcz57_3
                  try clear hcz57_4
                  try clear hcz57_5
                  try clear hcz59_0
                  try clear hcz59_1
                  try clear hcz59_2
                  try clear hcz59_3
                  try clear hcz59_4
                  try clear hcz59_5
                  try clear hfz53_0
                  try clear hfz53_1
                  try clear hfz53_2
                  try clear hfz53_3
                  try clear hfz53_4
                  try clear hfz53_5
                  try clear hfz57_0
                  try clear hfz57_1
                  try clear hfz57_2
                  try clear hfz57_3
                  try clear hfz57_4
                  try clear hfz57_5
                  try clear hfz59_0
                  try clear hfz59_1
                  try clear hfz59_2
                  try clear hfz59_3
                  try clear hfz59_4
                  try clear hfz59_5
                  try clear p2
                  obtain ⟨kq, x61_50, rfl, HA, HJ50, HO_8, HO_307005, HO_317005, BK306, BK316, HB⟩ := hcut
                  cases kq with
                  | zero => exact absurd HA.out (by simp [patchbaylaw02_FrameParses.j1])
                  | succ kj50 =>
                    have H := HA.out
                    clear HA
                    simp only [patchbaylaw02_FrameParses.j1] at H
                    by_cases c60 : x61_50 = true
                    · subst c60
                      have H1 : (if t331 = 0 then ((patchbayref01_Same.f kj50 t328 (l0.take ((ji2) : Int).toNat)).bind fun t332 => (some t332)) else (some false)) = some r := by rw [if_pos rfl] at H; exact H
                      clear H
                      have H := H1
                      clear H1
                      by_cases c61 : t331 = 0
                      · rw [if_pos c61] at H
                        have c61b0 : (t331 == 0) = true := beq_iff_eq.mpr c61
                        have c61b1 : (t331 != 0) = false := bne_eq_false_iff_eq.mpr c61
                        clear c61
                        replace H := Option.bind_eq_some_iff.mp H
                        obtain ⟨t332, A620, H⟩ := H
                        replace H : (some t332) = some r := H
                        have A62 := Aside0.mk A620
                        clear A620
                        obtain rfl := Option.some.inj H
                        obtain ⟨Ao63, co63, eo63⟩ := Kd.R_slice HO_8.out
                        subst eo63
                        go_wp2_with (first | (go_at_call 19; refine calls_args (fun n_ => #[.slice _ t328.length _, .slice A0 n_ c0]) (show (l0.take ((ji2) : Int).toNat).length = ((ji2 : Int).toNat : Nat) from (by rw [List.length_take]; have h_ : (ji2 : Int) ≤ (l0.length : Int) := of_decide_eq_true (by first | (with_reducible assumption) | assumption); omega)) ?_; (with_reducible refine (patchbayref01_Same.calls kj50 _ _ t328 _ _ (l0.take ((ji2) : Int).toNat) t332 _ ?side1 ?side2 ?side3 ?side4 A62.out).mono ?_); (case side1 => repeat (first | exact (Kd.R_reads' HO_8.out).2.2 | (with_reducible refine Kd.C_alloc ?_ _) | (with_reducible refine Kd.C_drewN ?_ _) | (with_reducible refine Kd.C_drew ?_))); (case side2 => exact (Kd.R_reads' HO_8.out).2.1); (case side3 => repeat (first | exact (Kd.C_below HR290.out HB.out) | (with_reducible refine Kd.C_alloc ?_ _) | (with_reducible refine Kd.C_drewN ?_ _) | (with_reducible refine Kd.C_drew ?_))); (case side4 => exact HC290.out); rintro e w' ⟨rfl, ⟨nd, rfl⟩⟩))
                        go_ret
                        exact ⟨by first | rfl | (simp [errW_none, errW_some] <;> rfl) | (simp only [← hji2]; first | rfl | (simp [errW_none, errW_some] <;> rfl)) | (simp [*, errW_none, errW_some] <;> rfl), by repeat (first | (with_reducible first | exact HB.out | apply below_alloc | apply pw_below_drewN | apply below_drew1 | refine below_set ?_ GE306.out | refine below_set ?_ GE316.out) | exact HB.out)⟩
                      · rw [if_neg c61] at H
                        have c61b0 : (t331 == 0) = false := beq_eq_false_iff_ne.mpr c61
                        have c61b1 : (t331 != 0) = true := bne_iff_ne.mpr c61
                        obtain rfl := Option.some.inj H
                        go_wp2
                        go_ret
                        exact ⟨by first | rfl | (simp [errW_none, errW_some] <;> rfl) | (simp only [← hji2]; first | rfl | (simp [errW_none, errW_some] <;> rfl)) | (simp [*, errW_none, errW_some] <;> rfl), by repeat (first | (with_reducible first | exact HB.out | apply below_alloc | apply pw_below_drewN | apply below_drew1 | refine below_set ?_ GE306.out | refine below_set ?_ GE316.out) | exact HB.out)⟩
                    · replace c60 := Bool.eq_false_iff.mpr c60
                      subst c60
                      have H1 : ((patchbayref01_Same.f kj50 t328 (l0.take ((ji2) : Int).toNat)).bind fun t333 => (some t333)) = some r := by rw [if_neg (show ¬ (false = true) by decide)] at H; exact H
                      clear H
                      have H := H1
                      clear H1
                      replace H := Option.bind_eq_some_iff.mp H
                      obtain ⟨t333, A640, H⟩ := H
                      replace H : (some t333) = some r := H
                      have A64 := Aside0.mk A640
                      clear A640
                      obtain rfl := Option.some.inj H
                      obtain ⟨Ao65, co65, eo65⟩ := Kd.R_slice HO_8.out
                      subst eo65
                      go_wp2_with (first | ((with_reducible refine gate_callee (f := 19) rfl ?_); refine goesL_ (some 71) rfl rfl Try.func19 (by kernel_rfl) rfl #[.slice Ao65 t328.length co65, .slice A0 (l0.take ((ji2) : Int).toNat).length c0] rfl (by (try simp only [List.map_toArray, List.map_cons, List.map_nil]); first | done | (rw [(show (l0.take ((ji2) : Int).toNat).length = ((ji2 : Int).toNat : Nat) from (by rw [List.length_take]; have h_ : (ji2 : Int) ≤ (l0.length : Int) := of_decide_eq_true (by first | (with_reducible assumption) | assumption); omega))] <;> rfl) | (rw [show (l0.take ((ji2) : Int).toNat).length = (ji2).toNat from (by rw [List.length_take]; have h_ : ((ji2) : Int) ≤ (l0.length : Int) := of_decide_eq_true (by first | (with_reducible assumption) | assumption); omega)] <;> rfl) | (simp only [hji2]; rfl) | rfl | (simp only [List.length_drop, List.length_take]; rfl)) ?_; (with_reducible refine (patchbayref01_Same.calls kj50 _ _ t328 _ _ (l0.take ((ji2) : Int).toNat) t333 _ ?side1 ?side2 ?side3 ?side4 A64.out).mono ?_); (case side1 => repeat (first | exact (Kd.R_reads' HO_8.out).2.2 | (with_reducible refine Kd.C_alloc ?_ _) | (with_reducible refine Kd.C_drewN ?_ _) | (with_reducible refine Kd.C_drew ?_))); (case side2 => exact (Kd.R_reads' HO_8.out).2.1); (case side3 => repeat (first | exact (Kd.C_below HR290.out HB.out) | (with_reducible refine Kd.C_alloc ?_ _) | (with_reducible refine Kd.C_drewN ?_ _) | (with_reducible refine Kd.C_drew ?_))); (case side4 => exact HC290.out); rintro e w' ⟨rfl, ⟨nd, rfl⟩⟩; refine ⟨_, rfl, ?_⟩))
                      go_ret
                      exact ⟨by first | rfl | (simp [errW_none, errW_some] <;> rfl) | (simp only [← hji2]; first | rfl | (simp [errW_none, errW_some] <;> rfl)) | (simp [*, errW_none, errW_some] <;> rfl), by repeat (first | (with_reducible first | exact HB.out | apply below_alloc | apply pw_below_drewN | apply below_drew1 | refine below_set ?_ GE306.out | refine below_set ?_ GE316.out) | exact HB.out)⟩
              · rw [if_neg c49] at H
                have c49b0 : (t315 == 0) = false := beq_eq_false_iff_ne.mpr c49
                have c49b1 : (t315 != 0) = true := bne_iff_ne.mpr c49
                obtain rfl := Option.some.inj H
                go_wp2
                go_ret
                exact ⟨by first | rfl | (simp [errW_none, errW_some] <;> rfl) | (simp only [← hji2]; first | rfl | (simp [errW_none, errW_some] <;> rfl)) | (simp [*, errW_none, errW_some] <;> rfl), by repeat (first | (with_reducible first | exact HB.out | apply below_alloc | apply pw_below_drewN | apply below_drew1 | refine below_set ?_ GE306.out | refine below_set ?_ GE316.out) | exact HB.out)⟩
      · rw [if_neg c5] at H
        exact absurd H (by simp)
    · rw [if_neg c4] at H
      exact absurd H (by simp)
  · rw [if_neg c3] at H
    exact absurd H (by simp)

/-- THE ONE PURE STATEMENT of patchbaylaw02_FrameParses: yours. -/
def patchbaylaw02_FrameParses.Pure : Prop := ∀ (l0 : List Int), l0.length ≤ maxLen → l0.length * 1 ≤ 140737488351232 → (∀ x ∈ l0, (Lit.int .u8 x).wf = true) → ∃ k, patchbaylaw02_FrameParses.f k l0 = some true
theorem patchbaylaw02_FrameParses.walk (P : patchbaylaw02_FrameParses.Pure) (a0 : Option Addr) (len0 cap0 : Nat) (z0 : List Int) (w : World) (w0 : (a0 = none ∧ len0 = 0 ∧ cap0 = 0 ∧ z0 = []) ∨ ∃ x, a0 = some x ∧ len0 ≤ cap0 ∧ cap0 ≤ maxLen ∧ z0.length = cap0 ∧ (∀ i, i < z0.length → w.cell? (x.add i) = some (.int .u8 (z0.getD i 0))) ∧ ∀ n ∈ z0, (Lit.int .u8 n).wf = true) (y0 : len0 * 1 ≤ 140737488351232) :
    Calls Try.prog 13 #[.slice a0 len0 cap0] w fun e w' => e = .returned (.bool true) ∧ Below w.heap.size w w' := by
  obtain ⟨l0, rfl, hr0, hm0, hw0, hc0⟩ := ReadsInt.ofRowC w0
  obtain ⟨k, h⟩ := P l0 hm0 y0 hw0
  refine (patchbaylaw02_FrameParses.calls k _ _ l0 true w (Kd.C_of_reads (d := (0 : Int)) (h1 := fun _ => rfl) hr0) hc0 h).mono ?_
  rintro e w' ⟨rfl, hd⟩
  exact ⟨rfl, hd⟩

end Go.Proofs.Ytdohdjfclnlpmaa.PFrame
