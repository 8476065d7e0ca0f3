/- Plain Lean functions of what a law comes to, and their contracts: the machine's call does what they say; no condition. Written by wip/myprint.sh over the kit's print.py. -/
import Derived.Test.YtdohdjfclnlpmaaPFramex0
import Derived.Test.YtdohdjfclnlpmaaPFramex2
import Derived.Test.YtdohdjfclnlpmaaPFramex3
import Derived.Test.YtdohdjfclnlpmaaPFramex5
import Derived.Test.YtdohdjfclnlpmaaPFramex8
namespace Go.Proofs.Ytdohdjfclnlpmaa.PFrame
open Go.RowKit Go.Proofs.YtdohdjfclnlpmaaW.PrintWords Go.Proofs.YtdohdjfclnlpmaaW.PrintLast Go.Proofs.YtdohdjfclnlpmaaW.PrintMore
attribute [local go_sem] max2_int min2_int max_two min_two max_three min_three max_four min_four   -- for this text's walks alone
set_option linter.unusedVariables false
set_option linter.unusedSimpArgs false

/-! ### patchbaylaw02_FrameBack: function 4 -/
mutual
def patchbaylaw02_FrameBack.j0 : Nat → List Int → Int → Int → Bool → Int → Int → Bool → Int → Int → List Int → Option (Bool)
  | 0, _, _, _, _, _, _, _, _, _, _ => none
  | k + 1, x0, x1, x2, x46, x312000, x312001, x312002, x312003, x312004, x312005 => if x46 = true then ((patchbaylaw02_told.f k).bind fun t313 => (some t313)) else ((frame_Out.f k x0 true x1).bind fun bt314 => ((frame_Out.f k bt314.1 false 0).bind fun bt318 => ((frame_Out.f k bt314.1 true x2).bind fun bt322 => ((frame_Out.f k x0 true x2).bind fun bt326 => (if bt314.2 = 0 then (if bt322.2 = 0 then (if bt326.2 = 0 then ((patchbayref01_Same.f k bt322.1 bt326.1).bind fun t330 => (patchbaylaw02_FrameBack.j1 k x0 x1 bt314.1 bt318.1 bt318.2 (!t330) x312000 x312001 x312002 x312003 x312004 x312005)) else (patchbaylaw02_FrameBack.j1 k x0 x1 bt314.1 bt318.1 bt318.2 true x312000 x312001 x312002 x312003 x312004 x312005)) else (patchbaylaw02_FrameBack.j1 k x0 x1 bt314.1 bt318.1 bt318.2 true x312000 x312001 x312002 x312003 x312004 x312005)) else (patchbaylaw02_FrameBack.j1 k x0 x1 bt314.1 bt318.1 bt318.2 true x312000 x312001 x312002 x312003 x312004 x312005))))))
def patchbaylaw02_FrameBack.j1 : Nat → List Int → Int → List Int → List Int → Int → Bool → Int → Int → Bool → Int → Int → List Int → Option (Bool)
  | 0, _, _, _, _, _, _, _, _, _, _, _, _ => none
  | k + 1, x0, x1, x9, x11, x12, x86, x312000, x312001, x312002, x312003, x312004, x312005 => if x86 = true then (some false) else ((frame_Parse.f k x9).bind fun bt331 => (if bt331.2.2.2.2.2.2 = 0 then (if bt331.2.2.1 = true then (if (wrap64 (Int.tmod bt331.2.2.2.1 4096)) = x1 then (patchbaylaw02_FrameBack.j2 k x0 x11 x12 ((IntKind.u16.wrap (Int.tdiv bt331.2.2.2.1 4096)) != (IntKind.u16.wrap (Int.tdiv x312003 4096))) x312000 x312001 x312002 x312003 x312004 x312005) else (patchbaylaw02_FrameBack.j2 k x0 x11 x12 true x312000 x312001 x312002 x312003 x312004 x312005)) else (patchbaylaw02_FrameBack.j2 k x0 x11 x12 true x312000 x312001 x312002 x312003 x312004 x312005)) else (patchbaylaw02_FrameBack.j2 k x0 x11 x12 true x312000 x312001 x312002 x312003 x312004 x312005)))
def patchbaylaw02_FrameBack.j2 : Nat → List Int → List Int → Int → Bool → Int → Int → Bool → Int → Int → List Int → Option (Bool)
  | 0, _, _, _, _, _, _, _, _, _, _ => none
  | k + 1, x0, x11, x12, x115, x312000, x312001, x312002, x312003, x312004, x312005 => if x115 = true then (some false) else (if x12 = 0 then (patchbaylaw02_FrameBack.j3 k x0 x11 (decide ((x11.length : Int) < 14)) x312000 x312001 x312002 x312003 x312004 x312005) else (patchbaylaw02_FrameBack.j3 k x0 x11 true x312000 x312001 x312002 x312003 x312004 x312005))
def patchbaylaw02_FrameBack.j3 : Nat → List Int → List Int → Bool → Int → Int → Bool → Int → Int → List Int → Option (Bool)
  | 0, _, _, _, _, _, _, _, _, _ => none
  | k + 1, x0, x11, x122, x312000, x312001, x312002, x312003, x312004, x312005 => if x122 = true then (some false) else (if x312002 = true then (patchbaylaw02_FrameBack.j4 k x0 x11 16) else (patchbaylaw02_FrameBack.j4 k x0 x11 12))
def patchbaylaw02_FrameBack.j4 : Nat → List Int → List Int → Int → Option (Bool)
  | 0, _, _, _ => none
  | k + 1, x0, x11, x19 => (some (([] : List Int) : List Int)).bind fun y341 => (if 12 ≤ (x0.length : Int) then (if y341.length + (x0.take 12).length < 140737488355328 then ((some (y341 ++ (x0.take 12) : List Int)).bind fun y345 => (if 0 ≤ x19 then (if x19 ≤ (x0.length : Int) then (if y345.length + (x0.drop (x19 : Int).toNat).length < 140737488355328 then (patchbaylaw02_FrameBack.l0 k x11 (y345 ++ (x0.drop (x19 : Int).toNat))) else (none)) else (none)) else (none))) else (none)) else (none))
def patchbaylaw02_FrameBack.l0 : Nat → List Int → List Int → Option (Bool)
  | 0, _, _ => none
  | k + 1, x11, x20 => if (x20.length : Int) < 60 then (if x20.length < 140737488355328 then (patchbaylaw02_FrameBack.l0 k x11 (x20 ++ [0])) else (none)) else ((patchbayref01_Same.f k x11 x20).bind fun t355 => (some t355))
end
def patchbaylaw02_FrameBack.f (k : Nat) (l0 : List Int) (a1 : Int) (a2 : Int) : Option (Bool) := if 0 ≤ (mn (l0.length : Int) 1600) then (if (mn (l0.length : Int) 1600) ≤ (l0.length : Int) then ((patchbayref02_Parse.f k (l0.take ((mn (l0.length : Int) 1600) : Int).toNat)).bind fun bt302 => ((patchbaylaw02_told.f k).bind fun t312 => (if t312 = true then (patchbaylaw02_FrameBack.j0 k (l0.take ((mn (l0.length : Int) 1600) : Int).toNat) (wrap64 (1 + (wrap64 (Int.tmod (IntKind.u64.wrap (a1)) 4094)))) (wrap64 (1 + (wrap64 (Int.tmod (IntKind.u64.wrap (a2)) 4094)))) (bt302.2.2.2.2.2.2 != 0) bt302.1 bt302.2.1 bt302.2.2.1 bt302.2.2.2.1 bt302.2.2.2.2.1 bt302.2.2.2.2.2.1) else (patchbaylaw02_FrameBack.j0 k (l0.take ((mn (l0.length : Int) 1600) : Int).toNat) (wrap64 (1 + (wrap64 (Int.tmod (IntKind.u64.wrap (a1)) 4094)))) (wrap64 (1 + (wrap64 (Int.tmod (IntKind.u64.wrap (a2)) 4094)))) true bt302.1 bt302.2.1 bt302.2.2.1 bt302.2.2.2.1 bt302.2.2.2.2.1 bt302.2.2.2.2.2.1)))) else (none)) else (none)
theorem patchbaylaw02_FrameBack.mono_l : ∀ k, (∀ y0 y1 y2 y3 y4 y5 y6 y7 y8 y9, LeO (patchbaylaw02_FrameBack.j0 k y0 y1 y2 y3 y4 y5 y6 y7 y8 y9) (patchbaylaw02_FrameBack.j0 (k + 1) y0 y1 y2 y3 y4 y5 y6 y7 y8 y9)) ∧ (∀ y0 y1 y2 y3 y4 y5 y6 y7 y8 y9 y10 y11, LeO (patchbaylaw02_FrameBack.j1 k y0 y1 y2 y3 y4 y5 y6 y7 y8 y9 y10 y11) (patchbaylaw02_FrameBack.j1 (k + 1) y0 y1 y2 y3 y4 y5 y6 y7 y8 y9 y10 y11)) ∧ (∀ y0 y1 y2 y3 y4 y5 y6 y7 y8 y9, LeO (patchbaylaw02_FrameBack.j2 k y0 y1 y2 y3 y4 y5 y6 y7 y8 y9) (patchbaylaw02_FrameBack.j2 (k + 1) y0 y1 y2 y3 y4 y5 y6 y7 y8 y9)) ∧ (∀ y0 y1 y2 y3 y4 y5 y6 y7 y8, LeO (patchbaylaw02_FrameBack.j3 k y0 y1 y2 y3 y4 y5 y6 y7 y8) (patchbaylaw02_FrameBack.j3 (k + 1) y0 y1 y2 y3 y4 y5 y6 y7 y8)) ∧ (∀ y0 y1 y2, LeO (patchbaylaw02_FrameBack.j4 k y0 y1 y2) (patchbaylaw02_FrameBack.j4 (k + 1) y0 y1 y2)) ∧ (∀ y0 y1, LeO (patchbaylaw02_FrameBack.l0 k y0 y1) (patchbaylaw02_FrameBack.l0 (k + 1) y0 y1))
  | 0 => ⟨fun _ _ _ _ _ _ _ _ _ _ r h => by simp [patchbaylaw02_FrameBack.j0] at h, fun _ _ _ _ _ _ _ _ _ _ _ _ r h => by simp [patchbaylaw02_FrameBack.j1] at h, fun _ _ _ _ _ _ _ _ _ _ r h => by simp [patchbaylaw02_FrameBack.j2] at h, fun _ _ _ _ _ _ _ _ _ r h => by simp [patchbaylaw02_FrameBack.j3] at h, fun _ _ _ r h => by simp [patchbaylaw02_FrameBack.j4] at h, fun _ _ r h => by simp [patchbaylaw02_FrameBack.l0] at h⟩
  | k + 1 => by
    obtain ⟨ih0, ih1, ih2, ih3, ih4, ih5⟩ := patchbaylaw02_FrameBack.mono_l k
    refine ⟨?_, ?_, ?_, ?_, ?_, ?_⟩
    · intro y0 y1 y2 y3 y4 y5 y6 y7 y8 y9
      unfold patchbaylaw02_FrameBack.j0
      repeat' first
      | (with_reducible exact ih0 _ _ _ _ _ _ _ _ _ _)
      | (with_reducible exact ih1 _ _ _ _ _ _ _ _ _ _ _ _)
      | (with_reducible exact ih2 _ _ _ _ _ _ _ _ _ _)
      | (with_reducible exact ih3 _ _ _ _ _ _ _ _ _)
      | (with_reducible exact ih4 _ _ _)
      | (with_reducible exact ih5 _ _)
      | (with_reducible exact frame_Out.mono _ _ _ _)
      | (with_reducible exact frame_Parse.mono _ _)
      | (with_reducible exact patchbaylaw02_told.mono _)
      | (with_reducible exact patchbayref01_Same.mono _ _ _)
      | (with_reducible exact patchbayref02_Parse.mono _ _)
      | (with_reducible exact LeO.refl _)
      | (with_reducible exact LeO.none _)
      | (with_reducible refine LeO.ite ?_ ?_)
      | (with_reducible refine LeO.bind ?_ (fun _ => ?_))
      | exact ih0 _ _ _ _ _ _ _ _ _ _
      | exact ih1 _ _ _ _ _ _ _ _ _ _ _ _
      | exact ih2 _ _ _ _ _ _ _ _ _ _
      | exact ih3 _ _ _ _ _ _ _ _ _
      | exact ih4 _ _ _
      | exact ih5 _ _
      | exact frame_Out.mono _ _ _ _
      | exact frame_Parse.mono _ _
      | exact patchbaylaw02_told.mono _
      | exact patchbayref01_Same.mono _ _ _
      | exact patchbayref02_Parse.mono _ _
      | exact LeO.none _
      | refine LeO.ite ?_ ?_
      | refine LeO.bind ?_ (fun _ => ?_)
    · intro y0 y1 y2 y3 y4 y5 y6 y7 y8 y9 y10 y11
      unfold patchbaylaw02_FrameBack.j1
      repeat' first
      | (with_reducible exact ih0 _ _ _ _ _ _ _ _ _ _)
      | (with_reducible exact ih1 _ _ _ _ _ _ _ _ _ _ _ _)
      | (with_reducible exact ih2 _ _ _ _ _ _ _ _ _ _)
      | (with_reducible exact ih3 _ _ _ _ _ _ _ _ _)
      | (with_reducible exact ih4 _ _ _)
      | (with_reducible exact ih5 _ _)
      | (with_reducible exact frame_Out.mono _ _ _ _)
      | (with_reducible exact frame_Parse.mono _ _)
      | (with_reducible exact patchbaylaw02_told.mono _)
      | (with_reducible exact patchbayref01_Same.mono _ _ _)
      | (with_reducible exact patchbayref02_Parse.mono _ _)
      | (with_reducible exact LeO.refl _)
      | (with_reducible exact LeO.none _)
      | (with_reducible refine LeO.ite ?_ ?_)
      | (with_reducible refine LeO.bind ?_ (fun _ => ?_))
      | exact ih0 _ _ _ _ _ _ _ _ _ _
      | exact ih1 _ _ _ _ _ _ _ _ _ _ _ _
      | exact ih2 _ _ _ _ _ _ _ _ _ _
      | exact ih3 _ _ _ _ _ _ _ _ _
      | exact ih4 _ _ _
      | exact ih5 _ _
      | exact frame_Out.mono _ _ _ _
      | exact frame_Parse.mono _ _
      | exact patchbaylaw02_told.mono _
      | exact patchbayref01_Same.mono _ _ _
      | exact patchbayref02_Parse.mono _ _
      | exact LeO.none _
      | refine LeO.ite ?_ ?_
      | refine LeO.bind ?_ (fun _ => ?_)
    · intro y0 y1 y2 y3 y4 y5 y6 y7 y8 y9
      unfold patchbaylaw02_FrameBack.j2
      repeat' first
      | (with_reducible exact ih0 _ _ _ _ _ _ _ _ _ _)
      | (with_reducible exact ih1 _ _ _ _ _ _ _ _ _ _ _ _)
      | (with_reducible exact ih2 _ _ _ _ _ _ _ _ _ _)
      | (with_reducible exact ih3 _ _ _ _ _ _ _ _ _)
      | (with_reducible exact ih4 _ _ _)
      | (with_reducible exact ih5 _ _)
      | (with_reducible exact frame_Out.mono _ _ _ _)
      | (with_reducible exact frame_Parse.mono _ _)
      | (with_reducible exact patchbaylaw02_told.mono _)
      | (with_reducible exact patchbayref01_Same.mono _ _ _)
      | (with_reducible exact patchbayref02_Parse.mono _ _)
      | (with_reducible exact LeO.refl _)
      | (with_reducible exact LeO.none _)
      | (with_reducible refine LeO.ite ?_ ?_)
      | (with_reducible refine LeO.bind ?_ (fun _ => ?_))
      | exact ih0 _ _ _ _ _ _ _ _ _ _
      | exact ih1 _ _ _ _ _ _ _ _ _ _ _ _
      | exact ih2 _ _ _ _ _ _ _ _ _ _
      | exact ih3 _ _ _ _ _ _ _ _ _
      | exact ih4 _ _ _
      | exact ih5 _ _
      | exact frame_Out.mono _ _ _ _
      | exact frame_Parse.mono _ _
      | exact patchbaylaw02_told.mono _
      | exact patchbayref01_Same.mono _ _ _
      | exact patchbayref02_Parse.mono _ _
      | exact LeO.none _
      | refine LeO.ite ?_ ?_
      | refine LeO.bind ?_ (fun _ => ?_)
    · intro y0 y1 y2 y3 y4 y5 y6 y7 y8
      unfold patchbaylaw02_FrameBack.j3
      repeat' first
      | (with_reducible exact ih0 _ _ _ _ _ _ _ _ _ _)
      | (with_reducible exact ih1 _ _ _ _ _ _ _ _ _ _ _ _)
      | (with_reducible exact ih2 _ _ _ _ _ _ _ _ _ _)
      | (with_reducible exact ih3 _ _ _ _ _ _ _ _ _)
      | (with_reducible exact ih4 _ _ _)
      | (with_reducible exact ih5 _ _)
      | (with_reducible exact frame_Out.mono _ _ _ _)
      | (with_reducible exact frame_Parse.mono _ _)
      | (with_reducible exact patchbaylaw02_told.mono _)
      | (with_reducible exact patchbayref01_Same.mono _ _ _)
      | (with_reducible exact patchbayref02_Parse.mono _ _)
      | (with_reducible exact LeO.refl _)
      | (with_reducible exact LeO.none _)
      | (with_reducible refine LeO.ite ?_ ?_)
      | (with_reducible refine LeO.bind ?_ (fun _ => ?_))
      | exact ih0 _ _ _ _ _ _ _ _ _ _
      | exact ih1 _ _ _ _ _ _ _ _ _ _ _ _
      | exact ih2 _ _ _ _ _ _ _ _ _ _
      | exact ih3 _ _ _ _ _ _ _ _ _
      | exact ih4 _ _ _
      | exact ih5 _ _
      | exact frame_Out.mono _ _ _ _
      | exact frame_Parse.mono _ _
      | exact patchbaylaw02_told.mono _
      | exact patchbayref01_Same.mono _ _ _
      | exact patchbayref02_Parse.mono _ _
      | exact LeO.none _
      | refine LeO.ite ?_ ?_
      | refine LeO.bind ?_ (fun _ => ?_)
    · intro y0 y1 y2
      unfold patchbaylaw02_FrameBack.j4
      repeat' first
      | (with_reducible exact ih0 _ _ _ _ _ _ _ _ _ _)
      | (with_reducible exact ih1 _ _ _ _ _ _ _ _ _ _ _ _)
      | (with_reducible exact ih2 _ _ _ _ _ _ _ _ _ _)
      | (with_reducible exact ih3 _ _ _ _ _ _ _ _ _)
      | (with_reducible exact ih4 _ _ _)
      | (with_reducible exact ih5 _ _)
      | (with_reducible exact frame_Out.mono _ _ _ _)
      | (with_reducible exact frame_Parse.mono _ _)
      | (with_reducible exact patchbaylaw02_told.mono _)
      | (with_reducible exact patchbayref01_Same.mono _ _ _)
      | (with_reducible exact patchbayref02_Parse.mono _ _)
      | (with_reducible exact LeO.refl _)
      | (with_reducible exact LeO.none _)
      | (with_reducible refine LeO.ite ?_ ?_)
      | (with_reducible refine LeO.bind ?_ (fun _ => ?_))
      | exact ih0 _ _ _ _ _ _ _ _ _ _
      | exact ih1 _ _ _ _ _ _ _ _ _ _ _ _
      | exact ih2 _ _ _ _ _ _ _ _ _ _
      | exact ih3 _ _ _ _ _ _ _ _ _
      | exact ih4 _ _ _
      | exact ih5 _ _
      | exact frame_Out.mono _ _ _ _
      | exact frame_Parse.mono _ _
      | exact patchbaylaw02_told.mono _
      | exact patchbayref01_Same.mono _ _ _
      | exact patchbayref02_Parse.mono _ _
      | exact LeO.none _
      | refine LeO.ite ?_ ?_
      | refine LeO.bind ?_ (fun _ => ?_)
    · intro y0 y1
      unfold patchbaylaw02_FrameBack.l0
      repeat' first
      | (with_reducible exact ih0 _ _ _ _ _ _ _ _ _ _)
      | (with_reducible exact ih1 _ _ _ _ _ _ _ _ _ _ _ _)
      | (with_reducible exact ih2 _ _ _ _ _ _ _ _ _ _)
      | (with_reducible exact ih3 _ _ _ _ _ _ _ _ _)
      | (with_reducible exact ih4 _ _ _)
      | (with_reducible exact ih5 _ _)
      | (with_reducible exact frame_Out.mono _ _ _ _)
      | (with_reducible exact frame_Parse.mono _ _)
      | (with_reducible exact patchbaylaw02_told.mono _)
      | (with_reducible exact patchbayref01_Same.mono _ _ _)
      | (with_reducible exact patchbayref02_Parse.mono _ _)
      | (with_reducible exact LeO.refl _)
      | (with_reducible exact LeO.none _)
      | (with_reducible refine LeO.ite ?_ ?_)
      | (with_reducible refine LeO.bind ?_ (fun _ => ?_))
      | exact ih0 _ _ _ _ _ _ _ _ _ _
      | exact ih1 _ _ _ _ _ _ _ _ _ _ _ _
      | exact ih2 _ _ _ _ _ _ _ _ _ _
      | exact ih3 _ _ _ _ _ _ _ _ _
      | exact ih4 _ _ _
      | exact ih5 _ _
      | exact frame_Out.mono _ _ _ _
      | exact frame_Parse.mono _ _
      | exact patchbaylaw02_told.mono _
      | exact patchbayref01_Same.mono _ _ _
      | exact patchbayref02_Parse.mono _ _
      | exact LeO.none _
      | refine LeO.ite ?_ ?_
      | refine LeO.bind ?_ (fun _ => ?_)
theorem patchbaylaw02_FrameBack.mono : ∀ a0 a1 a2 k, LeO (patchbaylaw02_FrameBack.f k a0 a1 a2) (patchbaylaw02_FrameBack.f (k + 1) a0 a1 a2) := by
  intro a0 a1 a2 k
  obtain ⟨ih0, ih1, ih2, ih3, ih4, ih5⟩ := patchbaylaw02_FrameBack.mono_l k
  unfold patchbaylaw02_FrameBack.f
  repeat' first
      | (with_reducible exact ih0 _ _ _ _ _ _ _ _ _ _)
      | (with_reducible exact ih1 _ _ _ _ _ _ _ _ _ _ _ _)
      | (with_reducible exact ih2 _ _ _ _ _ _ _ _ _ _)
      | (with_reducible exact ih3 _ _ _ _ _ _ _ _ _)
      | (with_reducible exact ih4 _ _ _)
      | (with_reducible exact ih5 _ _)
      | (with_reducible exact frame_Out.mono _ _ _ _)
      | (with_reducible exact frame_Parse.mono _ _)
      | (with_reducible exact patchbaylaw02_told.mono _)
      | (with_reducible exact patchbayref01_Same.mono _ _ _)
      | (with_reducible exact patchbayref02_Parse.mono _ _)
      | (with_reducible exact LeO.refl _)
      | (with_reducible exact LeO.none _)
      | (with_reducible refine LeO.ite ?_ ?_)
      | (with_reducible refine LeO.bind ?_ (fun _ => ?_))
      | exact ih0 _ _ _ _ _ _ _ _ _ _
      | exact ih1 _ _ _ _ _ _ _ _ _ _ _ _
      | exact ih2 _ _ _ _ _ _ _ _ _ _
      | exact ih3 _ _ _ _ _ _ _ _ _
      | exact ih4 _ _ _
      | exact ih5 _ _
      | exact frame_Out.mono _ _ _ _
      | exact frame_Parse.mono _ _
      | exact patchbaylaw02_told.mono _
      | exact patchbayref01_Same.mono _ _ _
      | exact patchbayref02_Parse.mono _ _
      | exact LeO.none _
      | refine LeO.ite ?_ ?_
      | refine LeO.bind ?_ (fun _ => ?_)
def patchbaylaw02_FrameBack.T20 : Bool × List (List Nat × List Nat) := (true, [([], []), ([], []), ([1], [1]), ([0, 2], [0, 2]), ([], []), ([], []), ([4, 5], [4, 5]), ([3, 6, 3], [3, 6]), ([7, 7, 0, 1, 2, 3, 4, 5, 6, 7], [7])])
def patchbaylaw02_FrameBack.B20 : List Nat := [0, 0, 2, 7, 0, 0, 48, 127, 255]
theorem patchbaylaw02_FrameBack.tab20 : rtab .any (opsOf Try.f4 20) = patchbaylaw02_FrameBack.T20 := by kernel_rfl
theorem patchbaylaw02_FrameBack.bits20 : waitsOk patchbaylaw02_FrameBack.T20.2 patchbaylaw02_FrameBack.B20 = true := by kernel_rfl
set_option maxHeartbeats 8000000 in
set_option maxRecDepth 100000 in
theorem patchbaylaw02_FrameBack.calls (k : Nat) (A0 : Option Addr) (c0 : Nat) (l0 : List Int) (a1 : Int) (a2 : Int) (r : Bool) (w : World) (hr0 : Kd.C (Kd.int .u8) w A0 l0.length l0) (hc0 : l0.length ≤ c0) (h : patchbaylaw02_FrameBack.f k l0 a1 a2 = some r) :
    Calls Try.prog 4 #[.slice A0 l0.length c0, .int .i64 a1, .int .i64 a2] w fun e w' => e = .returned (.bool r) ∧ Below w.heap.size w w' := by
  have hu34 := Try.underlying34
  have hu39 := Try.underlying39
  have HR0 := Aside0.mk hr0
  have HC0 := Aside0.mk hc0
  clear hr0 hc0
  have HB := Aside0.mk (Below.refl w.heap.size w)
  have H : (if 0 ≤ (mn (l0.length : Int) 1600) then (if (mn (l0.length : Int) 1600) ≤ (l0.length : Int) then ((patchbayref02_Parse.f k (l0.take ((mn (l0.length : Int) 1600) : Int).toNat)).bind fun bt302 => ((patchbaylaw02_told.f k).bind fun t312 => (if t312 = true then (patchbaylaw02_FrameBack.j0 k (l0.take ((mn (l0.length : Int) 1600) : Int).toNat) (wrap64 (1 + (wrap64 (Int.tmod (IntKind.u64.wrap (a1)) 4094)))) (wrap64 (1 + (wrap64 (Int.tmod (IntKind.u64.wrap (a2)) 4094)))) (bt302.2.2.2.2.2.2 != 0) bt302.1 bt302.2.1 bt302.2.2.1 bt302.2.2.2.1 bt302.2.2.2.2.1 bt302.2.2.2.2.2.1) else (patchbaylaw02_FrameBack.j0 k (l0.take ((mn (l0.length : Int) 1600) : Int).toNat) (wrap64 (1 + (wrap64 (Int.tmod (IntKind.u64.wrap (a1)) 4094)))) (wrap64 (1 + (wrap64 (Int.tmod (IntKind.u64.wrap (a2)) 4094)))) true bt302.1 bt302.2.1 bt302.2.2.1 bt302.2.2.2.1 bt302.2.2.2.2.1 bt302.2.2.2.2.2.1)))) else (none)) else (none)) = some r := h
  clear h
  obtain ⟨ji4, hji4⟩ : ∃ j_ : Int, (mn (l0.length : Int) 1600) = j_ := ⟨_, rfl⟩
  replace H : (if 0 ≤ (ji4) then (if (ji4) ≤ (l0.length : Int) then ((patchbayref02_Parse.f k (l0.take ((ji4) : Int).toNat)).bind fun bt302 => ((patchbaylaw02_told.f k).bind fun t312 => (if t312 = true then (patchbaylaw02_FrameBack.j0 k (l0.take ((ji4) : Int).toNat) (wrap64 (1 + (wrap64 (Int.tmod (IntKind.u64.wrap (a1)) 4094)))) (wrap64 (1 + (wrap64 (Int.tmod (IntKind.u64.wrap (a2)) 4094)))) (bt302.2.2.2.2.2.2 != 0) bt302.1 bt302.2.1 bt302.2.2.1 bt302.2.2.2.1 bt302.2.2.2.2.1 bt302.2.2.2.2.2.1) else (patchbaylaw02_FrameBack.j0 k (l0.take ((ji4) : Int).toNat) (wrap64 (1 + (wrap64 (Int.tmod (IntKind.u64.wrap (a1)) 4094)))) (wrap64 (1 + (wrap64 (Int.tmod (IntKind.u64.wrap (a2)) 4094)))) true bt302.1 bt302.2.1 bt302.2.2.1 bt302.2.2.2.1 bt302.2.2.2.2.1 bt302.2.2.2.2.2.1)))) else (none)) else (none)) = some r := by first | (rw [hji4] at H; exact H) | (simp only [hji4] at H ⊢; exact H)
  (try (have hji4h : ji4 ≤ 1600 := by (rw [← hji4]; unfold mn; (repeat' split) <;> omega)))
  (try (have hji4g : ji4 ≤ 64 := by omega))
  (try (have hji4l : 0 ≤ ji4 := by (rw [← hji4]; unfold mn; (repeat' split) <;> omega)))
  (try (have hji4m : 0 ≤ ji4 := by omega))
  have hji4_ : (if 1600 < (l0.length : Int) then 1600 else (l0.length : Int)) = ji4 := hji4
  have hji4k : decide ((ji4 : Int) ≤ (l0.length : Int)) = true := decide_eq_true (by rw [← hji4]; unfold mn; (repeat' split) <;> omega)
  by_cases c5 : 0 ≤ (ji4)
  · rw [if_pos c5] at H
    have c5b0 := eq_true c5
    have c5b1 : decide (0 ≤ (ji4)) = true := decide_eq_true c5
    clear c5
    by_cases c6 : (ji4) ≤ (l0.length : Int)
    · rw [if_pos c6] at H
      have c6b0 := eq_true c6
      have c6b1 : decide ((ji4) ≤ (l0.length : Int)) = true := decide_eq_true c6
      clear c6
      replace H := Option.bind_eq_some_iff.mp H
      obtain ⟨⟨t302, t303, t304, t305, t306, t307, t310⟩, A70, H⟩ := H
      replace H : ((patchbaylaw02_told.f k).bind fun t312 => (if t312 = true then (patchbaylaw02_FrameBack.j0 k (l0.take ((ji4) : Int).toNat) (wrap64 (1 + (wrap64 (Int.tmod (IntKind.u64.wrap (a1)) 4094)))) (wrap64 (1 + (wrap64 (Int.tmod (IntKind.u64.wrap (a2)) 4094)))) (t310 != 0) t302 t303 t304 t305 t306 t307) else (patchbaylaw02_FrameBack.j0 k (l0.take ((ji4) : Int).toNat) (wrap64 (1 + (wrap64 (Int.tmod (IntKind.u64.wrap (a1)) 4094)))) (wrap64 (1 + (wrap64 (Int.tmod (IntKind.u64.wrap (a2)) 4094)))) true t302 t303 t304 t305 t306 t307))) = some r := H
      have A7 := Aside0.mk A70
      clear A70
      have HC8 := Aside0.mk H
      clear H
      obtain ⟨i09, hi09, _, hsz9, _⟩ := info_parts info5
      obtain ⟨hcut9, hA9, hC9⟩ := print_take_of (P := Try.prog) (Value.int .u8) 0 22 5 .i64 Try.underlying22 hi09 hsz9 A0 c0 l0 (ji4) (of_decide_eq_true (by first | (with_reducible assumption) | assumption)) (of_decide_eq_true (by first | (with_reducible assumption) | assumption)) HC0.out
      have hlen9_ : (l0.take ((ji4) : Int).toNat).length ≤ l0.length := by rw [List.length_take]; omega
      generalize l0.take ((ji4) : Int).toNat = lt9_ at *
      have HR301 := Aside0.mk (Kd.C_of_reads (h1 := fun _ => rfl) (hA9 _ (Kd.reads_of_C HR0.out)))
      have HC301 := Aside0.mk hC9
      clear hA9 hC9 hi09 hsz9
      go_enter Try.func4, Try.ntmps4
      go_upto_region 4 with (first | ((with_reducible refine gate_callee (f := 20) rfl ?_); refine goesL_ (some 38) rfl rfl Try.func20 (by kernel_rfl) rfl #[.slice A0 lt9_.length c0] rfl (by (try simp only [List.map_toArray, List.map_cons, List.map_nil]); first | done | (rw [(show lt9_.length = ((ji4 : Int).toNat : Nat) from (by rw [List.length_take]; have h_ : (ji4 : Int) ≤ (l0.length : Int) := of_decide_eq_true (by first | (with_reducible assumption) | assumption); omega))] <;> rfl) | (rw [show lt9_.length = (ji4).toNat from (by rw [List.length_take]; have h_ : ((ji4) : Int) ≤ (l0.length : Int) := of_decide_eq_true (by first | (with_reducible assumption) | assumption); omega)] <;> rfl) | (simp only [hji4]; rfl) | rfl | (simp only [List.length_drop, List.length_take]; rfl)) ?_; (with_reducible refine (patchbayref02_Parse.calls k _ _ lt9_ t302 t303 t304 t305 t306 t307 t310 _ ?side1 ?side2 A7.out).mono ?_); (case side1 => repeat (first | exact HR301.out | (with_reducible refine Kd.C_alloc ?_ _) | (with_reducible refine Kd.C_drewN ?_ _) | (with_reducible refine Kd.C_drew ?_))); (case side2 => exact HC301.out); rintro e w10 ⟨v308, rfl, ho0, hb⟩; refine ⟨_, rfl, ?_⟩; have n0_ := Aside0.mk (Kd.R_lower ho0 (below_size (by repeat (first | (with_reducible first | exact HB.out | apply below_alloc | apply pw_below_drewN | apply below_drew1) | exact HB.out)))); have n1_ := Aside0.mk (below_step (by repeat (first | (with_reducible first | exact HB.out | apply below_alloc | apply pw_below_drewN | apply below_drew1) | exact HB.out)) hb); clear HB; have HO309 := n0_; have HB := n1_; clear n0_ n1_; (try clear hb); (try clear hb2); (try clear hk); (try clear hi); (try clear ho0)) | ((with_reducible refine gate_dst (N := 7) rfl ?_); (try (refine gate_guard (by rfl) ?_; dsimp only)); refine box_event ?hg (N := 7) ?hd (cs := #[.int .u64 0, .int .u64 0, .bool false, .int .u16 0, .int .u16 0, .slice none 0 0]) (t := 34) ?hr ?_; (case hd => rfl); (case hg => rfl); (case hr => first | (go_simp; done) | (go_simp; rfl)); intro gb311 hg w11 hbox hb; have n0_ := Aside0.mk (Kd.R_below (by (with_reducible repeat (first | apply Kd.R_alloc | apply Kd.R_drewN | apply Kd.R_drew)); exact HO309.out) hb); have n1_ := Aside0.mk (below_step (by repeat (first | (with_reducible first | exact HB.out | apply below_alloc | apply pw_below_drewN | apply below_drew1) | exact HB.out)) hb); have n2_ := Aside0.mk (hbox); have n3_ := Aside0.mk ((by rw [hg]; exact (below_size (by repeat (first | (with_reducible first | exact HB.out | apply below_alloc | apply pw_below_drewN | apply below_drew1) | exact HB.out))) : w.heap.size ≤ gb311)); have n4_ := Aside0.mk ((by rw [hg]; exact (below_size (by repeat (first | (with_reducible first | exact HB.out | apply below_alloc | apply pw_below_drewN | apply below_drew1) | exact HB.out))) : w.heap.size ≤ gb311)); clear HO309; clear HB; have HO309 := n0_; have HB := n1_; have BK311 := n2_; have GW311 := n3_; have GE311 := n4_; clear n0_ n1_ n2_ n3_ n4_; clear hb hbox hg; have hcz12_0 : w11.cell? ⟨gb311, 0, none⟩ = some (.int .u64 0) := (blk_cell BK311.out 0).trans rfl; have hcz12_1 : w11.cell? ⟨gb311, 1, none⟩ = some (.int .u64 0) := (blk_cell BK311.out 1).trans rfl; have hcz12_2 : w11.cell? ⟨gb311, 2, none⟩ = some (.bool false) := (blk_cell BK311.out 2).trans rfl; have hcz12_3 : w11.cell? ⟨gb311, 3, none⟩ = some (.int .u16 0) := (blk_cell BK311.out 3).trans rfl; have hcz12_4 : w11.cell? ⟨gb311, 4, none⟩ = some (.int .u16 0) := (blk_cell BK311.out 4).trans rfl; have hcz12_5 : w11.cell? ⟨gb311, 5, none⟩ = some (.slice none 0 0) := (blk_cell BK311.out 5).trans rfl; have hfz12_0 := blk_frozen BK311.out 0; have hfz12_1 := blk_frozen BK311.out 1; have hfz12_2 := blk_frozen BK311.out 2; have hfz12_3 := blk_frozen BK311.out 3; have hfz12_4 := blk_frozen BK311.out 4; have hfz12_5 := blk_frozen BK311.out 5; obtain ⟨Ao13, co13, eo13⟩ := Kd.R_slice HO309.out; subst eo13))
      (try simp only [Act.put, List.setIfInBounds_toArray, List.set_cons_zero, List.set_cons_succ])
      go_cut [46] (fun v46 wc => ∃ (kq : Nat) (x46_7 : Bool), v46 = .bool x46_7 ∧ Aside0 (patchbaylaw02_FrameBack.j0 kq lt9_ (wrap64 (1 + (wrap64 (Int.tmod (IntKind.u64.wrap (a1)) 4094)))) (wrap64 (1 + (wrap64 (Int.tmod (IntKind.u64.wrap (a2)) 4094)))) x46_7 t302 t303 t304 t305 t306 t307 = some r) ∧ Aside0 (kq ≤ k) ∧ Aside0 (Kd.R (Kd.int .u8) 5 wc w.heap.size (fun _ => True) (.slice Ao13 t307.length co13) t307) ∧ Aside0 (wc.heap[gb311]? = some (.cells #[.int .u64 t302, .int .u64 t303, .bool t304, .int .u16 t305, .int .u16 t306, (.slice Ao13 t307.length co13)] 34 (0, 0))) ∧ Aside0 (Below w.heap.size w wc))
      case first =>
        have H := HC8.out
        clear HC8
        replace H := Option.bind_eq_some_iff.mp H
        obtain ⟨t312, A140, H⟩ := H
        replace H : (if t312 = true then (patchbaylaw02_FrameBack.j0 k lt9_ (wrap64 (1 + (wrap64 (Int.tmod (IntKind.u64.wrap (a1)) 4094)))) (wrap64 (1 + (wrap64 (Int.tmod (IntKind.u64.wrap (a2)) 4094)))) (t310 != 0) t302 t303 t304 t305 t306 t307) else (patchbaylaw02_FrameBack.j0 k lt9_ (wrap64 (1 + (wrap64 (Int.tmod (IntKind.u64.wrap (a1)) 4094)))) (wrap64 (1 + (wrap64 (Int.tmod (IntKind.u64.wrap (a2)) 4094)))) true t302 t303 t304 t305 t306 t307)) = some r := H
        have A14 := Aside0.mk A140
        clear A140
        by_cases c15 : t312 = true
        · subst c15
          have H1 : (patchbaylaw02_FrameBack.j0 k lt9_ (wrap64 (1 + (wrap64 (Int.tmod (IntKind.u64.wrap (a1)) 4094)))) (wrap64 (1 + (wrap64 (Int.tmod (IntKind.u64.wrap (a2)) 4094)))) (t310 != 0) t302 t303 t304 t305 t306 t307) = some r := by rw [if_pos rfl] at H; exact H
          clear H
          have H := H1
          clear H1
          have H' := Aside0.mk H
          clear H
          go_wp2_with (first | ((with_reducible refine gate_callee (f := 18) rfl ?_); refine goesL_ (some 41) rfl rfl Try.func18 (by kernel_rfl) rfl #[] rfl (by (try simp only [List.map_toArray, List.map_cons, List.map_nil]); first | done | rfl | (simp only [List.length_drop, List.length_take]; rfl)) ?_; (with_reducible refine (patchbaylaw02_told.calls k  true _ A14.out).mono ?_); rintro e w16 ⟨rfl, hb⟩; refine ⟨_, rfl, ?_⟩; have n0_ := Aside0.mk (Kd.R_below (by (with_reducible repeat (first | apply Kd.R_alloc | apply Kd.R_drewN | apply Kd.R_drew)); exact (Kd.R_mono (Kd.R_far (p := ⟨gb311, 5, none⟩) (Kd.R_far (p := ⟨gb311, 4, none⟩) (Kd.R_far (p := ⟨gb311, 3, none⟩) (Kd.R_far (p := ⟨gb311, 2, none⟩) (Kd.R_far (p := ⟨gb311, 1, none⟩) (Kd.R_far (p := ⟨gb311, 0, none⟩) (Kd.R_types HO309.out BK311.out (by decide)) (fun _ hk => hk.2) (.int .u64 t302)) (fun _ hk => hk.2) (.int .u64 t303)) (fun _ hk => hk.2) (.bool t304)) (fun _ hk => hk.2) (.int .u16 t305)) (fun _ hk => hk.2) (.int .u16 t306)) (fun _ hk => hk.2) (.slice Ao13 t307.length co13)) (fun _ h_ => h_.1))) hb); have n1_ := Aside0.mk (blk_below (g := gb311) (o := .cells #[.int .u64 t302, .int .u64 t303, .bool t304, .int .u16 t305, .int .u16 t306, .slice Ao13 t307.length co13] 34 (0, 0)) (by (with_reducible repeat (first | refine blk_drewN ?_ _ | refine blk_drew ?_ | refine blk_alloc ?_ _)); refine blk_put (cs := #[.int .u64 t302, .int .u64 t303, .bool t304, .int .u16 t305, .int .u16 t306, .slice none 0 0]) ?_ 5 _ rfl; (with_reducible repeat (first | refine blk_drewN ?_ _ | refine blk_drew ?_ | refine blk_alloc ?_ _)); refine blk_put (cs := #[.int .u64 t302, .int .u64 t303, .bool t304, .int .u16 t305, .int .u16 0, .slice none 0 0]) ?_ 4 _ rfl; (with_reducible repeat (first | refine blk_drewN ?_ _ | refine blk_drew ?_ | refine blk_alloc ?_ _)); refine blk_put (cs := #[.int .u64 t302, .int .u64 t303, .bool t304, .int .u16 0, .int .u16 0, .slice none 0 0]) ?_ 3 _ rfl; (with_reducible repeat (first | refine blk_drewN ?_ _ | refine blk_drew ?_ | refine blk_alloc ?_ _)); refine blk_put (cs := #[.int .u64 t302, .int .u64 t303, .bool false, .int .u16 0, .int .u16 0, .slice none 0 0]) ?_ 2 _ rfl; (with_reducible repeat (first | refine blk_drewN ?_ _ | refine blk_drew ?_ | refine blk_alloc ?_ _)); refine blk_put (cs := #[.int .u64 t302, .int .u64 0, .bool false, .int .u16 0, .int .u16 0, .slice none 0 0]) ?_ 1 _ rfl; (with_reducible repeat (first | refine blk_drewN ?_ _ | refine blk_drew ?_ | refine blk_alloc ?_ _)); refine blk_put (cs := #[.int .u64 0, .int .u64 0, .bool false, .int .u16 0, .int .u16 0, .slice none 0 0]) ?_ 0 _ rfl; (with_reducible repeat (first | refine blk_drewN ?_ _ | refine blk_drew ?_ | refine blk_alloc ?_ _)); exact BK311.out) hb); have n2_ := Aside0.mk (below_step (by repeat (first | (with_reducible first | exact HB.out | apply below_alloc | apply pw_below_drewN | apply below_drew1 | refine below_set ?_ GE311.out) | exact HB.out)) hb); clear HO309; clear BK311; clear HB; have HO309 := n0_; have BK311 := n1_; have HB := n2_; clear n0_ n1_ n2_; (try clear hb); (try clear hb2); (try clear hk); (try clear hi)))
          go_meet
          case rel => exact ⟨_, ((t310 != 0)), (by first | rfl | (simp; done) | (simp [*]; done)), H', ⟨by first | omega | exact Nat.le_refl _⟩, ⟨by (with_reducible repeat (first | apply Kd.R_alloc | apply Kd.R_drewN | apply Kd.R_drew)); exact HO309.out⟩, ⟨by (with_reducible repeat (first | refine blk_drewN ?_ _ | refine blk_drew ?_ | refine blk_alloc ?_ _)); exact BK311.out⟩, ⟨by repeat (first | (with_reducible first | exact HB.out | apply below_alloc | apply pw_below_drewN | apply below_drew1 | refine below_set ?_ GE311.out) | exact HB.out)⟩⟩
        · replace c15 := Bool.eq_false_iff.mpr c15
          subst c15
          have H1 : (patchbaylaw02_FrameBack.j0 k lt9_ (wrap64 (1 + (wrap64 (Int.tmod (IntKind.u64.wrap (a1)) 4094)))) (wrap64 (1 + (wrap64 (Int.tmod (IntKind.u64.wrap (a2)) 4094)))) true t302 t303 t304 t305 t306 t307) = some r := by rw [if_neg (show ¬ (false = true) by decide)] at H; exact H
          clear H
          have H := H1
          clear H1
          have H' := Aside0.mk H
          clear H
          go_wp2_with (first | ((with_reducible refine gate_callee (f := 18) rfl ?_); refine goesL_ (some 41) rfl rfl Try.func18 (by kernel_rfl) rfl #[] rfl (by (try simp only [List.map_toArray, List.map_cons, List.map_nil]); first | done | rfl | (simp only [List.length_drop, List.length_take]; rfl)) ?_; (with_reducible refine (patchbaylaw02_told.calls k  false _ A14.out).mono ?_); rintro e w17 ⟨rfl, hb⟩; refine ⟨_, rfl, ?_⟩; have n0_ := Aside0.mk (Kd.R_below (by (with_reducible repeat (first | apply Kd.R_alloc | apply Kd.R_drewN | apply Kd.R_drew)); exact (Kd.R_mono (Kd.R_far (p := ⟨gb311, 5, none⟩) (Kd.R_far (p := ⟨gb311, 4, none⟩) (Kd.R_far (p := ⟨gb311, 3, none⟩) (Kd.R_far (p := ⟨gb311, 2, none⟩) (Kd.R_far (p := ⟨gb311, 1, none⟩) (Kd.R_far (p := ⟨gb311, 0, none⟩) (Kd.R_types HO309.out BK311.out (by decide)) (fun _ hk => hk.2) (.int .u64 t302)) (fun _ hk => hk.2) (.int .u64 t303)) (fun _ hk => hk.2) (.bool t304)) (fun _ hk => hk.2) (.int .u16 t305)) (fun _ hk => hk.2) (.int .u16 t306)) (fun _ hk => hk.2) (.slice Ao13 t307.length co13)) (fun _ h_ => h_.1))) hb); have n1_ := Aside0.mk (blk_below (g := gb311) (o := .cells #[.int .u64 t302, .int .u64 t303, .bool t304, .int .u16 t305, .int .u16 t306, .slice Ao13 t307.length co13] 34 (0, 0)) (by (with_reducible repeat (first | refine blk_drewN ?_ _ | refine blk_drew ?_ | refine blk_alloc ?_ _)); refine blk_put (cs := #[.int .u64 t302, .int .u64 t303, .bool t304, .int .u16 t305, .int .u16 t306, .slice none 0 0]) ?_ 5 _ rfl; (with_reducible repeat (first | refine blk_drewN ?_ _ | refine blk_drew ?_ | refine blk_alloc ?_ _)); refine blk_put (cs := #[.int .u64 t302, .int .u64 t303, .bool t304, .int .u16 t305, .int .u16 0, .slice none 0 0]) ?_ 4 _ rfl; (with_reducible repeat (first | refine blk_drewN ?_ _ | refine blk_drew ?_ | refine blk_alloc ?_ _)); refine blk_put (cs := #[.int .u64 t302, .int .u64 t303, .bool t304, .int .u16 0, .int .u16 0, .slice none 0 0]) ?_ 3 _ rfl; (with_reducible repeat (first | refine blk_drewN ?_ _ | refine blk_drew ?_ | refine blk_alloc ?_ _)); refine blk_put (cs := #[.int .u64 t302, .int .u64 t303, .bool false, .int .u16 0, .int .u16 0, .slice none 0 0]) ?_ 2 _ rfl; (with_reducible repeat (first | refine blk_drewN ?_ _ | refine blk_drew ?_ | refine blk_alloc ?_ _)); refine blk_put (cs := #[.int .u64 t302, .int .u64 0, .bool false, .int .u16 0, .int .u16 0, .slice none 0 0]) ?_ 1 _ rfl; (with_reducible repeat (first | refine blk_drewN ?_ _ | refine blk_drew ?_ | refine blk_alloc ?_ _)); refine blk_put (cs := #[.int .u64 0, .int .u64 0, .bool false, .int .u16 0, .int .u16 0, .slice none 0 0]) ?_ 0 _ rfl; (with_reducible repeat (first | refine blk_drewN ?_ _ | refine blk_drew ?_ | refine blk_alloc ?_ _)); exact BK311.out) hb); have n2_ := Aside0.mk (below_step (by repeat (first | (with_reducible first | exact HB.out | apply below_alloc | apply pw_below_drewN | apply below_drew1 | refine below_set ?_ GE311.out) | exact HB.out)) hb); clear HO309; clear BK311; clear HB; have HO309 := n0_; have BK311 := n1_; have HB := n2_; clear n0_ n1_ n2_; (try clear hb); (try clear hb2); (try clear hk); (try clear hi)))
          go_meet
          case rel => exact ⟨_, (true), (by first | rfl | (simp; done) | (simp [*]; done)), H', ⟨by first | omega | exact Nat.le_refl _⟩, ⟨by (with_reducible repeat (first | apply Kd.R_alloc | apply Kd.R_drewN | apply Kd.R_drew)); exact HO309.out⟩, ⟨by (with_reducible repeat (first | refine blk_drewN ?_ _ | refine blk_drew ?_ | refine blk_alloc ?_ _)); exact BK311.out⟩, ⟨by repeat (first | (with_reducible first | exact HB.out | apply below_alloc | apply pw_below_drewN | apply below_drew1 | refine below_set ?_ GE311.out) | exact HB.out)⟩⟩
      case rest =>
        clear HC8
        try clear c1
        try clear c2
        try clear p2
        try clear c4
        try clear c5
        try clear c5b0
        try clear c5b1
        try clear c6
        try clear c6b0
        try clear c6b1
        try clear p6
        try clear c15
        try clear hcz12_0
        try clear hcz12_1
        try clear hcz12_2
        try clear hcz12_3
        try clear hcz12_4
        try clear hcz12_5
        try clear hfz12_0
        try clear hfz12_1
        try clear hfz12_2
        try clear hfz12_3
        try clear hfz12_4
        try clear hfz12_5
        obtain ⟨kq, x46_7, rfl, HA, HJ7, HO_312005, BK311, HB⟩ := hcut
        cases kq with
        | zero => exact absurd HA.out (by simp [patchbaylaw02_FrameBack.j0])
        | succ kj7 =>
          have H := HA.out
          clear HA
          simp only [patchbaylaw02_FrameBack.j0] at H
          by_cases c18 : x46_7 = true
          · subst c18
            have H1 : ((patchbaylaw02_told.f kj7).bind fun t313 => (some t313)) = some r := by rw [if_pos rfl] at H; exact H
            clear H
            have H := H1
            clear H1
            replace H := Option.bind_eq_some_iff.mp H
            obtain ⟨t313, A190, H⟩ := H
            replace H : (some t313) = some r := H
            have A19 := Aside0.mk A190
            clear A190
            obtain rfl := Option.some.inj H
            go_wp2_with (first | ((with_reducible refine gate_callee (f := 18) rfl ?_); refine goesL_ (some 47) rfl rfl Try.func18 (by kernel_rfl) rfl #[] rfl (by (try simp only [List.map_toArray, List.map_cons, List.map_nil]); first | done | rfl | (simp only [List.length_drop, List.length_take]; rfl)) ?_; (with_reducible refine (patchbaylaw02_told.calls kj7  t313 _ A19.out).mono ?_); rintro e w20 ⟨rfl, hb⟩; refine ⟨_, rfl, ?_⟩; have n0_ := Aside0.mk (Kd.R_below (by (with_reducible repeat (first | apply Kd.R_alloc | apply Kd.R_drewN | apply Kd.R_drew)); exact HO_312005.out) hb); have n1_ := Aside0.mk (blk_below (g := gb311) (o := .cells #[.int .u64 t302, .int .u64 t303, .bool t304, .int .u16 t305, .int .u16 t306, .slice Ao13 t307.length co13] 34 (0, 0)) (by (with_reducible repeat (first | refine blk_drewN ?_ _ | refine blk_drew ?_ | refine blk_alloc ?_ _)); exact BK311.out) hb); have n2_ := Aside0.mk (below_step (by repeat (first | (with_reducible first | exact HB.out | apply below_alloc | apply pw_below_drewN | apply below_drew1 | refine below_set ?_ GE311.out) | exact HB.out)) hb); clear HO_312005; clear BK311; clear HB; have HO_312005 := n0_; have BK311 := n1_; have HB := n2_; clear n0_ n1_ n2_; (try clear hb); (try clear hb2); (try clear hk); (try clear hi)))
            go_ret
            exact ⟨by first | rfl | (simp [errW_none, errW_some] <;> rfl) | (simp only [← hji4]; first | rfl | (simp [errW_none, errW_some] <;> rfl)) | (simp [*, errW_none, errW_some] <;> rfl), by repeat (first | (with_reducible first | exact HB.out | apply below_alloc | apply pw_below_drewN | apply below_drew1 | refine below_set ?_ GE311.out) | exact HB.out)⟩
          · replace c18 := Bool.eq_false_iff.mpr c18
            subst c18
            have H1 : ((frame_Out.f kj7 lt9_ true (wrap64 (1 + (wrap64 (Int.tmod (IntKind.u64.wrap (a1)) 4094))))).bind fun bt314 => ((frame_Out.f kj7 bt314.1 false 0).bind fun bt318 => ((frame_Out.f kj7 bt314.1 true (wrap64 (1 + (wrap64 (Int.tmod (IntKind.u64.wrap (a2)) 4094))))).bind fun bt322 => ((frame_Out.f kj7 lt9_ true (wrap64 (1 + (wrap64 (Int.tmod (IntKind.u64.wrap (a2)) 4094))))).bind fun bt326 => (if bt314.2 = 0 then (if bt322.2 = 0 then (if bt326.2 = 0 then ((patchbayref01_Same.f kj7 bt322.1 bt326.1).bind fun t330 => (patchbaylaw02_FrameBack.j1 kj7 lt9_ (wrap64 (1 + (wrap64 (Int.tmod (IntKind.u64.wrap (a1)) 4094)))) bt314.1 bt318.1 bt318.2 (!t330) t302 t303 t304 t305 t306 t307)) else (patchbaylaw02_FrameBack.j1 kj7 lt9_ (wrap64 (1 + (wrap64 (Int.tmod (IntKind.u64.wrap (a1)) 4094)))) bt314.1 bt318.1 bt318.2 true t302 t303 t304 t305 t306 t307)) else (patchbaylaw02_FrameBack.j1 kj7 lt9_ (wrap64 (1 + (wrap64 (Int.tmod (IntKind.u64.wrap (a1)) 4094)))) bt314.1 bt318.1 bt318.2 true t302 t303 t304 t305 t306 t307)) else (patchbaylaw02_FrameBack.j1 kj7 lt9_ (wrap64 (1 + (wrap64 (Int.tmod (IntKind.u64.wrap (a1)) 4094)))) bt314.1 bt318.1 bt318.2 true t302 t303 t304 t305 t306 t307)))))) = some r := by rw [if_neg (show ¬ (false = true) by decide)] at H; exact H
            clear H
            have H := H1
            clear H1
            replace H := Option.bind_eq_some_iff.mp H
            obtain ⟨⟨t314, t315⟩, A210, H⟩ := H
            replace H : ((frame_Out.f kj7 t314 false 0).bind fun bt318 => ((frame_Out.f kj7 t314 true (wrap64 (1 + (wrap64 (Int.tmod (IntKind.u64.wrap (a2)) 4094))))).bind fun bt322 => ((frame_Out.f kj7 lt9_ true (wrap64 (1 + (wrap64 (Int.tmod (IntKind.u64.wrap (a2)) 4094))))).bind fun bt326 => (if t315 = 0 then (if bt322.2 = 0 then (if bt326.2 = 0 then ((patchbayref01_Same.f kj7 bt322.1 bt326.1).bind fun t330 => (patchbaylaw02_FrameBack.j1 kj7 lt9_ (wrap64 (1 + (wrap64 (Int.tmod (IntKind.u64.wrap (a1)) 4094)))) t314 bt318.1 bt318.2 (!t330) t302 t303 t304 t305 t306 t307)) else (patchbaylaw02_FrameBack.j1 kj7 lt9_ (wrap64 (1 + (wrap64 (Int.tmod (IntKind.u64.wrap (a1)) 4094)))) t314 bt318.1 bt318.2 true t302 t303 t304 t305 t306 t307)) else (patchbaylaw02_FrameBack.j1 kj7 lt9_ (wrap64 (1 + (wrap64 (Int.tmod (IntKind.u64.wrap (a1)) 4094)))) t314 bt318.1 bt318.2 true t302 t303 t304 t305 t306 t307)) else (patchbaylaw02_FrameBack.j1 kj7 lt9_ (wrap64 (1 + (wrap64 (Int.tmod (IntKind.u64.wrap (a1)) 4094)))) t314 bt318.1 bt318.2 true t302 t303 t304 t305 t306 t307))))) = some r := H
            have A21 := Aside0.mk A210
            clear A210
            replace H := Option.bind_eq_some_iff.mp H
            obtain ⟨⟨t318, t319⟩, A220, H⟩ := H
            replace H : ((frame_Out.f kj7 t314 true (wrap64 (1 + (wrap64 (Int.tmod (IntKind.u64.wrap (a2)) 4094))))).bind fun bt322 => ((frame_Out.f kj7 lt9_ true (wrap64 (1 + (wrap64 (Int.tmod (IntKind.u64.wrap (a2)) 4094))))).bind fun bt326 => (if t315 = 0 then (if bt322.2 = 0 then (if bt326.2 = 0 then ((patchbayref01_Same.f kj7 bt322.1 bt326.1).bind fun t330 => (patchbaylaw02_FrameBack.j1 kj7 lt9_ (wrap64 (1 + (wrap64 (Int.tmod (IntKind.u64.wrap (a1)) 4094)))) t314 t318 t319 (!t330) t302 t303 t304 t305 t306 t307)) else (patchbaylaw02_FrameBack.j1 kj7 lt9_ (wrap64 (1 + (wrap64 (Int.tmod (IntKind.u64.wrap (a1)) 4094)))) t314 t318 t319 true t302 t303 t304 t305 t306 t307)) else (patchbaylaw02_FrameBack.j1 kj7 lt9_ (wrap64 (1 + (wrap64 (Int.tmod (IntKind.u64.wrap (a1)) 4094)))) t314 t318 t319 true t302 t303 t304 t305 t306 t307)) else (patchbaylaw02_FrameBack.j1 kj7 lt9_ (wrap64 (1 + (wrap64 (Int.tmod (IntKind.u64.wrap (a1)) 4094)))) t314 t318 t319 true t302 t303 t304 t305 t306 t307)))) = some r := H
            have A22 := Aside0.mk A220
            clear A220
            replace H := Option.bind_eq_some_iff.mp H
            obtain ⟨⟨t322, t323⟩, A230, H⟩ := H
            replace H : ((frame_Out.f kj7 lt9_ true (wrap64 (1 + (wrap64 (Int.tmod (IntKind.u64.wrap (a2)) 4094))))).bind fun bt326 => (if t315 = 0 then (if t323 = 0 then (if bt326.2 = 0 then ((patchbayref01_Same.f kj7 t322 bt326.1).bind fun t330 => (patchbaylaw02_FrameBack.j1 kj7 lt9_ (wrap64 (1 + (wrap64 (Int.tmod (IntKind.u64.wrap (a1)) 4094)))) t314 t318 t319 (!t330) t302 t303 t304 t305 t306 t307)) else (patchbaylaw02_FrameBack.j1 kj7 lt9_ (wrap64 (1 + (wrap64 (Int.tmod (IntKind.u64.wrap (a1)) 4094)))) t314 t318 t319 true t302 t303 t304 t305 t306 t307)) else (patchbaylaw02_FrameBack.j1 kj7 lt9_ (wrap64 (1 + (wrap64 (Int.tmod (IntKind.u64.wrap (a1)) 4094)))) t314 t318 t319 true t302 t303 t304 t305 t306 t307)) else (patchbaylaw02_FrameBack.j1 kj7 lt9_ (wrap64 (1 + (wrap64 (Int.tmod (IntKind.u64.wrap (a1)) 4094)))) t314 t318 t319 true t302 t303 t304 t305 t306 t307))) = some r := H
            have A23 := Aside0.mk A230
            clear A230
            replace H := Option.bind_eq_some_iff.mp H
            obtain ⟨⟨t326, t327⟩, A240, H⟩ := H
            replace H : (if t315 = 0 then (if t323 = 0 then (if t327 = 0 then ((patchbayref01_Same.f kj7 t322 t326).bind fun t330 => (patchbaylaw02_FrameBack.j1 kj7 lt9_ (wrap64 (1 + (wrap64 (Int.tmod (IntKind.u64.wrap (a1)) 4094)))) t314 t318 t319 (!t330) t302 t303 t304 t305 t306 t307)) else (patchbaylaw02_FrameBack.j1 kj7 lt9_ (wrap64 (1 + (wrap64 (Int.tmod (IntKind.u64.wrap (a1)) 4094)))) t314 t318 t319 true t302 t303 t304 t305 t306 t307)) else (patchbaylaw02_FrameBack.j1 kj7 lt9_ (wrap64 (1 + (wrap64 (Int.tmod (IntKind.u64.wrap (a1)) 4094)))) t314 t318 t319 true t302 t303 t304 t305 t306 t307)) else (patchbaylaw02_FrameBack.j1 kj7 lt9_ (wrap64 (1 + (wrap64 (Int.tmod (IntKind.u64.wrap (a1)) 4094)))) t314 t318 t319 true t302 t303 t304 t305 t306 t307)) = some r := H
            have A24 := Aside0.mk A240
            clear A240
            have HC25 := Aside0.mk H
            clear H
            go_upto_region 10 with (first | ((with_reducible refine gate_callee (f := 16) rfl ?_); refine goesL_ (some 51) rfl rfl Try.func16 (by kernel_rfl) rfl #[.slice A0 lt9_.length c0, .bool true, .int .i64 (wrap64 (1 + (wrap64 (Int.tmod (IntKind.u64.wrap (a1)) 4094))))] rfl (by (try simp only [List.map_toArray, List.map_cons, List.map_nil]); first | done | (rw [(show lt9_.length = ((ji4 : Int).toNat : Nat) from (by rw [List.length_take]; have h_ : (ji4 : Int) ≤ (l0.length : Int) := of_decide_eq_true (by first | (with_reducible assumption) | assumption); omega))] <;> rfl) | (rw [show lt9_.length = (ji4).toNat from (by rw [List.length_take]; have h_ : ((ji4) : Int) ≤ (l0.length : Int) := of_decide_eq_true (by first | (with_reducible assumption) | assumption); omega)] <;> rfl) | (simp only [hji4]; rfl) | rfl | (simp only [List.length_drop, List.length_take]; rfl)) ?_; (with_reducible refine (frame_Out.calls kj7 _ _ lt9_ true (wrap64 (1 + (wrap64 (Int.tmod (IntKind.u64.wrap (a1)) 4094)))) t314 t315 _ ?side1 ?side2 A21.out).mono ?_); (case side1 => repeat (first | exact (Kd.C_below HR301.out HB.out) | (with_reducible refine Kd.C_alloc ?_ _) | (with_reducible refine Kd.C_drewN ?_ _) | (with_reducible refine Kd.C_drew ?_))); (case side2 => exact HC301.out); rintro e w26 ⟨v316, rfl, ho0, hb⟩; refine ⟨_, rfl, ?_⟩; have n0_ := Aside0.mk (Kd.R_elder' (by (with_reducible repeat (first | apply Kd.R_alloc | apply Kd.R_drewN | apply Kd.R_drew)); exact HO_312005.out) (Kd.R_base ho0) hb); have n1_ := Aside0.mk (Kd.R_lower (Kd.R_new' ho0 (Kd.R_lt (by (with_reducible repeat (first | apply Kd.R_alloc | apply Kd.R_drewN | apply Kd.R_drew)); exact HO_312005.out))) (below_size (by repeat (first | (with_reducible first | exact HB.out | apply below_alloc | apply pw_below_drewN | apply below_drew1 | refine below_set ?_ GE311.out) | exact HB.out)))); have n2_ := Aside0.mk (blk_below (g := gb311) (o := .cells #[.int .u64 t302, .int .u64 t303, .bool t304, .int .u16 t305, .int .u16 t306, .slice Ao13 t307.length co13] 34 (0, 0)) (by (with_reducible repeat (first | refine blk_drewN ?_ _ | refine blk_drew ?_ | refine blk_alloc ?_ _)); exact BK311.out) hb); have n3_ := Aside0.mk (below_step (by repeat (first | (with_reducible first | exact HB.out | apply below_alloc | apply pw_below_drewN | apply below_drew1 | refine below_set ?_ GE311.out) | exact HB.out)) hb); clear HO_312005; clear BK311; clear HB; have HO_312005 := n0_; have HO317 := n1_; have BK311 := n2_; have HB := n3_; clear n0_ n1_ n2_ n3_; (try clear hb); (try clear hb2); (try clear hk); (try clear hi); (try clear ho0); obtain ⟨Ao27, co27, eo27⟩ := Kd.R_slice HO317.out; subst eo27) | ((with_reducible refine gate_callee (f := 16) rfl ?_); refine goesL_ (some 56) rfl rfl Try.func16 (by kernel_rfl) rfl #[.slice Ao27 t314.length co27, .bool false, .int .i64 0] rfl (by (try simp only [List.map_toArray, List.map_cons, List.map_nil]); first | done | rfl | (simp only [List.length_drop, List.length_take]; rfl)) ?_; (with_reducible refine (frame_Out.calls kj7 _ _ t314 false 0 t318 t319 _ ?side1 ?side2 A22.out).mono ?_); (case side1 => repeat (first | exact (Kd.R_reads' HO317.out).2.2 | (with_reducible refine Kd.C_alloc ?_ _) | (with_reducible refine Kd.C_drewN ?_ _) | (with_reducible refine Kd.C_drew ?_))); (case side2 => exact (Kd.R_reads' HO317.out).2.1); rintro e w28 ⟨v320, rfl, ho0, hb⟩; refine ⟨_, rfl, ?_⟩; have n0_ := Aside0.mk (Kd.R_elder' (by (with_reducible repeat (first | apply Kd.R_alloc | apply Kd.R_drewN | apply Kd.R_drew)); exact HO_312005.out) (Kd.R_base ho0) hb); have n1_ := Aside0.mk (Kd.R_elder' (by (with_reducible repeat (first | apply Kd.R_alloc | apply Kd.R_drewN | apply Kd.R_drew)); exact HO317.out) (Kd.R_base ho0) hb); have n2_ := Aside0.mk (Kd.R_lower (Kd.R_new' (Kd.R_new' ho0 (Kd.R_lt (by (with_reducible repeat (first | apply Kd.R_alloc | apply Kd.R_drewN | apply Kd.R_drew)); exact HO_312005.out))) (Kd.R_lt (by (with_reducible repeat (first | apply Kd.R_alloc | apply Kd.R_drewN | apply Kd.R_drew)); exact HO317.out))) (below_size (by repeat (first | (with_reducible first | exact HB.out | apply below_alloc | apply pw_below_drewN | apply below_drew1 | refine below_set ?_ GE311.out) | exact HB.out)))); have n3_ := Aside0.mk (blk_below (g := gb311) (o := .cells #[.int .u64 t302, .int .u64 t303, .bool t304, .int .u16 t305, .int .u16 t306, .slice Ao13 t307.length co13] 34 (0, 0)) (by (with_reducible repeat (first | refine blk_drewN ?_ _ | refine blk_drew ?_ | refine blk_alloc ?_ _)); exact BK311.out) hb); have n4_ := Aside0.mk (below_step (by repeat (first | (with_reducible first | exact HB.out | apply below_alloc | apply pw_below_drewN | apply below_drew1 | refine below_set ?_ GE311.out) | exact HB.out)) hb); clear HO_312005; clear HO317; clear BK311; clear HB; have HO_312005 := n0_; have HO317 := n1_; have HO321 := n2_; have BK311 := n3_; have HB := n4_; clear n0_ n1_ n2_ n3_ n4_; (try clear hb); (try clear hb2); (try clear hk); (try clear hi); (try clear ho0)) | ((with_reducible refine gate_callee (f := 16) rfl ?_); refine goesL_ (some 62) rfl rfl Try.func16 (by kernel_rfl) rfl #[.slice Ao27 t314.length co27, .bool true, .int .i64 (wrap64 (1 + (wrap64 (Int.tmod (IntKind.u64.wrap (a2)) 4094))))] rfl (by (try simp only [List.map_toArray, List.map_cons, List.map_nil]); first | done | rfl | (simp only [List.length_drop, List.length_take]; rfl)) ?_; (with_reducible refine (frame_Out.calls kj7 _ _ t314 true (wrap64 (1 + (wrap64 (Int.tmod (IntKind.u64.wrap (a2)) 4094)))) t322 t323 _ ?side1 ?side2 A23.out).mono ?_); (case side1 => repeat (first | exact (Kd.R_reads' HO317.out).2.2 | (with_reducible refine Kd.C_alloc ?_ _) | (with_reducible refine Kd.C_drewN ?_ _) | (with_reducible refine Kd.C_drew ?_))); (case side2 => exact (Kd.R_reads' HO317.out).2.1); rintro e w29 ⟨v324, rfl, ho0, hb⟩; refine ⟨_, rfl, ?_⟩; have n0_ := Aside0.mk (Kd.R_elder' (by (with_reducible repeat (first | apply Kd.R_alloc | apply Kd.R_drewN | apply Kd.R_drew)); exact HO_312005.out) (Kd.R_base ho0) hb); have n1_ := Aside0.mk (Kd.R_elder' (by (with_reducible repeat (first | apply Kd.R_alloc | apply Kd.R_drewN | apply Kd.R_drew)); exact HO317.out) (Kd.R_base ho0) hb); have n2_ := Aside0.mk (Kd.R_elder' (by (with_reducible repeat (first | apply Kd.R_alloc | apply Kd.R_drewN | apply Kd.R_drew)); exact HO321.out) (Kd.R_base ho0) hb); have n3_ := Aside0.mk (Kd.R_lower (Kd.R_new' (Kd.R_new' (Kd.R_new' ho0 (Kd.R_lt (by (with_reducible repeat (first | apply Kd.R_alloc | apply Kd.R_drewN | apply Kd.R_drew)); exact HO_312005.out))) (Kd.R_lt (by (with_reducible repeat (first | apply Kd.R_alloc | apply Kd.R_drewN | apply Kd.R_drew)); exact HO317.out))) (Kd.R_lt (by (with_reducible repeat (first | apply Kd.R_alloc | apply Kd.R_drewN | apply Kd.R_drew)); exact HO321.out))) (below_size (by repeat (first | (with_reducible first | exact HB.out | apply below_alloc | apply pw_below_drewN | apply below_drew1 | refine below_set ?_ GE311.out) | exact HB.out)))); have n4_ := Aside0.mk (blk_below (g := gb311) (o := .cells #[.int .u64 t302, .int .u64 t303, .bool t304, .int .u16 t305, .int .u16 t306, .slice Ao13 t307.length co13] 34 (0, 0)) (by (with_reducible repeat (first | refine blk_drewN ?_ _ | refine blk_drew ?_ | refine blk_alloc ?_ _)); exact BK311.out) hb); have n5_ := Aside0.mk (below_step (by repeat (first | (with_reducible first | exact HB.out | apply below_alloc | apply pw_below_drewN | apply below_drew1 | refine below_set ?_ GE311.out) | exact HB.out)) hb); clear HO_312005; clear HO317; clear HO321; clear BK311; clear HB; have HO_312005 := n0_; have HO317 := n1_; have HO321 := n2_; have HO325 := n3_; have BK311 := n4_; have HB := n5_; clear n0_ n1_ n2_ n3_ n4_ n5_; (try clear hb); (try clear hb2); (try clear hk); (try clear hi); (try clear ho0)) | ((with_reducible refine gate_callee (f := 16) rfl ?_); refine goesL_ (some 68) rfl rfl Try.func16 (by kernel_rfl) rfl #[.slice A0 lt9_.length c0, .bool true, .int .i64 (wrap64 (1 + (wrap64 (Int.tmod (IntKind.u64.wrap (a2)) 4094))))] rfl (by (try simp only [List.map_toArray, List.map_cons, List.map_nil]); first | done | (rw [(show lt9_.length = ((ji4 : Int).toNat : Nat) from (by rw [List.length_take]; have h_ : (ji4 : Int) ≤ (l0.length : Int) := of_decide_eq_true (by first | (with_reducible assumption) | assumption); omega))] <;> rfl) | (rw [show lt9_.length = (ji4).toNat from (by rw [List.length_take]; have h_ : ((ji4) : Int) ≤ (l0.length : Int) := of_decide_eq_true (by first | (with_reducible assumption) | assumption); omega)] <;> rfl) | (simp only [hji4]; rfl) | rfl | (simp only [List.length_drop, List.length_take]; rfl)) ?_; (with_reducible refine (frame_Out.calls kj7 _ _ lt9_ true (wrap64 (1 + (wrap64 (Int.tmod (IntKind.u64.wrap (a2)) 4094)))) t326 t327 _ ?side1 ?side2 A24.out).mono ?_); (case side1 => repeat (first | exact (Kd.C_below HR301.out HB.out) | (with_reducible refine Kd.C_alloc ?_ _) | (with_reducible refine Kd.C_drewN ?_ _) | (with_reducible refine Kd.C_drew ?_))); (case side2 => exact HC301.out); rintro e w30 ⟨v328, rfl, ho0, hb⟩; refine ⟨_, rfl, ?_⟩; have n0_ := Aside0.mk (Kd.R_elder' (by (with_reducible repeat (first | apply Kd.R_alloc | apply Kd.R_drewN | apply Kd.R_drew)); exact HO_312005.out) (Kd.R_base ho0) hb); have n1_ := Aside0.mk (Kd.R_elder' (by (with_reducible repeat (first | apply Kd.R_alloc | apply Kd.R_drewN | apply Kd.R_drew)); exact HO317.out) (Kd.R_base ho0) hb); have n2_ := Aside0.mk (Kd.R_elder' (by (with_reducible repeat (first | apply Kd.R_alloc | apply Kd.R_drewN | apply Kd.R_drew)); exact HO321.out) (Kd.R_base ho0) hb); have n3_ := Aside0.mk (Kd.R_elder' (by (with_reducible repeat (first | apply Kd.R_alloc | apply Kd.R_drewN | apply Kd.R_drew)); exact HO325.out) (Kd.R_base ho0) hb); have n4_ := Aside0.mk (Kd.R_lower (Kd.R_new' (Kd.R_new' (Kd.R_new' (Kd.R_new' ho0 (Kd.R_lt (by (with_reducible repeat (first | apply Kd.R_alloc | apply Kd.R_drewN | apply Kd.R_drew)); exact HO_312005.out))) (Kd.R_lt (by (with_reducible repeat (first | apply Kd.R_alloc | apply Kd.R_drewN | apply Kd.R_drew)); exact HO317.out))) (Kd.R_lt (by (with_reducible repeat (first | apply Kd.R_alloc | apply Kd.R_drewN | apply Kd.R_drew)); exact HO321.out))) (Kd.R_lt (by (with_reducible repeat (first | apply Kd.R_alloc | apply Kd.R_drewN | apply Kd.R_drew)); exact HO325.out))) (below_size (by repeat (first | (with_reducible first | exact HB.out | apply below_alloc | apply pw_below_drewN | apply below_drew1 | refine below_set ?_ GE311.out) | exact HB.out)))); have n5_ := Aside0.mk (blk_below (g := gb311) (o := .cells #[.int .u64 t302, .int .u64 t303, .bool t304, .int .u16 t305, .int .u16 t306, .slice Ao13 t307.length co13] 34 (0, 0)) (by (with_reducible repeat (first | refine blk_drewN ?_ _ | refine blk_drew ?_ | refine blk_alloc ?_ _)); exact BK311.out) hb); have n6_ := Aside0.mk (below_step (by repeat (first | (with_reducible first | exact HB.out | apply below_alloc | apply pw_below_drewN | apply below_drew1 | refine below_set ?_ GE311.out) | exact HB.out)) hb); clear HO_312005; clear HO317; clear HO321; clear HO325; clear BK311; clear HB; have HO_312005 := n0_; have HO317 := n1_; have HO321 := n2_; have HO325 := n3_; have HO329 := n4_; have BK311 := n5_; have HB := n6_; clear n0_ n1_ n2_ n3_ n4_ n5_ n6_; (try clear hb); (try clear hb2); (try clear hk); (try clear hi); (try clear ho0)))
            (try simp only [Act.put, List.setIfInBounds_toArray, List.set_cons_zero, List.set_cons_succ])
            go_cut [86] (fun v86 wc => ∃ (kq : Nat) (x86_24 : Bool), v86 = .bool x86_24 ∧ Aside0 (patchbaylaw02_FrameBack.j1 kq lt9_ (wrap64 (1 + (wrap64 (Int.tmod (IntKind.u64.wrap (a1)) 4094)))) t314 t318 t319 x86_24 t302 t303 t304 t305 t306 t307 = some r) ∧ Aside0 (kq ≤ kj7) ∧ Aside0 (Kd.R (Kd.int .u8) 5 wc w.heap.size (fun k_ => some k_ ≠ (v320 : Value).ownBlock ∧ some k_ ≠ ((.slice Ao13 t307.length co13) : Value).ownBlock) (.slice Ao27 t314.length co27) t314) ∧ Aside0 (Kd.R (Kd.int .u8) 5 wc w.heap.size (fun k_ => some k_ ≠ ((.slice Ao27 t314.length co27) : Value).ownBlock ∧ some k_ ≠ ((.slice Ao13 t307.length co13) : Value).ownBlock) v320 t318) ∧ Aside0 (Kd.R (Kd.int .u8) 5 wc w.heap.size (fun k_ => some k_ ≠ ((.slice Ao27 t314.length co27) : Value).ownBlock ∧ some k_ ≠ (v320 : Value).ownBlock) (.slice Ao13 t307.length co13) t307) ∧ Aside0 (wc.heap[gb311]? = some (.cells #[.int .u64 t302, .int .u64 t303, .bool t304, .int .u16 t305, .int .u16 t306, (.slice Ao13 t307.length co13)] 34 (0, 0))) ∧ Aside0 (Below w.heap.size w wc))
            case first =>
              have H := HC25.out
              clear HC25
              by_cases c31 : t315 = 0
              · rw [if_pos c31] at H
                have c31b0 : (t315 == 0) = true := beq_iff_eq.mpr c31
                have c31b1 : (t315 != 0) = false := bne_eq_false_iff_eq.mpr c31
                clear c31
                (first | rw [c31b0] | (simp only [i64_w, i32_w]; rw [c31b0]) | skip)
                by_cases c32 : t323 = 0
                · rw [if_pos c32] at H
                  have c32b0 : (t323 == 0) = true := beq_iff_eq.mpr c32
                  have c32b1 : (t323 != 0) = false := bne_eq_false_iff_eq.mpr c32
                  clear c32
                  by_cases c33 : t327 = 0
                  · rw [if_pos c33] at H
                    have c33b0 : (t327 == 0) = true := beq_iff_eq.mpr c33
                    have c33b1 : (t327 != 0) = false := bne_eq_false_iff_eq.mpr c33
                    clear c33
                    replace H := Option.bind_eq_some_iff.mp H
                    obtain ⟨t330, A340, H⟩ := H
                    replace H : (patchbaylaw02_FrameBack.j1 kj7 lt9_ (wrap64 (1 + (wrap64 (Int.tmod (IntKind.u64.wrap (a1)) 4094)))) t314 t318 t319 (!t330) t302 t303 t304 t305 t306 t307) = some r := H
                    have A34 := Aside0.mk A340
                    clear A340
                    have H' := Aside0.mk H
                    clear H
                    obtain ⟨Ao35, co35, eo35⟩ := Kd.R_slice HO325.out
                    subst eo35
                    obtain ⟨Ao36, co36, eo36⟩ := Kd.R_slice HO329.out
                    subst eo36
                    go_wp2_with (first | (go_at_call 19; (with_reducible refine (patchbayref01_Same.calls kj7 _ _ t322 _ _ t326 t330 _ ?side1 ?side2 ?side3 ?side4 A34.out).mono ?_); (case side1 => repeat (first | exact (Kd.R_reads' HO325.out).2.2 | (with_reducible refine Kd.C_alloc ?_ _) | (with_reducible refine Kd.C_drewN ?_ _) | (with_reducible refine Kd.C_drew ?_))); (case side2 => exact (Kd.R_reads' HO325.out).2.1); (case side3 => repeat (first | exact (Kd.R_reads' HO329.out).2.2 | (with_reducible refine Kd.C_alloc ?_ _) | (with_reducible refine Kd.C_drewN ?_ _) | (with_reducible refine Kd.C_drew ?_))); (case side4 => exact (Kd.R_reads' HO329.out).2.1); rintro e w' ⟨rfl, ⟨nd, rfl⟩⟩))
                    go_meet
                    case rel => exact ⟨_, (!t330), (by first | rfl | (simp; done) | (simp [*]; done)), H', ⟨by have := HJ7.out; first | omega | exact Nat.le_refl _⟩, ⟨by (with_reducible repeat (first | apply Kd.R_alloc | apply Kd.R_drewN | apply Kd.R_drew)); exact Kd.R_mono HO317.out (fun _ hk => ⟨hk.1.1.2, hk.1.1.1.2⟩)⟩, ⟨by (with_reducible repeat (first | apply Kd.R_alloc | apply Kd.R_drewN | apply Kd.R_drew)); exact Kd.R_mono HO321.out (fun _ hk => ⟨hk.1.1.2, hk.1.1.1.2⟩)⟩, ⟨by (with_reducible repeat (first | apply Kd.R_alloc | apply Kd.R_drewN | apply Kd.R_drew)); exact Kd.R_mono HO_312005.out (fun _ hk => ⟨hk.1.1.1.2, hk.1.1.2⟩)⟩, ⟨by (with_reducible repeat (first | refine blk_drewN ?_ _ | refine blk_drew ?_ | refine blk_alloc ?_ _)); exact BK311.out⟩, ⟨by repeat (first | (with_reducible first | exact HB.out | apply below_alloc | apply pw_below_drewN | apply below_drew1 | refine below_set ?_ GE311.out) | exact HB.out)⟩⟩
                  · rw [if_neg c33] at H
                    have c33b0 : (t327 == 0) = false := beq_eq_false_iff_ne.mpr c33
                    have c33b1 : (t327 != 0) = true := bne_iff_ne.mpr c33
                    have H' := Aside0.mk H
                    clear H
                    go_wp2
                    go_meet
                    case rel => exact ⟨_, (true), (by first | rfl | (simp; done) | (simp [*]; done)), H', ⟨by have := HJ7.out; first | omega | exact Nat.le_refl _⟩, ⟨by (with_reducible repeat (first | apply Kd.R_alloc | apply Kd.R_drewN | apply Kd.R_drew)); exact Kd.R_mono HO317.out (fun _ hk => ⟨hk.1.1.2, hk.1.1.1.2⟩)⟩, ⟨by (with_reducible repeat (first | apply Kd.R_alloc | apply Kd.R_drewN | apply Kd.R_drew)); exact Kd.R_mono HO321.out (fun _ hk => ⟨hk.1.1.2, hk.1.1.1.2⟩)⟩, ⟨by (with_reducible repeat (first | apply Kd.R_alloc | apply Kd.R_drewN | apply Kd.R_drew)); exact Kd.R_mono HO_312005.out (fun _ hk => ⟨hk.1.1.1.2, hk.1.1.2⟩)⟩, ⟨by (with_reducible repeat (first | refine blk_drewN ?_ _ | refine blk_drew ?_ | refine blk_alloc ?_ _)); exact BK311.out⟩, ⟨by repeat (first | (with_reducible first | exact HB.out | apply below_alloc | apply pw_below_drewN | apply below_drew1 | refine below_set ?_ GE311.out) | exact HB.out)⟩⟩
                · rw [if_neg c32] at H
                  have c32b0 : (t323 == 0) = false := beq_eq_false_iff_ne.mpr c32
                  have c32b1 : (t323 != 0) = true := bne_iff_ne.mpr c32
                  have H' := Aside0.mk H
                  clear H
                  go_wp2
                  go_meet
                  case rel => exact ⟨_, (true), (by first | rfl | (simp; done) | (simp [*]; done)), H', ⟨by have := HJ7.out; first | omega | exact Nat.le_refl _⟩, ⟨by (with_reducible repeat (first | apply Kd.R_alloc | apply Kd.R_drewN | apply Kd.R_drew)); exact Kd.R_mono HO317.out (fun _ hk => ⟨hk.1.1.2, hk.1.1.1.2⟩)⟩, ⟨by (with_reducible repeat (first | apply Kd.R_alloc | apply Kd.R_drewN | apply Kd.R_drew)); exact Kd.R_mono HO321.out (fun _ hk => ⟨hk.1.1.2, hk.1.1.1.2⟩)⟩, ⟨by (with_reducible repeat (first | apply Kd.R_alloc | apply Kd.R_drewN | apply Kd.R_drew)); exact Kd.R_mono HO_312005.out (fun _ hk => ⟨hk.1.1.1.2, hk.1.1.2⟩)⟩, ⟨by (with_reducible repeat (first | refine blk_drewN ?_ _ | refine blk_drew ?_ | refine blk_alloc ?_ _)); exact BK311.out⟩, ⟨by repeat (first | (with_reducible first | exact HB.out | apply below_alloc | apply pw_below_drewN | apply below_drew1 | refine below_set ?_ GE311.out) | exact HB.out)⟩⟩
              · rw [if_neg c31] at H
                have c31b0 : (t315 == 0) = false := beq_eq_false_iff_ne.mpr c31
                have c31b1 : (t315 != 0) = true := bne_iff_ne.mpr c31
                (first | rw [c31b0] | (simp only [i64_w, i32_w]; rw [c31b0]) | skip)
                have H' := Aside0.mk H
                clear H
                go_wp2
                go_meet
                case rel => exact ⟨_, (true), (by first | rfl | (simp; done) | (simp [*]; done)), H', ⟨by have := HJ7.out; first | omega | exact Nat.le_refl _⟩, ⟨by (with_reducible repeat (first | apply Kd.R_alloc | apply Kd.R_drewN | apply Kd.R_drew)); exact Kd.R_mono HO317.out (fun _ hk => ⟨hk.1.1.2, hk.1.1.1.2⟩)⟩, ⟨by (with_reducible repeat (first | apply Kd.R_alloc | apply Kd.R_drewN | apply Kd.R_drew)); exact Kd.R_mono HO321.out (fun _ hk => ⟨hk.1.1.2, hk.1.1.1.2⟩)⟩, ⟨by (with_reducible repeat (first | apply Kd.R_alloc | apply Kd.R_drewN | apply Kd.R_drew)); exact Kd.R_mono HO_312005.out (fun _ hk => ⟨hk.1.1.1.2, hk.1.1.2⟩)⟩, ⟨by (with_reducible repeat (first | refine blk_drewN ?_ _ | refine blk_drew ?_ | refine blk_alloc ?_ _)); exact BK311.out⟩, ⟨by repeat (first | (with_reducible first | exact HB.out | apply below_alloc | apply pw_below_drewN | apply below_drew1 | refine below_set ?_ GE311.out) | exact HB.out)⟩⟩
            case rest =>
              clear HC25
              try clear c1
              try clear c2
              try clear p2
              try clear c3
              try clear c4
              try clear c5
              try clear c5b0
              try clear c5b1
              try clear c6
              try clear c6b0
              try clear c6b1
              try clear p6
              try clear c15
              try clear c16
              try clear c18
              try clear c20
              try clear c31
              try clear c31b0
              try clear c31b1
              try clear c32
              try clear c32b0
              try clear c32b1
              try clear c33
              try clear c33b0
              try clear c33b1
              try clear hcz12_0
              try clear hcz12_1
              try clear hcz12_2
              try clear hcz12_3
              try clear hcz12_4
              try clear hcz12_5
              try clear hfz12_0
              try clear hfz12_1
              try clear hfz12_2
              try clear hfz12_3
              try clear hfz12_4
              try clear hfz12_5
              try clear p2
              try clear p6
              obtain ⟨kq, x86_24, rfl, HA, HJ24, HO_9, HO_11, HO_312005, BK311, HB⟩ := hcut
              cases kq with
              | zero => exact absurd HA.out (by simp [patchbaylaw02_FrameBack.j1])
              | succ kj24 =>
                have H := HA.out
                clear HA
                simp only [patchbaylaw02_FrameBack.j1] at H
                by_cases c37 : x86_24 = true
                · subst c37
                  have H1 : (some false) = some r := by rw [if_pos rfl] at H; exact H
                  clear H
                  have H := H1
                  clear H1
                  obtain rfl := Option.some.inj H
                  go_wp2
                  go_ret
                  exact ⟨by first | rfl | (simp [errW_none, errW_some] <;> rfl) | (simp only [← hji4]; first | rfl | (simp [errW_none, errW_some] <;> rfl)) | (simp [*, errW_none, errW_some] <;> rfl), by repeat (first | (with_reducible first | exact HB.out | apply below_alloc | apply pw_below_drewN | apply below_drew1 | refine below_set ?_ GE311.out) | exact HB.out)⟩
                · replace c37 := Bool.eq_false_iff.mpr c37
                  subst c37
                  have H1 : ((frame_Parse.f kj24 t314).bind fun bt331 => (if bt331.2.2.2.2.2.2 = 0 then (if bt331.2.2.1 = true then (if (wrap64 (Int.tmod bt331.2.2.2.1 4096)) = (wrap64 (1 + (wrap64 (Int.tmod (IntKind.u64.wrap (a1)) 4094)))) then (patchbaylaw02_FrameBack.j2 kj24 lt9_ t318 t319 ((IntKind.u16.wrap (Int.tdiv bt331.2.2.2.1 4096)) != (IntKind.u16.wrap (Int.tdiv t305 4096))) t302 t303 t304 t305 t306 t307) else (patchbaylaw02_FrameBack.j2 kj24 lt9_ t318 t319 true t302 t303 t304 t305 t306 t307)) else (patchbaylaw02_FrameBack.j2 kj24 lt9_ t318 t319 true t302 t303 t304 t305 t306 t307)) else (patchbaylaw02_FrameBack.j2 kj24 lt9_ t318 t319 true t302 t303 t304 t305 t306 t307))) = some r := by rw [if_neg (show ¬ (false = true) by decide)] at H; exact H
                  clear H
                  have H := H1
                  clear H1
                  replace H := Option.bind_eq_some_iff.mp H
                  obtain ⟨⟨t331, t332, t333, t334, t335, t336, t339⟩, A380, H⟩ := H
                  replace H : (if t339 = 0 then (if t333 = true then (if (wrap64 (Int.tmod t334 4096)) = (wrap64 (1 + (wrap64 (Int.tmod (IntKind.u64.wrap (a1)) 4094)))) then (patchbaylaw02_FrameBack.j2 kj24 lt9_ t318 t319 ((IntKind.u16.wrap (Int.tdiv t334 4096)) != (IntKind.u16.wrap (Int.tdiv t305 4096))) t302 t303 t304 t305 t306 t307) else (patchbaylaw02_FrameBack.j2 kj24 lt9_ t318 t319 true t302 t303 t304 t305 t306 t307)) else (patchbaylaw02_FrameBack.j2 kj24 lt9_ t318 t319 true t302 t303 t304 t305 t306 t307)) else (patchbaylaw02_FrameBack.j2 kj24 lt9_ t318 t319 true t302 t303 t304 t305 t306 t307)) = some r := H
                  have A38 := Aside0.mk A380
                  clear A380
                  have HC39 := Aside0.mk H
                  clear H
                  go_upto_region 13 with (first | ((with_reducible refine gate_callee (f := 21) rfl ?_); refine goesL_ (some 89) rfl rfl Try.func21 (by kernel_rfl) rfl #[.slice Ao27 t314.length co27] rfl (by (try simp only [List.map_toArray, List.map_cons, List.map_nil]); first | done | rfl | (simp only [List.length_drop, List.length_take]; rfl)) ?_; (with_reducible refine (frame_Parse.calls kj24 _ _ t314 t331 t332 t333 t334 t335 t336 t339 _ ?side1 ?side2 A38.out).mono ?_); (case side1 => repeat (first | exact (Kd.R_reads' HO_9.out).2.2 | (with_reducible refine Kd.C_alloc ?_ _) | (with_reducible refine Kd.C_drewN ?_ _) | (with_reducible refine Kd.C_drew ?_))); (case side2 => exact (Kd.R_reads' HO_9.out).2.1); rintro e w40 ⟨v337, rfl, ho0, hb⟩; refine ⟨_, rfl, ?_⟩; have n0_ := Aside0.mk (Kd.R_elder' (by (with_reducible repeat (first | apply Kd.R_alloc | apply Kd.R_drewN | apply Kd.R_drew)); exact HO_9.out) (Kd.R_base ho0) hb); have n1_ := Aside0.mk (Kd.R_elder' (by (with_reducible repeat (first | apply Kd.R_alloc | apply Kd.R_drewN | apply Kd.R_drew)); exact HO_11.out) (Kd.R_base ho0) hb); have n2_ := Aside0.mk (Kd.R_elder' (by (with_reducible repeat (first | apply Kd.R_alloc | apply Kd.R_drewN | apply Kd.R_drew)); exact HO_312005.out) (Kd.R_base ho0) hb); have n3_ := Aside0.mk (Kd.R_lower (Kd.R_new' (Kd.R_new' (Kd.R_new' ho0 (Kd.R_lt (by (with_reducible repeat (first | apply Kd.R_alloc | apply Kd.R_drewN | apply Kd.R_drew)); exact HO_9.out))) (Kd.R_lt (by (with_reducible repeat (first | apply Kd.R_alloc | apply Kd.R_drewN | apply Kd.R_drew)); exact HO_11.out))) (Kd.R_lt (by (with_reducible repeat (first | apply Kd.R_alloc | apply Kd.R_drewN | apply Kd.R_drew)); exact HO_312005.out))) (below_size (by repeat (first | (with_reducible first | exact HB.out | apply below_alloc | apply pw_below_drewN | apply below_drew1 | refine below_set ?_ GE311.out) | exact HB.out)))); have n4_ := Aside0.mk (blk_below (g := gb311) (o := .cells #[.int .u64 t302, .int .u64 t303, .bool t304, .int .u16 t305, .int .u16 t306, .slice Ao13 t307.length co13] 34 (0, 0)) (by (with_reducible repeat (first | refine blk_drewN ?_ _ | refine blk_drew ?_ | refine blk_alloc ?_ _)); exact BK311.out) hb); have n5_ := Aside0.mk (below_step (by repeat (first | (with_reducible first | exact HB.out | apply below_alloc | apply pw_below_drewN | apply below_drew1 | refine below_set ?_ GE311.out) | exact HB.out)) hb); clear HO_9; clear HO_11; clear HO_312005; clear BK311; clear HB; have HO_9 := n0_; have HO_11 := n1_; have HO_312005 := n2_; have HO338 := n3_; have BK311 := n4_; have HB := n5_; clear n0_ n1_ n2_ n3_ n4_ n5_; (try clear hb); (try clear hb2); (try clear hk); (try clear hi); (try clear ho0)) | ((with_reducible refine gate_dst (N := 17) rfl ?_); (try (refine gate_guard (by rfl) ?_; dsimp only)); refine box_event ?hg (N := 17) ?hd (cs := #[.int .u64 0, .int .u64 0, .bool false, .int .u16 0, .int .u16 0, .slice none 0 0]) (t := 39) ?hr ?_; (case hd => rfl); (case hg => rfl); (case hr => first | (go_simp; done) | (go_simp; rfl)); intro gb340 hg w41 hbox hb; have n0_ := Aside0.mk (Kd.R_below (by (with_reducible repeat (first | apply Kd.R_alloc | apply Kd.R_drewN | apply Kd.R_drew)); exact HO_9.out) hb); have n1_ := Aside0.mk (Kd.R_below (by (with_reducible repeat (first | apply Kd.R_alloc | apply Kd.R_drewN | apply Kd.R_drew)); exact HO_11.out) hb); have n2_ := Aside0.mk (Kd.R_below (by (with_reducible repeat (first | apply Kd.R_alloc | apply Kd.R_drewN | apply Kd.R_drew)); exact HO_312005.out) hb); have n3_ := Aside0.mk (Kd.R_below (by (with_reducible repeat (first | apply Kd.R_alloc | apply Kd.R_drewN | apply Kd.R_drew)); exact HO338.out) hb); have n4_ := Aside0.mk (blk_below (g := gb311) (o := .cells #[.int .u64 t302, .int .u64 t303, .bool t304, .int .u16 t305, .int .u16 t306, .slice Ao13 t307.length co13] 34 (0, 0)) (by (with_reducible repeat (first | refine blk_drewN ?_ _ | refine blk_drew ?_ | refine blk_alloc ?_ _)); exact BK311.out) hb); have n5_ := Aside0.mk (below_step (by repeat (first | (with_reducible first | exact HB.out | apply below_alloc | apply pw_below_drewN | apply below_drew1 | refine below_set ?_ GE311.out) | exact HB.out)) hb); have n6_ := Aside0.mk (hbox); have n7_ := Aside0.mk ((by rw [hg]; exact (below_size (by repeat (first | (with_reducible first | exact HB.out | apply below_alloc | apply pw_below_drewN | apply below_drew1 | refine below_set ?_ GE311.out) | exact HB.out))) : w.heap.size ≤ gb340)); have n8_ := Aside0.mk ((by rw [hg]; exact (below_size (by repeat (first | (with_reducible first | exact HB.out | apply below_alloc | apply pw_below_drewN | apply below_drew1 | refine below_set ?_ GE311.out) | exact HB.out))) : w.heap.size ≤ gb340)); have n9_ := Aside0.mk ((by rw [hg]; exact Nat.ne_of_lt (blk_lt (g := gb311) (o := .cells #[.int .u64 t302, .int .u64 t303, .bool t304, .int .u16 t305, .int .u16 t306, .slice Ao13 t307.length co13] 34 (0, 0)) (by (with_reducible repeat (first | refine blk_drewN ?_ _ | refine blk_drew ?_ | refine blk_alloc ?_ _)); exact BK311.out)) : gb311 ≠ gb340)); have n10_ := Aside0.mk ((by rw [hg]; exact Nat.ne_of_gt (blk_lt (g := gb311) (o := .cells #[.int .u64 t302, .int .u64 t303, .bool t304, .int .u16 t305, .int .u16 t306, .slice Ao13 t307.length co13] 34 (0, 0)) (by (with_reducible repeat (first | refine blk_drewN ?_ _ | refine blk_drew ?_ | refine blk_alloc ?_ _)); exact BK311.out)) : gb340 ≠ gb311)); clear HO_9; clear HO_11; clear HO_312005; clear HO338; clear BK311; clear HB; have HO_9 := n0_; have HO_11 := n1_; have HO_312005 := n2_; have HO338 := n3_; have BK311 := n4_; have HB := n5_; have BK340 := n6_; have GW340 := n7_; have GE340 := n8_; have NB311_340 := n9_; have NB340_311 := n10_; clear n0_ n1_ n2_ n3_ n4_ n5_ n6_ n7_ n8_ n9_ n10_; clear hb hbox hg; have hnb42 := NB340_311.out; have hnc42 := NB311_340.out; have hcz43_0 : w41.cell? ⟨gb340, 0, none⟩ = some (.int .u64 0) := (blk_cell BK340.out 0).trans rfl; have hcz43_1 : w41.cell? ⟨gb340, 1, none⟩ = some (.int .u64 0) := (blk_cell BK340.out 1).trans rfl; have hcz43_2 : w41.cell? ⟨gb340, 2, none⟩ = some (.bool false) := (blk_cell BK340.out 2).trans rfl; have hcz43_3 : w41.cell? ⟨gb340, 3, none⟩ = some (.int .u16 0) := (blk_cell BK340.out 3).trans rfl; have hcz43_4 : w41.cell? ⟨gb340, 4, none⟩ = some (.int .u16 0) := (blk_cell BK340.out 4).trans rfl; have hcz43_5 : w41.cell? ⟨gb340, 5, none⟩ = some (.slice none 0 0) := (blk_cell BK340.out 5).trans rfl; have hfz43_0 := blk_frozen BK340.out 0; have hfz43_1 := blk_frozen BK340.out 1; have hfz43_2 := blk_frozen BK340.out 2; have hfz43_3 := blk_frozen BK340.out 3; have hfz43_4 := blk_frozen BK340.out 4; have hfz43_5 := blk_frozen BK340.out 5; obtain ⟨Ao44, co44, eo44⟩ := Kd.R_slice HO338.out; subst eo44))
                  (try simp only [Act.put, List.setIfInBounds_toArray, List.set_cons_zero, List.set_cons_succ])
                  go_cut [115] (fun v115 wc => ∃ (kq : Nat) (x115_38 : Bool), v115 = .bool x115_38 ∧ Aside0 (patchbaylaw02_FrameBack.j2 kq lt9_ t318 t319 x115_38 t302 t303 t304 t305 t306 t307 = some r) ∧ Aside0 (kq ≤ kj24) ∧ Aside0 (Kd.R (Kd.int .u8) 5 wc w.heap.size (fun k_ => some k_ ≠ ((.slice Ao13 t307.length co13) : Value).ownBlock ∧ some k_ ≠ ((.slice Ao44 t336.length co44) : Value).ownBlock) v320 t318) ∧ Aside0 (Kd.R (Kd.int .u8) 5 wc w.heap.size (fun k_ => some k_ ≠ (v320 : Value).ownBlock ∧ some k_ ≠ ((.slice Ao44 t336.length co44) : Value).ownBlock) (.slice Ao13 t307.length co13) t307) ∧ Aside0 (Kd.R (Kd.int .u8) 5 wc w.heap.size (fun k_ => some k_ ≠ (v320 : Value).ownBlock ∧ some k_ ≠ ((.slice Ao13 t307.length co13) : Value).ownBlock) (.slice Ao44 t336.length co44) t336) ∧ Aside0 (wc.heap[gb311]? = some (.cells #[.int .u64 t302, .int .u64 t303, .bool t304, .int .u16 t305, .int .u16 t306, (.slice Ao13 t307.length co13)] 34 (0, 0))) ∧ Aside0 (wc.heap[gb340]? = some (.cells #[.int .u64 t331, .int .u64 t332, .bool t333, .int .u16 t334, .int .u16 t335, (.slice Ao44 t336.length co44)] 39 (0, 0))) ∧ Aside0 (Below w.heap.size w wc))
                  case first =>
                    have H := HC39.out
                    clear HC39
                    by_cases c45 : t339 = 0
                    · rw [if_pos c45] at H
                      have c45b0 : (t339 == 0) = true := beq_iff_eq.mpr c45
                      have c45b1 : (t339 != 0) = false := bne_eq_false_iff_eq.mpr c45
                      clear c45
                      (first | rw [c45b0] | (simp only [i64_w, i32_w]; rw [c45b0]) | skip)
                      by_cases c46 : t333 = true
                      · subst c46
                        have H1 : (if (wrap64 (Int.tmod t334 4096)) = (wrap64 (1 + (wrap64 (Int.tmod (IntKind.u64.wrap (a1)) 4094)))) then (patchbaylaw02_FrameBack.j2 kj24 lt9_ t318 t319 ((IntKind.u16.wrap (Int.tdiv t334 4096)) != (IntKind.u16.wrap (Int.tdiv t305 4096))) t302 t303 t304 t305 t306 t307) else (patchbaylaw02_FrameBack.j2 kj24 lt9_ t318 t319 true t302 t303 t304 t305 t306 t307)) = some r := by rw [if_pos rfl] at H; exact H
                        clear H
                        have H := H1
                        clear H1
                        by_cases c47 : (wrap64 (Int.tmod t334 4096)) = (wrap64 (1 + (wrap64 (Int.tmod (IntKind.u64.wrap (a1)) 4094))))
                        · rw [if_pos c47] at H
                          have c47b0 : ((wrap64 (Int.tmod t334 4096)) == (wrap64 (1 + (wrap64 (Int.tmod (IntKind.u64.wrap (a1)) 4094))))) = true := beq_iff_eq.mpr c47
                          have c47b1 : ((wrap64 (Int.tmod t334 4096)) != (wrap64 (1 + (wrap64 (Int.tmod (IntKind.u64.wrap (a1)) 4094))))) = false := bne_eq_false_iff_eq.mpr c47
                          clear c47
                          have H' := Aside0.mk H
                          clear H
                          have hnb48 := NB340_311.out
                          have hnc48 := NB311_340.out
                          have hcz49_0 : w41.cell? ⟨gb340, 0, none⟩ = some (.int .u64 0) := (blk_cell BK340.out 0).trans rfl
                          have hcz49_1 : w41.cell? ⟨gb340, 1, none⟩ = some (.int .u64 0) := (blk_cell BK340.out 1).trans rfl
                          have hcz49_2 : w41.cell? ⟨gb340, 2, none⟩ = some (.bool false) := (blk_cell BK340.out 2).trans rfl
                          have hcz49_3 : w41.cell? ⟨gb340, 3, none⟩ = some (.int .u16 0) := (blk_cell BK340.out 3).trans rfl
                          have hcz49_4 : w41.cell? ⟨gb340, 4, none⟩ = some (.int .u16 0) := (blk_cell BK340.out 4).trans rfl
                          have hcz49_5 : w41.cell? ⟨gb340, 5, none⟩ = some (.slice none 0 0) := (blk_cell BK340.out 5).trans rfl
                          have hfz49_0 := blk_frozen BK340.out 0
                          have hfz49_1 := blk_frozen BK340.out 1
                          have hfz49_2 := blk_frozen BK340.out 2
                          have hfz49_3 := blk_frozen BK340.out 3
                          have hfz49_4 := blk_frozen BK340.out 4
                          have hfz49_5 := blk_frozen BK340.out 5
                          have hcz50_0 : w41.cell? ⟨gb311, 0, none⟩ = some (.int .u64 t302) := (blk_cell BK311.out 0).trans rfl
                          have hcz50_1 : w41.cell? ⟨gb311, 1, none⟩ = some (.int .u64 t303) := (blk_cell BK311.out 1).trans rfl
                          have hcz50_2 : w41.cell? ⟨gb311, 2, none⟩ = some (.bool t304) := (blk_cell BK311.out 2).trans rfl
                          have hcz50_3 : w41.cell? ⟨gb311, 3, none⟩ = some (.int .u16 t305) := (blk_cell BK311.out 3).trans rfl
                          have hcz50_4 : w41.cell? ⟨gb311, 4, none⟩ = some (.int .u16 t306) := (blk_cell BK311.out 4).trans rfl
                          have hcz50_5 : w41.cell? ⟨gb311, 5, none⟩ = some (.slice Ao13 t307.length co13) := (blk_cell BK311.out 5).trans rfl
                          have hfz50_0 := blk_frozen BK311.out 0
                          have hfz50_1 := blk_frozen BK311.out 1
                          have hfz50_2 := blk_frozen BK311.out 2
                          have hfz50_3 := blk_frozen BK311.out 3
                          have hfz50_4 := blk_frozen BK311.out 4
                          have hfz50_5 := blk_frozen BK311.out 5
                          go_wp2
                          go_meet
                          case rel => exact ⟨_, (((IntKind.u16.wrap (Int.tdiv t334 4096)) != (IntKind.u16.wrap (Int.tdiv t305 4096)))), (by first | rfl | (simp; done) | (simp [*]; done)), H', ⟨by have := HJ7.out; have := HJ24.out; first | omega | exact Nat.le_refl _⟩, ⟨by (with_reducible repeat (first | apply Kd.R_alloc | apply Kd.R_drewN | apply Kd.R_drew)); exact Kd.R_mono (Kd.R_far (p := ⟨gb340, 5, none⟩) (Kd.R_far (p := ⟨gb340, 4, none⟩) (Kd.R_far (p := ⟨gb340, 3, none⟩) (Kd.R_far (p := ⟨gb340, 2, none⟩) (Kd.R_far (p := ⟨gb340, 1, none⟩) (Kd.R_far (p := ⟨gb340, 0, none⟩) (Kd.R_types HO_11.out BK340.out (by decide)) (fun _ hk => hk.2) (.int .u64 t331)) (fun _ hk => hk.2) (.int .u64 t332)) (fun _ hk => hk.2) (.bool true)) (fun _ hk => hk.2) (.int .u16 t334)) (fun _ hk => hk.2) (.int .u16 t335)) (fun _ hk => hk.2) (.slice Ao44 t336.length co44)) (fun _ hk => ⟨hk.1.1.2, hk.1.2⟩)⟩, ⟨by (with_reducible repeat (first | apply Kd.R_alloc | apply Kd.R_drewN | apply Kd.R_drew)); exact Kd.R_mono (Kd.R_far (p := ⟨gb340, 5, none⟩) (Kd.R_far (p := ⟨gb340, 4, none⟩) (Kd.R_far (p := ⟨gb340, 3, none⟩) (Kd.R_far (p := ⟨gb340, 2, none⟩) (Kd.R_far (p := ⟨gb340, 1, none⟩) (Kd.R_far (p := ⟨gb340, 0, none⟩) (Kd.R_types HO_312005.out BK340.out (by decide)) (fun _ hk => hk.2) (.int .u64 t331)) (fun _ hk => hk.2) (.int .u64 t332)) (fun _ hk => hk.2) (.bool true)) (fun _ hk => hk.2) (.int .u16 t334)) (fun _ hk => hk.2) (.int .u16 t335)) (fun _ hk => hk.2) (.slice Ao44 t336.length co44)) (fun _ hk => ⟨hk.1.1.2, hk.1.2⟩)⟩, ⟨by (with_reducible repeat (first | apply Kd.R_alloc | apply Kd.R_drewN | apply Kd.R_drew)); exact Kd.R_mono (Kd.R_far (p := ⟨gb340, 5, none⟩) (Kd.R_far (p := ⟨gb340, 4, none⟩) (Kd.R_far (p := ⟨gb340, 3, none⟩) (Kd.R_far (p := ⟨gb340, 2, none⟩) (Kd.R_far (p := ⟨gb340, 1, none⟩) (Kd.R_far (p := ⟨gb340, 0, none⟩) (Kd.R_types HO338.out BK340.out (by decide)) (fun _ hk => hk.2) (.int .u64 t331)) (fun _ hk => hk.2) (.int .u64 t332)) (fun _ hk => hk.2) (.bool true)) (fun _ hk => hk.2) (.int .u16 t334)) (fun _ hk => hk.2) (.int .u16 t335)) (fun _ hk => hk.2) (.slice Ao44 t336.length co44)) (fun _ hk => ⟨hk.1.1.2, hk.1.2⟩)⟩, ⟨by (with_reducible repeat (first | refine blk_drewN ?_ _ | refine blk_drew ?_ | refine blk_alloc ?_ _)); refine blk_far ?_ NB311_340.out _; (with_reducible repeat (first | refine blk_drewN ?_ _ | refine blk_drew ?_ | refine blk_alloc ?_ _)); refine blk_far ?_ NB311_340.out _; (with_reducible repeat (first | refine blk_drewN ?_ _ | refine blk_drew ?_ | refine blk_alloc ?_ _)); refine blk_far ?_ NB311_340.out _; (with_reducible repeat (first | refine blk_drewN ?_ _ | refine blk_drew ?_ | refine blk_alloc ?_ _)); refine blk_far ?_ NB311_340.out _; (with_reducible repeat (first | refine blk_drewN ?_ _ | refine blk_drew ?_ | refine blk_alloc ?_ _)); refine blk_far ?_ NB311_340.out _; (with_reducible repeat (first | refine blk_drewN ?_ _ | refine blk_drew ?_ | refine blk_alloc ?_ _)); refine blk_far ?_ NB311_340.out _; (with_reducible repeat (first | refine blk_drewN ?_ _ | refine blk_drew ?_ | refine blk_alloc ?_ _)); exact BK311.out⟩, ⟨by (with_reducible repeat (first | refine blk_drewN ?_ _ | refine blk_drew ?_ | refine blk_alloc ?_ _)); refine blk_put (cs := #[.int .u64 t331, .int .u64 t332, .bool true, .int .u16 t334, .int .u16 t335, .slice none 0 0]) ?_ 5 _ rfl; (with_reducible repeat (first | refine blk_drewN ?_ _ | refine blk_drew ?_ | refine blk_alloc ?_ _)); refine blk_put (cs := #[.int .u64 t331, .int .u64 t332, .bool true, .int .u16 t334, .int .u16 0, .slice none 0 0]) ?_ 4 _ rfl; (with_reducible repeat (first | refine blk_drewN ?_ _ | refine blk_drew ?_ | refine blk_alloc ?_ _)); refine blk_put (cs := #[.int .u64 t331, .int .u64 t332, .bool true, .int .u16 0, .int .u16 0, .slice none 0 0]) ?_ 3 _ rfl; (with_reducible repeat (first | refine blk_drewN ?_ _ | refine blk_drew ?_ | refine blk_alloc ?_ _)); refine blk_put (cs := #[.int .u64 t331, .int .u64 t332, .bool false, .int .u16 0, .int .u16 0, .slice none 0 0]) ?_ 2 _ rfl; (with_reducible repeat (first | refine blk_drewN ?_ _ | refine blk_drew ?_ | refine blk_alloc ?_ _)); refine blk_put (cs := #[.int .u64 t331, .int .u64 0, .bool false, .int .u16 0, .int .u16 0, .slice none 0 0]) ?_ 1 _ rfl; (with_reducible repeat (first | refine blk_drewN ?_ _ | refine blk_drew ?_ | refine blk_alloc ?_ _)); refine blk_put (cs := #[.int .u64 0, .int .u64 0, .bool false, .int .u16 0, .int .u16 0, .slice none 0 0]) ?_ 0 _ rfl; (with_reducible repeat (first | refine blk_drewN ?_ _ | refine blk_drew ?_ | refine blk_alloc ?_ _)); exact BK340.out⟩, ⟨by repeat (first | (with_reducible first | exact HB.out | apply below_alloc | apply pw_below_drewN | apply below_drew1 | refine below_set ?_ GE311.out | refine below_set ?_ GE340.out) | exact HB.out)⟩⟩
                        · rw [if_neg c47] at H
                          have c47b0 : ((wrap64 (Int.tmod t334 4096)) == (wrap64 (1 + (wrap64 (Int.tmod (IntKind.u64.wrap (a1)) 4094))))) = false := beq_eq_false_iff_ne.mpr c47
                          have c47b1 : ((wrap64 (Int.tmod t334 4096)) != (wrap64 (1 + (wrap64 (Int.tmod (IntKind.u64.wrap (a1)) 4094))))) = true := bne_iff_ne.mpr c47
                          have H' := Aside0.mk H
                          clear H
                          have hnb51 := NB340_311.out
                          have hnc51 := NB311_340.out
                          have hcz52_0 : w41.cell? ⟨gb340, 0, none⟩ = some (.int .u64 0) := (blk_cell BK340.out 0).trans rfl
                          have hcz52_1 : w41.cell? ⟨gb340, 1, none⟩ = some (.int .u64 0) := (blk_cell BK340.out 1).trans rfl
                          have hcz52_2 : w41.cell? ⟨gb340, 2, none⟩ = some (.bool false) := (blk_cell BK340.out 2).trans rfl
                          have hcz52_3 : w41.cell? ⟨gb340, 3, none⟩ = some (.int .u16 0) := (blk_cell BK340.out 3).trans rfl
                          have hcz52_4 : w41.cell? ⟨gb340, 4, none⟩ = some (.int .u16 0) := (blk_cell BK340.out 4).trans rfl
                          have hcz52_5 : w41.cell? ⟨gb340, 5, none⟩ = some (.slice none 0 0) := (blk_cell BK340.out 5).trans rfl
                          have hfz52_0 := blk_frozen BK340.out 0
                          have hfz52_1 := blk_frozen BK340.out 1
                          have hfz52_2 := blk_frozen BK340.out 2
                          have hfz52_3 := blk_frozen BK340.out 3
                          have hfz52_4 := blk_frozen BK340.out 4
                          have hfz52_5 := blk_frozen BK340.out 5
                          go_wp2
                          go_meet
                          case rel => exact ⟨_, (true), (by first | rfl | (simp; done) | (simp [*]; done)), H', ⟨by have := HJ7.out; have := HJ24.out; first | omega | exact Nat.le_refl _⟩, ⟨by (with_reducible repeat (first | apply Kd.R_alloc | apply Kd.R_drewN | apply Kd.R_drew)); exact Kd.R_mono (Kd.R_far (p := ⟨gb340, 5, none⟩) (Kd.R_far (p := ⟨gb340, 4, none⟩) (Kd.R_far (p := ⟨gb340, 3, none⟩) (Kd.R_far (p := ⟨gb340, 2, none⟩) (Kd.R_far (p := ⟨gb340, 1, none⟩) (Kd.R_far (p := ⟨gb340, 0, none⟩) (Kd.R_types HO_11.out BK340.out (by decide)) (fun _ hk => hk.2) (.int .u64 t331)) (fun _ hk => hk.2) (.int .u64 t332)) (fun _ hk => hk.2) (.bool true)) (fun _ hk => hk.2) (.int .u16 t334)) (fun _ hk => hk.2) (.int .u16 t335)) (fun _ hk => hk.2) (.slice Ao44 t336.length co44)) (fun _ hk => ⟨hk.1.1.2, hk.1.2⟩)⟩, ⟨by (with_reducible repeat (first | apply Kd.R_alloc | apply Kd.R_drewN | apply Kd.R_drew)); exact Kd.R_mono (Kd.R_far (p := ⟨gb340, 5, none⟩) (Kd.R_far (p := ⟨gb340, 4, none⟩) (Kd.R_far (p := ⟨gb340, 3, none⟩) (Kd.R_far (p := ⟨gb340, 2, none⟩) (Kd.R_far (p := ⟨gb340, 1, none⟩) (Kd.R_far (p := ⟨gb340, 0, none⟩) (Kd.R_types HO_312005.out BK340.out (by decide)) (fun _ hk => hk.2) (.int .u64 t331)) (fun _ hk => hk.2) (.int .u64 t332)) (fun _ hk => hk.2) (.bool true)) (fun _ hk => hk.2) (.int .u16 t334)) (fun _ hk => hk.2) (.int .u16 t335)) (fun _ hk => hk.2) (.slice Ao44 t336.length co44)) (fun _ hk => ⟨hk.1.1.2, hk.1.2⟩)⟩, ⟨by (with_reducible repeat (first | apply Kd.R_alloc | apply Kd.R_drewN | apply Kd.R_drew)); exact Kd.R_mono (Kd.R_far (p := ⟨gb340, 5, none⟩) (Kd.R_far (p := ⟨gb340, 4, none⟩) (Kd.R_far (p := ⟨gb340, 3, none⟩) (Kd.R_far (p := ⟨gb340, 2, none⟩) (Kd.R_far (p := ⟨gb340, 1, none⟩) (Kd.R_far (p := ⟨gb340, 0, none⟩) (Kd.R_types HO338.out BK340.out (by decide)) (fun _ hk => hk.2) (.int .u64 t331)) (fun _ hk => hk.2) (.int .u64 t332)) (fun _ hk => hk.2) (.bool true)) (fun _ hk => hk.2) (.int .u16 t334)) (fun _ hk => hk.2) (.int .u16 t335)) (fun _ hk => hk.2) (.slice Ao44 t336.length co44)) (fun _ hk => ⟨hk.1.1.2, hk.1.2⟩)⟩, ⟨by (with_reducible repeat (first | refine blk_drewN ?_ _ | refine blk_drew ?_ | refine blk_alloc ?_ _)); refine blk_far ?_ NB311_340.out _; (with_reducible repeat (first | refine blk_drewN ?_ _ | refine blk_drew ?_ | refine blk_alloc ?_ _)); refine blk_far ?_ NB311_340.out _; (with_reducible repeat (first | refine blk_drewN ?_ _ | refine blk_drew ?_ | refine blk_alloc ?_ _)); refine blk_far ?_ NB311_340.out _; (with_reducible repeat (first | refine blk_drewN ?_ _ | refine blk_drew ?_ | refine blk_alloc ?_ _)); refine blk_far ?_ NB311_340.out _; (with_reducible repeat (first | refine blk_drewN ?_ _ | refine blk_drew ?_ | refine blk_alloc ?_ _)); refine blk_far ?_ NB311_340.out _; (with_reducible repeat (first | refine blk_drewN ?_ _ | refine blk_drew ?_ | refine blk_alloc ?_ _)); refine blk_far ?_ NB311_340.out _; (with_reducible repeat (first | refine blk_drewN ?_ _ | refine blk_drew ?_ | refine blk_alloc ?_ _)); exact BK311.out⟩, ⟨by (with_reducible repeat (first | refine blk_drewN ?_ _ | refine blk_drew ?_ | refine blk_alloc ?_ _)); refine blk_put (cs := #[.int .u64 t331, .int .u64 t332, .bool true, .int .u16 t334, .int .u16 t335, .slice none 0 0]) ?_ 5 _ rfl; (with_reducible repeat (first | refine blk_drewN ?_ _ | refine blk_drew ?_ | refine blk_alloc ?_ _)); refine blk_put (cs := #[.int .u64 t331, .int .u64 t332, .bool true, .int .u16 t334, .int .u16 0, .slice none 0 0]) ?_ 4 _ rfl; (with_reducible repeat (first | refine blk_drewN ?_ _ | refine blk_drew ?_ | refine blk_alloc ?_ _)); refine blk_put (cs := #[.int .u64 t331, .int .u64 t332, .bool true, .int .u16 0, .int .u16 0, .slice none 0 0]) ?_ 3 _ rfl; (with_reducible repeat (first | refine blk_drewN ?_ _ | refine blk_drew ?_ | refine blk_alloc ?_ _)); refine blk_put (cs := #[.int .u64 t331, .int .u64 t332, .bool false, .int .u16 0, .int .u16 0, .slice none 0 0]) ?_ 2 _ rfl; (with_reducible repeat (first | refine blk_drewN ?_ _ | refine blk_drew ?_ | refine blk_alloc ?_ _)); refine blk_put (cs := #[.int .u64 t331, .int .u64 0, .bool false, .int .u16 0, .int .u16 0, .slice none 0 0]) ?_ 1 _ rfl; (with_reducible repeat (first | refine blk_drewN ?_ _ | refine blk_drew ?_ | refine blk_alloc ?_ _)); refine blk_put (cs := #[.int .u64 0, .int .u64 0, .bool false, .int .u16 0, .int .u16 0, .slice none 0 0]) ?_ 0 _ rfl; (with_reducible repeat (first | refine blk_drewN ?_ _ | refine blk_drew ?_ | refine blk_alloc ?_ _)); exact BK340.out⟩, ⟨by repeat (first | (with_reducible first | exact HB.out | apply below_alloc | apply pw_below_drewN | apply below_drew1 | refine below_set ?_ GE311.out | refine below_set ?_ GE340.out) | exact HB.out)⟩⟩
                      · replace c46 := Bool.eq_false_iff.mpr c46
                        subst c46
                        have H1 : (patchbaylaw02_FrameBack.j2 kj24 lt9_ t318 t319 true t302 t303 t304 t305 t306 t307) = some r := by rw [if_neg (show ¬ (false = true) by decide)] at H; exact H
                        clear H
                        have H := H1
                        clear H1
                        have H' := Aside0.mk H
                        clear H
                        have hnb53 := NB340_311.out
                        have hnc53 := NB311_340.out
                        have hcz54_0 : w41.cell? ⟨gb340, 0, none⟩ = some (.int .u64 0) := (blk_cell BK340.out 0).trans rfl
                        have hcz54_1 : w41.cell? ⟨gb340, 1, none⟩ = some (.int .u64 0) := (blk_cell BK340.out 1).trans rfl
                        have hcz54_2 : w41.cell? ⟨gb340, 2, none⟩ = some (.bool false) := (blk_cell BK340.out 2).trans rfl
                        have hcz54_3 : w41.cell? ⟨gb340, 3, none⟩ = some (.int .u16 0) := (blk_cell BK340.out 3).trans rfl
                        have hcz54_4 : w41.cell? ⟨gb340, 4, none⟩ = some (.int .u16 0) := (blk_cell BK340.out 4).trans rfl
                        have hcz54_5 : w41.cell? ⟨gb340, 5, none⟩ = some (.slice none 0 0) := (blk_cell BK340.out 5).trans rfl
                        have hfz54_0 := blk_frozen BK340.out 0
                        have hfz54_1 := blk_frozen BK340.out 1
                        have hfz54_2 := blk_frozen BK340.out 2
                        have hfz54_3 := blk_frozen BK340.out 3
                        have hfz54_4 := blk_frozen BK340.out 4
                        have hfz54_5 := blk_frozen BK340.out 5
                        go_wp2
                        go_meet
                        case rel => exact ⟨_, (true), (by first | rfl | (simp; done) | (simp [*]; done)), H', ⟨by have := HJ7.out; have := HJ24.out; first | omega | exact Nat.le_refl _⟩, ⟨by (with_reducible repeat (first | apply Kd.R_alloc | apply Kd.R_drewN | apply Kd.R_drew)); exact Kd.R_mono (Kd.R_far (p := ⟨gb340, 5, none⟩) (Kd.R_far (p := ⟨gb340, 4, none⟩) (Kd.R_far (p := ⟨gb340, 3, none⟩) (Kd.R_far (p := ⟨gb340, 2, none⟩) (Kd.R_far (p := ⟨gb340, 1, none⟩) (Kd.R_far (p := ⟨gb340, 0, none⟩) (Kd.R_types HO_11.out BK340.out (by decide)) (fun _ hk => hk.2) (.int .u64 t331)) (fun _ hk => hk.2) (.int .u64 t332)) (fun _ hk => hk.2) (.bool false)) (fun _ hk => hk.2) (.int .u16 t334)) (fun _ hk => hk.2) (.int .u16 t335)) (fun _ hk => hk.2) (.slice Ao44 t336.length co44)) (fun _ hk => ⟨hk.1.1.2, hk.1.2⟩)⟩, ⟨by (with_reducible repeat (first | apply Kd.R_alloc | apply Kd.R_drewN | apply Kd.R_drew)); exact Kd.R_mono (Kd.R_far (p := ⟨gb340, 5, none⟩) (Kd.R_far (p := ⟨gb340, 4, none⟩) (Kd.R_far (p := ⟨gb340, 3, none⟩) (Kd.R_far (p := ⟨gb340, 2, none⟩) (Kd.R_far (p := ⟨gb340, 1, none⟩) (Kd.R_far (p := ⟨gb340, 0, none⟩) (Kd.R_types HO_312005.out BK340.out (by decide)) (fun _ hk => hk.2) (.int .u64 t331)) (fun _ hk => hk.2) (.int .u64 t332)) (fun _ hk => hk.2) (.bool false)) (fun _ hk => hk.2) (.int .u16 t334)) (fun _ hk => hk.2) (.int .u16 t335)) (fun _ hk => hk.2) (.slice Ao44 t336.length co44)) (fun _ hk => ⟨hk.1.1.2, hk.1.2⟩)⟩, ⟨by (with_reducible repeat (first | apply Kd.R_alloc | apply Kd.R_drewN | apply Kd.R_drew)); exact Kd.R_mono (Kd.R_far (p := ⟨gb340, 5, none⟩) (Kd.R_far (p := ⟨gb340, 4, none⟩) (Kd.R_far (p := ⟨gb340, 3, none⟩) (Kd.R_far (p := ⟨gb340, 2, none⟩) (Kd.R_far (p := ⟨gb340, 1, none⟩) (Kd.R_far (p := ⟨gb340, 0, none⟩) (Kd.R_types HO338.out BK340.out (by decide)) (fun _ hk => hk.2) (.int .u64 t331)) (fun _ hk => hk.2) (.int .u64 t332)) (fun _ hk => hk.2) (.bool false)) (fun _ hk => hk.2) (.int .u16 t334)) (fun _ hk => hk.2) (.int .u16 t335)) (fun _ hk => hk.2) (.slice Ao44 t336.length co44)) (fun _ hk => ⟨hk.1.1.2, hk.1.2⟩)⟩, ⟨by (with_reducible repeat (first | refine blk_drewN ?_ _ | refine blk_drew ?_ | refine blk_alloc ?_ _)); refine blk_far ?_ NB311_340.out _; (with_reducible repeat (first | refine blk_drewN ?_ _ | refine blk_drew ?_ | refine blk_alloc ?_ _)); refine blk_far ?_ NB311_340.out _; (with_reducible repeat (first | refine blk_drewN ?_ _ | refine blk_drew ?_ | refine blk_alloc ?_ _)); refine blk_far ?_ NB311_340.out _; (with_reducible repeat (first | refine blk_drewN ?_ _ | refine blk_drew ?_ | refine blk_alloc ?_ _)); refine blk_far ?_ NB311_340.out _; (with_reducible repeat (first | refine blk_drewN ?_ _ | refine blk_drew ?_ | refine blk_alloc ?_ _)); refine blk_far ?_ NB311_340.out _; (with_reducible repeat (first | refine blk_drewN ?_ _ | refine blk_drew ?_ | refine blk_alloc ?_ _)); refine blk_far ?_ NB311_340.out _; (with_reducible repeat (first | refine blk_drewN ?_ _ | refine blk_drew ?_ | refine blk_alloc ?_ _)); exact BK311.out⟩, ⟨by (with_reducible repeat (first | refine blk_drewN ?_ _ | refine blk_drew ?_ | refine blk_alloc ?_ _)); refine blk_put (cs := #[.int .u64 t331, .int .u64 t332, .bool false, .int .u16 t334, .int .u16 t335, .slice none 0 0]) ?_ 5 _ rfl; (with_reducible repeat (first | refine blk_drewN ?_ _ | refine blk_drew ?_ | refine blk_alloc ?_ _)); refine blk_put (cs := #[.int .u64 t331, .int .u64 t332, .bool false, .int .u16 t334, .int .u16 0, .slice none 0 0]) ?_ 4 _ rfl; (with_reducible repeat (first | refine blk_drewN ?_ _ | refine blk_drew ?_ | refine blk_alloc ?_ _)); refine blk_put (cs := #[.int .u64 t331, .int .u64 t332, .bool false, .int .u16 0, .int .u16 0, .slice none 0 0]) ?_ 3 _ rfl; (with_reducible repeat (first | refine blk_drewN ?_ _ | refine blk_drew ?_ | refine blk_alloc ?_ _)); refine blk_put (cs := #[.int .u64 t331, .int .u64 t332, .bool false, .int .u16 0, .int .u16 0, .slice none 0 0]) ?_ 2 _ rfl; (with_reducible repeat (first | refine blk_drewN ?_ _ | refine blk_drew ?_ | refine blk_alloc ?_ _)); refine blk_put (cs := #[.int .u64 t331, .int .u64 0, .bool false, .int .u16 0, .int .u16 0, .slice none 0 0]) ?_ 1 _ rfl; (with_reducible repeat (first | refine blk_drewN ?_ _ | refine blk_drew ?_ | refine blk_alloc ?_ _)); refine blk_put (cs := #[.int .u64 0, .int .u64 0, .bool false, .int .u16 0, .int .u16 0, .slice none 0 0]) ?_ 0 _ rfl; (with_reducible repeat (first | refine blk_drewN ?_ _ | refine blk_drew ?_ | refine blk_alloc ?_ _)); exact BK340.out⟩, ⟨by repeat (first | (with_reducible first | exact HB.out | apply below_alloc | apply pw_below_drewN | apply below_drew1 | refine below_set ?_ GE311.out | refine below_set ?_ GE340.out) | exact HB.out)⟩⟩
                    · rw [if_neg c45] at H
                      have c45b0 : (t339 == 0) = false := beq_eq_false_iff_ne.mpr c45
                      have c45b1 : (t339 != 0) = true := bne_iff_ne.mpr c45
                      (first | rw [c45b0] | (simp only [i64_w, i32_w]; rw [c45b0]) | skip)
                      have H' := Aside0.mk H
                      clear H
                      go_wp2
                      go_meet
                      case rel => exact ⟨_, (true), (by first | rfl | (simp; done) | (simp [*]; done)), H', ⟨by have := HJ7.out; have := HJ24.out; first | omega | exact Nat.le_refl _⟩, ⟨by (with_reducible repeat (first | apply Kd.R_alloc | apply Kd.R_drewN | apply Kd.R_drew)); exact Kd.R_mono (Kd.R_far (p := ⟨gb340, 5, none⟩) (Kd.R_far (p := ⟨gb340, 4, none⟩) (Kd.R_far (p := ⟨gb340, 3, none⟩) (Kd.R_far (p := ⟨gb340, 2, none⟩) (Kd.R_far (p := ⟨gb340, 1, none⟩) (Kd.R_far (p := ⟨gb340, 0, none⟩) (Kd.R_types HO_11.out BK340.out (by decide)) (fun _ hk => hk.2) (.int .u64 t331)) (fun _ hk => hk.2) (.int .u64 t332)) (fun _ hk => hk.2) (.bool t333)) (fun _ hk => hk.2) (.int .u16 t334)) (fun _ hk => hk.2) (.int .u16 t335)) (fun _ hk => hk.2) (.slice Ao44 t336.length co44)) (fun _ hk => ⟨hk.1.1.2, hk.1.2⟩)⟩, ⟨by (with_reducible repeat (first | apply Kd.R_alloc | apply Kd.R_drewN | apply Kd.R_drew)); exact Kd.R_mono (Kd.R_far (p := ⟨gb340, 5, none⟩) (Kd.R_far (p := ⟨gb340, 4, none⟩) (Kd.R_far (p := ⟨gb340, 3, none⟩) (Kd.R_far (p := ⟨gb340, 2, none⟩) (Kd.R_far (p := ⟨gb340, 1, none⟩) (Kd.R_far (p := ⟨gb340, 0, none⟩) (Kd.R_types HO_312005.out BK340.out (by decide)) (fun _ hk => hk.2) (.int .u64 t331)) (fun _ hk => hk.2) (.int .u64 t332)) (fun _ hk => hk.2) (.bool t333)) (fun _ hk => hk.2) (.int .u16 t334)) (fun _ hk => hk.2) (.int .u16 t335)) (fun _ hk => hk.2) (.slice Ao44 t336.length co44)) (fun _ hk => ⟨hk.1.1.2, hk.1.2⟩)⟩, ⟨by (with_reducible repeat (first | apply Kd.R_alloc | apply Kd.R_drewN | apply Kd.R_drew)); exact Kd.R_mono (Kd.R_far (p := ⟨gb340, 5, none⟩) (Kd.R_far (p := ⟨gb340, 4, none⟩) (Kd.R_far (p := ⟨gb340, 3, none⟩) (Kd.R_far (p := ⟨gb340, 2, none⟩) (Kd.R_far (p := ⟨gb340, 1, none⟩) (Kd.R_far (p := ⟨gb340, 0, none⟩) (Kd.R_types HO338.out BK340.out (by decide)) (fun _ hk => hk.2) (.int .u64 t331)) (fun _ hk => hk.2) (.int .u64 t332)) (fun _ hk => hk.2) (.bool t333)) (fun _ hk => hk.2) (.int .u16 t334)) (fun _ hk => hk.2) (.int .u16 t335)) (fun _ hk => hk.2) (.slice Ao44 t336.length co44)) (fun _ hk => ⟨hk.1.1.2, hk.1.2⟩)⟩, ⟨by (with_reducible repeat (first | refine blk_drewN ?_ _ | refine blk_drew ?_ | refine blk_alloc ?_ _)); refine blk_far ?_ NB311_340.out _; (with_reducible repeat (first | refine blk_drewN ?_ _ | refine blk_drew ?_ | refine blk_alloc ?_ _)); refine blk_far ?_ NB311_340.out _; (with_reducible repeat (first | refine blk_drewN ?_ _ | refine blk_drew ?_ | refine blk_alloc ?_ _)); refine blk_far ?_ NB311_340.out _; (with_reducible repeat (first | refine blk_drewN ?_ _ | refine blk_drew ?_ | refine blk_alloc ?_ _)); refine blk_far ?_ NB311_340.out _; (with_reducible repeat (first | refine blk_drewN ?_ _ | refine blk_drew ?_ | refine blk_alloc ?_ _)); refine blk_far ?_ NB311_340.out _; (with_reducible repeat (first | refine blk_drewN ?_ _ | refine blk_drew ?_ | refine blk_alloc ?_ _)); refine blk_far ?_ NB311_340.out _; (with_reducible repeat (first | refine blk_drewN ?_ _ | refine blk_drew ?_ | refine blk_alloc ?_ _)); exact BK311.out⟩, ⟨by (with_reducible repeat (first | refine blk_drewN ?_ _ | refine blk_drew ?_ | refine blk_alloc ?_ _)); refine blk_put (cs := #[.int .u64 t331, .int .u64 t332, .bool t333, .int .u16 t334, .int .u16 t335, .slice none 0 0]) ?_ 5 _ rfl; (with_reducible repeat (first | refine blk_drewN ?_ _ | refine blk_drew ?_ | refine blk_alloc ?_ _)); refine blk_put (cs := #[.int .u64 t331, .int .u64 t332, .bool t333, .int .u16 t334, .int .u16 0, .slice none 0 0]) ?_ 4 _ rfl; (with_reducible repeat (first | refine blk_drewN ?_ _ | refine blk_drew ?_ | refine blk_alloc ?_ _)); refine blk_put (cs := #[.int .u64 t331, .int .u64 t332, .bool t333, .int .u16 0, .int .u16 0, .slice none 0 0]) ?_ 3 _ rfl; (with_reducible repeat (first | refine blk_drewN ?_ _ | refine blk_drew ?_ | refine blk_alloc ?_ _)); refine blk_put (cs := #[.int .u64 t331, .int .u64 t332, .bool false, .int .u16 0, .int .u16 0, .slice none 0 0]) ?_ 2 _ rfl; (with_reducible repeat (first | refine blk_drewN ?_ _ | refine blk_drew ?_ | refine blk_alloc ?_ _)); refine blk_put (cs := #[.int .u64 t331, .int .u64 0, .bool false, .int .u16 0, .int .u16 0, .slice none 0 0]) ?_ 1 _ rfl; (with_reducible repeat (first | refine blk_drewN ?_ _ | refine blk_drew ?_ | refine blk_alloc ?_ _)); refine blk_put (cs := #[.int .u64 0, .int .u64 0, .bool false, .int .u16 0, .int .u16 0, .slice none 0 0]) ?_ 0 _ rfl; (with_reducible repeat (first | refine blk_drewN ?_ _ | refine blk_drew ?_ | refine blk_alloc ?_ _)); exact BK340.out⟩, ⟨by repeat (first | (with_reducible first | exact HB.out | apply below_alloc | apply pw_below_drewN | apply below_drew1 | refine below_set ?_ GE311.out | refine below_set ?_ GE340.out) | exact HB.out)⟩⟩
                  case rest =>
                    clear HC39
                    try clear c1
                    try clear c2
                    try clear p2
                    try clear c3
                    try clear c4
                    try clear c5
                    try clear c5b0
                    try clear c5b1
                    try clear c6
                    try clear c6b0
                    try clear c6b1
                    try clear p6
                    try clear c15
                    try clear c16
                    try clear c18
                    try clear c20
                    try clear c21
                    try clear c31
                    try clear c31b0
                    try clear c31b1
                    try clear c32
                    try clear c32b0
                    try clear c32b1
                    try clear c33
                    try clear c33b0
                    try clear c33b1
                    try clear c37
                    try clear c42
                    try clear c45
                    try clear c45b0
                    try clear c45b1
                    try clear c46
                    try clear c47
                    try clear c47b0
                    try clear c47b1
                    try clear c48
                    try clear c51
                    try clear c53
                    try clear hcz12_0
                    try clear hcz12_1
                    try clear hcz12_2
                    try clear hcz12_3
                    try clear hcz12_4
                    try clear hcz12_5
                    try clear hcz43_0
                    try clear hcz43_1
                    try clear hcz43_2
                    try clear hcz43_3
                    try clear hcz43_4
                    try clear hcz43_5
                    try clear hcz49_0
                    try clear hcz49_1
                    try clear hcz49_2
                    try clear hcz49_3
                    try clear hcz49_4
                    try clear hcz49_5
                    try clear hcz50_0
                    try clear hcz50_1
                    try clear hcz50_2
                    try clear hcz50_3
                    try clear hcz50_4
                    try clear hcz50_5
                    try clear hcz52_0
                    try clear hcz52_1
                    try clear hcz52_2
                    try clear hcz52_3
                    try clear hcz52_4
                    try clear hcz52_5
                    try clear hcz54_0
                    try clear hcz54_1
                    try clear hcz54_2
                    try clear hcz54_3
                    try clear hcz54_4
                    try clear hcz54_5
                    try clear hfz12_0
                    try clear hfz12_1
                    try clear hfz12_2
                    try clear hfz12_3
                    try clear hfz12_4
                    try clear hfz12_5
                    try clear hfz43_0
                    try clear hfz43_1
                    try clear hfz43_2
                    try clear hfz43_3
                    try clear hfz43_4
                    try clear hfz43_5
                    try clear hfz49_0
                    try clear hfz49_1
                    try clear hfz49_2
                    try clear hfz49_3
                    try clear hfz49_4
                    try clear hfz49_5
                    try clear hfz50_0
                    try clear hfz50_1
                    try clear hfz50_2
                    try clear hfz50_3
                    try clear hfz50_4
                    try clear hfz50_5
                    try clear hfz52_0
                    try clear hfz52_1
                    try clear hfz52_2
                    try clear hfz52_3
                    try clear hfz52_4
                    try clear hfz52_5
                    try clear hfz54_0
                    try clear hfz54_1
                    try clear hfz54_2
                    try clear hfz54_3
                    try clear hfz54_4
                    try clear hfz54_5
                    try clear p2
                    try clear p6
                    obtain ⟨kq, x115_38, rfl, HA, HJ38, HO_11, HO_312005, HO_341005, BK311, BK340, HB⟩ := hcut
                    cases kq with
                    | zero => exact absurd HA.out (by simp [patchbaylaw02_FrameBack.j2])
                    | succ kj38 =>
                      have H := HA.out
                      clear HA
                      simp only [patchbaylaw02_FrameBack.j2] at H
                      by_cases c55 : x115_38 = true
                      · subst c55
                        have H1 : (some false) = some r := by rw [if_pos rfl] at H; exact H
                        clear H
                        have H := H1
                        clear H1
                        obtain rfl := Option.some.inj H
                        go_wp2
                        go_ret
                        exact ⟨by first | rfl | (simp [errW_none, errW_some] <;> rfl) | (simp only [← hji4]; first | rfl | (simp [errW_none, errW_some] <;> rfl)) | (simp [*, errW_none, errW_some] <;> rfl), by repeat (first | (with_reducible first | exact HB.out | apply below_alloc | apply pw_below_drewN | apply below_drew1 | refine below_set ?_ GE311.out | refine below_set ?_ GE340.out) | exact HB.out)⟩
                      · replace c55 := Bool.eq_false_iff.mpr c55
                        subst c55
                        have H1 : (if t319 = 0 then (patchbaylaw02_FrameBack.j3 kj38 lt9_ t318 (decide ((t318.length : Int) < 14)) t302 t303 t304 t305 t306 t307) else (patchbaylaw02_FrameBack.j3 kj38 lt9_ t318 true t302 t303 t304 t305 t306 t307)) = some r := by rw [if_neg (show ¬ (false = true) by decide)] at H; exact H
                        clear H
                        have H := H1
                        clear H1
                        have HC56 := Aside0.mk H
                        clear H
                        go_upto_region 15 with (fail)
                        go_cut [122] (fun v122 wc => ∃ (kq : Nat) (x122_55 : Bool), v122 = .bool x122_55 ∧ Aside0 (patchbaylaw02_FrameBack.j3 kq lt9_ t318 x122_55 t302 t303 t304 t305 t306 t307 = some r) ∧ Aside0 (kq ≤ kj38) ∧ Aside0 (Kd.R (Kd.int .u8) 5 wc w.heap.size (fun k_ => some k_ ≠ ((.slice Ao13 t307.length co13) : Value).ownBlock ∧ some k_ ≠ ((.slice Ao44 t336.length co44) : Value).ownBlock) v320 t318) ∧ Aside0 (Kd.R (Kd.int .u8) 5 wc w.heap.size (fun k_ => some k_ ≠ (v320 : Value).ownBlock ∧ some k_ ≠ ((.slice Ao44 t336.length co44) : Value).ownBlock) (.slice Ao13 t307.length co13) t307) ∧ Aside0 (Kd.R (Kd.int .u8) 5 wc w.heap.size (fun k_ => some k_ ≠ (v320 : Value).ownBlock ∧ some k_ ≠ ((.slice Ao13 t307.length co13) : Value).ownBlock) (.slice Ao44 t336.length co44) t336) ∧ Aside0 (wc.heap[gb311]? = some (.cells #[.int .u64 t302, .int .u64 t303, .bool t304, .int .u16 t305, .int .u16 t306, (.slice Ao13 t307.length co13)] 34 (0, 0))) ∧ Aside0 (wc.heap[gb340]? = some (.cells #[.int .u64 t331, .int .u64 t332, .bool t333, .int .u16 t334, .int .u16 t335, (.slice Ao44 t336.length co44)] 39 (0, 0))) ∧ Aside0 (Below w.heap.size w wc))
                        case first =>
                          have H := HC56.out
                          clear HC56
                          by_cases c57 : t319 = 0
                          · rw [if_pos c57] at H
                            have c57b0 : (t319 == 0) = true := beq_iff_eq.mpr c57
                            have c57b1 : (t319 != 0) = false := bne_eq_false_iff_eq.mpr c57
                            clear c57
                            (first | rw [c57b0] | (simp only [i64_w, i32_w]; rw [c57b0]) | skip)
                            have H' := Aside0.mk H
                            clear H
                            obtain ⟨Ao58, co58, eo58⟩ := Kd.R_slice HO_11.out
                            subst eo58
                            go_wp2
                            go_meet
                            case rel => exact ⟨_, (decide ((t318.length : Int) < 14)), (by first | rfl | (simp; done) | (simp [*]; done)), H', ⟨by have := HJ7.out; have := HJ24.out; have := HJ38.out; first | omega | exact Nat.le_refl _⟩, ⟨by (with_reducible repeat (first | apply Kd.R_alloc | apply Kd.R_drewN | apply Kd.R_drew)); exact HO_11.out⟩, ⟨by (with_reducible repeat (first | apply Kd.R_alloc | apply Kd.R_drewN | apply Kd.R_drew)); exact HO_312005.out⟩, ⟨by (with_reducible repeat (first | apply Kd.R_alloc | apply Kd.R_drewN | apply Kd.R_drew)); exact HO_341005.out⟩, ⟨by (with_reducible repeat (first | refine blk_drewN ?_ _ | refine blk_drew ?_ | refine blk_alloc ?_ _)); exact BK311.out⟩, ⟨by (with_reducible repeat (first | refine blk_drewN ?_ _ | refine blk_drew ?_ | refine blk_alloc ?_ _)); exact BK340.out⟩, ⟨by repeat (first | (with_reducible first | exact HB.out | apply below_alloc | apply pw_below_drewN | apply below_drew1 | refine below_set ?_ GE311.out | refine below_set ?_ GE340.out) | exact HB.out)⟩⟩
                          · rw [if_neg c57] at H
                            have c57b0 : (t319 == 0) = false := beq_eq_false_iff_ne.mpr c57
                            have c57b1 : (t319 != 0) = true := bne_iff_ne.mpr c57
                            (first | rw [c57b0] | (simp only [i64_w, i32_w]; rw [c57b0]) | skip)
                            have H' := Aside0.mk H
                            clear H
                            go_wp2
                            go_meet
                            case rel => exact ⟨_, (true), (by first | rfl | (simp; done) | (simp [*]; done)), H', ⟨by have := HJ7.out; have := HJ24.out; have := HJ38.out; first | omega | exact Nat.le_refl _⟩, ⟨by (with_reducible repeat (first | apply Kd.R_alloc | apply Kd.R_drewN | apply Kd.R_drew)); exact HO_11.out⟩, ⟨by (with_reducible repeat (first | apply Kd.R_alloc | apply Kd.R_drewN | apply Kd.R_drew)); exact HO_312005.out⟩, ⟨by (with_reducible repeat (first | apply Kd.R_alloc | apply Kd.R_drewN | apply Kd.R_drew)); exact HO_341005.out⟩, ⟨by (with_reducible repeat (first | refine blk_drewN ?_ _ | refine blk_drew ?_ | refine blk_alloc ?_ _)); exact BK311.out⟩, ⟨by (with_reducible repeat (first | refine blk_drewN ?_ _ | refine blk_drew ?_ | refine blk_alloc ?_ _)); exact BK340.out⟩, ⟨by repeat (first | (with_reducible first | exact HB.out | apply below_alloc | apply pw_below_drewN | apply below_drew1 | refine below_set ?_ GE311.out | refine below_set ?_ GE340.out) | exact HB.out)⟩⟩
                        case rest =>
                          clear HC56
                          try clear c1
                          try clear c2
                          try clear p2
                          try clear c3
                          try clear c4
                          try clear c5
                          try clear c5b0
                          try clear c5b1
                          try clear c6
                          try clear c6b0
                          try clear c6b1
                          try clear p6
                          try clear c15
                          try clear c16
                          try clear c18
                          try clear c20
                          try clear c21
                          try clear c31
                          try clear c31b0
                          try clear c31b1
                          try clear c32
                          try clear c32b0
                          try clear c32b1
                          try clear c33
                          try clear c33b0
                          try clear c33b1
                          try clear c37
                          try clear c42
                          try clear c45
                          try clear c45b0
                          try clear c45b1
                          try clear c46
                          try clear c47
                          try clear c47b0
                          try clear c47b1
                          try clear c48
                          try clear c51
                          try clear c53
                          try clear c55
                          try clear c57
                          try clear c57b0
                          try clear c57b1
                          try clear hcz12_0
                          try clear hcz12_1
                          try clear hcz12_2
                          try clear hcz12_3
                          try clear hcz12_4
                          try clear hcz12_5
                          try clear hcz43_0
                          try clear hcz43_1
                          try clear hcz43_2
                          try clear hcz43_3
                          try clear hcz43_4
                          try clear hcz43_5
                          try clear hcz49_0
                          try clear hcz49_1
                          try clear hcz49_2
                          try clear hcz49_3
                          try clear hcz49_4
                          try clear hcz49_5
                          try clear hcz50_0
                          try clear hcz50_1
                          try clear hcz50_2
                          try clear hcz50_3
                          try clear hcz50_4
                          try clear hcz50_5
                          try clear hcz52_0
                          try clear hcz52_1
                          try clear hcz52_2
                          try clear hcz52_3
                          try clear hcz52_4
                          try clear hcz52_5
                          try clear hcz54_0
                          try clear hcz54_1
                          try clear hcz54_2
                          try clear hcz54_3
                          try clear hcz54_4
                          try clear hcz54_5
                          try clear hfz12_0
                          try clear hfz12_1
                          try clear hfz12_2
                          try clear hfz12_3
                          try clear hfz12_4
                          try clear hfz12_5
                          try clear hfz43_0
                          try clear hfz43_1
                          try clear hfz43_2
                          try clear hfz43_3
                          try clear hfz43_4
                          try clear hfz43_5
                          try clear hfz49_0
                          try clear hfz49_1
                          try clear hfz49_2
                          try clear hfz49_3
                          try clear hfz49_4
                          try clear hfz49_5
                          try clear hfz50_0
                          try clear hfz50_1
                          try clear hfz50_2
                          try clear hfz50_3
                          try clear hfz50_4
                          try clear hfz50_5
                          try clear hfz52_0
                          try clear hfz52_1
                          try clear hfz52_2
                          try clear hfz52_3
                          try clear hfz52_4
                          try clear hfz52_5
                          try clear hfz54_0
                          try clear hfz54_1
                          try clear hfz54_2
                          try clear hfz54_3
                          try clear hfz54_4
                          try clear hfz54_5
                          try clear p2
                          try clear p6
                          obtain ⟨kq, x122_55, rfl, HA, HJ55, HO_11, HO_312005, HO_341005, BK311, BK340, HB⟩ := hcut
                          cases kq with
                          | zero => exact absurd HA.out (by simp [patchbaylaw02_FrameBack.j3])
                          | succ kj55 =>
                            have H := HA.out
                            clear HA
                            simp only [patchbaylaw02_FrameBack.j3] at H
                            by_cases c59 : x122_55 = true
                            · subst c59
                              have H1 : (some false) = some r := by rw [if_pos rfl] at H; exact H
                              clear H
                              have H := H1
                              clear H1
                              obtain rfl := Option.some.inj H
                              go_wp2
                              go_ret
                              exact ⟨by first | rfl | (simp [errW_none, errW_some] <;> rfl) | (simp only [← hji4]; first | rfl | (simp [errW_none, errW_some] <;> rfl)) | (simp [*, errW_none, errW_some] <;> rfl), by repeat (first | (with_reducible first | exact HB.out | apply below_alloc | apply pw_below_drewN | apply below_drew1 | refine below_set ?_ GE311.out | refine below_set ?_ GE340.out) | exact HB.out)⟩
                            · replace c59 := Bool.eq_false_iff.mpr c59
                              subst c59
                              have H1 : (if t304 = true then (patchbaylaw02_FrameBack.j4 kj55 lt9_ t318 16) else (patchbaylaw02_FrameBack.j4 kj55 lt9_ t318 12)) = some r := by rw [if_neg (show ¬ (false = true) by decide)] at H; exact H
                              clear H
                              have H := H1
                              clear H1
                              have HC60 := Aside0.mk H
                              clear H
                              have hnb61 := NB311_340.out
                              have hnc61 := NB340_311.out
                              have hcz62_0 : wc.cell? ⟨gb311, 0, none⟩ = some (.int .u64 t302) := (blk_cell BK311.out 0).trans rfl
                              have hcz62_1 : wc.cell? ⟨gb311, 1, none⟩ = some (.int .u64 t303) := (blk_cell BK311.out 1).trans rfl
                              have hcz62_2 : wc.cell? ⟨gb311, 2, none⟩ = some (.bool t304) := (blk_cell BK311.out 2).trans rfl
                              have hcz62_3 : wc.cell? ⟨gb311, 3, none⟩ = some (.int .u16 t305) := (blk_cell BK311.out 3).trans rfl
                              have hcz62_4 : wc.cell? ⟨gb311, 4, none⟩ = some (.int .u16 t306) := (blk_cell BK311.out 4).trans rfl
                              have hcz62_5 : wc.cell? ⟨gb311, 5, none⟩ = some (.slice Ao13 t307.length co13) := (blk_cell BK311.out 5).trans rfl
                              have hfz62_0 := blk_frozen BK311.out 0
                              have hfz62_1 := blk_frozen BK311.out 1
                              have hfz62_2 := blk_frozen BK311.out 2
                              have hfz62_3 := blk_frozen BK311.out 3
                              have hfz62_4 := blk_frozen BK311.out 4
                              have hfz62_5 := blk_frozen BK311.out 5
                              go_upto_if 124 with (fail)
                              go_cut [19] (fun v19 wc => ∃ (kq : Nat) (x19_59 : Int), v19 = .int .i64 x19_59 ∧ Aside0 (patchbaylaw02_FrameBack.j4 kq lt9_ t318 x19_59 = some r) ∧ Aside0 (kq ≤ kj55) ∧ Aside0 (Kd.R (Kd.int .u8) 5 wc w.heap.size (fun k_ => some k_ ≠ ((.slice Ao13 t307.length co13) : Value).ownBlock ∧ some k_ ≠ ((.slice Ao44 t336.length co44) : Value).ownBlock) v320 t318) ∧ Aside0 (Kd.R (Kd.int .u8) 5 wc w.heap.size (fun k_ => some k_ ≠ (v320 : Value).ownBlock ∧ some k_ ≠ ((.slice Ao44 t336.length co44) : Value).ownBlock) (.slice Ao13 t307.length co13) t307) ∧ Aside0 (Kd.R (Kd.int .u8) 5 wc w.heap.size (fun k_ => some k_ ≠ (v320 : Value).ownBlock ∧ some k_ ≠ ((.slice Ao13 t307.length co13) : Value).ownBlock) (.slice Ao44 t336.length co44) t336) ∧ Aside0 (wc.heap[gb311]? = some (.cells #[.int .u64 t302, .int .u64 t303, .bool t304, .int .u16 t305, .int .u16 t306, (.slice Ao13 t307.length co13)] 34 (0, 0))) ∧ Aside0 (wc.heap[gb340]? = some (.cells #[.int .u64 t331, .int .u64 t332, .bool t333, .int .u16 t334, .int .u16 t335, (.slice Ao44 t336.length co44)] 39 (0, 0))) ∧ Aside0 (Below w.heap.size w wc))
                              case first =>
                                have H := HC60.out
                                clear HC60
                                by_cases c63 : t304 = true
                                · subst c63
                                  have H1 : (patchbaylaw02_FrameBack.j4 kj55 lt9_ t318 16) = some r := by rw [if_pos rfl] at H; exact H
                                  clear H
                                  have H := H1
                                  clear H1
                                  have H' := Aside0.mk H
                                  clear H
                                  go_wp2
                                  go_meet
                                  case rel => exact ⟨_, (16), (by first | rfl | (simp; done) | (simp [*]; done)), H', ⟨by have := HJ7.out; have := HJ24.out; have := HJ38.out; have := HJ55.out; first | omega | exact Nat.le_refl _⟩, ⟨by (with_reducible repeat (first | apply Kd.R_alloc | apply Kd.R_drewN | apply Kd.R_drew)); exact HO_11.out⟩, ⟨by (with_reducible repeat (first | apply Kd.R_alloc | apply Kd.R_drewN | apply Kd.R_drew)); exact HO_312005.out⟩, ⟨by (with_reducible repeat (first | apply Kd.R_alloc | apply Kd.R_drewN | apply Kd.R_drew)); exact HO_341005.out⟩, ⟨by (with_reducible repeat (first | refine blk_drewN ?_ _ | refine blk_drew ?_ | refine blk_alloc ?_ _)); exact BK311.out⟩, ⟨by (with_reducible repeat (first | refine blk_drewN ?_ _ | refine blk_drew ?_ | refine blk_alloc ?_ _)); exact BK340.out⟩, ⟨by repeat (first | (with_reducible first | exact HB.out | apply below_alloc | apply pw_below_drewN | apply below_drew1 | refine below_set ?_ GE311.out | refine below_set ?_ GE340.out) | exact HB.out)⟩⟩
                                · replace c63 := Bool.eq_false_iff.mpr c63
                                  subst c63
                                  have H1 : (patchbaylaw02_FrameBack.j4 kj55 lt9_ t318 12) = some r := by rw [if_neg (show ¬ (false = true) by decide)] at H; exact H
                                  clear H
                                  have H := H1
                                  clear H1
                                  have H' := Aside0.mk H
                                  clear H
                                  go_wp2
                                  go_meet
                                  case rel => exact ⟨_, (12), (by first | rfl | (simp; done) | (simp [*]; done)), H', ⟨by have := HJ7.out; have := HJ24.out; have := HJ38.out; have := HJ55.out; first | omega | exact Nat.le_refl _⟩, ⟨by (with_reducible repeat (first | apply Kd.R_alloc | apply Kd.R_drewN | apply Kd.R_drew)); exact HO_11.out⟩, ⟨by (with_reducible repeat (first | apply Kd.R_alloc | apply Kd.R_drewN | apply Kd.R_drew)); exact HO_312005.out⟩, ⟨by (with_reducible repeat (first | apply Kd.R_alloc | apply Kd.R_drewN | apply Kd.R_drew)); exact HO_341005.out⟩, ⟨by (with_reducible repeat (first | refine blk_drewN ?_ _ | refine blk_drew ?_ | refine blk_alloc ?_ _)); exact BK311.out⟩, ⟨by (with_reducible repeat (first | refine blk_drewN ?_ _ | refine blk_drew ?_ | refine blk_alloc ?_ _)); exact BK340.out⟩, ⟨by repeat (first | (with_reducible first | exact HB.out | apply below_alloc | apply pw_below_drewN | apply below_drew1 | refine below_set ?_ GE311.out | refine below_set ?_ GE340.out) | exact HB.out)⟩⟩
                              case rest =>
                                clear HC60
                                try clear c1
                                try clear c2
                                try clear p2
                                try clear c3
                                try clear c4
                                try clear c5
                                try clear c5b0
                                try clear c5b1
                                try clear c6
                                try clear c6b0
                                try clear c6b1
                                try clear p6
                                try clear c15
                                try clear c16
                                try clear c18
                                try clear c20
                                try clear c21
                                try clear c31
                                try clear c31b0
                                try clear c31b1
                                try clear c32
                                try clear c32b0
                                try clear c32b1
                                try clear c33
                                try clear c33b0
                                try clear c33b1
                                try clear c37
                                try clear c42
                                try clear c45
                                try clear c45b0
                                try clear c45b1
                                try clear c46
                                try clear c47
                                try clear c47b0
                                try clear c47b1
                                try clear c48
                                try clear c51
                                try clear c53
                                try clear c55
                                try clear c57
                                try clear c57b0
                                try clear c57b1
                                try clear c59
                                try clear c61
                                try clear c63
                                try clear hcz12_0
                                try clear hcz12_1
                                try clear hcz12_2
                                try clear hcz12_3
                                try clear hcz12_4
                                try clear hcz12_5
                                try clear hcz43_0
                                try clear hcz43_1
                                try clear hcz43_2
                                try clear hcz43_3
                                try clear hcz43_4
                                try clear hcz43_5
                                try clear hcz49_0
                                try clear hcz49_1
                                try clear hcz49_2
                                try clear hcz49_3
                                try clear hcz49_4
                                try clear hcz49_5
                                try clear hcz50_0
                                try clear hcz50_1
                                try clear hcz50_2
                                try clear hcz50_3
                                try clear hcz50_4
                                try clear hcz50_5
                                try clear hcz52_0
                                try clear hcz52_1
                                try clear hcz52_2
                                try clear hcz52_3
                                try clear hcz52_4
                                try clear hcz52_5
                                try clear hcz54_0
                                try clear hcz54_1
                                try clear hcz54_2
                                try clear hcz54_3
                                try clear hcz54_4
                                try clear hcz54_5
                                try clear hcz62_0
                                try clear hcz62_1
                                try clear hcz62_2
                                try clear hcz62_3
                                try clear hcz62_4
                                try clear hcz62_5
                                try clear hfz12_0
                                try clear hfz12_1
                                try clear hfz12_2
                                try clear hfz12_3
                                try clear hfz12_4
                                try clear hfz12_5
                                try clear hfz43_0
                                try clear hfz43_1
                                try clear hfz43_2
                                try clear hfz43_3
                                try clear hfz43_4
                                try clear hfz43_5
                                try clear hfz49_0
                                try clear hfz49_1
                                try clear hfz49_2
                                try clear hfz49_3
                                try clear hfz49_4
                                try clear hfz49_5
                                try clear hfz50_0
                                try clear hfz50_1
                                try clear hfz50_2
                                try clear hfz50_3
                                try clear hfz50_4
                                try clear hfz50_5
                                try clear hfz52_0
                                try clear hfz52_1
                                try clear hfz52_2
                                try clear hfz52_3
                                try clear hfz52_4
                                try clear hfz52_5
                                try clear hfz54_0
                                try clear hfz54_1
                                try clear hfz54_2
                                try clear hfz54_3
                                try clear hfz54_4
                                try clear hfz54_5
                                try clear hfz62_0
                                try clear hfz62_1
                                try clear hfz62_2
                                try clear hfz62_3
                                try clear hfz62_4
                                try clear hfz62_5
                                try clear p2
                                try clear p6
                                obtain ⟨kq, x19_59, rfl, HA, HJ59, HO_11, HO_312005, HO_341005, BK311, BK340, HB⟩ := hcut
                                cases kq with
                                | zero => exact absurd HA.out (by simp [patchbaylaw02_FrameBack.j4])
                                | succ kj59 =>
                                  have H := HA.out
                                  clear HA
                                  simp only [patchbaylaw02_FrameBack.j4] at H
                                  obtain ⟨y341, hy341⟩ : ∃ y_ : List Int, y_ = (([] : List Int)) := ⟨_, rfl⟩
                                  replace H : (if 12 ≤ (lt9_.length : Int) then (if y341.length + (lt9_.take 12).length < 140737488355328 then ((some (y341 ++ (lt9_.take 12) : List Int)).bind fun y345 => (if 0 ≤ x19_59 then (if x19_59 ≤ (lt9_.length : Int) then (if y345.length + (lt9_.drop (x19_59 : Int).toNat).length < 140737488355328 then (patchbaylaw02_FrameBack.l0 kj59 t318 (y345 ++ (lt9_.drop (x19_59 : Int).toNat))) else (none)) else (none)) else (none))) else (none)) else (none)) = some r := by first | (rw [hy341]; with_reducible exact H) | (have H2_ := (Option.bind_some _ _).symm.trans H; rw [hy341]; with_reducible exact H2_) | (have H2_ := (Option.bind_some _ _).symm.trans H; with_reducible exact H2_) | with_reducible exact H | (rw [hy341]; exact H) | exact H
                                  have Ny341 := Aside0.mk hy341
                                  clear hy341
                                  by_cases c64 : 12 ≤ (lt9_.length : Int)
                                  · rw [if_pos c64] at H
                                    have c64b0 := eq_true c64
                                    have c64b1 : decide (12 ≤ (lt9_.length : Int)) = true := decide_eq_true c64
                                    clear c64
                                    by_cases c65 : y341.length + (lt9_.take 12).length < 140737488355328
                                    · rw [if_pos c65] at H
                                      have LMc65 := Aside0.mk c65
                                      clear c65
                                      obtain ⟨y345, hy345⟩ : ∃ y_ : List Int, y_ = (y341 ++ (lt9_.take 12)) := ⟨_, rfl⟩
                                      replace H : (if 0 ≤ x19_59 then (if x19_59 ≤ (lt9_.length : Int) then (if y345.length + (lt9_.drop (x19_59 : Int).toNat).length < 140737488355328 then (patchbaylaw02_FrameBack.l0 kj59 t318 (y345 ++ (lt9_.drop (x19_59 : Int).toNat))) else (none)) else (none)) else (none)) = some r := by first | (rw [hy345]; with_reducible exact H) | (have H2_ := (Option.bind_some _ _).symm.trans H; rw [hy345]; with_reducible exact H2_) | (have H2_ := (Option.bind_some _ _).symm.trans H; with_reducible exact H2_) | with_reducible exact H | (rw [hy345]; exact H) | exact H
                                      have Ny345 := Aside0.mk hy345
                                      clear hy345
                                      by_cases c66 : 0 ≤ x19_59
                                      · rw [if_pos c66] at H
                                        have c66b0 := eq_true c66
                                        have c66b1 : decide (0 ≤ x19_59) = true := decide_eq_true c66
                                        clear c66
                                        by_cases c67 : x19_59 ≤ (lt9_.length : Int)
                                        · rw [if_pos c67] at H
                                          have c67b0 := eq_true c67
                                          have c67b1 : decide (x19_59 ≤ (lt9_.length : Int)) = true := decide_eq_true c67
                                          clear c67
                                          by_cases c68 : y345.length + (lt9_.drop (x19_59 : Int).toNat).length < 140737488355328
                                          · rw [if_pos c68] at H
                                            have LMc68 := Aside0.mk c68
                                            clear c68
                                            obtain ⟨y349, hy349⟩ : ∃ y_ : List Int, y_ = (y345 ++ (lt9_.drop (x19_59 : Int).toNat)) := ⟨_, rfl⟩
                                            replace H : (patchbaylaw02_FrameBack.l0 kj59 t318 y349) = some r := by first | (rw [hy349]; with_reducible exact H) | (have H2_ := (Option.bind_some _ _).symm.trans H; rw [hy349]; with_reducible exact H2_) | (have H2_ := (Option.bind_some _ _).symm.trans H; with_reducible exact H2_) | with_reducible exact H | (rw [hy349]; exact H) | exact H
                                            have Ny349 := Aside0.mk hy349
                                            clear hy349
                                            have H' := Aside0.mk H
                                            clear H
                                            try go_wp2
                                            have n0_ := Aside0.mk (Kd.R_drew HO_11.out)
                                            have n1_ := Aside0.mk (Kd.R_drew HO_312005.out)
                                            have n2_ := Aside0.mk (Kd.R_drew HO_341005.out)
                                            have n3_ := Aside0.mk (blk_drew BK311.out)
                                            have n4_ := Aside0.mk (blk_drew BK340.out)
                                            have n5_ := Aside0.mk (below_drew1 HB.out)
                                            clear HO_11
                                            clear HO_312005
                                            clear HO_341005
                                            clear BK311
                                            clear BK340
                                            clear HB
                                            have HO_11 := n0_
                                            have HO_312005 := n1_
                                            have HO_341005 := n2_
                                            have BK311 := n3_
                                            have BK340 := n4_
                                            have HB := n5_
                                            clear n0_ n1_ n2_ n3_ n4_ n5_
                                            obtain ⟨i070, hi070, _, hsz70, _⟩ := info_parts info5
                                            obtain ⟨hcut70, hA70, hC70⟩ := print_take_of (P := Try.prog) (Value.int .u8) 0 22 5 .i64 Try.underlying22 hi070 hsz70 A0 c0 lt9_ 12 (by omega) (of_decide_eq_true (by first | (with_reducible assumption) | assumption)) HC301.out
                                            have HR344 := Aside0.mk (Kd.C_of_reads (h1 := fun _ => rfl) (hA70 _ (Kd.reads_of_C HR301.out)))
                                            have HC344 := Aside0.mk hC70
                                            clear hA70 hC70 hi070 hsz70
                                            obtain ⟨i071, hi071, _, hsz71, _⟩ := info_parts info5
                                            obtain ⟨A71, hcut71, hA71, hC71⟩ := print_drop_of (P := Try.prog) (Value.int .u8) 0 22 5 .i64 Try.underlying22 hi071 hsz71 A0 c0 lt9_ x19_59 (of_decide_eq_true (by first | (with_reducible assumption) | assumption)) (of_decide_eq_true (by first | (with_reducible assumption) | assumption)) HC301.out
                                            have HR348 := Aside0.mk (Kd.C_of_reads (h1 := fun _ => rfl) (hA71 _ (Kd.reads_of_C HR301.out)))
                                            have HC348 := Aside0.mk hC71
                                            clear hA71 hC71 hi071 hsz71
                                            refine start_ (n := 9) (S := fun w' => True) (ds := []) #[false, false, false, false, false, false, false, false, false] (by kernel_rfl) rfl rfl trivial (fun hHeld => ?_); refine with_tabW patchbaylaw02_FrameBack.tab20 patchbaylaw02_FrameBack.bits20 (fun HT_ HW_ => ?_)
                                            generalize wc.drew = w69 at HO_11 HO_312005 HO_341005 BK311 BK340 HB HR344 HR348 hHeld ⊢
                                            refine pure_ (i := 1) (N := some 126) (v := ?_) (a' := ?_) #[false, true, false, false, false, false, false, false, false] rfl rfl (any_of HT_.out (by kernel_rfl)) (fun _ _ _ h => h) (Or.inl ⟨by rfl, ?_⟩) ?_ ?_
                                            rotate_left
                                            · intro w'
                                              go_simp
                                              with_reducible rfl
                                            rotate_left
                                            · simp only [Act.put, List.setIfInBounds_toArray, List.set_cons_zero, List.set_cons_succ, i64_w, i32_w]
                                              rfl
                                            refine pure_ (i := 2) (N := some 127) (v := ?_) (a' := ?_) #[false, true, true, false, false, false, false, false, false] rfl rfl (any_of HT_.out (by kernel_rfl)) (fun _ _ _ h => h) (Or.inl ⟨by rfl, ?_⟩) ?_ ?_
                                            rotate_left
                                            · intro w'
                                              go_simp
                                              with_reducible rfl
                                            rotate_left
                                            · simp only [Act.put, List.setIfInBounds_toArray, List.set_cons_zero, List.set_cons_succ, i64_w, i32_w]
                                              rfl
                                            refine pure_ (i := 4) (N := some 129) (v := ?_) (a' := ?_) #[false, true, true, false, true, false, false, false, false] rfl rfl (any_of HT_.out (by kernel_rfl)) (fun _ _ _ h => h) (Or.inl ⟨by rfl, ?_⟩) ?_ ?_
                                            rotate_left
                                            · intro w'
                                              go_simp
                                              with_reducible rfl
                                            rotate_left
                                            · simp only [Act.put, List.setIfInBounds_toArray, List.set_cons_zero, List.set_cons_succ, i64_w, i32_w]
                                              rfl
                                            refine pure_ (i := 5) (N := some 130) (v := ?_) (a' := ?_) #[false, true, true, false, true, true, false, false, false] rfl rfl (any_of HT_.out (by kernel_rfl)) (fun _ _ _ h => h) (Or.inl ⟨by rfl, ?_⟩) ?_ ?_
                                            rotate_left
                                            · intro w'
                                              go_simp
                                              with_reducible rfl
                                            rotate_left
                                            · simp only [Act.put, List.setIfInBounds_toArray, List.set_cons_zero, List.set_cons_succ, i64_w, i32_w]
                                              rfl
                                            refine pure_ (i := 6) (N := some 131) (v := ?_) (a' := ?_) #[false, true, true, false, true, true, true, false, false] rfl rfl (any_of HT_.out (by kernel_rfl)) (fun _ _ _ h => h) (Or.inl ⟨by rfl, ?_⟩) ?_ ?_
                                            rotate_left
                                            · intro w'
                                              go_simp
                                              with_reducible rfl
                                            rotate_left
                                            · simp only [Act.put, List.setIfInBounds_toArray, List.set_cons_zero, List.set_cons_succ, i64_w, i32_w]
                                              rfl
                                            refine one_ (i := 0) (N := some 125) #[true, true, true, false, true, true, true, false, false] rfl rfl (one_of HT_.out (by kernel_rfl)) (by decide) (fun K hK => ?_)
                                            refine Kd.R_lit_step (Kd.int .u8) _ 5 ?hg (N := 125) ?hd (xs := ([] : List Int)) (inner := []) (ok := fun _ => True) (okp := fun _ => True) ?hr ?hp (fun _ hk => hk) trivial (Below.refl _ _) (Nat.le_refl _) (by simp) ?_; (case hd => rfl); (case hg => rfl); (case hr => first | (go_simp; done) | (go_simp; rfl)); (case hp => exact (Reps.none _ _))
                                            intro v342 w72 ho73 hb hg_ hnew_
                                            clear hg_ hnew_
                                            (first | rw [← Ny341.out] at ho73 | (simp only [Int.reduceToNat] at ho73; rw [← Ny341.out] at ho73))
                                            have n0_ := Aside0.mk (Kd.R_elder' (by (with_reducible repeat (first | apply Kd.R_alloc | apply Kd.R_drewN | apply Kd.R_drew)); exact HO_11.out) (Kd.R_base ho73) hb)
                                            have n1_ := Aside0.mk (Kd.R_elder' (by (with_reducible repeat (first | apply Kd.R_alloc | apply Kd.R_drewN | apply Kd.R_drew)); exact HO_312005.out) (Kd.R_base ho73) hb)
                                            have n2_ := Aside0.mk (Kd.R_elder' (by (with_reducible repeat (first | apply Kd.R_alloc | apply Kd.R_drewN | apply Kd.R_drew)); exact HO_341005.out) (Kd.R_base ho73) hb)
                                            have n3_ := Aside0.mk (Kd.R_lower (Kd.R_new' (Kd.R_new' (Kd.R_new' ho73 (Kd.R_lt (by (with_reducible repeat (first | apply Kd.R_alloc | apply Kd.R_drewN | apply Kd.R_drew)); exact HO_11.out))) (Kd.R_lt (by (with_reducible repeat (first | apply Kd.R_alloc | apply Kd.R_drewN | apply Kd.R_drew)); exact HO_312005.out))) (Kd.R_lt (by (with_reducible repeat (first | apply Kd.R_alloc | apply Kd.R_drewN | apply Kd.R_drew)); exact HO_341005.out))) (below_size (by repeat (first | (with_reducible first | exact HB.out | apply below_alloc | apply pw_below_drewN | apply below_drew1 | refine below_set ?_ GE311.out | refine below_set ?_ GE340.out) | exact HB.out))))
                                            have n4_ := Aside0.mk (blk_below (g := gb311) (o := .cells #[.int .u64 t302, .int .u64 t303, .bool t304, .int .u16 t305, .int .u16 t306, .slice Ao13 t307.length co13] 34 (0, 0)) (by (with_reducible repeat (first | refine blk_drewN ?_ _ | refine blk_drew ?_ | refine blk_alloc ?_ _)); exact BK311.out) hb)
                                            have n5_ := Aside0.mk (blk_below (g := gb340) (o := .cells #[.int .u64 t331, .int .u64 t332, .bool t333, .int .u16 t334, .int .u16 t335, .slice Ao44 t336.length co44] 39 (0, 0)) (by (with_reducible repeat (first | refine blk_drewN ?_ _ | refine blk_drew ?_ | refine blk_alloc ?_ _)); exact BK340.out) hb)
                                            have n6_ := Aside0.mk (below_step (by repeat (first | (with_reducible first | exact HB.out | apply below_alloc | apply pw_below_drewN | apply below_drew1 | refine below_set ?_ GE311.out | refine below_set ?_ GE340.out) | exact HB.out)) hb)
                                            clear HO_11
                                            clear HO_312005
                                            clear HO_341005
                                            clear BK311
                                            clear BK340
                                            clear HB
                                            have HO_11 := n0_
                                            have HO_312005 := n1_
                                            have HO_341005 := n2_
                                            have HO343 := n3_
                                            have BK311 := n4_
                                            have BK340 := n5_
                                            have HB := n6_
                                            clear n0_ n1_ n2_ n3_ n4_ n5_ n6_
                                            clear hb ho73
                                            refine hK.out _ _ trivial (fun hHeld => ?_)
                                            clear hK K
                                            refine norm_ (a' := ?_) ?_ ?_
                                            rotate_left
                                            · show Act.put _ (some 125) _ = _
                                              simp only [Act.put, List.setIfInBounds_toArray, List.set_cons_zero, List.set_cons_succ, i64_w, i32_w]
                                              rfl
                                            refine one_ (i := 3) (N := some 128) #[true, true, true, true, true, true, true, false, false] rfl rfl (one_of HT_.out (by kernel_rfl)) (by decide) (fun K hK => ?_)
                                            refine Kd.R_append_rows_step (Kd.int .u8) (w0 := w) w.heap.size (by rfl) (.tmp 125) (.tmp 127) 22 5 (.int .u8 0) 1 rfl Try.underlying22 info5 rfl (by decide) (by omega) v342 y341 (lt9_.take 12) _ _ _ (fun k_ => some k_ ≠ (v320 : Value).ownBlock ∧ some k_ ≠ (.slice Ao13 t307.length co13 : Value).ownBlock ∧ some k_ ≠ (.slice Ao44 t336.length co44 : Value).ownBlock) (fun _ => False) rfl rfl ?aO ?aR (fun _ _ h => h) (fun _ h => h.elim) ?aF ?aB ?aS ?aL ?_
                                            (case aR => first | (have q_ : Kd.C (Kd.int .u8) _ A0 (lt9_.take 12).length (lt9_.take 12) := Kd.C_below HR344.out HB.out; rw [List.length_take] at q_; exact q_) | (have q_ : Kd.C (Kd.int .u8) _ A0 (lt9_.take 12).length (lt9_.take 12) := Kd.C_below HR344.out HB.out; rw [show (lt9_.take 12).length = 12 from (by rw [List.length_take]; have h_ : (12 : Int) ≤ (lt9_.length : Int) := of_decide_eq_true (by first | (with_reducible assumption) | assumption); omega)] at q_; exact q_) | (rw [← show (lt9_.take 12).length = 12 from (by rw [List.length_take]; have h_ : (12 : Int) ≤ (lt9_.length : Int) := of_decide_eq_true (by first | (with_reducible assumption) | assumption); omega)]; repeat (first | exact (Kd.C_below HR344.out HB.out) | (with_reducible refine Kd.C_alloc ?_ _) | (with_reducible refine Kd.C_drewN ?_ _) | (with_reducible refine Kd.C_drew ?_))) | (repeat (first | exact (Kd.C_below HR344.out HB.out) | (with_reducible refine Kd.C_alloc ?_ _) | (with_reducible refine Kd.C_drewN ?_ _) | (with_reducible refine Kd.C_drew ?_))))
                                            (case aB => exact (by repeat (first | (with_reducible first | exact HB.out | apply below_alloc | apply pw_below_drewN | apply below_drew1 | refine below_set ?_ GE311.out | refine below_set ?_ GE340.out) | exact HB.out)))
                                            (case aF => exact (fun k_ hk => ⟨Kd.fresh' (Kd.R_lt (by (with_reducible repeat (first | apply Kd.R_alloc | apply Kd.R_drewN | apply Kd.R_drew)); exact HO_11.out)) k_ hk, Kd.fresh' (Kd.R_lt (by (with_reducible repeat (first | apply Kd.R_alloc | apply Kd.R_drewN | apply Kd.R_drew)); exact HO_312005.out)) k_ hk, Kd.fresh' (Kd.R_lt (by (with_reducible repeat (first | apply Kd.R_alloc | apply Kd.R_drewN | apply Kd.R_drew)); exact HO_341005.out)) k_ hk⟩))
                                            (case aO => exact (by (with_reducible repeat (first | apply Kd.R_alloc | apply Kd.R_drewN | apply Kd.R_drew)); exact Kd.R_mono HO343.out (fun _ hk => ⟨hk.1.1.2, ⟨hk.1.2, hk.2⟩⟩)))
                                            (case aS => exact (below_size (by repeat (first | (with_reducible first | exact HB.out | apply below_alloc | apply pw_below_drewN | apply below_drew1 | refine below_set ?_ GE311.out | refine below_set ?_ GE340.out) | exact HB.out))))
                                            (case aL => have := LMc65.out; have hlx_ := (show (lt9_.take 12).length = 12 from (by rw [List.length_take]; have h_ : (12 : Int) ≤ (lt9_.length : Int) := of_decide_eq_true (by first | (with_reducible assumption) | assumption); omega)); omega)
                                            intro v346 w74 ho hb hg hat
                                            rw [← Ny345.out] at ho
                                            have n0_ := Aside0.mk (Kd.R_after (ok := (fun k_ => some k_ ≠ (.slice Ao13 t307.length co13 : Value).ownBlock ∧ some k_ ≠ (.slice Ao44 t336.length co44 : Value).ownBlock)) (by (with_reducible repeat (first | apply Kd.R_alloc | apply Kd.R_drewN | apply Kd.R_drew)); exact HO_11.out) hg hat)
                                            have n1_ := Aside0.mk (Kd.R_after (ok := (fun k_ => some k_ ≠ (v320 : Value).ownBlock ∧ some k_ ≠ (.slice Ao44 t336.length co44 : Value).ownBlock)) (by (with_reducible repeat (first | apply Kd.R_alloc | apply Kd.R_drewN | apply Kd.R_drew)); exact HO_312005.out) hg hat)
                                            have n2_ := Aside0.mk (Kd.R_after (ok := (fun k_ => some k_ ≠ (v320 : Value).ownBlock ∧ some k_ ≠ (.slice Ao13 t307.length co13 : Value).ownBlock)) (by (with_reducible repeat (first | apply Kd.R_alloc | apply Kd.R_drewN | apply Kd.R_drew)); exact HO_341005.out) hg hat)
                                            have n3_ := Aside0.mk (blk_grown (g := gb311) (o := .cells #[.int .u64 t302, .int .u64 t303, .bool t304, .int .u16 t305, .int .u16 t306, .slice Ao13 t307.length co13] 34 (0, 0)) (by (with_reducible repeat (first | refine blk_drewN ?_ _ | refine blk_drew ?_ | refine blk_alloc ?_ _)); exact BK311.out) hg (Kd.R_ne HO343.out BK311.out (by decide)))
                                            have n4_ := Aside0.mk (blk_grown (g := gb340) (o := .cells #[.int .u64 t331, .int .u64 t332, .bool t333, .int .u16 t334, .int .u16 t335, .slice Ao44 t336.length co44] 39 (0, 0)) (by (with_reducible repeat (first | refine blk_drewN ?_ _ | refine blk_drew ?_ | refine blk_alloc ?_ _)); exact BK340.out) hg (Kd.R_ne HO343.out BK340.out (by decide)))
                                            have n5_ := Aside0.mk (hb)
                                            have n6_ := Aside0.mk (ho)
                                            clear HO_11
                                            clear HO_312005
                                            clear HO_341005
                                            clear BK311
                                            clear BK340
                                            clear HB
                                            clear HO343
                                            have HO_11 := n0_
                                            have HO_312005 := n1_
                                            have HO_341005 := n2_
                                            have BK311 := n3_
                                            have BK340 := n4_
                                            have HB := n5_
                                            have HO347 := n6_
                                            clear n0_ n1_ n2_ n3_ n4_ n5_ n6_
                                            clear ho hb hg hat
                                            refine hK.out _ _ trivial (fun hHeld => ?_)
                                            clear hK K
                                            refine norm_ (a' := ?_) ?_ ?_
                                            rotate_left
                                            · show Act.put _ (some 128) _ = _
                                              simp only [Act.put, List.setIfInBounds_toArray, List.set_cons_zero, List.set_cons_succ, i64_w, i32_w]
                                              rfl
                                            refine one_ (i := 7) (N := some 132) #[true, true, true, true, true, true, true, true, false] rfl rfl (one_of HT_.out (by kernel_rfl)) (by decide) (fun K hK => ?_)
                                            refine Kd.R_append_rows_step (Kd.int .u8) (w0 := w) w.heap.size (by rfl) (.tmp 128) (.tmp 131) 22 5 (.int .u8 0) 1 rfl Try.underlying22 info5 rfl (by decide) (by omega) v346 y345 (lt9_.drop (x19_59 : Int).toNat) _ _ _ (fun k_ => some k_ ≠ (v320 : Value).ownBlock ∧ some k_ ≠ (.slice Ao13 t307.length co13 : Value).ownBlock ∧ some k_ ≠ (.slice Ao44 t336.length co44 : Value).ownBlock) (fun _ => False) rfl rfl ?aO ?aR (fun _ _ h => h) (fun _ h => h.elim) ?aF ?aB ?aS ?aL ?_
                                            (case aR => first | (rw [← show (lt9_.drop (x19_59 : Int).toNat).length = (lt9_.length - x19_59.toNat) from List.length_drop]; repeat (first | exact (Kd.C_below HR348.out HB.out) | (with_reducible refine Kd.C_alloc ?_ _) | (with_reducible refine Kd.C_drewN ?_ _) | (with_reducible refine Kd.C_drew ?_))) | (repeat (first | exact (Kd.C_below HR348.out HB.out) | (with_reducible refine Kd.C_alloc ?_ _) | (with_reducible refine Kd.C_drewN ?_ _) | (with_reducible refine Kd.C_drew ?_))))
                                            (case aB => exact (by repeat (first | (with_reducible first | exact HB.out | apply below_alloc | apply pw_below_drewN | apply below_drew1 | refine below_set ?_ GE311.out | refine below_set ?_ GE340.out) | exact HB.out)))
                                            (case aF => exact (fun k_ hk => ⟨Kd.fresh' (Kd.R_lt (by (with_reducible repeat (first | apply Kd.R_alloc | apply Kd.R_drewN | apply Kd.R_drew)); exact HO_11.out)) k_ hk, Kd.fresh' (Kd.R_lt (by (with_reducible repeat (first | apply Kd.R_alloc | apply Kd.R_drewN | apply Kd.R_drew)); exact HO_312005.out)) k_ hk, Kd.fresh' (Kd.R_lt (by (with_reducible repeat (first | apply Kd.R_alloc | apply Kd.R_drewN | apply Kd.R_drew)); exact HO_341005.out)) k_ hk⟩))
                                            (case aO => exact (by (with_reducible repeat (first | apply Kd.R_alloc | apply Kd.R_drewN | apply Kd.R_drew)); exact HO347.out))
                                            (case aS => exact (below_size (by repeat (first | (with_reducible first | exact HB.out | apply below_alloc | apply pw_below_drewN | apply below_drew1 | refine below_set ?_ GE311.out | refine below_set ?_ GE340.out) | exact HB.out))))
                                            (case aL => have := LMc68.out; have hlx_ := (show (lt9_.drop (x19_59 : Int).toNat).length = (lt9_.length - x19_59.toNat) from List.length_drop); omega)
                                            intro v350 w75 ho hb hg hat
                                            rw [← Ny349.out] at ho
                                            have n0_ := Aside0.mk (Kd.R_after (ok := (fun k_ => some k_ ≠ (.slice Ao13 t307.length co13 : Value).ownBlock ∧ some k_ ≠ (.slice Ao44 t336.length co44 : Value).ownBlock)) (by (with_reducible repeat (first | apply Kd.R_alloc | apply Kd.R_drewN | apply Kd.R_drew)); exact HO_11.out) hg hat)
                                            have n1_ := Aside0.mk (Kd.R_after (ok := (fun k_ => some k_ ≠ (v320 : Value).ownBlock ∧ some k_ ≠ (.slice Ao44 t336.length co44 : Value).ownBlock)) (by (with_reducible repeat (first | apply Kd.R_alloc | apply Kd.R_drewN | apply Kd.R_drew)); exact HO_312005.out) hg hat)
                                            have n2_ := Aside0.mk (Kd.R_after (ok := (fun k_ => some k_ ≠ (v320 : Value).ownBlock ∧ some k_ ≠ (.slice Ao13 t307.length co13 : Value).ownBlock)) (by (with_reducible repeat (first | apply Kd.R_alloc | apply Kd.R_drewN | apply Kd.R_drew)); exact HO_341005.out) hg hat)
                                            have n3_ := Aside0.mk (blk_grown (g := gb311) (o := .cells #[.int .u64 t302, .int .u64 t303, .bool t304, .int .u16 t305, .int .u16 t306, .slice Ao13 t307.length co13] 34 (0, 0)) (by (with_reducible repeat (first | refine blk_drewN ?_ _ | refine blk_drew ?_ | refine blk_alloc ?_ _)); exact BK311.out) hg (Kd.R_ne HO347.out BK311.out (by decide)))
                                            have n4_ := Aside0.mk (blk_grown (g := gb340) (o := .cells #[.int .u64 t331, .int .u64 t332, .bool t333, .int .u16 t334, .int .u16 t335, .slice Ao44 t336.length co44] 39 (0, 0)) (by (with_reducible repeat (first | refine blk_drewN ?_ _ | refine blk_drew ?_ | refine blk_alloc ?_ _)); exact BK340.out) hg (Kd.R_ne HO347.out BK340.out (by decide)))
                                            have n5_ := Aside0.mk (hb)
                                            have n6_ := Aside0.mk (ho)
                                            clear HO_11
                                            clear HO_312005
                                            clear HO_341005
                                            clear BK311
                                            clear BK340
                                            clear HB
                                            clear HO347
                                            have HO_11 := n0_
                                            have HO_312005 := n1_
                                            have HO_341005 := n2_
                                            have BK311 := n3_
                                            have BK340 := n4_
                                            have HB := n5_
                                            have HO351 := n6_
                                            clear n0_ n1_ n2_ n3_ n4_ n5_ n6_
                                            clear ho hb hg hat
                                            refine hK.out _ _ trivial (fun hHeld => ?_)
                                            clear hK K
                                            refine norm_ (a' := ?_) ?_ ?_
                                            rotate_left
                                            · show Act.put _ (some 132) _ = _
                                              simp only [Act.put, List.setIfInBounds_toArray, List.set_cons_zero, List.set_cons_succ, i64_w, i32_w]
                                              rfl
                                            refine pure_ (i := 8) (N := some 20) (v := ?_) (a' := ?_) #[true, true, true, true, true, true, true, true, true] rfl rfl (any_of HT_.out (by kernel_rfl)) (fun _ _ _ h => h) (Or.inl ⟨by rfl, ?_⟩) ?_ ?_
                                            rotate_left
                                            · intro w'
                                              go_simp
                                              with_reducible rfl
                                            rotate_left
                                            · simp only [Act.put, List.setIfInBounds_toArray, List.set_cons_zero, List.set_cons_succ, i64_w, i32_w]
                                              rfl
                                            refine done_ (done_of HT_.out (by kernel_rfl)) ?_
                                            try go_wp2
                                            go_loopg [20] kj59 (fun kq v20 w' => ∃ (x20_6 : List Int), Aside0 (patchbaylaw02_FrameBack.l0 kq t318 x20_6 = some r) ∧ Aside0 (kq ≤ kj59) ∧ Aside0 (Kd.R (Kd.int .u8) 5 w' w.heap.size (fun k_ => some k_ ≠ (v20 : Value).ownBlock ∧ some k_ ≠ ((.slice Ao13 t307.length co13) : Value).ownBlock ∧ some k_ ≠ ((.slice Ao44 t336.length co44) : Value).ownBlock) v320 t318) ∧ Aside0 (Kd.R (Kd.int .u8) 5 w' w.heap.size (fun k_ => some k_ ≠ (v320 : Value).ownBlock ∧ some k_ ≠ ((.slice Ao13 t307.length co13) : Value).ownBlock ∧ some k_ ≠ ((.slice Ao44 t336.length co44) : Value).ownBlock) v20 x20_6) ∧ Aside0 (Kd.R (Kd.int .u8) 5 w' w.heap.size (fun k_ => some k_ ≠ (v320 : Value).ownBlock ∧ some k_ ≠ (v20 : Value).ownBlock ∧ some k_ ≠ ((.slice Ao44 t336.length co44) : Value).ownBlock) (.slice Ao13 t307.length co13) t307) ∧ Aside0 (Kd.R (Kd.int .u8) 5 w' w.heap.size (fun k_ => some k_ ≠ (v320 : Value).ownBlock ∧ some k_ ≠ (v20 : Value).ownBlock ∧ some k_ ≠ ((.slice Ao13 t307.length co13) : Value).ownBlock) (.slice Ao44 t336.length co44) t336) ∧ Aside0 (w'.heap[gb311]? = some (.cells #[.int .u64 t302, .int .u64 t303, .bool t304, .int .u16 t305, .int .u16 t306, (.slice Ao13 t307.length co13)] 34 (0, 0))) ∧ Aside0 (w'.heap[gb340]? = some (.cells #[.int .u64 t331, .int .u64 t332, .bool t333, .int .u16 t334, .int .u16 t335, (.slice Ao44 t336.length co44)] 39 (0, 0))) ∧ Aside0 (Below w.heap.size w w'))
                                            case atStart => exact ⟨(y349), H', ⟨Nat.le_refl _⟩, ⟨by (with_reducible repeat (first | apply Kd.R_alloc | apply Kd.R_drewN | apply Kd.R_drew)); exact Kd.R_mono HO_11.out (fun _ hk => ⟨hk.2, ⟨hk.1.1, hk.1.2⟩⟩)⟩, ⟨by (with_reducible repeat (first | apply Kd.R_alloc | apply Kd.R_drewN | apply Kd.R_drew)); exact HO351.out⟩, ⟨by (with_reducible repeat (first | apply Kd.R_alloc | apply Kd.R_drewN | apply Kd.R_drew)); exact Kd.R_mono HO_312005.out (fun _ hk => ⟨hk.1.1, ⟨hk.2, hk.1.2⟩⟩)⟩, ⟨by (with_reducible repeat (first | apply Kd.R_alloc | apply Kd.R_drewN | apply Kd.R_drew)); exact Kd.R_mono HO_341005.out (fun _ hk => ⟨hk.1.1, ⟨hk.2, hk.1.2⟩⟩)⟩, ⟨by (with_reducible repeat (first | refine blk_drewN ?_ _ | refine blk_drew ?_ | refine blk_alloc ?_ _)); exact BK311.out⟩, ⟨by (with_reducible repeat (first | refine blk_drewN ?_ _ | refine blk_drew ?_ | refine blk_alloc ?_ _)); exact BK340.out⟩, ⟨by repeat (first | (with_reducible first | exact HB.out | apply below_alloc | apply pw_below_drewN | apply below_drew1 | refine below_set ?_ GE311.out | refine below_set ?_ GE340.out) | exact HB.out)⟩⟩
                                            case round =>
                                              clear H'
                                              try clear c1
                                              try clear c2
                                              try clear p2
                                              try clear c3
                                              try clear c4
                                              try clear c5
                                              try clear c5b0
                                              try clear c5b1
                                              try clear c6
                                              try clear c6b0
                                              try clear c6b1
                                              try clear p6
                                              try clear c15
                                              try clear c16
                                              try clear c18
                                              try clear c20
                                              try clear c21
                                              try clear c31
                                              try clear c31b0
                                              try clear c31b1
                                              try clear c32
                                              try clear c32b0
                                              try clear c32b1
                                              try clear c33
                                              try clear c33b0
                                              try clear c33b1
                                              try clear c37
                                              try clear c42
                                              try clear c45
                                              try clear c45b0
                                              try clear c45b1
                                              try clear c46
                                              try clear c47
                                              try clear c47b0
                                              try clear c47b1
                                              try clear c48
                                              try clear c51
                                              try clear c53
                                              try clear c55
                                              try clear c57
                                              try clear c57b0
                                              try clear c57b1
                                              try clear c59
                                              try clear c61
                                              try clear c63
                                              try clear c64
                                              try clear c64b0
                                              try clear c64b1
                                              try clear c65
                                              try clear c66
                                              try clear c66b0
                                              try clear c66b1
                                              try clear c67
                                              try clear c67b0
                                              try clear c67b1
                                              try clear c68
                                              try clear hcz12_0
                                              try clear hcz12_1
                                              try clear hcz12_2
                                              try clear hcz12_3
                                              try clear hcz12_4
                                              try clear hcz12_5
                                              try clear hcz43_0
                                              try clear hcz43_1
                                              try clear hcz43_2
                                              try clear hcz43_3
                                              try clear hcz43_4
                                              try clear hcz43_5
                                              try clear hcz49_0
                                              try clear hcz49_1
                                              try clear hcz49_2
                                              try clear hcz49_3
                                              try clear hcz49_4
                                              try clear hcz49_5
                                              try clear hcz50_0
                                              try clear hcz50_1
                                              try clear hcz50_2
                                              try clear hcz50_3
                                              try clear hcz50_4
                                              try clear hcz50_5
                                              try clear hcz52_0
                                              try clear hcz52_1
                                              try clear hcz52_2
                                              try clear hcz52_3
                                              try clear hcz52_4
                                              try clear hcz52_5
                                              try clear hcz54_0
                                              try clear hcz54_1
                                              try clear hcz54_2
                                              try clear hcz54_3
                                              try clear hcz54_4
                                              try clear hcz54_5
                                              try clear hcz62_0
                                              try clear hcz62_1
                                              try clear hcz62_2
                                              try clear hcz62_3
                                              try clear hcz62_4
                                              try clear hcz62_5
                                              try clear hfz12_0
                                              try clear hfz12_1
                                              try clear hfz12_2
                                              try clear hfz12_3
                                              try clear hfz12_4
                                              try clear hfz12_5
                                              try clear hfz43_0
                                              try clear hfz43_1
                                              try clear hfz43_2
                                              try clear hfz43_3
                                              try clear hfz43_4
                                              try clear hfz43_5
                                              try clear hfz49_0
                                              try clear hfz49_1
                                              try clear hfz49_2
                                              try clear hfz49_3
                                              try clear hfz49_4
                                              try clear hfz49_5
                                              try clear hfz50_0
                                              try clear hfz50_1
                                              try clear hfz50_2
                                              try clear hfz50_3
                                              try clear hfz50_4
                                              try clear hfz50_5
                                              try clear hfz52_0
                                              try clear hfz52_1
                                              try clear hfz52_2
                                              try clear hfz52_3
                                              try clear hfz52_4
                                              try clear hfz52_5
                                              try clear hfz54_0
                                              try clear hfz54_1
                                              try clear hfz54_2
                                              try clear hfz54_3
                                              try clear hfz54_4
                                              try clear hfz54_5
                                              try clear hfz62_0
                                              try clear hfz62_1
                                              try clear hfz62_2
                                              try clear hfz62_3
                                              try clear hfz62_4
                                              try clear hfz62_5
                                              try clear p2
                                              try clear p6
                                              obtain ⟨x20_6, HA, HK6, HO_11, HO_20, HO_312005, HO_341005, BK311, BK340, HB⟩ := hrel
                                              cases gk with
                                              | zero => exact absurd HA.out (by simp [patchbaylaw02_FrameBack.l0])
                                              | succ k6 =>
                                                have H := HA.out
                                                clear HA
                                                simp only [patchbaylaw02_FrameBack.l0] at H
                                                by_cases c76 : (x20_6.length : Int) < 60
                                                · rw [if_pos c76] at H
                                                  have c76b0 : decide ((x20_6.length : Int) < 60) = true := decide_eq_true c76
                                                  have c76b1 : decide (x20_6.length < 60) = true := decide_eq_true (by omega)
                                                  clear c76
                                                  by_cases c77 : x20_6.length < 140737488355328
                                                  · rw [if_pos c77] at H
                                                    have LMc77 := Aside0.mk c77
                                                    clear c77
                                                    obtain ⟨y352, hy352⟩ : ∃ y_ : List Int, y_ = (x20_6 ++ [0]) := ⟨_, rfl⟩
                                                    replace H : (patchbaylaw02_FrameBack.l0 k6 t318 y352) = some r := by first | (rw [hy352]; with_reducible exact H) | (have H2_ := (Option.bind_some _ _).symm.trans H; rw [hy352]; with_reducible exact H2_) | (have H2_ := (Option.bind_some _ _).symm.trans H; with_reducible exact H2_) | with_reducible exact H | (rw [hy352]; exact H) | exact H
                                                    have Ny352 := Aside0.mk hy352
                                                    clear hy352
                                                    have H' := Aside0.mk H
                                                    clear H
                                                    obtain ⟨Ao78, co78, eo78⟩ := Kd.R_slice HO_20.out
                                                    subst eo78
                                                    go_wp2_with (first | ((with_reducible refine gate_builtin (b := .append) (xs := #[.tmp 136, .tmp 137]) rfl ?_); (try (refine gate_guard (by rfl) ?_; dsimp only)); at_builtin; refine Kd.R_append (Kd.int .u8) (w0 := w) w.heap.size rfl (.tmp 136) (.tmp 137) 22 5 (.int .u8 0) 1 rfl Try.underlying22 info5 rfl (by decide) (by omega) (.slice Ao78 x20_6.length co78) x20_6 0 [.int .u8 0] (fun k_ => some k_ ≠ (v320 : Value).ownBlock ∧ some k_ ≠ (.slice Ao13 t307.length co13 : Value).ownBlock ∧ some k_ ≠ (.slice Ao44 t336.length co44 : Value).ownBlock) (fun _ => False) rfl rfl ?aP (fun _ hk => hk.elim) ?aF ?aO ?aB ?aS ?aL ?_; (case aP => exact rfl); (case aB => exact (by repeat (first | (with_reducible first | exact HB.out | apply below_alloc | apply pw_below_drewN | apply below_drew1 | refine below_set ?_ GE311.out | refine below_set ?_ GE340.out) | exact HB.out))); (case aF => exact (fun k_ hk => ⟨Kd.fresh' (Kd.R_lt (by (with_reducible repeat (first | apply Kd.R_alloc | apply Kd.R_drewN | apply Kd.R_drew)); exact HO_11.out)) k_ hk, Kd.fresh' (Kd.R_lt (by (with_reducible repeat (first | apply Kd.R_alloc | apply Kd.R_drewN | apply Kd.R_drew)); exact HO_312005.out)) k_ hk, Kd.fresh' (Kd.R_lt (by (with_reducible repeat (first | apply Kd.R_alloc | apply Kd.R_drewN | apply Kd.R_drew)); exact HO_341005.out)) k_ hk⟩)); (case aO => exact (by (with_reducible repeat (first | apply Kd.R_alloc | apply Kd.R_drewN | apply Kd.R_drew)); exact HO_20.out)); (case aS => exact (below_size (by repeat (first | (with_reducible first | exact HB.out | apply below_alloc | apply pw_below_drewN | apply below_drew1 | refine below_set ?_ GE311.out | refine below_set ?_ GE340.out) | exact HB.out)))); (case aL => have := LMc77.out; omega); intro v353 w79 ho hb hg hat; rw [← Ny352.out] at ho; have n0_ := Aside0.mk (Kd.R_after (ok := (fun k_ => some k_ ≠ (.slice Ao13 t307.length co13 : Value).ownBlock ∧ some k_ ≠ (.slice Ao44 t336.length co44 : Value).ownBlock)) (by (with_reducible repeat (first | apply Kd.R_alloc | apply Kd.R_drewN | apply Kd.R_drew)); exact Kd.R_mono HO_11.out (fun _ hk => ⟨⟨hk.2.1, hk.2.2⟩, hk.1⟩)) hg hat); have n1_ := Aside0.mk (Kd.R_after (ok := (fun k_ => some k_ ≠ (v320 : Value).ownBlock ∧ some k_ ≠ (.slice Ao44 t336.length co44 : Value).ownBlock)) (by (with_reducible repeat (first | apply Kd.R_alloc | apply Kd.R_drewN | apply Kd.R_drew)); exact Kd.R_mono HO_312005.out (fun _ hk => ⟨⟨hk.1, hk.2.2⟩, hk.2.1⟩)) hg hat); have n2_ := Aside0.mk (Kd.R_after (ok := (fun k_ => some k_ ≠ (v320 : Value).ownBlock ∧ some k_ ≠ (.slice Ao13 t307.length co13 : Value).ownBlock)) (by (with_reducible repeat (first | apply Kd.R_alloc | apply Kd.R_drewN | apply Kd.R_drew)); exact Kd.R_mono HO_341005.out (fun _ hk => ⟨⟨hk.1, hk.2.2⟩, hk.2.1⟩)) hg hat); have n3_ := Aside0.mk (blk_grown (g := gb311) (o := .cells #[.int .u64 t302, .int .u64 t303, .bool t304, .int .u16 t305, .int .u16 t306, .slice Ao13 t307.length co13] 34 (0, 0)) (by (with_reducible repeat (first | refine blk_drewN ?_ _ | refine blk_drew ?_ | refine blk_alloc ?_ _)); exact BK311.out) hg (Kd.R_ne HO_20.out BK311.out (by decide))); have n4_ := Aside0.mk (blk_grown (g := gb340) (o := .cells #[.int .u64 t331, .int .u64 t332, .bool t333, .int .u16 t334, .int .u16 t335, .slice Ao44 t336.length co44] 39 (0, 0)) (by (with_reducible repeat (first | refine blk_drewN ?_ _ | refine blk_drew ?_ | refine blk_alloc ?_ _)); exact BK340.out) hg (Kd.R_ne HO_20.out BK340.out (by decide))); have n5_ := Aside0.mk (hb); have n6_ := Aside0.mk (ho); clear HO_11; clear HO_312005; clear HO_341005; clear BK311; clear BK340; clear HB; clear HO_20; have HO_11 := n0_; have HO_312005 := n1_; have HO_341005 := n2_; have BK311 := n3_; have BK340 := n4_; have HB := n5_; have HO354 := n6_; clear n0_ n1_ n2_ n3_ n4_ n5_ n6_; clear ho hb hg hat))
                                                    go_roundg k6
                                                    case measure => have := HJ7.out; have := HJ24.out; have := HJ38.out; have := HJ55.out; have := HJ59.out; have := HK6.out; omega
                                                    case rel => exact ⟨(y352), H', ⟨by have := HJ7.out; have := HJ24.out; have := HJ38.out; have := HJ55.out; have := HJ59.out; have := HK6.out; omega⟩, ⟨by (with_reducible repeat (first | apply Kd.R_alloc | apply Kd.R_drewN | apply Kd.R_drew)); exact Kd.R_mono HO_11.out (fun _ hk => ⟨hk.2, ⟨hk.1.1, hk.1.2⟩⟩)⟩, ⟨by (with_reducible repeat (first | apply Kd.R_alloc | apply Kd.R_drewN | apply Kd.R_drew)); exact HO354.out⟩, ⟨by (with_reducible repeat (first | apply Kd.R_alloc | apply Kd.R_drewN | apply Kd.R_drew)); exact Kd.R_mono HO_312005.out (fun _ hk => ⟨hk.1.1, ⟨hk.2, hk.1.2⟩⟩)⟩, ⟨by (with_reducible repeat (first | apply Kd.R_alloc | apply Kd.R_drewN | apply Kd.R_drew)); exact Kd.R_mono HO_341005.out (fun _ hk => ⟨hk.1.1, ⟨hk.2, hk.1.2⟩⟩)⟩, ⟨by (with_reducible repeat (first | refine blk_drewN ?_ _ | refine blk_drew ?_ | refine blk_alloc ?_ _)); exact BK311.out⟩, ⟨by (with_reducible repeat (first | refine blk_drewN ?_ _ | refine blk_drew ?_ | refine blk_alloc ?_ _)); exact BK340.out⟩, ⟨by repeat (first | (with_reducible first | exact HB.out | apply below_alloc | apply pw_below_drewN | apply below_drew1 | refine below_set ?_ GE311.out | refine below_set ?_ GE340.out) | exact HB.out)⟩⟩
                                                  · rw [if_neg c77] at H
                                                    exact absurd H (by simp)
                                                · rw [if_neg c76] at H
                                                  have c76b0 : decide ((x20_6.length : Int) < 60) = false := decide_eq_false c76
                                                  have c76b1 : decide (x20_6.length < 60) = false := decide_eq_false (by omega)
                                                  clear c76
                                                  replace H := Option.bind_eq_some_iff.mp H
                                                  obtain ⟨t355, A800, H⟩ := H
                                                  replace H : (some t355) = some r := H
                                                  have A80 := Aside0.mk A800
                                                  clear A800
                                                  obtain rfl := Option.some.inj H
                                                  obtain ⟨Ao81, co81, eo81⟩ := Kd.R_slice HO_20.out
                                                  subst eo81
                                                  obtain ⟨Ao82, co82, eo82⟩ := Kd.R_slice HO_11.out
                                                  subst eo82
                                                  go_wp2_with (first | ((with_reducible refine gate_callee (f := 19) rfl ?_); refine goesL_ (some 141) rfl rfl Try.func19 (by kernel_rfl) rfl #[.slice Ao82 t318.length co82, .slice Ao81 x20_6.length co81] rfl (by (try simp only [List.map_toArray, List.map_cons, List.map_nil]); first | done | rfl | (simp only [List.length_drop, List.length_take]; rfl)) ?_; (with_reducible refine (patchbayref01_Same.calls k6 _ _ t318 _ _ x20_6 t355 _ ?side1 ?side2 ?side3 ?side4 A80.out).mono ?_); (case side1 => repeat (first | exact (Kd.R_reads' HO_11.out).2.2 | (with_reducible refine Kd.C_alloc ?_ _) | (with_reducible refine Kd.C_drewN ?_ _) | (with_reducible refine Kd.C_drew ?_))); (case side2 => exact (Kd.R_reads' HO_11.out).2.1); (case side3 => repeat (first | exact (Kd.R_reads' HO_20.out).2.2 | (with_reducible refine Kd.C_alloc ?_ _) | (with_reducible refine Kd.C_drewN ?_ _) | (with_reducible refine Kd.C_drew ?_))); (case side4 => exact (Kd.R_reads' HO_20.out).2.1); rintro e w' ⟨rfl, ⟨nd, rfl⟩⟩; refine ⟨_, rfl, ?_⟩))
                                                  go_ret
                                                  exact ⟨by first | rfl | (simp [errW_none, errW_some] <;> rfl) | (simp only [← hji4]; first | rfl | (simp [errW_none, errW_some] <;> rfl)) | (simp [*, errW_none, errW_some] <;> rfl), by repeat (first | (with_reducible first | exact HB.out | apply below_alloc | apply pw_below_drewN | apply below_drew1 | refine below_set ?_ GE311.out | refine below_set ?_ GE340.out) | exact HB.out)⟩
                                          · rw [if_neg c68] at H
                                            exact absurd H (by simp)
                                        · rw [if_neg c67] at H
                                          exact absurd H (by simp)
                                      · rw [if_neg c66] at H
                                        exact absurd H (by simp)
                                    · rw [if_neg c65] at H
                                      exact absurd H (by simp)
                                  · rw [if_neg c64] at H
                                    exact absurd H (by simp)
    · rw [if_neg c6] at H
      exact absurd H (by simp)
  · rw [if_neg c5] at H
    exact absurd H (by simp)

/-- THE ONE PURE STATEMENT of patchbaylaw02_FrameBack: yours. -/
def patchbaylaw02_FrameBack.Pure : Prop := ∀ (l0 : List Int) (a1 : Int) (a2 : Int), l0.length ≤ maxLen → l0.length * 1 ≤ 140737488351232 → (∀ x ∈ l0, (Lit.int .u8 x).wf = true) → (Lit.int .i64 a1).wf = true → (Lit.int .i64 a2).wf = true → ∃ k, patchbaylaw02_FrameBack.f k l0 a1 a2 = some true
theorem patchbaylaw02_FrameBack.walk (P : patchbaylaw02_FrameBack.Pure) (a0 : Option Addr) (len0 cap0 : Nat) (z0 : List Int) (a1 : Int) (a2 : Int) (w : World) (w0 : (a0 = none ∧ len0 = 0 ∧ cap0 = 0 ∧ z0 = []) ∨ ∃ x, a0 = some x ∧ len0 ≤ cap0 ∧ cap0 ≤ maxLen ∧ z0.length = cap0 ∧ (∀ i, i < z0.length → w.cell? (x.add i) = some (.int .u8 (z0.getD i 0))) ∧ ∀ n ∈ z0, (Lit.int .u8 n).wf = true) (y0 : len0 * 1 ≤ 140737488351232) (w1 : (Lit.int .i64 a1).wf = true) (w2 : (Lit.int .i64 a2).wf = true) :
    Calls Try.prog 4 #[.slice a0 len0 cap0, .int .i64 a1, .int .i64 a2] w fun e w' => e = .returned (.bool true) ∧ Below w.heap.size w w' := by
  obtain ⟨l0, rfl, hr0, hm0, hw0, hc0⟩ := ReadsInt.ofRowC w0
  obtain ⟨k, h⟩ := P l0 a1 a2 hm0 y0 hw0 w1 w2
  refine (patchbaylaw02_FrameBack.calls k _ _ l0 a1 a2 true w (Kd.C_of_reads (d := (0 : Int)) (h1 := fun _ => rfl) hr0) hc0 h).mono ?_
  rintro e w' ⟨rfl, hd⟩
  exact ⟨rfl, hd⟩

end Go.Proofs.Ytdohdjfclnlpmaa.PFrame
