/- Plain Lean functions of what a law comes to, and their contracts: the machine's call does what they say; no condition. Written by wip/myprint.sh over the kit's print.py. -/
import Derived.Test.YtfgdjljbdghdgaaPVlanx0
import Derived.Test.YtfgdjljbdghdgaaPVlanx14
namespace Go.Proofs.Ytfgdjljbdghdgaa.PVlan
open Go.RowKit Go.Proofs.YtfgdjljbdghdgaaW.PrintWords Go.Proofs.YtfgdjljbdghdgaaW.PrintLast Go.Proofs.YtfgdjljbdghdgaaW.PrintMore
attribute [local go_sem] max2_int min2_int max_two min_two max_three min_three max_four min_four   -- for this text's walks alone
set_option linter.unusedVariables false
set_option linter.unusedSimpArgs false

/-! ### patchbayref03_Check: function 41 -/
mutual
def patchbayref03_Check.j0 : Nat → List (S91) → Int → Bool → Option (Int)
  | 0, _, _, _ => none
  | k + 1, x0, x1, x11 => if x11 = true then (some 5) else (if (x0.length : Int) > 16 then (some 8) else (patchbayref03_Check.l0 k x0 x1 0))
def patchbayref03_Check.l0 : Nat → List (S91) → Int → Int → Option (Int)
  | 0, _, _, _ => none
  | k + 1, x0, x1, x5 => if x5 < (x0.length : Int) then (if 0 ≤ x5 then (if ((rd_T91 x0 x5).f0) < 1 then (patchbayref03_Check.j2 k x0 x1 x5 true) else (if ((rd_T91 x0 x5).f0) > 4094 then (patchbayref03_Check.j2 k x0 x1 x5 true) else (if x5 > 0 then (if 0 ≤ (wrap64 (x5 - 1)) then (if (wrap64 (x5 - 1)) < (x0.length : Int) then (patchbayref03_Check.j2 k x0 x1 x5 (decide (((rd_T91 x0 x5).f0) ≤ ((rd_T91 x0 (wrap64 (x5 - 1))).f0)))) else (none)) else (none)) else (patchbayref03_Check.j2 k x0 x1 x5 false)))) else (none)) else (some 0)
def patchbayref03_Check.j2 : Nat → List (S91) → Int → Int → Bool → Option (Int)
  | 0, _, _, _, _ => none
  | k + 1, x0, x1, x5, x52 => if x52 = true then (some 6) else (if 0 ≤ x5 then (if x5 < (x0.length : Int) then ((patchbayref03_All.f k x1).bind fun t288 => ((patchbayref03_Within.f k ((rd_T91 x0 x5).f1) t288).bind fun t289 => (if t289 = true then ((patchbayref03_Within.f k ((rd_T91 x0 x5).f2) ((rd_T91 x0 x5).f1)).bind fun t292 => (if t292 = true then (patchbayref03_Check.l0 k x0 x1 (wrap64 (x5 + 1))) else (some 1))) else (some 5)))) else (none)) else (none))
end
def patchbayref03_Check.f (k : Nat) (l0 : List (S91)) (a1 : Int) : Option (Int) := if a1 < 2 then (patchbayref03_Check.j0 k l0 a1 true) else (patchbayref03_Check.j0 k l0 a1 (decide (a1 > 64)))
theorem patchbayref03_Check.mono_l : ∀ k, (∀ y0 y1 y2, LeO (patchbayref03_Check.j0 k y0 y1 y2) (patchbayref03_Check.j0 (k + 1) y0 y1 y2)) ∧ (∀ y0 y1 y2, LeO (patchbayref03_Check.l0 k y0 y1 y2) (patchbayref03_Check.l0 (k + 1) y0 y1 y2)) ∧ (∀ y0 y1 y2 y3, LeO (patchbayref03_Check.j2 k y0 y1 y2 y3) (patchbayref03_Check.j2 (k + 1) y0 y1 y2 y3))
  | 0 => ⟨fun _ _ _ r h => by simp [patchbayref03_Check.j0] at h, fun _ _ _ r h => by simp [patchbayref03_Check.l0] at h, fun _ _ _ _ r h => by simp [patchbayref03_Check.j2] at h⟩
  | k + 1 => by
    obtain ⟨ih0, ih1, ih2⟩ := patchbayref03_Check.mono_l k
    refine ⟨?_, ?_, ?_⟩
    · intro y0 y1 y2
      unfold patchbayref03_Check.j0
      repeat' first
      | (with_reducible exact ih0 _ _ _)
      | (with_reducible exact ih1 _ _ _)
      | (with_reducible exact ih2 _ _ _ _)
      | (with_reducible exact patchbayref03_All.mono _ _)
      | (with_reducible exact patchbayref03_Within.mono _ _ _)
      | (with_reducible exact LeO.refl _)
      | (with_reducible exact LeO.none _)
      | (with_reducible refine LeO.ite ?_ ?_)
      | (with_reducible refine LeO.bind ?_ (fun _ => ?_))
      | exact ih0 _ _ _
      | exact ih1 _ _ _
      | exact ih2 _ _ _ _
      | exact patchbayref03_All.mono _ _
      | exact patchbayref03_Within.mono _ _ _
      | exact LeO.none _
      | refine LeO.ite ?_ ?_
      | refine LeO.bind ?_ (fun _ => ?_)
    · intro y0 y1 y2
      unfold patchbayref03_Check.l0
      repeat' first
      | (with_reducible exact ih0 _ _ _)
      | (with_reducible exact ih1 _ _ _)
      | (with_reducible exact ih2 _ _ _ _)
      | (with_reducible exact patchbayref03_All.mono _ _)
      | (with_reducible exact patchbayref03_Within.mono _ _ _)
      | (with_reducible exact LeO.refl _)
      | (with_reducible exact LeO.none _)
      | (with_reducible refine LeO.ite ?_ ?_)
      | (with_reducible refine LeO.bind ?_ (fun _ => ?_))
      | exact ih0 _ _ _
      | exact ih1 _ _ _
      | exact ih2 _ _ _ _
      | exact patchbayref03_All.mono _ _
      | exact patchbayref03_Within.mono _ _ _
      | exact LeO.none _
      | refine LeO.ite ?_ ?_
      | refine LeO.bind ?_ (fun _ => ?_)
    · intro y0 y1 y2 y3
      unfold patchbayref03_Check.j2
      repeat' first
      | (with_reducible exact ih0 _ _ _)
      | (with_reducible exact ih1 _ _ _)
      | (with_reducible exact ih2 _ _ _ _)
      | (with_reducible exact patchbayref03_All.mono _ _)
      | (with_reducible exact patchbayref03_Within.mono _ _ _)
      | (with_reducible exact LeO.refl _)
      | (with_reducible exact LeO.none _)
      | (with_reducible refine LeO.ite ?_ ?_)
      | (with_reducible refine LeO.bind ?_ (fun _ => ?_))
      | exact ih0 _ _ _
      | exact ih1 _ _ _
      | exact ih2 _ _ _ _
      | exact patchbayref03_All.mono _ _
      | exact patchbayref03_Within.mono _ _ _
      | exact LeO.none _
      | refine LeO.ite ?_ ?_
      | refine LeO.bind ?_ (fun _ => ?_)
theorem patchbayref03_Check.mono : ∀ a0 a1 k, LeO (patchbayref03_Check.f k a0 a1) (patchbayref03_Check.f (k + 1) a0 a1) := by
  intro a0 a1 k
  obtain ⟨ih0, ih1, ih2⟩ := patchbayref03_Check.mono_l k
  unfold patchbayref03_Check.f
  repeat' first
      | (with_reducible exact ih0 _ _ _)
      | (with_reducible exact ih1 _ _ _)
      | (with_reducible exact ih2 _ _ _ _)
      | (with_reducible exact patchbayref03_All.mono _ _)
      | (with_reducible exact patchbayref03_Within.mono _ _ _)
      | (with_reducible exact LeO.refl _)
      | (with_reducible exact LeO.none _)
      | (with_reducible refine LeO.ite ?_ ?_)
      | (with_reducible refine LeO.bind ?_ (fun _ => ?_))
      | exact ih0 _ _ _
      | exact ih1 _ _ _
      | exact ih2 _ _ _ _
      | exact patchbayref03_All.mono _ _
      | exact patchbayref03_Within.mono _ _ _
      | exact LeO.none _
      | refine LeO.ite ?_ ?_
      | refine LeO.bind ?_ (fun _ => ?_)
set_option maxHeartbeats 8000000 in
set_option maxRecDepth 100000 in
theorem patchbayref03_Check.calls (k : Nat) (A0 : Option Addr) (c0 : Nat) (l0 : List (S91)) (a1 : Int) (r : Int) (w : World) (hr0 : Kd.C k91 w A0 l0.length l0) (hc0 : l0.length ≤ c0) (h : patchbayref03_Check.f k l0 a1 = some r) :
    Calls Try.prog 41 #[.slice A0 l0.length c0, .int .i64 a1] w fun e w' => e = .returned (.int .i64 r) ∧ Drawn0 w w' := by
  have HR0 := Aside0.mk hr0
  have HC0 := Aside0.mk hc0
  clear hr0 hc0
  have H : (if a1 < 2 then (patchbayref03_Check.j0 k l0 a1 true) else (patchbayref03_Check.j0 k l0 a1 (decide (a1 > 64)))) = some r := h
  clear h
  have HC3 := Aside0.mk H
  clear H
  go_enter Try.func41, Try.ntmps41
  go_upto_region 1 with (fail)
  repeat (go_quiet (fail); go_upto_region 1 with (fail))
  go_cut [11] (fun v11 wc => ∃ (kq : Nat) (x11_2 : Bool), v11 = .bool x11_2 ∧ Aside0 (patchbayref03_Check.j0 kq l0 a1 x11_2 = some r) ∧ Aside0 (kq ≤ k) ∧ Drawn0 w wc)
  case first =>
    have H := HC3.out
    clear HC3
    by_cases c4 : a1 < 2
    · rw [if_pos c4] at H
      have c4b0 : decide (a1 < 2) = true := decide_eq_true c4
      clear c4
      (first | rw [c4b0] | (simp only [i64_w, i32_w]; rw [c4b0]) | skip)
      have H' := Aside0.mk H
      clear H
      go_wp2
      repeat (go_quiet (fail); try go_wp2)
      go_meet
      case rel => exact ⟨_, (true), (by first | rfl | (simp; done) | (simp [*]; done)), H', ⟨by first | omega | exact Nat.le_refl _⟩, by repeat (first | exact Drawn0.refl _ | apply Drawn0.step)⟩
    · rw [if_neg c4] at H
      have c4b0 : decide (a1 < 2) = false := decide_eq_false c4
      clear c4
      (first | rw [c4b0] | (simp only [i64_w, i32_w]; rw [c4b0]) | skip)
      have H' := Aside0.mk H
      clear H
      go_wp2
      repeat (go_quiet (fail); try go_wp2)
      go_meet
      case rel => exact ⟨_, (decide (a1 > 64)), (by first | rfl | (simp; done) | (simp [*]; done)), H', ⟨by first | omega | exact Nat.le_refl _⟩, by repeat (first | exact Drawn0.refl _ | apply Drawn0.step)⟩
  case rest =>
    clear HC3
    try clear p2
    try clear c4
    try clear c4b0
    obtain ⟨kq, x11_2, rfl, HA, HJ2, ⟨mc2, rfl⟩⟩ := hcut
    cases kq with
    | zero => exact absurd HA.out (by simp [patchbayref03_Check.j0])
    | succ kj2 =>
      have H := HA.out
      clear HA
      simp only [patchbayref03_Check.j0] at H
      by_cases c5 : x11_2 = true
      · subst c5
        have H1 : (some 5) = some r := by rw [if_pos rfl] at H; exact H
        clear H
        have H := H1
        clear H1
        obtain rfl := Option.some.inj H
        go_wp2
        repeat (go_quiet (fail); try go_wp2)
        go_ret
        exact ⟨by first | rfl | (simp; done) | (simp [*]; done), by repeat (first | exact Drawn0.refl _ | apply Drawn0.step)⟩
      · replace c5 := Bool.eq_false_iff.mpr c5
        subst c5
        have H1 : (if (l0.length : Int) > 16 then (some 8) else (patchbayref03_Check.l0 kj2 l0 a1 0)) = some r := by rw [if_neg (show ¬ (false = true) by decide)] at H; exact H
        clear H
        have H := H1
        clear H1
        by_cases c6 : (l0.length : Int) > 16
        · rw [if_pos c6] at H
          have c6b0 : decide (16 < (l0.length : Int)) = true := decide_eq_true c6
          have c6b1 : decide (16 < l0.length) = true := decide_eq_true (by omega)
          clear c6
          obtain rfl := Option.some.inj H
          go_wp2
          repeat (go_quiet (fail); try go_wp2)
          go_ret
          exact ⟨by first | rfl | (simp; done) | (simp [*]; done), by repeat (first | exact Drawn0.refl _ | apply Drawn0.step)⟩
        · rw [if_neg c6] at H
          have c6b0 : decide (16 < (l0.length : Int)) = false := decide_eq_false c6
          have c6b1 : decide (16 < l0.length) = false := decide_eq_false (by omega)
          clear c6
          have H' := Aside0.mk H
          clear H
          go_wp2
          repeat (go_quiet (fail); try go_wp2)
          go_loopg [5] kj2 (fun kq v5 w' => ∃ (x5_2 : Int), v5 = .int .i64 x5_2 ∧ Aside0 (patchbayref03_Check.l0 kq l0 a1 x5_2 = some r) ∧ Aside0 (kq ≤ kj2) ∧ Drawn0 w w')
          case atStart => exact ⟨(0), (by first | rfl | (simp; done) | (simp [*]; done)), H', ⟨Nat.le_refl _⟩, by repeat (first | exact Drawn0.refl _ | apply Drawn0.step)⟩
          case round =>
            clear H'
            try clear c2
            try clear p2
            try clear c4
            try clear c4b0
            try clear c5
            try clear c6
            try clear c6b0
            try clear c6b1
            try clear p2
            obtain ⟨x5_2, rfl, HA, HK2, ⟨m2, rfl⟩⟩ := hrel
            cases gk with
            | zero => exact absurd HA.out (by simp [patchbayref03_Check.l0])
            | succ k2 =>
              have H := HA.out
              clear HA
              simp only [patchbayref03_Check.l0] at H
              by_cases c7 : x5_2 < (l0.length : Int)
              · rw [if_pos c7] at H
                have c7b0 : decide (x5_2 < (l0.length : Int)) = true := decide_eq_true c7
                clear c7
                have HC8 := Aside0.mk H
                clear H
                go_upto_region 8 with (fail)
                repeat (go_quiet (fail); go_upto_region 8 with (fail))
                go_cut [52] (fun v52 wc => ∃ (kq : Nat) (x52_7 : Bool), v52 = .bool x52_7 ∧ Aside0 (patchbayref03_Check.j2 kq l0 a1 x5_2 x52_7 = some r) ∧ Aside0 (kq ≤ k2) ∧ Drawn0 w wc)
                case first =>
                  have H := HC8.out
                  clear HC8
                  by_cases c9 : 0 ≤ x5_2
                  · rw [if_pos c9] at H
                    have c9b0 : decide (0 ≤ x5_2) = true := decide_eq_true c9
                    clear c9
                    (first | rw [c9b0] | (simp only [i64_w, i32_w]; rw [c9b0]) | skip)
                    by_cases c10 : ((rd_T91 l0 x5_2).f0) < 1
                    · rw [if_pos c10] at H
                      have c10b0 : decide (((rd_T91 l0 x5_2).f0) < 1) = true := decide_eq_true c10
                      clear c10
                      have H' := Aside0.mk H
                      clear H
                      have p283 : 0 ≤ (x5_2 : Int) := of_decide_eq_true (by first | (with_reducible assumption) | assumption)
                      have q283 : x5_2 < (l0.length : Int) := of_decide_eq_true (by first | (with_reducible assumption) | assumption)
                      obtain ⟨ad283, e283, hx283_0, hx283_1, hx283_2⟩ := at_T91 HR0.out x5_2 p283 q283
                      cases e283
                      replace p283 := eq_true p283
                      replace q283 := eq_true q283
                      go_wp2
                      repeat (go_quiet (fail); try go_wp2)
                      go_meet
                      case rel => exact ⟨_, (true), (by first | rfl | (simp; done) | (simp [*]; done)), H', ⟨by have := HJ2.out; have := HK2.out; first | omega | exact Nat.le_refl _⟩, by repeat (first | exact Drawn0.refl _ | apply Drawn0.step)⟩
                    · rw [if_neg c10] at H
                      have c10b0 : decide (((rd_T91 l0 x5_2).f0) < 1) = false := decide_eq_false c10
                      clear c10
                      by_cases c11 : ((rd_T91 l0 x5_2).f0) > 4094
                      · rw [if_pos c11] at H
                        have c11b0 : decide (4094 < ((rd_T91 l0 x5_2).f0)) = true := decide_eq_true c11
                        clear c11
                        have H' := Aside0.mk H
                        clear H
                        have p283 : 0 ≤ (x5_2 : Int) := of_decide_eq_true (by first | (with_reducible assumption) | assumption)
                        have q283 : x5_2 < (l0.length : Int) := of_decide_eq_true (by first | (with_reducible assumption) | assumption)
                        obtain ⟨ad283, e283, hx283_0, hx283_1, hx283_2⟩ := at_T91 HR0.out x5_2 p283 q283
                        cases e283
                        replace p283 := eq_true p283
                        replace q283 := eq_true q283
                        have p284 : 0 ≤ (x5_2 : Int) := of_decide_eq_true (by first | (with_reducible assumption) | assumption)
                        have q284 : x5_2 < (l0.length : Int) := of_decide_eq_true (by first | (with_reducible assumption) | assumption)
                        obtain ⟨ad284, e284, hx284_0, hx284_1, hx284_2⟩ := at_T91 HR0.out x5_2 p284 q284
                        obtain rfl : ad283 = ad284 := (by injection e284)
                        replace p284 := eq_true p284
                        replace q284 := eq_true q284
                        go_wp2
                        repeat (go_quiet (fail); try go_wp2)
                        go_meet
                        case rel => exact ⟨_, (true), (by first | rfl | (simp; done) | (simp [*]; done)), H', ⟨by have := HJ2.out; have := HK2.out; first | omega | exact Nat.le_refl _⟩, by repeat (first | exact Drawn0.refl _ | apply Drawn0.step)⟩
                      · rw [if_neg c11] at H
                        have c11b0 : decide (4094 < ((rd_T91 l0 x5_2).f0)) = false := decide_eq_false c11
                        clear c11
                        by_cases c12 : x5_2 > 0
                        · rw [if_pos c12] at H
                          have c12b0 : decide (0 < x5_2) = true := decide_eq_true c12
                          clear c12
                          obtain ⟨ji13, hji13⟩ : ∃ j_ : Int, (wrap64 (x5_2 - 1)) = j_ := ⟨_, rfl⟩
                          replace H : (if 0 ≤ (ji13) then (if (ji13) < (l0.length : Int) then (patchbayref03_Check.j2 k2 l0 a1 x5_2 (decide (((rd_T91 l0 x5_2).f0) ≤ ((rd_T91 l0 (ji13)).f0)))) else (none)) else (none)) = some r := by first | (rw [hji13] at H; exact H) | (simp only [hji13] at H ⊢; exact H)
                          have hji13w : (IntKind.i64.wrap (x5_2 - 1)) = ji13 := (i64_w _).trans hji13
                          by_cases c14 : 0 ≤ (ji13)
                          · rw [if_pos c14] at H
                            have c14b0 : decide (0 ≤ (ji13)) = true := decide_eq_true c14
                            clear c14
                            by_cases c15 : (ji13) < (l0.length : Int)
                            · rw [if_pos c15] at H
                              have c15b0 : decide ((ji13) < (l0.length : Int)) = true := decide_eq_true c15
                              clear c15
                              have H' := Aside0.mk H
                              clear H
                              have p283 : 0 ≤ (x5_2 : Int) := of_decide_eq_true (by first | (with_reducible assumption) | assumption)
                              have q283 : x5_2 < (l0.length : Int) := of_decide_eq_true (by first | (with_reducible assumption) | assumption)
                              obtain ⟨ad283, e283, hx283_0, hx283_1, hx283_2⟩ := at_T91 HR0.out x5_2 p283 q283
                              cases e283
                              replace p283 := eq_true p283
                              replace q283 := eq_true q283
                              have p284 : 0 ≤ (x5_2 : Int) := of_decide_eq_true (by first | (with_reducible assumption) | assumption)
                              have q284 : x5_2 < (l0.length : Int) := of_decide_eq_true (by first | (with_reducible assumption) | assumption)
                              obtain ⟨ad284, e284, hx284_0, hx284_1, hx284_2⟩ := at_T91 HR0.out x5_2 p284 q284
                              obtain rfl : ad283 = ad284 := (by injection e284)
                              replace p284 := eq_true p284
                              replace q284 := eq_true q284
                              have p285 : 0 ≤ (x5_2 : Int) := of_decide_eq_true (by first | (with_reducible assumption) | assumption)
                              have q285 : x5_2 < (l0.length : Int) := of_decide_eq_true (by first | (with_reducible assumption) | assumption)
                              obtain ⟨ad285, e285, hx285_0, hx285_1, hx285_2⟩ := at_T91 HR0.out x5_2 p285 q285
                              obtain rfl : ad283 = ad285 := (by injection e285)
                              replace p285 := eq_true p285
                              replace q285 := eq_true q285
                              have p286 : 0 ≤ ((ji13) : Int) := of_decide_eq_true (by first | (with_reducible assumption) | assumption)
                              have q286 : (ji13) < (l0.length : Int) := of_decide_eq_true (by first | (with_reducible assumption) | assumption)
                              obtain ⟨ad286, e286, hx286_0, hx286_1, hx286_2⟩ := at_T91 HR0.out (ji13) p286 q286
                              obtain rfl : ad283 = ad286 := (by injection e286)
                              replace p286 := eq_true p286
                              replace q286 := eq_true q286
                              go_wp2
                              repeat (go_quiet (fail); try go_wp2)
                              go_meet
                              case rel => exact ⟨_, (decide (((rd_T91 l0 x5_2).f0) ≤ ((rd_T91 l0 (ji13)).f0))), (by first | rfl | (simp; done) | (simp only [← hji13] <;> (first | rfl | simp)) | (simp [*]; done)), H', ⟨by have := HJ2.out; have := HK2.out; first | omega | exact Nat.le_refl _⟩, by repeat (first | exact Drawn0.refl _ | apply Drawn0.step)⟩
                            · rw [if_neg c15] at H
                              exact absurd H (by simp)
                          · rw [if_neg c14] at H
                            exact absurd H (by simp)
                        · rw [if_neg c12] at H
                          have c12b0 : decide (0 < x5_2) = false := decide_eq_false c12
                          clear c12
                          have H' := Aside0.mk H
                          clear H
                          have p283 : 0 ≤ (x5_2 : Int) := of_decide_eq_true (by first | (with_reducible assumption) | assumption)
                          have q283 : x5_2 < (l0.length : Int) := of_decide_eq_true (by first | (with_reducible assumption) | assumption)
                          obtain ⟨ad283, e283, hx283_0, hx283_1, hx283_2⟩ := at_T91 HR0.out x5_2 p283 q283
                          cases e283
                          replace p283 := eq_true p283
                          replace q283 := eq_true q283
                          have p284 : 0 ≤ (x5_2 : Int) := of_decide_eq_true (by first | (with_reducible assumption) | assumption)
                          have q284 : x5_2 < (l0.length : Int) := of_decide_eq_true (by first | (with_reducible assumption) | assumption)
                          obtain ⟨ad284, e284, hx284_0, hx284_1, hx284_2⟩ := at_T91 HR0.out x5_2 p284 q284
                          obtain rfl : ad283 = ad284 := (by injection e284)
                          replace p284 := eq_true p284
                          replace q284 := eq_true q284
                          go_wp2
                          repeat (go_quiet (fail); try go_wp2)
                          go_meet
                          case rel => exact ⟨_, (false), (by first | rfl | (simp; done) | (simp [*]; done)), H', ⟨by have := HJ2.out; have := HK2.out; first | omega | exact Nat.le_refl _⟩, by repeat (first | exact Drawn0.refl _ | apply Drawn0.step)⟩
                  · rw [if_neg c9] at H
                    exact absurd H (by simp)
                case rest =>
                  clear HC8
                  try clear c1
                  try clear c2
                  try clear p2
                  try clear q2
                  try clear hx2
                  try clear c4
                  try clear c4b0
                  try clear c5
                  try clear c6
                  try clear c6b0
                  try clear c6b1
                  try clear p6
                  try clear c7
                  try clear c7b0
                  try clear c9
                  try clear c9b0
                  try clear c10
                  try clear c10b0
                  try clear c11
                  try clear c11b0
                  try clear c12
                  try clear c12b0
                  try clear c14
                  try clear c14b0
                  try clear c15
                  try clear c15b0
                  try clear hx283_0
                  try clear hx283_1
                  try clear hx283_2
                  try clear hx284_0
                  try clear hx284_1
                  try clear hx284_2
                  try clear hx285_0
                  try clear hx285_1
                  try clear hx285_2
                  try clear hx286_0
                  try clear hx286_1
                  try clear hx286_2
                  try clear p2
                  try clear p283
                  try clear p284
                  try clear p285
                  try clear p286
                  try clear q283
                  try clear q284
                  try clear q285
                  try clear q286
                  obtain ⟨kq, x52_7, rfl, HA, HJ7, ⟨mc7, rfl⟩⟩ := hcut
                  cases kq with
                  | zero => exact absurd HA.out (by simp [patchbayref03_Check.j2])
                  | succ kj7 =>
                    have H := HA.out
                    clear HA
                    simp only [patchbayref03_Check.j2] at H
                    by_cases c16 : x52_7 = true
                    · subst c16
                      have H1 : (some 6) = some r := by rw [if_pos rfl] at H; exact H
                      clear H
                      have H := H1
                      clear H1
                      obtain rfl := Option.some.inj H
                      go_wp2
                      repeat (go_quiet (fail); try go_wp2)
                      go_ret
                      exact ⟨by first | rfl | (simp; done) | (simp [*]; done), by repeat (first | exact Drawn0.refl _ | apply Drawn0.step)⟩
                    · replace c16 := Bool.eq_false_iff.mpr c16
                      subst c16
                      have H1 : (if 0 ≤ x5_2 then (if x5_2 < (l0.length : Int) then ((patchbayref03_All.f kj7 a1).bind fun t288 => ((patchbayref03_Within.f kj7 ((rd_T91 l0 x5_2).f1) t288).bind fun t289 => (if t289 = true then ((patchbayref03_Within.f kj7 ((rd_T91 l0 x5_2).f2) ((rd_T91 l0 x5_2).f1)).bind fun t292 => (if t292 = true then (patchbayref03_Check.l0 kj7 l0 a1 (wrap64 (x5_2 + 1))) else (some 1))) else (some 5)))) else (none)) else (none)) = some r := by rw [if_neg (show ¬ (false = true) by decide)] at H; exact H
                      clear H
                      have H := H1
                      clear H1
                      by_cases c17 : 0 ≤ x5_2
                      · rw [if_pos c17] at H
                        have c17b0 : decide (0 ≤ x5_2) = true := decide_eq_true c17
                        clear c17
                        by_cases c18 : x5_2 < (l0.length : Int)
                        · rw [if_pos c18] at H
                          have c18b0 : decide (x5_2 < (l0.length : Int)) = true := decide_eq_true c18
                          clear c18
                          replace H := Option.bind_eq_some_iff.mp H
                          obtain ⟨t288, A190, H⟩ := H
                          replace H : ((patchbayref03_Within.f kj7 ((rd_T91 l0 x5_2).f1) t288).bind fun t289 => (if t289 = true then ((patchbayref03_Within.f kj7 ((rd_T91 l0 x5_2).f2) ((rd_T91 l0 x5_2).f1)).bind fun t292 => (if t292 = true then (patchbayref03_Check.l0 kj7 l0 a1 (wrap64 (x5_2 + 1))) else (some 1))) else (some 5))) = some r := H
                          have A19 := Aside0.mk A190
                          clear A190
                          replace H := Option.bind_eq_some_iff.mp H
                          obtain ⟨t289, A200, H⟩ := H
                          replace H : (if t289 = true then ((patchbayref03_Within.f kj7 ((rd_T91 l0 x5_2).f2) ((rd_T91 l0 x5_2).f1)).bind fun t292 => (if t292 = true then (patchbayref03_Check.l0 kj7 l0 a1 (wrap64 (x5_2 + 1))) else (some 1))) else (some 5)) = some r := H
                          have A20 := Aside0.mk A200
                          clear A200
                          by_cases c21 : t289 = true
                          · subst c21
                            have H1 : ((patchbayref03_Within.f kj7 ((rd_T91 l0 x5_2).f2) ((rd_T91 l0 x5_2).f1)).bind fun t292 => (if t292 = true then (patchbayref03_Check.l0 kj7 l0 a1 (wrap64 (x5_2 + 1))) else (some 1))) = some r := by rw [if_pos rfl] at H; exact H
                            clear H
                            have H := H1
                            clear H1
                            replace H := Option.bind_eq_some_iff.mp H
                            obtain ⟨t292, A220, H⟩ := H
                            replace H : (if t292 = true then (patchbayref03_Check.l0 kj7 l0 a1 (wrap64 (x5_2 + 1))) else (some 1)) = some r := H
                            have A22 := Aside0.mk A220
                            clear A220
                            by_cases c23 : t292 = true
                            · subst c23
                              have H1 : (patchbayref03_Check.l0 kj7 l0 a1 (wrap64 (x5_2 + 1))) = some r := by rw [if_pos rfl] at H; exact H
                              clear H
                              have H := H1
                              clear H1
                              have H' := Aside0.mk H
                              clear H
                              have p287 : 0 ≤ (x5_2 : Int) := of_decide_eq_true (by first | (with_reducible assumption) | assumption)
                              have q287 : x5_2 < (l0.length : Int) := of_decide_eq_true (by first | (with_reducible assumption) | assumption)
                              obtain ⟨ad287, e287, hx287_0, hx287_1, hx287_2⟩ := at_T91 HR0.out x5_2 p287 q287
                              cases e287
                              replace p287 := eq_true p287
                              replace q287 := eq_true q287
                              go_wp2_with (first | (go_at_call 61; (with_reducible refine (patchbayref03_All.calls kj7 a1 t288 _ A19.out).mono ?_); rintro e w' ⟨rfl, ⟨nd, rfl⟩⟩; (try first | exact ⟨rfl, _, World.drewN_drewN _ _ _⟩ | exact ⟨rfl, _, Eq.trans (World.drewN_drewN _ _ _) (congrArg (World.drewN _) (Nat.add_assoc _ _ _))⟩)) | (go_at_call 60; (with_reducible refine (patchbayref03_Within.calls kj7 ((rd_T91 l0 x5_2).f1) t288 true _ A20.out).mono ?_); rintro e w' ⟨rfl, ⟨nd, rfl⟩⟩; (try first | exact ⟨rfl, _, World.drewN_drewN _ _ _⟩ | exact ⟨rfl, _, Eq.trans (World.drewN_drewN _ _ _) (congrArg (World.drewN _) (Nat.add_assoc _ _ _))⟩); have p290 : 0 ≤ (x5_2 : Int) := of_decide_eq_true (by first | (with_reducible assumption) | assumption); have q290 : x5_2 < (l0.length : Int) := of_decide_eq_true (by first | (with_reducible assumption) | assumption); obtain ⟨ad290, e290, hx290_0, hx290_1, hx290_2⟩ := at_T91 HR0.out x5_2 p290 q290; obtain rfl : ad287 = ad290 := (by injection e290); replace p290 := eq_true p290; replace q290 := eq_true q290; have p291 : 0 ≤ (x5_2 : Int) := of_decide_eq_true (by first | (with_reducible assumption) | assumption); have q291 : x5_2 < (l0.length : Int) := of_decide_eq_true (by first | (with_reducible assumption) | assumption); obtain ⟨ad291, e291, hx291_0, hx291_1, hx291_2⟩ := at_T91 HR0.out x5_2 p291 q291; obtain rfl : ad287 = ad291 := (by injection e291); replace p291 := eq_true p291; replace q291 := eq_true q291) | (go_at_call 60; (with_reducible refine (patchbayref03_Within.calls kj7 ((rd_T91 l0 x5_2).f2) ((rd_T91 l0 x5_2).f1) true _ A22.out).mono ?_); rintro e w' ⟨rfl, ⟨nd, rfl⟩⟩; (try first | exact ⟨rfl, _, World.drewN_drewN _ _ _⟩ | exact ⟨rfl, _, Eq.trans (World.drewN_drewN _ _ _) (congrArg (World.drewN _) (Nat.add_assoc _ _ _))⟩)))
                              repeat (go_quiet (first | (go_at_call 61; (with_reducible refine (patchbayref03_All.calls kj7 a1 t288 _ A19.out).mono ?_); rintro e w' ⟨rfl, ⟨nd, rfl⟩⟩; (try first | exact ⟨rfl, _, World.drewN_drewN _ _ _⟩ | exact ⟨rfl, _, Eq.trans (World.drewN_drewN _ _ _) (congrArg (World.drewN _) (Nat.add_assoc _ _ _))⟩)) | (go_at_call 60; (with_reducible refine (patchbayref03_Within.calls kj7 ((rd_T91 l0 x5_2).f1) t288 true _ A20.out).mono ?_); rintro e w' ⟨rfl, ⟨nd, rfl⟩⟩; (try first | exact ⟨rfl, _, World.drewN_drewN _ _ _⟩ | exact ⟨rfl, _, Eq.trans (World.drewN_drewN _ _ _) (congrArg (World.drewN _) (Nat.add_assoc _ _ _))⟩); have p290 : 0 ≤ (x5_2 : Int) := of_decide_eq_true (by first | (with_reducible assumption) | assumption); have q290 : x5_2 < (l0.length : Int) := of_decide_eq_true (by first | (with_reducible assumption) | assumption); obtain ⟨ad290, e290, hx290_0, hx290_1, hx290_2⟩ := at_T91 HR0.out x5_2 p290 q290; obtain rfl : ad287 = ad290 := (by injection e290); replace p290 := eq_true p290; replace q290 := eq_true q290; have p291 : 0 ≤ (x5_2 : Int) := of_decide_eq_true (by first | (with_reducible assumption) | assumption); have q291 : x5_2 < (l0.length : Int) := of_decide_eq_true (by first | (with_reducible assumption) | assumption); obtain ⟨ad291, e291, hx291_0, hx291_1, hx291_2⟩ := at_T91 HR0.out x5_2 p291 q291; obtain rfl : ad287 = ad291 := (by injection e291); replace p291 := eq_true p291; replace q291 := eq_true q291) | (go_at_call 60; (with_reducible refine (patchbayref03_Within.calls kj7 ((rd_T91 l0 x5_2).f2) ((rd_T91 l0 x5_2).f1) true _ A22.out).mono ?_); rintro e w' ⟨rfl, ⟨nd, rfl⟩⟩; (try first | exact ⟨rfl, _, World.drewN_drewN _ _ _⟩ | exact ⟨rfl, _, Eq.trans (World.drewN_drewN _ _ _) (congrArg (World.drewN _) (Nat.add_assoc _ _ _))⟩))); try go_wp2_with (first | (go_at_call 61; (with_reducible refine (patchbayref03_All.calls kj7 a1 t288 _ A19.out).mono ?_); rintro e w' ⟨rfl, ⟨nd, rfl⟩⟩; (try first | exact ⟨rfl, _, World.drewN_drewN _ _ _⟩ | exact ⟨rfl, _, Eq.trans (World.drewN_drewN _ _ _) (congrArg (World.drewN _) (Nat.add_assoc _ _ _))⟩)) | (go_at_call 60; (with_reducible refine (patchbayref03_Within.calls kj7 ((rd_T91 l0 x5_2).f1) t288 true _ A20.out).mono ?_); rintro e w' ⟨rfl, ⟨nd, rfl⟩⟩; (try first | exact ⟨rfl, _, World.drewN_drewN _ _ _⟩ | exact ⟨rfl, _, Eq.trans (World.drewN_drewN _ _ _) (congrArg (World.drewN _) (Nat.add_assoc _ _ _))⟩); have p290 : 0 ≤ (x5_2 : Int) := of_decide_eq_true (by first | (with_reducible assumption) | assumption); have q290 : x5_2 < (l0.length : Int) := of_decide_eq_true (by first | (with_reducible assumption) | assumption); obtain ⟨ad290, e290, hx290_0, hx290_1, hx290_2⟩ := at_T91 HR0.out x5_2 p290 q290; obtain rfl : ad287 = ad290 := (by injection e290); replace p290 := eq_true p290; replace q290 := eq_true q290; have p291 : 0 ≤ (x5_2 : Int) := of_decide_eq_true (by first | (with_reducible assumption) | assumption); have q291 : x5_2 < (l0.length : Int) := of_decide_eq_true (by first | (with_reducible assumption) | assumption); obtain ⟨ad291, e291, hx291_0, hx291_1, hx291_2⟩ := at_T91 HR0.out x5_2 p291 q291; obtain rfl : ad287 = ad291 := (by injection e291); replace p291 := eq_true p291; replace q291 := eq_true q291) | (go_at_call 60; (with_reducible refine (patchbayref03_Within.calls kj7 ((rd_T91 l0 x5_2).f2) ((rd_T91 l0 x5_2).f1) true _ A22.out).mono ?_); rintro e w' ⟨rfl, ⟨nd, rfl⟩⟩; (try first | exact ⟨rfl, _, World.drewN_drewN _ _ _⟩ | exact ⟨rfl, _, Eq.trans (World.drewN_drewN _ _ _) (congrArg (World.drewN _) (Nat.add_assoc _ _ _))⟩))))
                              go_roundg kj7
                              case measure => have := HJ2.out; have := HK2.out; have := HJ7.out; omega
                              case rel => exact ⟨(wrap64 (x5_2 + 1)), (by first | rfl | (simp; done) | (simp [*]; done)), H', ⟨by have := HJ2.out; have := HK2.out; have := HJ7.out; omega⟩, by repeat (first | exact Drawn0.refl _ | apply Drawn0.step)⟩
                            · replace c23 := Bool.eq_false_iff.mpr c23
                              subst c23
                              have H1 : (some 1) = some r := by rw [if_neg (show ¬ (false = true) by decide)] at H; exact H
                              clear H
                              have H := H1
                              clear H1
                              obtain rfl := Option.some.inj H
                              have p287 : 0 ≤ (x5_2 : Int) := of_decide_eq_true (by first | (with_reducible assumption) | assumption)
                              have q287 : x5_2 < (l0.length : Int) := of_decide_eq_true (by first | (with_reducible assumption) | assumption)
                              obtain ⟨ad287, e287, hx287_0, hx287_1, hx287_2⟩ := at_T91 HR0.out x5_2 p287 q287
                              cases e287
                              replace p287 := eq_true p287
                              replace q287 := eq_true q287
                              go_wp2_with (first | (go_at_call 61; (with_reducible refine (patchbayref03_All.calls kj7 a1 t288 _ A19.out).mono ?_); rintro e w' ⟨rfl, ⟨nd, rfl⟩⟩; (try first | exact ⟨rfl, _, World.drewN_drewN _ _ _⟩ | exact ⟨rfl, _, Eq.trans (World.drewN_drewN _ _ _) (congrArg (World.drewN _) (Nat.add_assoc _ _ _))⟩)) | (go_at_call 60; (with_reducible refine (patchbayref03_Within.calls kj7 ((rd_T91 l0 x5_2).f1) t288 true _ A20.out).mono ?_); rintro e w' ⟨rfl, ⟨nd, rfl⟩⟩; (try first | exact ⟨rfl, _, World.drewN_drewN _ _ _⟩ | exact ⟨rfl, _, Eq.trans (World.drewN_drewN _ _ _) (congrArg (World.drewN _) (Nat.add_assoc _ _ _))⟩); have p290 : 0 ≤ (x5_2 : Int) := of_decide_eq_true (by first | (with_reducible assumption) | assumption); have q290 : x5_2 < (l0.length : Int) := of_decide_eq_true (by first | (with_reducible assumption) | assumption); obtain ⟨ad290, e290, hx290_0, hx290_1, hx290_2⟩ := at_T91 HR0.out x5_2 p290 q290; obtain rfl : ad287 = ad290 := (by injection e290); replace p290 := eq_true p290; replace q290 := eq_true q290; have p291 : 0 ≤ (x5_2 : Int) := of_decide_eq_true (by first | (with_reducible assumption) | assumption); have q291 : x5_2 < (l0.length : Int) := of_decide_eq_true (by first | (with_reducible assumption) | assumption); obtain ⟨ad291, e291, hx291_0, hx291_1, hx291_2⟩ := at_T91 HR0.out x5_2 p291 q291; obtain rfl : ad287 = ad291 := (by injection e291); replace p291 := eq_true p291; replace q291 := eq_true q291) | (go_at_call 60; (with_reducible refine (patchbayref03_Within.calls kj7 ((rd_T91 l0 x5_2).f2) ((rd_T91 l0 x5_2).f1) false _ A22.out).mono ?_); rintro e w' ⟨rfl, ⟨nd, rfl⟩⟩; (try first | exact ⟨rfl, _, World.drewN_drewN _ _ _⟩ | exact ⟨rfl, _, Eq.trans (World.drewN_drewN _ _ _) (congrArg (World.drewN _) (Nat.add_assoc _ _ _))⟩)))
                              repeat (go_quiet (first | (go_at_call 61; (with_reducible refine (patchbayref03_All.calls kj7 a1 t288 _ A19.out).mono ?_); rintro e w' ⟨rfl, ⟨nd, rfl⟩⟩; (try first | exact ⟨rfl, _, World.drewN_drewN _ _ _⟩ | exact ⟨rfl, _, Eq.trans (World.drewN_drewN _ _ _) (congrArg (World.drewN _) (Nat.add_assoc _ _ _))⟩)) | (go_at_call 60; (with_reducible refine (patchbayref03_Within.calls kj7 ((rd_T91 l0 x5_2).f1) t288 true _ A20.out).mono ?_); rintro e w' ⟨rfl, ⟨nd, rfl⟩⟩; (try first | exact ⟨rfl, _, World.drewN_drewN _ _ _⟩ | exact ⟨rfl, _, Eq.trans (World.drewN_drewN _ _ _) (congrArg (World.drewN _) (Nat.add_assoc _ _ _))⟩); have p290 : 0 ≤ (x5_2 : Int) := of_decide_eq_true (by first | (with_reducible assumption) | assumption); have q290 : x5_2 < (l0.length : Int) := of_decide_eq_true (by first | (with_reducible assumption) | assumption); obtain ⟨ad290, e290, hx290_0, hx290_1, hx290_2⟩ := at_T91 HR0.out x5_2 p290 q290; obtain rfl : ad287 = ad290 := (by injection e290); replace p290 := eq_true p290; replace q290 := eq_true q290; have p291 : 0 ≤ (x5_2 : Int) := of_decide_eq_true (by first | (with_reducible assumption) | assumption); have q291 : x5_2 < (l0.length : Int) := of_decide_eq_true (by first | (with_reducible assumption) | assumption); obtain ⟨ad291, e291, hx291_0, hx291_1, hx291_2⟩ := at_T91 HR0.out x5_2 p291 q291; obtain rfl : ad287 = ad291 := (by injection e291); replace p291 := eq_true p291; replace q291 := eq_true q291) | (go_at_call 60; (with_reducible refine (patchbayref03_Within.calls kj7 ((rd_T91 l0 x5_2).f2) ((rd_T91 l0 x5_2).f1) false _ A22.out).mono ?_); rintro e w' ⟨rfl, ⟨nd, rfl⟩⟩; (try first | exact ⟨rfl, _, World.drewN_drewN _ _ _⟩ | exact ⟨rfl, _, Eq.trans (World.drewN_drewN _ _ _) (congrArg (World.drewN _) (Nat.add_assoc _ _ _))⟩))); try go_wp2_with (first | (go_at_call 61; (with_reducible refine (patchbayref03_All.calls kj7 a1 t288 _ A19.out).mono ?_); rintro e w' ⟨rfl, ⟨nd, rfl⟩⟩; (try first | exact ⟨rfl, _, World.drewN_drewN _ _ _⟩ | exact ⟨rfl, _, Eq.trans (World.drewN_drewN _ _ _) (congrArg (World.drewN _) (Nat.add_assoc _ _ _))⟩)) | (go_at_call 60; (with_reducible refine (patchbayref03_Within.calls kj7 ((rd_T91 l0 x5_2).f1) t288 true _ A20.out).mono ?_); rintro e w' ⟨rfl, ⟨nd, rfl⟩⟩; (try first | exact ⟨rfl, _, World.drewN_drewN _ _ _⟩ | exact ⟨rfl, _, Eq.trans (World.drewN_drewN _ _ _) (congrArg (World.drewN _) (Nat.add_assoc _ _ _))⟩); have p290 : 0 ≤ (x5_2 : Int) := of_decide_eq_true (by first | (with_reducible assumption) | assumption); have q290 : x5_2 < (l0.length : Int) := of_decide_eq_true (by first | (with_reducible assumption) | assumption); obtain ⟨ad290, e290, hx290_0, hx290_1, hx290_2⟩ := at_T91 HR0.out x5_2 p290 q290; obtain rfl : ad287 = ad290 := (by injection e290); replace p290 := eq_true p290; replace q290 := eq_true q290; have p291 : 0 ≤ (x5_2 : Int) := of_decide_eq_true (by first | (with_reducible assumption) | assumption); have q291 : x5_2 < (l0.length : Int) := of_decide_eq_true (by first | (with_reducible assumption) | assumption); obtain ⟨ad291, e291, hx291_0, hx291_1, hx291_2⟩ := at_T91 HR0.out x5_2 p291 q291; obtain rfl : ad287 = ad291 := (by injection e291); replace p291 := eq_true p291; replace q291 := eq_true q291) | (go_at_call 60; (with_reducible refine (patchbayref03_Within.calls kj7 ((rd_T91 l0 x5_2).f2) ((rd_T91 l0 x5_2).f1) false _ A22.out).mono ?_); rintro e w' ⟨rfl, ⟨nd, rfl⟩⟩; (try first | exact ⟨rfl, _, World.drewN_drewN _ _ _⟩ | exact ⟨rfl, _, Eq.trans (World.drewN_drewN _ _ _) (congrArg (World.drewN _) (Nat.add_assoc _ _ _))⟩))))
                              go_ret
                              exact ⟨by first | rfl | (simp; done) | (simp [*]; done), by repeat (first | exact Drawn0.refl _ | apply Drawn0.step)⟩
                          · replace c21 := Bool.eq_false_iff.mpr c21
                            subst c21
                            have H1 : (some 5) = some r := by rw [if_neg (show ¬ (false = true) by decide)] at H; exact H
                            clear H
                            have H := H1
                            clear H1
                            obtain rfl := Option.some.inj H
                            have p287 : 0 ≤ (x5_2 : Int) := of_decide_eq_true (by first | (with_reducible assumption) | assumption)
                            have q287 : x5_2 < (l0.length : Int) := of_decide_eq_true (by first | (with_reducible assumption) | assumption)
                            obtain ⟨ad287, e287, hx287_0, hx287_1, hx287_2⟩ := at_T91 HR0.out x5_2 p287 q287
                            cases e287
                            replace p287 := eq_true p287
                            replace q287 := eq_true q287
                            go_wp2_with (first | (go_at_call 61; (with_reducible refine (patchbayref03_All.calls kj7 a1 t288 _ A19.out).mono ?_); rintro e w' ⟨rfl, ⟨nd, rfl⟩⟩; (try first | exact ⟨rfl, _, World.drewN_drewN _ _ _⟩ | exact ⟨rfl, _, Eq.trans (World.drewN_drewN _ _ _) (congrArg (World.drewN _) (Nat.add_assoc _ _ _))⟩)) | (go_at_call 60; (with_reducible refine (patchbayref03_Within.calls kj7 ((rd_T91 l0 x5_2).f1) t288 false _ A20.out).mono ?_); rintro e w' ⟨rfl, ⟨nd, rfl⟩⟩; (try first | exact ⟨rfl, _, World.drewN_drewN _ _ _⟩ | exact ⟨rfl, _, Eq.trans (World.drewN_drewN _ _ _) (congrArg (World.drewN _) (Nat.add_assoc _ _ _))⟩)))
                            repeat (go_quiet (first | (go_at_call 61; (with_reducible refine (patchbayref03_All.calls kj7 a1 t288 _ A19.out).mono ?_); rintro e w' ⟨rfl, ⟨nd, rfl⟩⟩; (try first | exact ⟨rfl, _, World.drewN_drewN _ _ _⟩ | exact ⟨rfl, _, Eq.trans (World.drewN_drewN _ _ _) (congrArg (World.drewN _) (Nat.add_assoc _ _ _))⟩)) | (go_at_call 60; (with_reducible refine (patchbayref03_Within.calls kj7 ((rd_T91 l0 x5_2).f1) t288 false _ A20.out).mono ?_); rintro e w' ⟨rfl, ⟨nd, rfl⟩⟩; (try first | exact ⟨rfl, _, World.drewN_drewN _ _ _⟩ | exact ⟨rfl, _, Eq.trans (World.drewN_drewN _ _ _) (congrArg (World.drewN _) (Nat.add_assoc _ _ _))⟩))); try go_wp2_with (first | (go_at_call 61; (with_reducible refine (patchbayref03_All.calls kj7 a1 t288 _ A19.out).mono ?_); rintro e w' ⟨rfl, ⟨nd, rfl⟩⟩; (try first | exact ⟨rfl, _, World.drewN_drewN _ _ _⟩ | exact ⟨rfl, _, Eq.trans (World.drewN_drewN _ _ _) (congrArg (World.drewN _) (Nat.add_assoc _ _ _))⟩)) | (go_at_call 60; (with_reducible refine (patchbayref03_Within.calls kj7 ((rd_T91 l0 x5_2).f1) t288 false _ A20.out).mono ?_); rintro e w' ⟨rfl, ⟨nd, rfl⟩⟩; (try first | exact ⟨rfl, _, World.drewN_drewN _ _ _⟩ | exact ⟨rfl, _, Eq.trans (World.drewN_drewN _ _ _) (congrArg (World.drewN _) (Nat.add_assoc _ _ _))⟩))))
                            go_ret
                            exact ⟨by first | rfl | (simp; done) | (simp [*]; done), by repeat (first | exact Drawn0.refl _ | apply Drawn0.step)⟩
                        · rw [if_neg c18] at H
                          exact absurd H (by simp)
                      · rw [if_neg c17] at H
                        exact absurd H (by simp)
              · rw [if_neg c7] at H
                have c7b0 : decide (x5_2 < (l0.length : Int)) = false := decide_eq_false c7
                clear c7
                obtain rfl := Option.some.inj H
                go_wp2
                repeat (go_quiet (fail); try go_wp2)
                go_ret
                exact ⟨by first | rfl | (simp; done) | (simp [*]; done), by repeat (first | exact Drawn0.refl _ | apply Drawn0.step)⟩

end Go.Proofs.Ytfgdjljbdghdgaa.PVlan
