/- Plain Lean functions of what a law comes to, and their contracts: the machine's call does what they say; no condition. Written by wip/myprint.sh over the kit's print.py. -/
import Derived.Test.YtfgdjljbdghdgaaPVlanx0
import Derived.Test.YtfgdjljbdghdgaaPVlanx11
namespace Go.Proofs.Ytfgdjljbdghdgaa.PVlan
open Go.RowKit Go.Proofs.YtfgdjljbdghdgaaW.PrintWords Go.Proofs.YtfgdjljbdghdgaaW.PrintLast Go.Proofs.YtfgdjljbdghdgaaW.PrintMore
attribute [local go_sem] max2_int min2_int max_two min_two max_three min_three max_four min_four   -- for this text's walks alone
set_option linter.unusedVariables false
set_option linter.unusedSimpArgs false

/-! ### patchbayref03_Within: function 60 -/
def patchbayref03_Within.l0 : Nat → Int → Int → Int → Option (Bool)
  | 0, _, _, _ => none
  | k + 1, x0, x1, x5 => if x5 < 64 then ((patchbayref03_Has.f k x0 x5).bind fun t278 => (if t278 = true then ((patchbayref03_Has.f k x1 x5).bind fun t279 => (if t279 = true then (patchbayref03_Within.l0 k x0 x1 (wrap64 (x5 + 1))) else (some false))) else (patchbayref03_Within.l0 k x0 x1 (wrap64 (x5 + 1))))) else (some true)
def patchbayref03_Within.f (k : Nat) (a0 : Int) (a1 : Int) : Option (Bool) := patchbayref03_Within.l0 k a0 a1 0
theorem patchbayref03_Within.mono_l : ∀ k, (∀ y0 y1 y2, LeO (patchbayref03_Within.l0 k y0 y1 y2) (patchbayref03_Within.l0 (k + 1) y0 y1 y2))
  | 0 => fun _ _ _ r h => by simp [patchbayref03_Within.l0] at h
  | k + 1 => by
    have ih0 := patchbayref03_Within.mono_l k
    · intro y0 y1 y2
      unfold patchbayref03_Within.l0
      repeat' first
      | (with_reducible exact ih0 _ _ _)
      | (with_reducible exact patchbayref03_Has.mono _ _ _)
      | (with_reducible exact LeO.refl _)
      | (with_reducible exact LeO.none _)
      | (with_reducible refine LeO.ite ?_ ?_)
      | (with_reducible refine LeO.bind ?_ (fun _ => ?_))
      | exact ih0 _ _ _
      | exact patchbayref03_Has.mono _ _ _
      | exact LeO.none _
      | refine LeO.ite ?_ ?_
      | refine LeO.bind ?_ (fun _ => ?_)
theorem patchbayref03_Within.mono : ∀ a0 a1 k, LeO (patchbayref03_Within.f k a0 a1) (patchbayref03_Within.f (k + 1) a0 a1) := by
  intro a0 a1 k
  have ih0 := patchbayref03_Within.mono_l k
  unfold patchbayref03_Within.f
  repeat' first
      | (with_reducible exact ih0 _ _ _)
      | (with_reducible exact patchbayref03_Has.mono _ _ _)
      | (with_reducible exact LeO.refl _)
      | (with_reducible exact LeO.none _)
      | (with_reducible refine LeO.ite ?_ ?_)
      | (with_reducible refine LeO.bind ?_ (fun _ => ?_))
      | exact ih0 _ _ _
      | exact patchbayref03_Has.mono _ _ _
      | exact LeO.none _
      | refine LeO.ite ?_ ?_
      | refine LeO.bind ?_ (fun _ => ?_)
set_option maxHeartbeats 8000000 in
set_option maxRecDepth 100000 in
theorem patchbayref03_Within.calls (k : Nat) (a0 : Int) (a1 : Int) (r : Bool) (w : World) (h : patchbayref03_Within.f k a0 a1 = some r) :
    Calls Try.prog 60 #[.int .u64 a0, .int .u64 a1] w fun e w' => e = .returned (.bool r) ∧ Drawn0 w w' := by
  have H : (patchbayref03_Within.l0 k a0 a1 0) = some r := h
  clear h
  have H' := Aside0.mk H
  clear H
  go_enter Try.func60, Try.ntmps60
  go_wp2
  go_loopg [5] k (fun kq v5 w' => ∃ (x5_1 : Int), v5 = .int .i64 x5_1 ∧ Aside0 (patchbayref03_Within.l0 kq a0 a1 x5_1 = some r) ∧ Aside0 (kq ≤ k) ∧ Drawn0 w w')
  case atStart => exact ⟨(0), (by first | rfl | (simp; done) | (simp [*]; done)), H', ⟨Nat.le_refl _⟩, by repeat (first | exact Drawn0.refl _ | apply Drawn0.step)⟩
  case round =>
    clear H'
    try clear p2
    obtain ⟨x5_1, rfl, HA, HK1, ⟨m1, rfl⟩⟩ := hrel
    cases gk with
    | zero => exact absurd HA.out (by simp [patchbayref03_Within.l0])
    | succ k1 =>
      have H := HA.out
      clear HA
      simp only [patchbayref03_Within.l0] at H
      by_cases c3 : x5_1 < 64
      · rw [if_pos c3] at H
        have c3b0 : decide (x5_1 < 64) = true := decide_eq_true c3
        clear c3
        replace H := Option.bind_eq_some_iff.mp H
        obtain ⟨t278, A40, H⟩ := H
        replace H : (if t278 = true then ((patchbayref03_Has.f k1 a1 x5_1).bind fun t279 => (if t279 = true then (patchbayref03_Within.l0 k1 a0 a1 (wrap64 (x5_1 + 1))) else (some false))) else (patchbayref03_Within.l0 k1 a0 a1 (wrap64 (x5_1 + 1)))) = some r := H
        have A4 := Aside0.mk A40
        clear A40
        by_cases c5 : t278 = true
        · subst c5
          have H1 : ((patchbayref03_Has.f k1 a1 x5_1).bind fun t279 => (if t279 = true then (patchbayref03_Within.l0 k1 a0 a1 (wrap64 (x5_1 + 1))) else (some false))) = some r := by rw [if_pos rfl] at H; exact H
          clear H
          have H := H1
          clear H1
          replace H := Option.bind_eq_some_iff.mp H
          obtain ⟨t279, A60, H⟩ := H
          replace H : (if t279 = true then (patchbayref03_Within.l0 k1 a0 a1 (wrap64 (x5_1 + 1))) else (some false)) = some r := H
          have A6 := Aside0.mk A60
          clear A60
          by_cases c7 : t279 = true
          · subst c7
            have H1 : (patchbayref03_Within.l0 k1 a0 a1 (wrap64 (x5_1 + 1))) = some r := by rw [if_pos rfl] at H; exact H
            clear H
            have H := H1
            clear H1
            have H' := Aside0.mk H
            clear H
            go_wp2_with (first | ((with_reducible refine gate_callee (f := 36) rfl ?_); refine goesL_ (some 12) rfl rfl Try.func36 (by kernel_rfl) rfl #[.int .u64 a0, .int .i64 x5_1] rfl (by (try simp only [List.map_toArray, List.map_cons, List.map_nil]); first | done | rfl | (simp only [List.length_drop, List.length_take]; rfl)) ?_; (with_reducible refine (patchbayref03_Has.calls k1 a0 x5_1 true _ A4.out).mono ?_); rintro e w' ⟨rfl, ⟨nd, rfl⟩⟩; refine ⟨_, rfl, ?_⟩) | (go_at_call 36; (with_reducible refine (patchbayref03_Has.calls k1 a1 x5_1 true _ A6.out).mono ?_); rintro e w' ⟨rfl, ⟨nd, rfl⟩⟩))
            go_roundg k1
            case measure => have := HK1.out; omega
            case rel => exact ⟨(wrap64 (x5_1 + 1)), (by first | rfl | (simp; done) | (simp [*]; done)), H', ⟨by have := HK1.out; omega⟩, by repeat (first | exact Drawn0.refl _ | apply Drawn0.step)⟩
          · replace c7 := Bool.eq_false_iff.mpr c7
            subst c7
            have H1 : (some false) = some r := by rw [if_neg (show ¬ (false = true) by decide)] at H; exact H
            clear H
            have H := H1
            clear H1
            obtain rfl := Option.some.inj H
            go_wp2_with (first | ((with_reducible refine gate_callee (f := 36) rfl ?_); refine goesL_ (some 12) rfl rfl Try.func36 (by kernel_rfl) rfl #[.int .u64 a0, .int .i64 x5_1] rfl (by (try simp only [List.map_toArray, List.map_cons, List.map_nil]); first | done | rfl | (simp only [List.length_drop, List.length_take]; rfl)) ?_; (with_reducible refine (patchbayref03_Has.calls k1 a0 x5_1 true _ A4.out).mono ?_); rintro e w' ⟨rfl, ⟨nd, rfl⟩⟩; refine ⟨_, rfl, ?_⟩) | (go_at_call 36; (with_reducible refine (patchbayref03_Has.calls k1 a1 x5_1 false _ A6.out).mono ?_); rintro e w' ⟨rfl, ⟨nd, rfl⟩⟩))
            go_ret
            exact ⟨by first | rfl | (simp; done) | (simp [*]; done), by repeat (first | exact Drawn0.refl _ | apply Drawn0.step)⟩
        · replace c5 := Bool.eq_false_iff.mpr c5
          subst c5
          have H1 : (patchbayref03_Within.l0 k1 a0 a1 (wrap64 (x5_1 + 1))) = some r := by rw [if_neg (show ¬ (false = true) by decide)] at H; exact H
          clear H
          have H := H1
          clear H1
          have H' := Aside0.mk H
          clear H
          go_wp2_with (first | ((with_reducible refine gate_callee (f := 36) rfl ?_); refine goesL_ (some 12) rfl rfl Try.func36 (by kernel_rfl) rfl #[.int .u64 a0, .int .i64 x5_1] rfl (by (try simp only [List.map_toArray, List.map_cons, List.map_nil]); first | done | rfl | (simp only [List.length_drop, List.length_take]; rfl)) ?_; (with_reducible refine (patchbayref03_Has.calls k1 a0 x5_1 false _ A4.out).mono ?_); rintro e w' ⟨rfl, ⟨nd, rfl⟩⟩; refine ⟨_, rfl, ?_⟩))
          go_roundg k1
          case measure => have := HK1.out; omega
          case rel => exact ⟨(wrap64 (x5_1 + 1)), (by first | rfl | (simp; done) | (simp [*]; done)), H', ⟨by have := HK1.out; omega⟩, by repeat (first | exact Drawn0.refl _ | apply Drawn0.step)⟩
      · rw [if_neg c3] at H
        have c3b0 : decide (x5_1 < 64) = false := decide_eq_false c3
        clear c3
        obtain rfl := Option.some.inj H
        go_wp2
        go_ret
        exact ⟨by first | rfl | (simp; done) | (simp [*]; done), by repeat (first | exact Drawn0.refl _ | apply Drawn0.step)⟩

/-! ### patchbayref03_With: function 75 -/
def patchbayref03_With.f (k : Nat) (a0 : Int) (a1 : Int) : Option (Int) := if a1 < 0 then (some a0) else (if a1 > 63 then (some a0) else ((patchbayref03_Has.f k a0 a1).bind fun t280 => (if t280 = true then (some a0) else ((patchbayref03_bit.f k a1).bind fun t281 => (some (IntKind.u64.wrap (a0 + t281)))))))
theorem patchbayref03_With.mono : ∀ a0 a1 k, LeO (patchbayref03_With.f k a0 a1) (patchbayref03_With.f (k + 1) a0 a1) := by
  intro a0 a1 k
  unfold patchbayref03_With.f
  repeat' first
      | (with_reducible exact patchbayref03_Has.mono _ _ _)
      | (with_reducible exact patchbayref03_bit.mono _ _)
      | (with_reducible exact LeO.refl _)
      | (with_reducible exact LeO.none _)
      | (with_reducible refine LeO.ite ?_ ?_)
      | (with_reducible refine LeO.bind ?_ (fun _ => ?_))
      | exact patchbayref03_Has.mono _ _ _
      | exact patchbayref03_bit.mono _ _
      | exact LeO.none _
      | refine LeO.ite ?_ ?_
      | refine LeO.bind ?_ (fun _ => ?_)
set_option maxHeartbeats 8000000 in
set_option maxRecDepth 100000 in
theorem patchbayref03_With.calls (k : Nat) (a0 : Int) (a1 : Int) (r : Int) (w : World) (h : patchbayref03_With.f k a0 a1 = some r) :
    Calls Try.prog 75 #[.int .u64 a0, .int .i64 a1] w fun e w' => e = .returned (.int .u64 r) ∧ Drawn0 w w' := by
  have H : (if a1 < 0 then (some a0) else (if a1 > 63 then (some a0) else ((patchbayref03_Has.f k a0 a1).bind fun t280 => (if t280 = true then (some a0) else ((patchbayref03_bit.f k a1).bind fun t281 => (some (IntKind.u64.wrap (a0 + t281)))))))) = some r := h
  clear h
  by_cases c3 : a1 < 0
  · rw [if_pos c3] at H
    have c3b0 : decide (a1 < 0) = true := decide_eq_true c3
    clear c3
    obtain rfl := Option.some.inj H
    go_enter Try.func75, Try.ntmps75
    go_wp2
    go_ret
    exact ⟨by first | rfl | (simp; done) | (simp [*]; done), by repeat (first | exact Drawn0.refl _ | apply Drawn0.step)⟩
  · rw [if_neg c3] at H
    have c3b0 : decide (a1 < 0) = false := decide_eq_false c3
    clear c3
    by_cases c4 : a1 > 63
    · rw [if_pos c4] at H
      have c4b0 : decide (63 < a1) = true := decide_eq_true c4
      clear c4
      obtain rfl := Option.some.inj H
      go_enter Try.func75, Try.ntmps75
      go_wp2
      go_ret
      exact ⟨by first | rfl | (simp; done) | (simp [*]; done), by repeat (first | exact Drawn0.refl _ | apply Drawn0.step)⟩
    · rw [if_neg c4] at H
      have c4b0 : decide (63 < a1) = false := decide_eq_false c4
      clear c4
      replace H := Option.bind_eq_some_iff.mp H
      obtain ⟨t280, A50, H⟩ := H
      replace H : (if t280 = true then (some a0) else ((patchbayref03_bit.f k a1).bind fun t281 => (some (IntKind.u64.wrap (a0 + t281))))) = some r := H
      have A5 := Aside0.mk A50
      clear A50
      by_cases c6 : t280 = true
      · subst c6
        have H1 : (some a0) = some r := by rw [if_pos rfl] at H; exact H
        clear H
        have H := H1
        clear H1
        obtain rfl := Option.some.inj H
        go_enter Try.func75, Try.ntmps75
        go_wp2_with (first | (go_at_call 36; (with_reducible refine (patchbayref03_Has.calls k a0 a1 true _ A5.out).mono ?_); rintro e w' ⟨rfl, ⟨nd, rfl⟩⟩))
        go_ret
        exact ⟨by first | rfl | (simp; done) | (simp [*]; done), by repeat (first | exact Drawn0.refl _ | apply Drawn0.step)⟩
      · replace c6 := Bool.eq_false_iff.mpr c6
        subst c6
        have H1 : ((patchbayref03_bit.f k a1).bind fun t281 => (some (IntKind.u64.wrap (a0 + t281)))) = some r := by rw [if_neg (show ¬ (false = true) by decide)] at H; exact H
        clear H
        have H := H1
        clear H1
        replace H := Option.bind_eq_some_iff.mp H
        obtain ⟨t281, A70, H⟩ := H
        replace H : (some (IntKind.u64.wrap (a0 + t281))) = some r := H
        have A7 := Aside0.mk A70
        clear A70
        obtain rfl := Option.some.inj H
        go_enter Try.func75, Try.ntmps75
        go_wp2_with (first | (go_at_call 36; (with_reducible refine (patchbayref03_Has.calls k a0 a1 false _ A5.out).mono ?_); rintro e w' ⟨rfl, ⟨nd, rfl⟩⟩) | ((with_reducible refine gate_callee (f := 56) rfl ?_); refine goesL_ (some 19) rfl rfl Try.func56 (by kernel_rfl) rfl #[.int .i64 a1] rfl (by (try simp only [List.map_toArray, List.map_cons, List.map_nil]); first | done | rfl | (simp only [List.length_drop, List.length_take]; rfl)) ?_; (with_reducible refine (patchbayref03_bit.calls k a1 t281 _ A7.out).mono ?_); rintro e w' ⟨rfl, ⟨nd, rfl⟩⟩; refine ⟨_, rfl, ?_⟩))
        go_ret
        exact ⟨by first | rfl | (simp; done) | (simp [*]; done), by repeat (first | exact Drawn0.refl _ | apply Drawn0.step)⟩

/-! ### patchbayref03_All: function 61 -/
def patchbayref03_All.l0 : Nat → Int → Int → Int → Option (Int)
  | 0, _, _, _ => none
  | k + 1, x0, x3, x4 => if x4 < x0 then (if x4 < 64 then ((patchbayref03_With.f k x3 x4).bind fun t282 => (patchbayref03_All.l0 k x0 t282 (wrap64 (x4 + 1)))) else (some x3)) else (some x3)
def patchbayref03_All.f (k : Nat) (a0 : Int) : Option (Int) := patchbayref03_All.l0 k a0 0 0
theorem patchbayref03_All.mono_l : ∀ k, (∀ y0 y1 y2, LeO (patchbayref03_All.l0 k y0 y1 y2) (patchbayref03_All.l0 (k + 1) y0 y1 y2))
  | 0 => fun _ _ _ r h => by simp [patchbayref03_All.l0] at h
  | k + 1 => by
    have ih0 := patchbayref03_All.mono_l k
    · intro y0 y1 y2
      unfold patchbayref03_All.l0
      repeat' first
      | (with_reducible exact ih0 _ _ _)
      | (with_reducible exact patchbayref03_With.mono _ _ _)
      | (with_reducible exact LeO.refl _)
      | (with_reducible exact LeO.none _)
      | (with_reducible refine LeO.ite ?_ ?_)
      | (with_reducible refine LeO.bind ?_ (fun _ => ?_))
      | exact ih0 _ _ _
      | exact patchbayref03_With.mono _ _ _
      | exact LeO.none _
      | refine LeO.ite ?_ ?_
      | refine LeO.bind ?_ (fun _ => ?_)
theorem patchbayref03_All.mono : ∀ a0 k, LeO (patchbayref03_All.f k a0) (patchbayref03_All.f (k + 1) a0) := by
  intro a0 k
  have ih0 := patchbayref03_All.mono_l k
  unfold patchbayref03_All.f
  repeat' first
      | (with_reducible exact ih0 _ _ _)
      | (with_reducible exact patchbayref03_With.mono _ _ _)
      | (with_reducible exact LeO.refl _)
      | (with_reducible exact LeO.none _)
      | (with_reducible refine LeO.ite ?_ ?_)
      | (with_reducible refine LeO.bind ?_ (fun _ => ?_))
      | exact ih0 _ _ _
      | exact patchbayref03_With.mono _ _ _
      | exact LeO.none _
      | refine LeO.ite ?_ ?_
      | refine LeO.bind ?_ (fun _ => ?_)
set_option maxHeartbeats 8000000 in
set_option maxRecDepth 100000 in
theorem patchbayref03_All.calls (k : Nat) (a0 : Int) (r : Int) (w : World) (h : patchbayref03_All.f k a0 = some r) :
    Calls Try.prog 61 #[.int .i64 a0] w fun e w' => e = .returned (.int .u64 r) ∧ Drawn0 w w' := by
  have H : (patchbayref03_All.l0 k a0 0 0) = some r := h
  clear h
  have H' := Aside0.mk H
  clear H
  go_enter Try.func61, Try.ntmps61
  go_wp2
  go_loopg [3, 4] k (fun kq v3 v4 w' => ∃ (x3_1 : Int) (x4_1 : Int), v3 = .int .u64 x3_1 ∧ v4 = .int .i64 x4_1 ∧ Aside0 (patchbayref03_All.l0 kq a0 x3_1 x4_1 = some r) ∧ Aside0 (kq ≤ k) ∧ Drawn0 w w')
  case atStart => exact ⟨(0), (0), (by first | rfl | (simp; done) | (simp [*]; done)), (by first | rfl | (simp; done) | (simp [*]; done)), H', ⟨Nat.le_refl _⟩, by repeat (first | exact Drawn0.refl _ | apply Drawn0.step)⟩
  case round =>
    clear H'
    obtain ⟨x3_1, x4_1, rfl, rfl, HA, HK1, ⟨m1, rfl⟩⟩ := hrel
    cases gk with
    | zero => exact absurd HA.out (by simp [patchbayref03_All.l0])
    | succ k1 =>
      have H := HA.out
      clear HA
      simp only [patchbayref03_All.l0] at H
      by_cases c2 : x4_1 < a0
      · rw [if_pos c2] at H
        have c2b0 : decide (x4_1 < a0) = true := decide_eq_true c2
        clear c2
        by_cases c3 : x4_1 < 64
        · rw [if_pos c3] at H
          have c3b0 : decide (x4_1 < 64) = true := decide_eq_true c3
          clear c3
          replace H := Option.bind_eq_some_iff.mp H
          obtain ⟨t282, A40, H⟩ := H
          replace H : (patchbayref03_All.l0 k1 a0 t282 (wrap64 (x4_1 + 1))) = some r := H
          have A4 := Aside0.mk A40
          clear A40
          have H' := Aside0.mk H
          clear H
          go_wp2_with (first | ((with_reducible refine gate_callee (f := 75) rfl ?_); refine goesL_ (some 16) rfl rfl Try.func75 (by kernel_rfl) rfl #[.int .u64 x3_1, .int .i64 x4_1] rfl (by (try simp only [List.map_toArray, List.map_cons, List.map_nil]); first | done | rfl | (simp only [List.length_drop, List.length_take]; rfl)) ?_; (with_reducible refine (patchbayref03_With.calls k1 x3_1 x4_1 t282 _ A4.out).mono ?_); rintro e w' ⟨rfl, ⟨nd, rfl⟩⟩; refine ⟨_, rfl, ?_⟩))
          go_roundg k1
          case measure => have := HK1.out; omega
          case rel => exact ⟨(t282), (wrap64 (x4_1 + 1)), (by first | rfl | (simp; done) | (simp [*]; done)), (by first | rfl | (simp; done) | (simp [*]; done)), H', ⟨by have := HK1.out; omega⟩, by repeat (first | exact Drawn0.refl _ | apply Drawn0.step)⟩
        · rw [if_neg c3] at H
          have c3b0 : decide (x4_1 < 64) = false := decide_eq_false c3
          clear c3
          obtain rfl := Option.some.inj H
          go_wp2
          go_ret
          exact ⟨by first | rfl | (simp; done) | (simp [*]; done), by repeat (first | exact Drawn0.refl _ | apply Drawn0.step)⟩
      · rw [if_neg c2] at H
        have c2b0 : decide (x4_1 < a0) = false := decide_eq_false c2
        clear c2
        obtain rfl := Option.some.inj H
        go_wp2
        go_ret
        exact ⟨by first | rfl | (simp; done) | (simp [*]; done), by repeat (first | exact Drawn0.refl _ | apply Drawn0.step)⟩

end Go.Proofs.Ytfgdjljbdghdgaa.PVlan
