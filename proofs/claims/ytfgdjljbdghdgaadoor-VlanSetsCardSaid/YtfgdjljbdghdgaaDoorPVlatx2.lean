/- Plain Lean functions of what a law comes to, and their contracts: the machine's call does what they say; no condition. Written by wip/myprint.sh over the kit's print.py. -/
import Derived.Test.YtfgdjljbdghdgaaDoorPVlatx0
namespace Go.Proofs.YtfgdjljbdghdgaaDoor.PVlat
open Go.RowKit Go.Proofs.YtfgdjljbdghdgaaDoorW.PrintWords Go.Proofs.YtfgdjljbdghdgaaDoorW.PrintLast Go.Proofs.YtfgdjljbdghdgaaDoorW.PrintMore
attribute [local go_sem] max2_int min2_int max_two min_two max_three min_three max_four min_four   -- for this text's walks alone
set_option linter.unusedVariables false
set_option linter.unusedSimpArgs false

/-! ### mac_Of: function 33 -/
def mac_Of.l0 : Nat → Int → List Int → Int → Int → Option (Int × Int)
  | 0, _, _, _, _ => none
  | k + 1, x4, x11, x12, x13 => if x13 < x12 then (if 0 ≤ x13 then (if x13 < (x11.length : Int) then (mac_Of.l0 k (Go.bits .or .u64 (IntKind.u64.wrap (x4 * 256)) (IntKind.u64.wrap (rd x11 x13))) x11 x12 (wrap64 (x13 + 1))) else (none)) else (none)) else (some (x4, 0))
def mac_Of.f (k : Nat) (l0 : List Int) : Option (Int × Int) := if (l0.length : Int) < 6 then (some (0, 2)) else (if 6 ≤ (l0.length : Int) then (mac_Of.l0 k 0 (l0.take 6) ((l0.take 6).length : Int) 0) else (none))
theorem mac_Of.mono_l : ∀ k, (∀ y0 y1 y2 y3, LeO (mac_Of.l0 k y0 y1 y2 y3) (mac_Of.l0 (k + 1) y0 y1 y2 y3))
  | 0 => fun _ _ _ _ r h => by simp [mac_Of.l0] at h
  | k + 1 => by
    have ih0 := mac_Of.mono_l k
    · intro y0 y1 y2 y3
      unfold mac_Of.l0
      repeat' first
      | (with_reducible exact ih0 _ _ _ _)
      | (with_reducible exact LeO.refl _)
      | (with_reducible exact LeO.none _)
      | (with_reducible refine LeO.ite ?_ ?_)
      | (with_reducible refine LeO.bind ?_ (fun _ => ?_))
      | exact ih0 _ _ _ _
      | exact LeO.none _
      | refine LeO.ite ?_ ?_
      | refine LeO.bind ?_ (fun _ => ?_)
theorem mac_Of.mono : ∀ a0 k, LeO (mac_Of.f k a0) (mac_Of.f (k + 1) a0) := by
  intro a0 k
  have ih0 := mac_Of.mono_l k
  unfold mac_Of.f
  repeat' first
      | (with_reducible exact ih0 _ _ _ _)
      | (with_reducible exact LeO.refl _)
      | (with_reducible exact LeO.none _)
      | (with_reducible refine LeO.ite ?_ ?_)
      | (with_reducible refine LeO.bind ?_ (fun _ => ?_))
      | exact ih0 _ _ _ _
      | exact LeO.none _
      | refine LeO.ite ?_ ?_
      | refine LeO.bind ?_ (fun _ => ?_)
set_option maxHeartbeats 8000000 in
set_option maxRecDepth 100000 in
theorem mac_Of.calls (k : Nat) (A0 : Option Addr) (c0 : Nat) (l0 : List Int) (r1 : Int) (r2 : Int) (w : World) (hr0 : Kd.C (Kd.int .u8) w A0 l0.length l0) (hc0 : l0.length ≤ c0) (h : mac_Of.f k l0 = some (r1, r2)) :
    Calls Tryd.prog 33 #[.slice A0 l0.length c0] w fun e w' => e = .returned (.tuple #[.int .u64 r1, .int .i64 r2]) ∧ Drawn0 w w' := by
  have HR0 := Aside0.mk hr0
  have HC0 := Aside0.mk hc0
  clear hr0 hc0
  have H : (if (l0.length : Int) < 6 then (some (0, 2)) else (if 6 ≤ (l0.length : Int) then (mac_Of.l0 k 0 (l0.take 6) ((l0.take 6).length : Int) 0) else (none))) = some (r1, r2) := h
  clear h
  by_cases c2 : (l0.length : Int) < 6
  · rw [if_pos c2] at H
    have c2b0 : decide ((l0.length : Int) < 6) = true := decide_eq_true c2
    have c2b1 : decide (l0.length < 6) = true := decide_eq_true (by omega)
    clear c2
    simp only [Option.some.injEq, Prod.mk.injEq] at H
    obtain ⟨rfl, rfl⟩ := H
    go_enter Tryd.func33, Tryd.ntmps33
    go_wp2
    go_ret2
    exact ⟨by first | rfl | (simp; done) | (simp [*]; done), by repeat (first | exact Drawn0.refl _ | apply Drawn0.step)⟩
  · rw [if_neg c2] at H
    have c2b0 : decide ((l0.length : Int) < 6) = false := decide_eq_false c2
    have c2b1 : decide (l0.length < 6) = false := decide_eq_false (by omega)
    clear c2
    by_cases c3 : 6 ≤ (l0.length : Int)
    · rw [if_pos c3] at H
      have c3b0 := eq_true c3
      have c3b1 : decide (6 ≤ (l0.length : Int)) = true := decide_eq_true c3
      clear c3
      have H' := Aside0.mk H
      clear H
      obtain ⟨i04, hi04, _, hsz4, _⟩ := info_parts info5
      obtain ⟨hcut4, hA4, hC4⟩ := print_take_of (P := Tryd.prog) (Value.int .u8) 0 37 5 .i64 Tryd.underlying37 hi04 hsz4 A0 c0 l0 6 (by omega) (of_decide_eq_true (by first | (with_reducible assumption) | assumption)) HC0.out
      have HR118 := Aside0.mk (Kd.C_of_reads (h1 := fun _ => rfl) (hA4 _ (Kd.reads_of_C HR0.out)))
      have HC118 := Aside0.mk hC4
      clear hA4 hC4 hi04 hsz4
      go_enter Tryd.func33, Tryd.ntmps33
      go_wp2
      go_loopg [4, 13] k (fun kq v4 v13 w' => ∃ (x4_1 : Int) (x13_1 : Int), v4 = .int .u64 x4_1 ∧ v13 = .int .i64 x13_1 ∧ Aside0 (mac_Of.l0 kq x4_1 (l0.take 6) ((l0.take 6).length : Int) x13_1 = some (r1, r2)) ∧ Aside0 (kq ≤ k) ∧ Drawn0 w w')
      case atStart => exact ⟨(0), (0), (by first | rfl | (simp; done) | (simp [*]; done)), (by first | rfl | (simp; done) | (simp [*]; done)), H', ⟨Nat.le_refl _⟩, by repeat (first | exact Drawn0.refl _ | apply Drawn0.step)⟩
      case round =>
        clear H'
        try clear c2
        try clear c2b0
        try clear c2b1
        try clear p2
        try clear c3
        try clear c3b0
        try clear c3b1
        obtain ⟨x4_1, x13_1, rfl, rfl, HA, HK1, ⟨m1, rfl⟩⟩ := hrel
        cases gk with
        | zero => exact absurd HA.out (by simp [mac_Of.l0])
        | succ k1 =>
          have H := HA.out
          clear HA
          simp only [mac_Of.l0] at H
          by_cases c5 : x13_1 < ((l0.take 6).length : Int)
          · rw [if_pos c5] at H
            have c5b0 : decide (x13_1 < ((l0.take 6).length : Int)) = true := decide_eq_true c5
            have c5b0m : decide (x13_1 < ((min 6 l0.length : Nat) : Int)) = true := by rw [← List.length_take]; exact c5b0
            clear c5
            by_cases c6 : 0 ≤ x13_1
            · rw [if_pos c6] at H
              have c6b0 : decide (0 ≤ x13_1) = true := decide_eq_true c6
              clear c6
              by_cases c7 : x13_1 < ((l0.take 6).length : Int)
              · rw [if_pos c7] at H
                have c7b0 : decide (x13_1 < ((l0.take 6).length : Int)) = true := decide_eq_true c7
                have c7b0m : decide (x13_1 < ((min 6 l0.length : Nat) : Int)) = true := by rw [← List.length_take]; exact c7b0
                clear c7
                have H' := Aside0.mk H
                clear H
                have p119 : 0 ≤ (x13_1 : Int) := of_decide_eq_true (by first | (with_reducible assumption) | assumption)
                have q119 : x13_1 < ((l0.take 6).length : Int) := of_decide_eq_true (by first | (with_reducible assumption) | assumption)
                obtain ⟨ad119, e119, hx119_0⟩ := Kd.at_int HR118.out x13_1 p119 q119
                cases e119
                replace p119 := eq_true p119
                have q119m : (x13_1 < ((min 6 l0.length : Nat) : Int)) = True := by rw [← List.length_take]; exact eq_true q119
                replace q119 := eq_true q119
                go_wp2
                go_roundg k1
                case measure => have := HK1.out; omega
                case rel => exact ⟨(Go.bits .or .u64 (IntKind.u64.wrap (x4_1 * 256)) (IntKind.u64.wrap (rd (l0.take 6) x13_1))), (wrap64 (x13_1 + 1)), (by first | rfl | (simp; done) | (simp [*]; done)), (by first | rfl | (simp; done) | (simp [*]; done)), H', ⟨by have := HK1.out; omega⟩, by repeat (first | exact Drawn0.refl _ | apply Drawn0.step)⟩
              · rw [if_neg c7] at H
                exact absurd H (by simp)
            · rw [if_neg c6] at H
              exact absurd H (by simp)
          · rw [if_neg c5] at H
            have c5b0 : decide (x13_1 < ((l0.take 6).length : Int)) = false := decide_eq_false c5
            have c5b0m : decide (x13_1 < ((min 6 l0.length : Nat) : Int)) = false := by rw [← List.length_take]; exact c5b0
            clear c5
            simp only [Option.some.injEq, Prod.mk.injEq] at H
            obtain ⟨rfl, rfl⟩ := H
            go_wp2
            go_ret2
            exact ⟨by first | rfl | (simp; done) | (simp [*]; done), by repeat (first | exact Drawn0.refl _ | apply Drawn0.step)⟩
    · rw [if_neg c3] at H
      exact absurd H (by simp)

end Go.Proofs.YtfgdjljbdghdgaaDoor.PVlat
