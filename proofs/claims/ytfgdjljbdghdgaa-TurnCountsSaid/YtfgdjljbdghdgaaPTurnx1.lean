/- Plain Lean functions of what a law comes to, and their contracts: the machine's call does what they say; no condition. Written by wip/myprint.sh over the kit's print.py. -/
import Derived.Test.YtfgdjljbdghdgaaPTurnx0
namespace Go.Proofs.Ytfgdjljbdghdgaa.PTurn
open Go.RowKit Go.Proofs.YtfgdjljbdghdgaaW.PrintWords Go.Proofs.YtfgdjljbdghdgaaW.PrintLast Go.Proofs.YtfgdjljbdghdgaaW.PrintMore
attribute [local go_sem] max2_int min2_int max_two min_two max_three min_three max_four min_four   -- for this text's walks alone
set_option linter.unusedVariables false
set_option linter.unusedSimpArgs false

/-! ### turn_Who: function 14 -/
def turn_Who.f (a0 : Int) (a1 : Int) : Option (Int) := if a1 < 1 then (some (-1)) else (if (IntKind.u64.wrap (a1)) = 0 then (none) else (some (wrap64 (Int.tmod (IntKind.u64.wrap (a0)) (IntKind.u64.wrap (a1))))))
set_option maxHeartbeats 8000000 in
set_option maxRecDepth 100000 in
theorem turn_Who.calls (a0 : Int) (a1 : Int) (r : Int) (w : World) (h : turn_Who.f a0 a1 = some r) :
    Calls Try.prog 14 #[.int .i64 a0, .int .i64 a1] w fun e w' => e = .returned (.int .i64 r) ∧ Drawn0 w w' := by
  have H : (if a1 < 1 then (some (-1)) else (if (IntKind.u64.wrap (a1)) = 0 then (none) else (some (wrap64 (Int.tmod (IntKind.u64.wrap (a0)) (IntKind.u64.wrap (a1))))))) = some r := h
  clear h
  by_cases c3 : a1 < 1
  · rw [if_pos c3] at H
    have c3b0 : decide (a1 < 1) = true := decide_eq_true c3
    clear c3
    obtain rfl := Option.some.inj H
    go_enter Try.func14, Try.ntmps14
    go_wp2
    go_ret
    exact ⟨by first | rfl | (simp; done) | (simp [*]; done), by repeat (first | exact Drawn0.refl _ | apply Drawn0.step)⟩
  · rw [if_neg c3] at H
    have c3b0 : decide (a1 < 1) = false := decide_eq_false c3
    clear c3
    by_cases c4 : (IntKind.u64.wrap (a1)) = 0
    · rw [if_pos c4] at H
      exact absurd H (by simp)
    · rw [if_neg c4] at H
      have c4b0 : ((IntKind.u64.wrap (a1)) == 0) = false := beq_eq_false_iff_ne.mpr c4
      have c4b1 : ((IntKind.u64.wrap (a1)) != 0) = true := bne_iff_ne.mpr c4
      obtain rfl := Option.some.inj H
      go_enter Try.func14, Try.ntmps14
      go_wp2
      go_ret
      exact ⟨by first | rfl | (simp; done) | (simp [*]; done), by repeat (first | exact Drawn0.refl _ | apply Drawn0.step)⟩

/-! ### patchbaylaw03_Ints: function 18 -/
def patchbaylaw03_Ints.l0 : Nat → List Int → List Int → Int → Option (Bool)
  | 0, _, _, _ => none
  | k + 1, x0, x1, x5 => if x5 < (x0.length : Int) then (if 0 ≤ x5 then (if x5 < (x1.length : Int) then (if (rd x0 x5) = (rd x1 x5) then (patchbaylaw03_Ints.l0 k x0 x1 (wrap64 (x5 + 1))) else (some false)) else (none)) else (none)) else (some true)
def patchbaylaw03_Ints.f (k : Nat) (l0 : List Int) (l1 : List Int) : Option (Bool) := if (l0.length : Int) = (l1.length : Int) then (patchbaylaw03_Ints.l0 k l0 l1 0) else (some false)
theorem patchbaylaw03_Ints.mono_l : ∀ k, (∀ y0 y1 y2, LeO (patchbaylaw03_Ints.l0 k y0 y1 y2) (patchbaylaw03_Ints.l0 (k + 1) y0 y1 y2))
  | 0 => fun _ _ _ r h => by simp [patchbaylaw03_Ints.l0] at h
  | k + 1 => by
    have ih0 := patchbaylaw03_Ints.mono_l k
    · intro y0 y1 y2
      unfold patchbaylaw03_Ints.l0
      repeat' first
      | (with_reducible exact ih0 _ _ _)
      | (with_reducible exact LeO.refl _)
      | (with_reducible exact LeO.none _)
      | (with_reducible refine LeO.ite ?_ ?_)
      | (with_reducible refine LeO.bind ?_ (fun _ => ?_))
      | exact ih0 _ _ _
      | exact LeO.none _
      | refine LeO.ite ?_ ?_
      | refine LeO.bind ?_ (fun _ => ?_)
theorem patchbaylaw03_Ints.mono : ∀ a0 a1 k, LeO (patchbaylaw03_Ints.f k a0 a1) (patchbaylaw03_Ints.f (k + 1) a0 a1) := by
  intro a0 a1 k
  have ih0 := patchbaylaw03_Ints.mono_l k
  unfold patchbaylaw03_Ints.f
  repeat' first
      | (with_reducible exact ih0 _ _ _)
      | (with_reducible exact LeO.refl _)
      | (with_reducible exact LeO.none _)
      | (with_reducible refine LeO.ite ?_ ?_)
      | (with_reducible refine LeO.bind ?_ (fun _ => ?_))
      | exact ih0 _ _ _
      | exact LeO.none _
      | refine LeO.ite ?_ ?_
      | refine LeO.bind ?_ (fun _ => ?_)
set_option maxHeartbeats 8000000 in
set_option maxRecDepth 100000 in
theorem patchbaylaw03_Ints.calls (k : Nat) (A0 : Option Addr) (c0 : Nat) (l0 : List Int) (A1 : Option Addr) (c1 : Nat) (l1 : List Int) (r : Bool) (w : World) (hr0 : Kd.C (Kd.int .i64) w A0 l0.length l0) (hc0 : l0.length ≤ c0) (hr1 : Kd.C (Kd.int .i64) w A1 l1.length l1) (hc1 : l1.length ≤ c1) (h : patchbaylaw03_Ints.f k l0 l1 = some r) :
    Calls Try.prog 18 #[.slice A0 l0.length c0, .slice A1 l1.length c1] w fun e w' => e = .returned (.bool r) ∧ Drawn0 w w' := by
  have HR0 := Aside0.mk hr0
  have HC0 := Aside0.mk hc0
  clear hr0 hc0
  have HR1 := Aside0.mk hr1
  have HC1 := Aside0.mk hc1
  clear hr1 hc1
  have H : (if (l0.length : Int) = (l1.length : Int) then (patchbaylaw03_Ints.l0 k l0 l1 0) else (some false)) = some r := h
  clear h
  by_cases c3 : (l0.length : Int) = (l1.length : Int)
  · rw [if_pos c3] at H
    have c3b0 : ((l0.length : Int) == (l1.length : Int)) = true := beq_iff_eq.mpr c3
    have c3b1 : ((l0.length : Int) != (l1.length : Int)) = false := bne_eq_false_iff_eq.mpr c3
    have c3b2 : (l0.length == l1.length) = true := by first | simpa using c3 | (simp at c3 ⊢; omega)
    clear c3
    have H' := Aside0.mk H
    clear H
    go_enter Try.func18, Try.ntmps18
    go_wp2
    repeat (go_quiet (fail); try go_wp2)
    go_loopg [5] k (fun kq v5 w' => ∃ (x5_1 : Int), v5 = .int .i64 x5_1 ∧ Aside0 (patchbaylaw03_Ints.l0 kq l0 l1 x5_1 = some r) ∧ Aside0 (kq ≤ k) ∧ Drawn0 w w')
    case atStart => exact ⟨(0), (by first | rfl | (simp; done) | (simp [*]; done)), H', ⟨Nat.le_refl _⟩, by repeat (first | exact Drawn0.refl _ | apply Drawn0.step)⟩
    case round =>
      clear H'
      try clear c1
      try clear p2
      try clear c3
      try clear c3b0
      try clear c3b1
      try clear c3b2
      obtain ⟨x5_1, rfl, HA, HK1, ⟨m1, rfl⟩⟩ := hrel
      cases gk with
      | zero => exact absurd HA.out (by simp [patchbaylaw03_Ints.l0])
      | succ k1 =>
        have H := HA.out
        clear HA
        simp only [patchbaylaw03_Ints.l0] at H
        by_cases c4 : x5_1 < (l0.length : Int)
        · rw [if_pos c4] at H
          have c4b0 : decide (x5_1 < (l0.length : Int)) = true := decide_eq_true c4
          clear c4
          by_cases c5 : 0 ≤ x5_1
          · rw [if_pos c5] at H
            have c5b0 : decide (0 ≤ x5_1) = true := decide_eq_true c5
            clear c5
            by_cases c6 : x5_1 < (l1.length : Int)
            · rw [if_pos c6] at H
              have c6b0 : decide (x5_1 < (l1.length : Int)) = true := decide_eq_true c6
              clear c6
              by_cases c7 : (rd l0 x5_1) = (rd l1 x5_1)
              · rw [if_pos c7] at H
                have c7b0 : ((rd l0 x5_1) == (rd l1 x5_1)) = true := beq_iff_eq.mpr c7
                have c7b1 : ((rd l0 x5_1) != (rd l1 x5_1)) = false := bne_eq_false_iff_eq.mpr c7
                clear c7
                have H' := Aside0.mk H
                clear H
                have p101 : 0 ≤ (x5_1 : Int) := of_decide_eq_true (by first | (with_reducible assumption) | assumption)
                have q101 : x5_1 < (l0.length : Int) := of_decide_eq_true (by first | (with_reducible assumption) | assumption)
                obtain ⟨ad101, e101, hx101_0⟩ := Kd.at_int HR0.out x5_1 p101 q101
                cases e101
                replace p101 := eq_true p101
                replace q101 := eq_true q101
                have p102 : 0 ≤ (x5_1 : Int) := of_decide_eq_true (by first | (with_reducible assumption) | assumption)
                have q102 : x5_1 < (l1.length : Int) := of_decide_eq_true (by first | (with_reducible assumption) | assumption)
                obtain ⟨ad102, e102, hx102_0⟩ := Kd.at_int HR1.out x5_1 p102 q102
                cases e102
                replace p102 := eq_true p102
                replace q102 := eq_true q102
                go_wp2
                repeat (go_quiet (fail); try go_wp2)
                go_roundg k1
                case measure => have := HK1.out; omega
                case rel => exact ⟨(wrap64 (x5_1 + 1)), (by first | rfl | (simp; done) | (simp [*]; done)), H', ⟨by have := HK1.out; omega⟩, by repeat (first | exact Drawn0.refl _ | apply Drawn0.step)⟩
              · rw [if_neg c7] at H
                have c7b0 : ((rd l0 x5_1) == (rd l1 x5_1)) = false := beq_eq_false_iff_ne.mpr c7
                have c7b1 : ((rd l0 x5_1) != (rd l1 x5_1)) = true := bne_iff_ne.mpr c7
                obtain rfl := Option.some.inj H
                have p101 : 0 ≤ (x5_1 : Int) := of_decide_eq_true (by first | (with_reducible assumption) | assumption)
                have q101 : x5_1 < (l0.length : Int) := of_decide_eq_true (by first | (with_reducible assumption) | assumption)
                obtain ⟨ad101, e101, hx101_0⟩ := Kd.at_int HR0.out x5_1 p101 q101
                cases e101
                replace p101 := eq_true p101
                replace q101 := eq_true q101
                have p102 : 0 ≤ (x5_1 : Int) := of_decide_eq_true (by first | (with_reducible assumption) | assumption)
                have q102 : x5_1 < (l1.length : Int) := of_decide_eq_true (by first | (with_reducible assumption) | assumption)
                obtain ⟨ad102, e102, hx102_0⟩ := Kd.at_int HR1.out x5_1 p102 q102
                cases e102
                replace p102 := eq_true p102
                replace q102 := eq_true q102
                go_wp2
                repeat (go_quiet (fail); try go_wp2)
                go_ret
                exact ⟨by first | rfl | (simp; done) | (simp [*]; done), by repeat (first | exact Drawn0.refl _ | apply Drawn0.step)⟩
            · rw [if_neg c6] at H
              exact absurd H (by simp)
          · rw [if_neg c5] at H
            exact absurd H (by simp)
        · rw [if_neg c4] at H
          have c4b0 : decide (x5_1 < (l0.length : Int)) = false := decide_eq_false c4
          clear c4
          obtain rfl := Option.some.inj H
          go_wp2
          repeat (go_quiet (fail); try go_wp2)
          go_ret
          exact ⟨by first | rfl | (simp; done) | (simp [*]; done), by repeat (first | exact Drawn0.refl _ | apply Drawn0.step)⟩
  · rw [if_neg c3] at H
    have c3b0 : ((l0.length : Int) == (l1.length : Int)) = false := beq_eq_false_iff_ne.mpr c3
    have c3b1 : ((l0.length : Int) != (l1.length : Int)) = true := bne_iff_ne.mpr c3
    have c3b2 : (l0.length == l1.length) = false := by first | simpa using c3 | (simp at c3 ⊢; omega)
    obtain rfl := Option.some.inj H
    go_enter Try.func18, Try.ntmps18
    go_wp2
    repeat (go_quiet (fail); try go_wp2)
    go_ret
    exact ⟨by first | rfl | (simp; done) | (simp [*]; done), by repeat (first | exact Drawn0.refl _ | apply Drawn0.step)⟩

-- NOT PRINTED: function 46 (turn_turns)

/-! ### turn_Round: function 19 -/
def turnsL (n : Nat) (g : Nat → Int) (k : Nat) : List Int := (List.range n).map fun i => if i < k then g i else 0
theorem turnsL_length (n : Nat) (g : Nat → Int) (k : Nat) : (turnsL n g k).length = n := by simp [turnsL]
theorem turnsL_zero (n : Nat) (g : Nat → Int) : turnsL n g 0 = List.replicate n 0 := by
  apply List.ext_getElem
  · simp [turnsL]
  · intro i h1 h2; simp [turnsL]
theorem turnsL_set (n : Nat) (g : Nat → Int) (k : Nat) : (turnsL n g k).set k (g k) = turnsL n g (k + 1) := by
  apply List.ext_getElem
  · simp [turnsL]
  · intro i h1 h2
    simp only [turnsL, List.getElem_set, List.getElem_map, List.getElem_range]
    by_cases e : k = i
    · subst e; simp
    · rw [if_neg e]
      by_cases c : i < k
      · rw [if_pos c, if_pos (by omega)]
      · rw [if_neg c, if_neg (by omega)]

theorem clos47 (i many : Int) (a : Addr) (w : World) (hm : 1 ≤ many) (hm1 : many ≤ 9223372036854775807) (hi : 0 ≤ i) (hi1 : i ≤ 100000) (hc : w.cell? a = some (.int .i64 many)) :
    Calls Try.prog 47 #[.int .i64 i, .pointer (some a)] w fun e w' => e = .returned (.int .i64 (i % many)) ∧ w = w' := by
  go_enter Try.func47, Try.ntmps47
  go_wp2
  go_ret
  exact ⟨rfl, rfl⟩

set_option maxHeartbeats 1600000 in
set_option maxRecDepth 100000 in
theorem turns47_yes (many count : Int) (B : Nat) (w : World) (hm : 1 ≤ many) (hm1 : many ≤ 9223372036854775807) (hn : 1 ≤ count) (hn1 : count ≤ 9223372036854775807) (hc : w.cell? ⟨B, 0, none⟩ = some (.int .i64 many)) :
    Calls Try.prog 46 #[.int .i64 many, .int .i64 count, .func (.func 47) #[] #[.pointer (some ⟨B, 0, none⟩)]] w fun e w' => ∃ v0_ : Value, e = .returned v0_ ∧ Kd.R (Kd.int .i64) 3 w' w.heap.size (fun _ => True) v0_ (turnsL (mn count 100000).toNat (fun i => (i : Int) % many) (mn count 100000).toNat) ∧ Below w.heap.size w w' := by
  obtain ⟨m, hmn⟩ : ∃ m : Nat, mn count 100000 = (m : Int) := ⟨(mn count 100000).toNat, by unfold mn; omega⟩
  have hm0 : 1 ≤ m := by unfold mn at hmn; omega
  have hm2 : m ≤ 100000 := by unfold mn at hmn; omega
  rw [hmn, Int.toNat_natCast]
  have HM := Aside0.mk hmn
  have c1 : decide (many < 1) = false := decide_eq_false (by omega)
  have c2 : decide (count < 1) = false := decide_eq_false (by omega)
  clear hmn
  have HB := Aside0.mk (Below.refl w.heap.size w)
  have hBw : B < w.heap.size := World.block_lt_of_cell? w _ hc
  have HC := Aside0.mk hc
  clear hc
  go_enter Try.func46, Try.ntmps46
  go_wp2_with ((with_reducible refine gate_dst (N := 17) rfl ?_); refine Kd.R_make (Kd.int .i64) _ 3 rfl (N := 17) rfl 28 _ _ rfl (mn count 100000) rfl rfl Try.underlying28 (.int .i64 0) 8 info3 rfl (by decide) (by omega) 0 (ok := fun _ => True) (okp := fun _ => True) rfl (fun _ hk => hk) trivial ?m0 ?m1 (Below.refl _ _) (Nat.le_refl _) ?_; (case m0 => rw [HM.out]; omega); (case m1 => rw [HM.out]; omega); intro v w3 ho hb hg hnew; rw [HM.out, Int.toNat_natCast, ← turnsL_zero m (fun i => (i : Int) % many)] at ho; have HO := Aside0.mk ho; have HB3 := Aside0.mk hb; obtain ⟨A, c, e⟩ := Kd.R_slice ho; rw [turnsL_length] at e; subst e; clear ho hb hg hnew; generalize (if (100000 : Int) < count then (100000 : Int) else count) = q16)
  go_loopg [8, 20] m (fun kq v8 v20 w' => ∃ k : Nat, Aside0 (kq = m - k) ∧ k ≤ m ∧ v20 = .int .i64 (k : Int) ∧ Aside0 (Kd.R (Kd.int .i64) 3 w' w.heap.size (fun _ => True) (.slice A m c) (turnsL m (fun i => (i : Int) % many) k)) ∧ Aside0 (Below w.heap.size w w'))
  case atStart => exact ⟨0, ⟨by omega⟩, Nat.zero_le _, rfl, HO, HB3⟩
  case round =>
    obtain ⟨k, HKQ, hk, rfl, HO1, HB1⟩ := hrel
    by_cases hlt : k < m
    · have hck : wr.cell? ⟨B, 0, none⟩ = some (.int .i64 many) := (HB1.out.cell (p := ⟨B, 0, none⟩) hBw).trans HC.out
      obtain ⟨go12, co12, eo12, gb12, gl12, cl12, HG12⟩ := Kd.R_form HO1.out (by rw [turnsL_length]; omega)
      rw [turnsL_length] at eo12
      cases eo12
      obtain ⟨hx, hf⟩ := Kd.R_celln 0 HO1.out (k : Int) (by omega) (by omega)
      rw [Int.toNat_natCast] at hx hf
      have HP := Kd.R_putg HO1.out (k : Int) ((k : Int) % many)
      rw [Int.toNat_natCast, turnsL_set m (fun i => (i : Int) % many) k] at HP
      have HP1 := Aside0.mk HP.1
      have HBn := Aside0.mk (below_set HB1.out gb12 : Below w.heap.size w (wr.setCell ⟨go12, k, none⟩ (.int .i64 ((k : Int) % many))))
      clear HP HG12 gb12 gl12
      go_wp2_with (go_at_call 47; refine (clos47 _ many _ _ hm hm1 (by omega) (by omega) hck).mono ?_; rintro e w' ⟨rfl, rfl⟩)
      go_roundg (m - (k + 1))
      case measure => have := HKQ.out; omega
      case rel => exact ⟨k + 1, ⟨rfl⟩, by omega, by simp, HP1, HBn⟩
    · have hkm : k = m := by omega
      subst hkm
      go_wp2
      go_ret
      exact ⟨_, rfl, HO1.out, HB1.out⟩

theorem turns_no (many count : Int) (fv : Value) (w : World) (h : many < 1 ∨ count < 1) :
    Calls Try.prog 46 #[.int .i64 many, .int .i64 count, fv] w fun e w' => e = .returned (.slice none 0 0) ∧ w = w' := by
  by_cases c : many < 1
  · have c1 : decide (many < 1) = true := decide_eq_true c
    go_enter Try.func46, Try.ntmps46
    go_wp2
    go_ret
    exact ⟨rfl, rfl⟩
  · have c1 : decide (many < 1) = false := decide_eq_false c
    have c2 : decide (count < 1) = true := decide_eq_true (by omega)
    go_enter Try.func46, Try.ntmps46
    go_wp2
    go_ret
    exact ⟨rfl, rfl⟩

def in64 (x : Int) : Bool := decide (-9223372036854775808 ≤ x ∧ x ≤ 9223372036854775807)
def turn_Round.f (a0 : Int) (a1 : Int) : Option (List Int) := if in64 a0 && in64 a1 then (if a0 < 1 ∨ a1 < 1 then some [] else some (turnsL (mn a1 100000).toNat (fun i => (i : Int) % a0) (mn a1 100000).toNat)) else none

theorem turn_Round.calls (a0 : Int) (a1 : Int) (r : List Int) (w : World) (h : turn_Round.f a0 a1 = some r) :
    Calls Try.prog 19 #[.int .i64 a0, .int .i64 a1] w fun e w' => ∃ v0_ : Value, e = .returned (v0_) ∧ Kd.R (Kd.int .i64) 3 w' w.heap.size (fun _ => True) v0_ r ∧ Below w.heap.size w w' := by
  have hmf : ∀ (fn : Fn) (first cap : Array Value) (w : World), (Instr.makeFunc fn first cap).run Try.prog w = .ok (.func fn first cap) w := fun _ _ _ _ => rfl
  unfold turn_Round.f at h
  by_cases hb : (in64 a0 && in64 a1) = true
  · rw [if_pos hb] at h
    simp only [in64, Bool.and_eq_true, decide_eq_true_eq] at hb
    obtain ⟨⟨l0, u0⟩, l1, u1⟩ := hb
    by_cases c : a0 < 1 ∨ a1 < 1
    · rw [if_pos c] at h
      obtain rfl := Option.some.inj h
      clear h
      have C := Aside0.mk c
      clear c
      go_enter Try.func19, Try.ntmps19
      go_wp2_with (go_at_call 46; refine (turns_no _ _ _ _ C.out).mono ?_; rintro e w' ⟨rfl, rfl⟩)
      go_ret
      exact ⟨_, rfl, Kd.R_nil _ _ _ _ _, below_alloc (Below.refl _ _) _⟩
    · rw [if_neg c] at h
      obtain rfl := Option.some.inj h
      clear h
      have C := Aside0.mk c
      clear c
      have hc : (w.alloc (.cells #[.int .i64 a0] 3)).cell? ⟨w.heap.size, 0, none⟩ = some (.int .i64 a0) := by rw [World.cell?_alloc_at _ _ _ _ rfl]; rfl
      have HCc := Aside0.mk hc
      clear hc
      go_enter Try.func19, Try.ntmps19
      go_wp2_with (go_at_call 46; refine (turns47_yes a0 a1 w.heap.size _ (by have := C.out; omega) u0 (by have := C.out; omega) u1 HCc.out).mono ?_; rintro e w' ⟨v, rfl, hr, hb⟩; have HR := Aside0.mk hr; have HB := Aside0.mk hb; clear hr hb)
      go_ret
      exact ⟨_, rfl, Kd.R_lower HR.out (by simp), below_then (below_alloc (Below.refl _ _) _) (by simp) HB.out⟩
  · rw [if_neg hb] at h
    cases h

/-! ### turn_Mix: function 16 -/
def turn_Mix.f (a0 : Int) : Option (Int) := some (Go.bits .xor .u64 (IntKind.u64.wrap ((Go.bits .xor .u64 (IntKind.u64.wrap ((Go.bits .xor .u64 (IntKind.u64.wrap (a0 + 11400714819323198485)) ((IntKind.u64.wrap (a0 + 11400714819323198485)) / 1073741824)) * 13787848793156543929)) ((IntKind.u64.wrap ((Go.bits .xor .u64 (IntKind.u64.wrap (a0 + 11400714819323198485)) ((IntKind.u64.wrap (a0 + 11400714819323198485)) / 1073741824)) * 13787848793156543929)) / 134217728)) * 10723151780598845931)) ((IntKind.u64.wrap ((Go.bits .xor .u64 (IntKind.u64.wrap ((Go.bits .xor .u64 (IntKind.u64.wrap (a0 + 11400714819323198485)) ((IntKind.u64.wrap (a0 + 11400714819323198485)) / 1073741824)) * 13787848793156543929)) ((IntKind.u64.wrap ((Go.bits .xor .u64 (IntKind.u64.wrap (a0 + 11400714819323198485)) ((IntKind.u64.wrap (a0 + 11400714819323198485)) / 1073741824)) * 13787848793156543929)) / 134217728)) * 10723151780598845931)) / 2147483648))
set_option maxHeartbeats 8000000 in
set_option maxRecDepth 100000 in
theorem turn_Mix.calls (a0 : Int) (r : Int) (w : World) (h : turn_Mix.f a0 = some r) :
    Calls Try.prog 16 #[.int .u64 a0] w fun e w' => e = .returned (.int .u64 r) ∧ Drawn0 w w' := by
  have H : (some (Go.bits .xor .u64 (IntKind.u64.wrap ((Go.bits .xor .u64 (IntKind.u64.wrap ((Go.bits .xor .u64 (IntKind.u64.wrap (a0 + 11400714819323198485)) ((IntKind.u64.wrap (a0 + 11400714819323198485)) / 1073741824)) * 13787848793156543929)) ((IntKind.u64.wrap ((Go.bits .xor .u64 (IntKind.u64.wrap (a0 + 11400714819323198485)) ((IntKind.u64.wrap (a0 + 11400714819323198485)) / 1073741824)) * 13787848793156543929)) / 134217728)) * 10723151780598845931)) ((IntKind.u64.wrap ((Go.bits .xor .u64 (IntKind.u64.wrap ((Go.bits .xor .u64 (IntKind.u64.wrap (a0 + 11400714819323198485)) ((IntKind.u64.wrap (a0 + 11400714819323198485)) / 1073741824)) * 13787848793156543929)) ((IntKind.u64.wrap ((Go.bits .xor .u64 (IntKind.u64.wrap (a0 + 11400714819323198485)) ((IntKind.u64.wrap (a0 + 11400714819323198485)) / 1073741824)) * 13787848793156543929)) / 134217728)) * 10723151780598845931)) / 2147483648))) = some r := h
  clear h
  obtain rfl := Option.some.inj H
  go_enter Try.func16, Try.ntmps16
  go_wp2
  go_ret
  exact ⟨by first | rfl | (simp; done) | (simp [*]; done), by repeat (first | exact Drawn0.refl _ | apply Drawn0.step)⟩

/-! ### turn_Bursts: function 23 -/
def burst (many long seed : Int) (i : Nat) : Int := (turn_Mix.f (IntKind.u64.wrap (seed + (i : Int) / long))).getD 0 % many

theorem mix_some (n : Int) : ∃ h, turn_Mix.f n = some h ∧ 0 ≤ h ∧ h ≤ 18446744073709551615 := ⟨_, rfl, bounds_u64 (wf_bits _ _ _ _)⟩

set_option maxHeartbeats 800000 in
theorem clos48 (i many long seed : Int) (a0 a1 a2 : Addr) (w : World) (hm : 1 ≤ many) (hm1 : many ≤ 9223372036854775807) (hi : 0 ≤ i) (hi1 : i ≤ 100000) (hl : 1 ≤ long) (hl1 : long ≤ 9223372036854775807) (hs : 0 ≤ seed) (hs1 : seed ≤ 18446744073709551615) (hc2 : w.cell? a2 = some (.int .i64 many)) (hc1 : w.cell? a1 = some (.int .i64 long)) (hc0 : w.cell? a0 = some (.int .u64 seed)) :
    Calls Try.prog 48 #[.int .i64 i, .pointer (some a0), .pointer (some a1), .pointer (some a2)] w fun e w' => e = .returned (.int .i64 (burst many long seed i.toNat)) ∧ ∃ n, w' = w.drewN n := by
  obtain ⟨k, rfl⟩ := Int.eq_ofNat_of_zero_le hi
  obtain ⟨h, hh, h0, h1⟩ := mix_some (IntKind.u64.wrap (seed + (k : Int) / long))
  have hb : burst many long seed k = h % many := by unfold burst; rw [hh]; rfl
  rw [Int.toNat_natCast, hb]
  have HH := Aside0.mk hh
  clear hb hh
  go_enter Try.func48, Try.ntmps48
  have hlw : IntKind.u64.wrap many = many := IntWalk.u64_in _ (by omega)
  have hq0 : 0 ≤ (k : Int) / long := Int.ediv_nonneg (by omega) (by omega)
  have hq1 : (k : Int) / long ≤ 100000 := Int.le_trans (Int.ediv_le_self _ (by omega)) (by omega)
  go_wp2_with fail
  go_quiet ((go_at_call 16; exact Calls.quiet_of ((turn_Mix.calls _ _ _ HH.out).mono fun e w' hx => ⟨hx.1, hx.2.1⟩)))
  go_wp2
  go_ret
  refine ⟨?_, ⟨_, rfl⟩⟩
  have e1 := Int.emod_nonneg h (show many ≠ 0 by omega)
  have e2 := Int.emod_lt_of_pos h (show 0 < many by omega)
  show Ending.returned (.int .i64 (wrap64 (h % many))) = _
  generalize h % many = x at *
  rw [show wrap64 x = x from by unfold wrap64; omega]

set_option maxHeartbeats 1600000 in
set_option maxRecDepth 100000 in
theorem turns48_yes (many count long seed : Int) (B0 B1 B2 : Nat) (w : World) (hm : 1 ≤ many) (hm1 : many ≤ 9223372036854775807) (hn : 1 ≤ count) (hn1 : count ≤ 9223372036854775807) (hl : 1 ≤ long) (hl1 : long ≤ 9223372036854775807) (hs : 0 ≤ seed) (hs1 : seed ≤ 18446744073709551615) (hc : w.cell? ⟨B2, 0, none⟩ = some (.int .i64 many)) (hc1 : w.cell? ⟨B1, 0, none⟩ = some (.int .i64 long)) (hc0 : w.cell? ⟨B0, 0, none⟩ = some (.int .u64 seed)) :
    Calls Try.prog 46 #[.int .i64 many, .int .i64 count, .func (.func 48) #[] #[.pointer (some ⟨B0, 0, none⟩), .pointer (some ⟨B1, 0, none⟩), .pointer (some ⟨B2, 0, none⟩)]] w fun e w' => ∃ v0_ : Value, e = .returned v0_ ∧ Kd.R (Kd.int .i64) 3 w' w.heap.size (fun _ => True) v0_ (turnsL (mn count 100000).toNat (burst many long seed) (mn count 100000).toNat) ∧ Below w.heap.size w w' := by
  obtain ⟨m, hmn⟩ : ∃ m : Nat, mn count 100000 = (m : Int) := ⟨(mn count 100000).toNat, by unfold mn; omega⟩
  have hm0 : 1 ≤ m := by unfold mn at hmn; omega
  have hm2 : m ≤ 100000 := by unfold mn at hmn; omega
  rw [hmn, Int.toNat_natCast]
  have HM := Aside0.mk hmn
  have c1 : decide (many < 1) = false := decide_eq_false (by omega)
  have c2 : decide (count < 1) = false := decide_eq_false (by omega)
  clear hmn
  have HB := Aside0.mk (Below.refl w.heap.size w)
  have hBw : B2 < w.heap.size := World.block_lt_of_cell? w _ hc
  have hBw1 : B1 < w.heap.size := World.block_lt_of_cell? w _ hc1
  have hBw0 : B0 < w.heap.size := World.block_lt_of_cell? w _ hc0
  have HC := Aside0.mk hc
  have HC1 := Aside0.mk hc1
  have HC0 := Aside0.mk hc0
  clear hc hc1 hc0
  go_enter Try.func46, Try.ntmps46
  go_wp2_with ((with_reducible refine gate_dst (N := 17) rfl ?_); refine Kd.R_make (Kd.int .i64) _ 3 rfl (N := 17) rfl 28 _ _ rfl (mn count 100000) rfl rfl Try.underlying28 (.int .i64 0) 8 info3 rfl (by decide) (by omega) 0 (ok := fun _ => True) (okp := fun _ => True) rfl (fun _ hk => hk) trivial ?m0 ?m1 (Below.refl _ _) (Nat.le_refl _) ?_; (case m0 => rw [HM.out]; omega); (case m1 => rw [HM.out]; omega); intro v w3 ho hb hg hnew; rw [HM.out, Int.toNat_natCast, ← turnsL_zero m (burst many long seed)] at ho; have HO := Aside0.mk ho; have HB3 := Aside0.mk hb; obtain ⟨A, c, e⟩ := Kd.R_slice ho; rw [turnsL_length] at e; subst e; clear ho hb hg hnew; generalize (if (100000 : Int) < count then (100000 : Int) else count) = q16)
  go_loopg [8, 20] m (fun kq v8 v20 w' => ∃ k : Nat, Aside0 (kq = m - k) ∧ k ≤ m ∧ v20 = .int .i64 (k : Int) ∧ Aside0 (Kd.R (Kd.int .i64) 3 w' w.heap.size (fun _ => True) (.slice A m c) (turnsL m (burst many long seed) k)) ∧ Aside0 (Below w.heap.size w w'))
  case atStart => exact ⟨0, ⟨by omega⟩, Nat.zero_le _, rfl, HO, HB3⟩
  case round =>
    obtain ⟨k, HKQ, hk, rfl, HO1, HB1⟩ := hrel
    by_cases hlt : k < m
    · have hck := Aside0.mk ((HB1.out.cell (p := ⟨B2, 0, none⟩) hBw).trans HC.out)
      have hck1 := Aside0.mk ((HB1.out.cell (p := ⟨B1, 0, none⟩) hBw1).trans HC1.out)
      have hck0 := Aside0.mk ((HB1.out.cell (p := ⟨B0, 0, none⟩) hBw0).trans HC0.out)
      obtain ⟨go12, co12, eo12, gb12, gl12, cl12, HG12⟩ := Kd.R_form HO1.out (by rw [turnsL_length]; omega)
      rw [turnsL_length] at eo12
      cases eo12
      obtain ⟨hx, hf⟩ := Kd.R_celln 0 HO1.out (k : Int) (by omega) (by omega)
      rw [Int.toNat_natCast] at hx hf
      have HP := Kd.R_putg HO1.out (k : Int) (burst many long seed k)
      rw [Int.toNat_natCast, turnsL_set m (burst many long seed) k] at HP
      have HP1 := Aside0.mk HP.1
      have HBn := Aside0.mk (below_set HB1.out gb12 : Below w.heap.size w (wr.setCell ⟨go12, k, none⟩ (.int .i64 (burst many long seed k))))
      clear HP HG12 gb12 gl12
      go_wp2_with (go_at_call 48; refine (clos48 _ many long seed _ _ _ _ hm hm1 (by omega) (by omega) hl hl1 hs hs1 hck.out hck1.out hck0.out).mono ?_; rintro e w' ⟨rfl, nq, rfl⟩)
      go_roundg (m - (k + 1))
      case measure => have := HKQ.out; omega
      case rel => exact ⟨k + 1, ⟨rfl⟩, by omega, by simp, ⟨Kd.R_drewN HP1.out _⟩, ⟨pw_below_drewN HBn.out _⟩⟩
    · have hkm : k = m := by omega
      subst hkm
      go_wp2
      go_ret
      exact ⟨_, rfl, HO1.out, HB1.out⟩


set_option maxHeartbeats 800000 in
theorem turn_Bursts.walk (a0 a1 a2 a3 : Int) (w : World) (l0 : -9223372036854775808 ≤ a0) (u0 : a0 ≤ 9223372036854775807) (l1 : -9223372036854775808 ≤ a1) (u1 : a1 ≤ 9223372036854775807) (l2 : -9223372036854775808 ≤ a2) (u2 : a2 ≤ 9223372036854775807) (l3 : 0 ≤ a3) (u3 : a3 ≤ 18446744073709551615) (c : ¬ (a0 < 1 ∨ a1 < 1)) :
    Calls Try.prog 23 #[.int .i64 a0, .int .i64 a1, .int .i64 a2, .int .u64 a3] w fun e w' => ∃ v0_ : Value, e = .returned (v0_) ∧ Kd.R (Kd.int .i64) 3 w' w.heap.size (fun _ => True) v0_ (turnsL (mn a1 100000).toNat (burst a0 (mx a2 1) a3) (mn a1 100000).toNat) ∧ Below w.heap.size w w' := by
  have hmf : ∀ (fn : Fn) (first cap : Array Value) (w : World), (Instr.makeFunc fn first cap).run Try.prog w = .ok (.func fn first cap) w := fun _ _ _ _ => rfl
  have C := Aside0.mk c
  clear c
  have H1 : (((w.alloc (.cells #[.int .i64 a0] 3)).alloc (.cells #[.int .i64 (mx a2 1)] 3)).alloc (.cells #[.int .u64 a3] 22)).cell? ⟨w.heap.size, 0, none⟩ = some (.int .i64 a0) := by
    rw [World.cell?_alloc_past _ _ _ (by simp; omega), World.cell?_alloc_past _ _ _ (by simp), World.cell?_alloc_at _ _ _ _ rfl]; rfl
  have H2 : (((w.alloc (.cells #[.int .i64 a0] 3)).alloc (.cells #[.int .i64 (mx a2 1)] 3)).alloc (.cells #[.int .u64 a3] 22)).cell? ⟨w.heap.size + 1, 0, none⟩ = some (.int .i64 (mx a2 1)) := by
    rw [World.cell?_alloc_past _ _ _ (by simp), World.cell?_alloc_at _ _ _ _ (by simp)]; rfl
  have H3 : (((w.alloc (.cells #[.int .i64 a0] 3)).alloc (.cells #[.int .i64 (mx a2 1)] 3)).alloc (.cells #[.int .u64 a3] 22)).cell? ⟨w.heap.size + 1 + 1, 0, none⟩ = some (.int .u64 a3) := by
    rw [World.cell?_alloc_at _ _ _ _ (by simp)]; rfl
  have K := Aside0.mk (And.intro H1 (And.intro H2 H3))
  clear H1 H2 H3
  by_cases c2 : a2 < 1
  · have em : mx a2 1 = 1 := by unfold mx; omega
    rw [em] at K ⊢
    clear em
    go_enter Try.func23, Try.ntmps23
    go_wp2_with fail
    refine (turns48_yes a0 a1 1 a3 (w.heap.size + 1 + 1) (w.heap.size + 1) w.heap.size _ (by have := C.out; omega) u0 (by have := C.out; omega) u1 (by omega) (by omega) l3 u3 K.out.1 K.out.2.1 K.out.2.2).mono ?_
    rintro e w' ⟨v, rfl, hr, hb⟩
    have HR := Aside0.mk hr
    have HB := Aside0.mk hb
    clear hr hb
    go_wp2
    go_ret
    exact ⟨_, rfl, Kd.R_lower HR.out (by simp; omega), below_then (below_alloc (below_alloc (below_alloc (Below.refl _ _) _) _) _) (by simp; omega) HB.out⟩
  · have em : mx a2 1 = a2 := by unfold mx; omega
    rw [em] at K ⊢
    clear em
    go_enter Try.func23, Try.ntmps23
    go_wp2_with fail
    refine (turns48_yes a0 a1 a2 a3 (w.heap.size + 1 + 1) (w.heap.size + 1) w.heap.size _ (by have := C.out; omega) u0 (by have := C.out; omega) u1 (by omega) (by omega) l3 u3 K.out.1 K.out.2.1 K.out.2.2).mono ?_
    rintro e w' ⟨v, rfl, hr, hb⟩
    have HR := Aside0.mk hr
    have HB := Aside0.mk hb
    clear hr hb
    go_wp2
    go_ret
    exact ⟨_, rfl, Kd.R_lower HR.out (by simp; omega), below_then (below_alloc (below_alloc (below_alloc (Below.refl _ _) _) _) _) (by simp; omega) HB.out⟩

def turn_Bursts.f (a0 : Int) (a1 : Int) (a2 : Int) (a3 : Int) : Option (List Int) := if in64 a0 && (in64 a1 && (in64 a2 && decide (0 ≤ a3 ∧ a3 ≤ 18446744073709551615))) then (if a0 < 1 ∨ a1 < 1 then some [] else some (turnsL (mn a1 100000).toNat (burst a0 (mx a2 1) a3) (mn a1 100000).toNat)) else none

set_option maxHeartbeats 800000 in
theorem turn_Bursts.calls (a0 : Int) (a1 : Int) (a2 : Int) (a3 : Int) (r : List Int) (w : World) (h : turn_Bursts.f a0 a1 a2 a3 = some r) :
    Calls Try.prog 23 #[.int .i64 a0, .int .i64 a1, .int .i64 a2, .int .u64 a3] w fun e w' => ∃ v0_ : Value, e = .returned (v0_) ∧ Kd.R (Kd.int .i64) 3 w' w.heap.size (fun _ => True) v0_ r ∧ Below w.heap.size w w' := by
  have hmf : ∀ (fn : Fn) (first cap : Array Value) (w : World), (Instr.makeFunc fn first cap).run Try.prog w = .ok (.func fn first cap) w := fun _ _ _ _ => rfl
  unfold turn_Bursts.f at h
  by_cases hb : (in64 a0 && (in64 a1 && (in64 a2 && decide (0 ≤ a3 ∧ a3 ≤ 18446744073709551615)))) = true
  · rw [if_pos hb] at h
    simp only [in64, Bool.and_eq_true, decide_eq_true_eq] at hb
    obtain ⟨⟨l0, u0⟩, ⟨l1, u1⟩, ⟨l2, u2⟩, l3, u3⟩ := hb
    by_cases c : a0 < 1 ∨ a1 < 1
    · rw [if_pos c] at h
      obtain rfl := Option.some.inj h
      clear h
      have C := Aside0.mk c
      clear c
      by_cases c2 : a2 < 1
      all_goals
        go_enter Try.func23, Try.ntmps23
        go_wp2_with fail
        refine (turns_no _ _ _ _ C.out).mono ?_
        rintro e w' ⟨rfl, rfl⟩
        go_wp2
        go_ret
        exact ⟨_, rfl, Kd.R_nil _ _ _ _ _, below_alloc (below_alloc (below_alloc (Below.refl _ _) _) _) _⟩
    · rw [if_neg c] at h
      obtain rfl := Option.some.inj h
      exact turn_Bursts.walk a0 a1 a2 a3 w l0 u0 l1 u1 l2 u2 l3 u3 c
  · rw [if_neg hb] at h
    cases h

/-! ### turn_Mixed: function 21 -/
def turn_Mixed.f (a0 : Int) (a1 : Int) (a2 : Int) : Option (List Int) := (turn_Bursts.f a0 a1 1 a2).bind fun t109 => (some t109)
set_option maxHeartbeats 8000000 in
set_option maxRecDepth 100000 in
theorem turn_Mixed.calls (a0 : Int) (a1 : Int) (a2 : Int) (r : List Int) (w : World) (h : turn_Mixed.f a0 a1 a2 = some r) :
    Calls Try.prog 21 #[.int .i64 a0, .int .i64 a1, .int .u64 a2] w fun e w' => ∃ v0_ : Value, e = .returned (v0_) ∧ Kd.R (Kd.int .i64) 3 w' w.heap.size (fun _ => True) v0_ r ∧ Below w.heap.size w w' := by
  have HB := Aside0.mk (Below.refl w.heap.size w)
  have H : ((turn_Bursts.f a0 a1 1 a2).bind fun t109 => (some t109)) = some r := h
  clear h
  replace H := Option.bind_eq_some_iff.mp H
  obtain ⟨t109, A40, H⟩ := H
  replace H : (some t109) = some r := H
  have A4 := Aside0.mk A40
  clear A40
  obtain rfl := Option.some.inj H
  go_enter Try.func21, Try.ntmps21
  go_wp2_with (first | ((with_reducible refine gate_callee (f := 23) rfl ?_); refine goesL_ (some 10) rfl rfl Try.func23 (by kernel_rfl) rfl #[.int .i64 a0, .int .i64 a1, .int .i64 1, .int .u64 a2] rfl (by (try simp only [List.map_toArray, List.map_cons, List.map_nil]); first | done | rfl | (simp only [List.length_drop, List.length_take]; rfl)) ?_; (with_reducible refine (turn_Bursts.calls a0 a1 1 a2 t109 _ A4.out).mono ?_); rintro e w5 ⟨v110, rfl, ho0, hb⟩; refine ⟨_, rfl, ?_⟩; have n0_ := Aside0.mk (Kd.R_lower ho0 (below_size (by repeat (first | (with_reducible first | exact HB.out | apply below_alloc | apply pw_below_drewN | apply below_drew1) | exact HB.out)))); have n1_ := Aside0.mk (below_step (by repeat (first | (with_reducible first | exact HB.out | apply below_alloc | apply pw_below_drewN | apply below_drew1) | exact HB.out)) hb); clear HB; have HO111 := n0_; have HB := n1_; clear n0_ n1_; (try clear hb); (try clear hb2); (try clear hk); (try clear hi); (try clear ho0)))
  go_ret
  exact ⟨_, by first | rfl | (simp [errW_none, errW_some] <;> rfl) | (simp [*, errW_none, errW_some] <;> rfl), by (with_reducible repeat (first | apply Kd.R_alloc | apply Kd.R_drewN | apply Kd.R_drew)); exact HO111.out, by repeat (first | (with_reducible first | exact HB.out | apply below_alloc | apply pw_below_drewN | apply below_drew1) | exact HB.out)⟩

/-! ### patchbaylaw07_told: function 13 -/
def patchbaylaw07_told.f (k : Nat)  : Option (Bool) := (turn_Who.f (-1) 3).bind fun t112 => (if t112 = 0 then ((turn_Round.f 3 4).bind fun t113 => ((patchbaylaw03_Ints.f k t113 (([0, 1, 2, 0] : List Int))).bind fun t119 => (if t119 = true then ((turn_Who.f 5 0).bind fun t120 => (if t120 = (-1) then ((turn_Mixed.f 3 5 1).bind fun t121 => (some ((t121.length : Int) == 5))) else (some false))) else (some false)))) else (some false))
theorem patchbaylaw07_told.mono : ∀ k, LeO (patchbaylaw07_told.f k ) (patchbaylaw07_told.f (k + 1) ) := by
  intro  k
  unfold patchbaylaw07_told.f
  repeat' first
      | (with_reducible exact patchbaylaw03_Ints.mono _ _ _)
      | (with_reducible exact LeO.refl _)
      | (with_reducible exact LeO.none _)
      | (with_reducible refine LeO.ite ?_ ?_)
      | (with_reducible refine LeO.bind ?_ (fun _ => ?_))
      | exact patchbaylaw03_Ints.mono _ _ _
      | exact LeO.none _
      | refine LeO.ite ?_ ?_
      | refine LeO.bind ?_ (fun _ => ?_)
set_option maxHeartbeats 8000000 in
set_option maxRecDepth 100000 in
theorem patchbaylaw07_told.calls (k : Nat)  (r : Bool) (w : World) (h : patchbaylaw07_told.f k  = some r) :
    Calls Try.prog 13 #[] w fun e w' => e = .returned (.bool r) ∧ Below w.heap.size w w' := by
  have HB := Aside0.mk (Below.refl w.heap.size w)
  have H : ((turn_Who.f (-1) 3).bind fun t112 => (if t112 = 0 then ((turn_Round.f 3 4).bind fun t113 => ((patchbaylaw03_Ints.f k t113 (([0, 1, 2, 0] : List Int))).bind fun t119 => (if t119 = true then ((turn_Who.f 5 0).bind fun t120 => (if t120 = (-1) then ((turn_Mixed.f 3 5 1).bind fun t121 => (some ((t121.length : Int) == 5))) else (some false))) else (some false)))) else (some false))) = some r := h
  clear h
  replace H := Option.bind_eq_some_iff.mp H
  obtain ⟨t112, A10, H⟩ := H
  replace H : (if t112 = 0 then ((turn_Round.f 3 4).bind fun t113 => ((patchbaylaw03_Ints.f k t113 (([0, 1, 2, 0] : List Int))).bind fun t119 => (if t119 = true then ((turn_Who.f 5 0).bind fun t120 => (if t120 = (-1) then ((turn_Mixed.f 3 5 1).bind fun t121 => (some ((t121.length : Int) == 5))) else (some false))) else (some false)))) else (some false)) = some r := H
  have A1 := Aside0.mk A10
  clear A10
  by_cases c2 : t112 = 0
  · rw [if_pos c2] at H
    have c2b0 : (t112 == 0) = true := beq_iff_eq.mpr c2
    have c2b1 : (t112 != 0) = false := bne_eq_false_iff_eq.mpr c2
    clear c2
    replace H := Option.bind_eq_some_iff.mp H
    obtain ⟨t113, A30, H⟩ := H
    replace H : ((patchbaylaw03_Ints.f k t113 (([0, 1, 2, 0] : List Int))).bind fun t119 => (if t119 = true then ((turn_Who.f 5 0).bind fun t120 => (if t120 = (-1) then ((turn_Mixed.f 3 5 1).bind fun t121 => (some ((t121.length : Int) == 5))) else (some false))) else (some false))) = some r := H
    have A3 := Aside0.mk A30
    clear A30
    obtain ⟨y116, hy116⟩ : ∃ y_ : List Int, y_ = (([0, 1, 2, 0] : List Int)) := ⟨_, rfl⟩
    replace H : ((patchbaylaw03_Ints.f k t113 y116).bind fun t119 => (if t119 = true then ((turn_Who.f 5 0).bind fun t120 => (if t120 = (-1) then ((turn_Mixed.f 3 5 1).bind fun t121 => (some ((t121.length : Int) == 5))) else (some false))) else (some false))) = some r := by first | (rw [hy116]; with_reducible exact H) | (have H2_ := (Option.bind_some _ _).symm.trans H; rw [hy116]; with_reducible exact H2_) | (have H2_ := (Option.bind_some _ _).symm.trans H; with_reducible exact H2_) | with_reducible exact H | (rw [hy116]; exact H) | exact H
    have Ny116 := Aside0.mk hy116
    clear hy116
    replace H := Option.bind_eq_some_iff.mp H
    obtain ⟨t119, A40, H⟩ := H
    replace H : (if t119 = true then ((turn_Who.f 5 0).bind fun t120 => (if t120 = (-1) then ((turn_Mixed.f 3 5 1).bind fun t121 => (some ((t121.length : Int) == 5))) else (some false))) else (some false)) = some r := H
    have A4 := Aside0.mk A40
    clear A40
    by_cases c5 : t119 = true
    · subst c5
      have H1 : ((turn_Who.f 5 0).bind fun t120 => (if t120 = (-1) then ((turn_Mixed.f 3 5 1).bind fun t121 => (some ((t121.length : Int) == 5))) else (some false))) = some r := by rw [if_pos rfl] at H; exact H
      clear H
      have H := H1
      clear H1
      replace H := Option.bind_eq_some_iff.mp H
      obtain ⟨t120, A60, H⟩ := H
      replace H : (if t120 = (-1) then ((turn_Mixed.f 3 5 1).bind fun t121 => (some ((t121.length : Int) == 5))) else (some false)) = some r := H
      have A6 := Aside0.mk A60
      clear A60
      by_cases c7 : t120 = (-1)
      · rw [if_pos c7] at H
        have c7b0 : (t120 == (-1)) = true := beq_iff_eq.mpr c7
        have c7b1 : (t120 != (-1)) = false := bne_eq_false_iff_eq.mpr c7
        clear c7
        replace H := Option.bind_eq_some_iff.mp H
        obtain ⟨t121, A80, H⟩ := H
        replace H : (some ((t121.length : Int) == 5)) = some r := H
        have A8 := Aside0.mk A80
        clear A80
        obtain rfl := Option.some.inj H
        go_enter Try.func13, Try.ntmps13
        go_wp2_with (first | ((with_reducible refine gate_callee (f := 14) rfl ?_); refine goesL_ (some 1) rfl rfl Try.func14 (by kernel_rfl) rfl #[.int .i64 (-1), .int .i64 3] rfl (by (try simp only [List.map_toArray, List.map_cons, List.map_nil]); first | done | rfl | (simp only [List.length_drop, List.length_take]; rfl)) ?_; (with_reducible refine (turn_Who.calls (-1) 3 t112 _ A1.out).mono ?_); rintro e w' ⟨rfl, ⟨nd, rfl⟩⟩; refine ⟨_, rfl, ?_⟩) | (go_at_call 19; (with_reducible refine (turn_Round.calls 3 4 t113 _ A3.out).mono ?_); rintro e w9 ⟨v114, rfl, ho0, hb⟩; have n0_ := Aside0.mk (Kd.R_lower ho0 (below_size (by repeat (first | (with_reducible first | exact HB.out | apply below_alloc | apply pw_below_drewN | apply below_drew1) | exact HB.out)))); have n1_ := Aside0.mk (below_step (by repeat (first | (with_reducible first | exact HB.out | apply below_alloc | apply pw_below_drewN | apply below_drew1) | exact HB.out)) hb); clear HB; have HO115 := n0_; have HB := n1_; clear n0_ n1_; (try clear hb); (try clear hb2); (try clear hk); (try clear hi); (try clear ho0)) | ((with_reducible refine gate_dst (N := 5) rfl ?_); (try (refine gate_guard (by rfl) ?_; dsimp only)); refine Kd.R_lit (Kd.int .i64) _ 3 ?hg (N := 5) ?hd (xs := ([0, 1, 2, 0] : List Int)) (inner := [.int .i64 0, .int .i64 1, .int .i64 2, .int .i64 0]) (ok := fun _ => True) (okp := fun _ => True) ?hr ?hp (fun _ hk => hk) trivial (Below.refl _ _) (Nat.le_refl _) (by simp) ?_; (case hd => rfl); (case hg => rfl); (case hr => first | (go_simp; done) | (go_simp; rfl)); (case hp => exact (Reps.one (show Kd.M (Kd.int .i64) _ _ _ 0 [.int .i64 0] from rfl) (Reps.one (show Kd.M (Kd.int .i64) _ _ _ 1 [.int .i64 1] from rfl) (Reps.one (show Kd.M (Kd.int .i64) _ _ _ 2 [.int .i64 2] from rfl) (Reps.one (show Kd.M (Kd.int .i64) _ _ _ 0 [.int .i64 0] from rfl) (Reps.none _ _)))))); intro v117 w10 ho11 hb hg_ hnew_; clear hg_ hnew_; (first | rw [← Ny116.out] at ho11 | (simp only [Int.reduceToNat] at ho11; rw [← Ny116.out] at ho11)); have n0_ := Aside0.mk (Kd.R_elder' (by (with_reducible repeat (first | apply Kd.R_alloc | apply Kd.R_drewN | apply Kd.R_drew)); exact HO115.out) (Kd.R_base ho11) hb); have n1_ := Aside0.mk (Kd.R_lower (Kd.R_new' ho11 (Kd.R_lt (by (with_reducible repeat (first | apply Kd.R_alloc | apply Kd.R_drewN | apply Kd.R_drew)); exact HO115.out))) (below_size (by repeat (first | (with_reducible first | exact HB.out | apply below_alloc | apply pw_below_drewN | apply below_drew1) | exact HB.out)))); have n2_ := Aside0.mk (below_step (by repeat (first | (with_reducible first | exact HB.out | apply below_alloc | apply pw_below_drewN | apply below_drew1) | exact HB.out)) hb); clear HO115; clear HB; have HO115 := n0_; have HO118 := n1_; have HB := n2_; clear n0_ n1_ n2_; clear hb ho11; obtain ⟨Ao12, co12, eo12⟩ := Kd.R_slice HO115.out; subst eo12; obtain ⟨Ao13, co13, eo13⟩ := Kd.R_slice HO118.out; subst eo13) | (go_at_call 18; (with_reducible refine (patchbaylaw03_Ints.calls k _ _ t113 _ _ y116 true _ ?side1 ?side2 ?side3 ?side4 A4.out).mono ?_); (case side1 => repeat (first | exact (Kd.R_reads' HO115.out).2.2 | (with_reducible refine Kd.C_alloc ?_ _) | (with_reducible refine Kd.C_drewN ?_ _) | (with_reducible refine Kd.C_drew ?_))); (case side2 => exact (Kd.R_reads' HO115.out).2.1); (case side3 => repeat (first | exact (Kd.R_reads' HO118.out).2.2 | (with_reducible refine Kd.C_alloc ?_ _) | (with_reducible refine Kd.C_drewN ?_ _) | (with_reducible refine Kd.C_drew ?_))); (case side4 => exact (Kd.R_reads' HO118.out).2.1); rintro e w' ⟨rfl, ⟨nd, rfl⟩⟩) | (go_at_call 14; (with_reducible refine (turn_Who.calls 5 0 t120 _ A6.out).mono ?_); rintro e w' ⟨rfl, ⟨nd, rfl⟩⟩) | (go_at_call 21; (with_reducible refine (turn_Mixed.calls 3 5 1 t121 _ A8.out).mono ?_); rintro e w14 ⟨v122, rfl, ho0, hb⟩; have n0_ := Aside0.mk (Kd.R_elder' (by (with_reducible repeat (first | apply Kd.R_alloc | apply Kd.R_drewN | apply Kd.R_drew)); exact HO115.out) (Kd.R_base ho0) hb); have n1_ := Aside0.mk (Kd.R_elder' (by (with_reducible repeat (first | apply Kd.R_alloc | apply Kd.R_drewN | apply Kd.R_drew)); exact HO118.out) (Kd.R_base ho0) hb); have n2_ := Aside0.mk (Kd.R_lower (Kd.R_new' (Kd.R_new' ho0 (Kd.R_lt (by (with_reducible repeat (first | apply Kd.R_alloc | apply Kd.R_drewN | apply Kd.R_drew)); exact HO115.out))) (Kd.R_lt (by (with_reducible repeat (first | apply Kd.R_alloc | apply Kd.R_drewN | apply Kd.R_drew)); exact HO118.out))) (below_size (by repeat (first | (with_reducible first | exact HB.out | apply below_alloc | apply pw_below_drewN | apply below_drew1) | exact HB.out)))); have n3_ := Aside0.mk (below_step (by repeat (first | (with_reducible first | exact HB.out | apply below_alloc | apply pw_below_drewN | apply below_drew1) | exact HB.out)) hb); clear HO115; clear HO118; clear HB; have HO115 := n0_; have HO118 := n1_; have HO123 := n2_; have HB := n3_; clear n0_ n1_ n2_ n3_; (try clear hb); (try clear hb2); (try clear hk); (try clear hi); (try clear ho0); obtain ⟨Ao15, co15, eo15⟩ := Kd.R_slice HO123.out; subst eo15))
        go_ret
        exact ⟨by first | rfl | (simp [errW_none, errW_some] <;> rfl) | (simp [*, errW_none, errW_some] <;> rfl), by repeat (first | (with_reducible first | exact HB.out | apply below_alloc | apply pw_below_drewN | apply below_drew1) | exact HB.out)⟩
      · rw [if_neg c7] at H
        have c7b0 : (t120 == (-1)) = false := beq_eq_false_iff_ne.mpr c7
        have c7b1 : (t120 != (-1)) = true := bne_iff_ne.mpr c7
        obtain rfl := Option.some.inj H
        go_enter Try.func13, Try.ntmps13
        go_wp2_with (first | ((with_reducible refine gate_callee (f := 14) rfl ?_); refine goesL_ (some 1) rfl rfl Try.func14 (by kernel_rfl) rfl #[.int .i64 (-1), .int .i64 3] rfl (by (try simp only [List.map_toArray, List.map_cons, List.map_nil]); first | done | rfl | (simp only [List.length_drop, List.length_take]; rfl)) ?_; (with_reducible refine (turn_Who.calls (-1) 3 t112 _ A1.out).mono ?_); rintro e w' ⟨rfl, ⟨nd, rfl⟩⟩; refine ⟨_, rfl, ?_⟩) | (go_at_call 19; (with_reducible refine (turn_Round.calls 3 4 t113 _ A3.out).mono ?_); rintro e w16 ⟨v114, rfl, ho0, hb⟩; have n0_ := Aside0.mk (Kd.R_lower ho0 (below_size (by repeat (first | (with_reducible first | exact HB.out | apply below_alloc | apply pw_below_drewN | apply below_drew1) | exact HB.out)))); have n1_ := Aside0.mk (below_step (by repeat (first | (with_reducible first | exact HB.out | apply below_alloc | apply pw_below_drewN | apply below_drew1) | exact HB.out)) hb); clear HB; have HO115 := n0_; have HB := n1_; clear n0_ n1_; (try clear hb); (try clear hb2); (try clear hk); (try clear hi); (try clear ho0)) | ((with_reducible refine gate_dst (N := 5) rfl ?_); (try (refine gate_guard (by rfl) ?_; dsimp only)); refine Kd.R_lit (Kd.int .i64) _ 3 ?hg (N := 5) ?hd (xs := ([0, 1, 2, 0] : List Int)) (inner := [.int .i64 0, .int .i64 1, .int .i64 2, .int .i64 0]) (ok := fun _ => True) (okp := fun _ => True) ?hr ?hp (fun _ hk => hk) trivial (Below.refl _ _) (Nat.le_refl _) (by simp) ?_; (case hd => rfl); (case hg => rfl); (case hr => first | (go_simp; done) | (go_simp; rfl)); (case hp => exact (Reps.one (show Kd.M (Kd.int .i64) _ _ _ 0 [.int .i64 0] from rfl) (Reps.one (show Kd.M (Kd.int .i64) _ _ _ 1 [.int .i64 1] from rfl) (Reps.one (show Kd.M (Kd.int .i64) _ _ _ 2 [.int .i64 2] from rfl) (Reps.one (show Kd.M (Kd.int .i64) _ _ _ 0 [.int .i64 0] from rfl) (Reps.none _ _)))))); intro v117 w17 ho18 hb hg_ hnew_; clear hg_ hnew_; (first | rw [← Ny116.out] at ho18 | (simp only [Int.reduceToNat] at ho18; rw [← Ny116.out] at ho18)); have n0_ := Aside0.mk (Kd.R_elder' (by (with_reducible repeat (first | apply Kd.R_alloc | apply Kd.R_drewN | apply Kd.R_drew)); exact HO115.out) (Kd.R_base ho18) hb); have n1_ := Aside0.mk (Kd.R_lower (Kd.R_new' ho18 (Kd.R_lt (by (with_reducible repeat (first | apply Kd.R_alloc | apply Kd.R_drewN | apply Kd.R_drew)); exact HO115.out))) (below_size (by repeat (first | (with_reducible first | exact HB.out | apply below_alloc | apply pw_below_drewN | apply below_drew1) | exact HB.out)))); have n2_ := Aside0.mk (below_step (by repeat (first | (with_reducible first | exact HB.out | apply below_alloc | apply pw_below_drewN | apply below_drew1) | exact HB.out)) hb); clear HO115; clear HB; have HO115 := n0_; have HO118 := n1_; have HB := n2_; clear n0_ n1_ n2_; clear hb ho18; obtain ⟨Ao19, co19, eo19⟩ := Kd.R_slice HO115.out; subst eo19; obtain ⟨Ao20, co20, eo20⟩ := Kd.R_slice HO118.out; subst eo20) | (go_at_call 18; (with_reducible refine (patchbaylaw03_Ints.calls k _ _ t113 _ _ y116 true _ ?side1 ?side2 ?side3 ?side4 A4.out).mono ?_); (case side1 => repeat (first | exact (Kd.R_reads' HO115.out).2.2 | (with_reducible refine Kd.C_alloc ?_ _) | (with_reducible refine Kd.C_drewN ?_ _) | (with_reducible refine Kd.C_drew ?_))); (case side2 => exact (Kd.R_reads' HO115.out).2.1); (case side3 => repeat (first | exact (Kd.R_reads' HO118.out).2.2 | (with_reducible refine Kd.C_alloc ?_ _) | (with_reducible refine Kd.C_drewN ?_ _) | (with_reducible refine Kd.C_drew ?_))); (case side4 => exact (Kd.R_reads' HO118.out).2.1); rintro e w' ⟨rfl, ⟨nd, rfl⟩⟩) | (go_at_call 14; (with_reducible refine (turn_Who.calls 5 0 t120 _ A6.out).mono ?_); rintro e w' ⟨rfl, ⟨nd, rfl⟩⟩))
        go_ret
        exact ⟨by first | rfl | (simp [errW_none, errW_some] <;> rfl) | (simp [*, errW_none, errW_some] <;> rfl), by repeat (first | (with_reducible first | exact HB.out | apply below_alloc | apply pw_below_drewN | apply below_drew1) | exact HB.out)⟩
    · replace c5 := Bool.eq_false_iff.mpr c5
      subst c5
      have H1 : (some false) = some r := by rw [if_neg (show ¬ (false = true) by decide)] at H; exact H
      clear H
      have H := H1
      clear H1
      obtain rfl := Option.some.inj H
      go_enter Try.func13, Try.ntmps13
      go_wp2_with (first | ((with_reducible refine gate_callee (f := 14) rfl ?_); refine goesL_ (some 1) rfl rfl Try.func14 (by kernel_rfl) rfl #[.int .i64 (-1), .int .i64 3] rfl (by (try simp only [List.map_toArray, List.map_cons, List.map_nil]); first | done | rfl | (simp only [List.length_drop, List.length_take]; rfl)) ?_; (with_reducible refine (turn_Who.calls (-1) 3 t112 _ A1.out).mono ?_); rintro e w' ⟨rfl, ⟨nd, rfl⟩⟩; refine ⟨_, rfl, ?_⟩) | (go_at_call 19; (with_reducible refine (turn_Round.calls 3 4 t113 _ A3.out).mono ?_); rintro e w21 ⟨v114, rfl, ho0, hb⟩; have n0_ := Aside0.mk (Kd.R_lower ho0 (below_size (by repeat (first | (with_reducible first | exact HB.out | apply below_alloc | apply pw_below_drewN | apply below_drew1) | exact HB.out)))); have n1_ := Aside0.mk (below_step (by repeat (first | (with_reducible first | exact HB.out | apply below_alloc | apply pw_below_drewN | apply below_drew1) | exact HB.out)) hb); clear HB; have HO115 := n0_; have HB := n1_; clear n0_ n1_; (try clear hb); (try clear hb2); (try clear hk); (try clear hi); (try clear ho0)) | ((with_reducible refine gate_dst (N := 5) rfl ?_); (try (refine gate_guard (by rfl) ?_; dsimp only)); refine Kd.R_lit (Kd.int .i64) _ 3 ?hg (N := 5) ?hd (xs := ([0, 1, 2, 0] : List Int)) (inner := [.int .i64 0, .int .i64 1, .int .i64 2, .int .i64 0]) (ok := fun _ => True) (okp := fun _ => True) ?hr ?hp (fun _ hk => hk) trivial (Below.refl _ _) (Nat.le_refl _) (by simp) ?_; (case hd => rfl); (case hg => rfl); (case hr => first | (go_simp; done) | (go_simp; rfl)); (case hp => exact (Reps.one (show Kd.M (Kd.int .i64) _ _ _ 0 [.int .i64 0] from rfl) (Reps.one (show Kd.M (Kd.int .i64) _ _ _ 1 [.int .i64 1] from rfl) (Reps.one (show Kd.M (Kd.int .i64) _ _ _ 2 [.int .i64 2] from rfl) (Reps.one (show Kd.M (Kd.int .i64) _ _ _ 0 [.int .i64 0] from rfl) (Reps.none _ _)))))); intro v117 w22 ho23 hb hg_ hnew_; clear hg_ hnew_; (first | rw [← Ny116.out] at ho23 | (simp only [Int.reduceToNat] at ho23; rw [← Ny116.out] at ho23)); have n0_ := Aside0.mk (Kd.R_elder' (by (with_reducible repeat (first | apply Kd.R_alloc | apply Kd.R_drewN | apply Kd.R_drew)); exact HO115.out) (Kd.R_base ho23) hb); have n1_ := Aside0.mk (Kd.R_lower (Kd.R_new' ho23 (Kd.R_lt (by (with_reducible repeat (first | apply Kd.R_alloc | apply Kd.R_drewN | apply Kd.R_drew)); exact HO115.out))) (below_size (by repeat (first | (with_reducible first | exact HB.out | apply below_alloc | apply pw_below_drewN | apply below_drew1) | exact HB.out)))); have n2_ := Aside0.mk (below_step (by repeat (first | (with_reducible first | exact HB.out | apply below_alloc | apply pw_below_drewN | apply below_drew1) | exact HB.out)) hb); clear HO115; clear HB; have HO115 := n0_; have HO118 := n1_; have HB := n2_; clear n0_ n1_ n2_; clear hb ho23; obtain ⟨Ao24, co24, eo24⟩ := Kd.R_slice HO115.out; subst eo24; obtain ⟨Ao25, co25, eo25⟩ := Kd.R_slice HO118.out; subst eo25) | (go_at_call 18; (with_reducible refine (patchbaylaw03_Ints.calls k _ _ t113 _ _ y116 false _ ?side1 ?side2 ?side3 ?side4 A4.out).mono ?_); (case side1 => repeat (first | exact (Kd.R_reads' HO115.out).2.2 | (with_reducible refine Kd.C_alloc ?_ _) | (with_reducible refine Kd.C_drewN ?_ _) | (with_reducible refine Kd.C_drew ?_))); (case side2 => exact (Kd.R_reads' HO115.out).2.1); (case side3 => repeat (first | exact (Kd.R_reads' HO118.out).2.2 | (with_reducible refine Kd.C_alloc ?_ _) | (with_reducible refine Kd.C_drewN ?_ _) | (with_reducible refine Kd.C_drew ?_))); (case side4 => exact (Kd.R_reads' HO118.out).2.1); rintro e w' ⟨rfl, ⟨nd, rfl⟩⟩))
      go_ret
      exact ⟨by first | rfl | (simp [errW_none, errW_some] <;> rfl) | (simp [*, errW_none, errW_some] <;> rfl), by repeat (first | (with_reducible first | exact HB.out | apply below_alloc | apply pw_below_drewN | apply below_drew1) | exact HB.out)⟩
  · rw [if_neg c2] at H
    have c2b0 : (t112 == 0) = false := beq_eq_false_iff_ne.mpr c2
    have c2b1 : (t112 != 0) = true := bne_iff_ne.mpr c2
    obtain rfl := Option.some.inj H
    go_enter Try.func13, Try.ntmps13
    go_wp2_with (first | ((with_reducible refine gate_callee (f := 14) rfl ?_); refine goesL_ (some 1) rfl rfl Try.func14 (by kernel_rfl) rfl #[.int .i64 (-1), .int .i64 3] rfl (by (try simp only [List.map_toArray, List.map_cons, List.map_nil]); first | done | rfl | (simp only [List.length_drop, List.length_take]; rfl)) ?_; (with_reducible refine (turn_Who.calls (-1) 3 t112 _ A1.out).mono ?_); rintro e w' ⟨rfl, ⟨nd, rfl⟩⟩; refine ⟨_, rfl, ?_⟩))
    go_ret
    exact ⟨by first | rfl | (simp [errW_none, errW_some] <;> rfl) | (simp [*, errW_none, errW_some] <;> rfl), by repeat (first | (with_reducible first | exact HB.out | apply below_alloc | apply pw_below_drewN | apply below_drew1) | exact HB.out)⟩

/-! ### patchbayref07_Who: function 15 -/
def patchbayref07_Who.f (a0 : Int) (a1 : Int) : Option (Int) := if a1 < 1 then (some (-1)) else (if (IntKind.u64.wrap (a1)) = 0 then (none) else (some (wrap64 (Int.tmod (IntKind.u64.wrap (a0)) (IntKind.u64.wrap (a1))))))
set_option maxHeartbeats 8000000 in
set_option maxRecDepth 100000 in
theorem patchbayref07_Who.calls (a0 : Int) (a1 : Int) (r : Int) (w : World) (h : patchbayref07_Who.f a0 a1 = some r) :
    Calls Try.prog 15 #[.int .i64 a0, .int .i64 a1] w fun e w' => e = .returned (.int .i64 r) ∧ Drawn0 w w' := by
  have H : (if a1 < 1 then (some (-1)) else (if (IntKind.u64.wrap (a1)) = 0 then (none) else (some (wrap64 (Int.tmod (IntKind.u64.wrap (a0)) (IntKind.u64.wrap (a1))))))) = some r := h
  clear h
  by_cases c3 : a1 < 1
  · rw [if_pos c3] at H
    have c3b0 : decide (a1 < 1) = true := decide_eq_true c3
    clear c3
    obtain rfl := Option.some.inj H
    go_enter Try.func15, Try.ntmps15
    go_wp2
    go_ret
    exact ⟨by first | rfl | (simp; done) | (simp [*]; done), by repeat (first | exact Drawn0.refl _ | apply Drawn0.step)⟩
  · rw [if_neg c3] at H
    have c3b0 : decide (a1 < 1) = false := decide_eq_false c3
    clear c3
    by_cases c4 : (IntKind.u64.wrap (a1)) = 0
    · rw [if_pos c4] at H
      exact absurd H (by simp)
    · rw [if_neg c4] at H
      have c4b0 : ((IntKind.u64.wrap (a1)) == 0) = false := beq_eq_false_iff_ne.mpr c4
      have c4b1 : ((IntKind.u64.wrap (a1)) != 0) = true := bne_iff_ne.mpr c4
      obtain rfl := Option.some.inj H
      go_enter Try.func15, Try.ntmps15
      go_wp2
      go_ret
      exact ⟨by first | rfl | (simp; done) | (simp [*]; done), by repeat (first | exact Drawn0.refl _ | apply Drawn0.step)⟩

/-! ### patchbayref07_Mix: function 17 -/
def patchbayref07_Mix.f (a0 : Int) : Option (Int) := some (Go.bits .xor .u64 (IntKind.u64.wrap ((Go.bits .xor .u64 (IntKind.u64.wrap ((Go.bits .xor .u64 (IntKind.u64.wrap (a0 + 11400714819323198485)) (IntKind.u64.wrap (Int.tdiv (IntKind.u64.wrap (a0 + 11400714819323198485)) 1073741824))) * 13787848793156543929)) (IntKind.u64.wrap (Int.tdiv (IntKind.u64.wrap ((Go.bits .xor .u64 (IntKind.u64.wrap (a0 + 11400714819323198485)) (IntKind.u64.wrap (Int.tdiv (IntKind.u64.wrap (a0 + 11400714819323198485)) 1073741824))) * 13787848793156543929)) 134217728))) * 10723151780598845931)) (IntKind.u64.wrap (Int.tdiv (IntKind.u64.wrap ((Go.bits .xor .u64 (IntKind.u64.wrap ((Go.bits .xor .u64 (IntKind.u64.wrap (a0 + 11400714819323198485)) (IntKind.u64.wrap (Int.tdiv (IntKind.u64.wrap (a0 + 11400714819323198485)) 1073741824))) * 13787848793156543929)) (IntKind.u64.wrap (Int.tdiv (IntKind.u64.wrap ((Go.bits .xor .u64 (IntKind.u64.wrap (a0 + 11400714819323198485)) (IntKind.u64.wrap (Int.tdiv (IntKind.u64.wrap (a0 + 11400714819323198485)) 1073741824))) * 13787848793156543929)) 134217728))) * 10723151780598845931)) 2147483648)))
set_option maxHeartbeats 8000000 in
set_option maxRecDepth 100000 in
theorem patchbayref07_Mix.calls (a0 : Int) (r : Int) (w : World) (h : patchbayref07_Mix.f a0 = some r) :
    Calls Try.prog 17 #[.int .u64 a0] w fun e w' => e = .returned (.int .u64 r) ∧ Drawn0 w w' := by
  have H : (some (Go.bits .xor .u64 (IntKind.u64.wrap ((Go.bits .xor .u64 (IntKind.u64.wrap ((Go.bits .xor .u64 (IntKind.u64.wrap (a0 + 11400714819323198485)) (IntKind.u64.wrap (Int.tdiv (IntKind.u64.wrap (a0 + 11400714819323198485)) 1073741824))) * 13787848793156543929)) (IntKind.u64.wrap (Int.tdiv (IntKind.u64.wrap ((Go.bits .xor .u64 (IntKind.u64.wrap (a0 + 11400714819323198485)) (IntKind.u64.wrap (Int.tdiv (IntKind.u64.wrap (a0 + 11400714819323198485)) 1073741824))) * 13787848793156543929)) 134217728))) * 10723151780598845931)) (IntKind.u64.wrap (Int.tdiv (IntKind.u64.wrap ((Go.bits .xor .u64 (IntKind.u64.wrap ((Go.bits .xor .u64 (IntKind.u64.wrap (a0 + 11400714819323198485)) (IntKind.u64.wrap (Int.tdiv (IntKind.u64.wrap (a0 + 11400714819323198485)) 1073741824))) * 13787848793156543929)) (IntKind.u64.wrap (Int.tdiv (IntKind.u64.wrap ((Go.bits .xor .u64 (IntKind.u64.wrap (a0 + 11400714819323198485)) (IntKind.u64.wrap (Int.tdiv (IntKind.u64.wrap (a0 + 11400714819323198485)) 1073741824))) * 13787848793156543929)) 134217728))) * 10723151780598845931)) 2147483648)))) = some r := h
  clear h
  obtain rfl := Option.some.inj H
  go_enter Try.func17, Try.ntmps17
  go_wp2
  go_ret
  exact ⟨by first | rfl | (simp; done) | (simp [*]; done), by repeat (first | exact Drawn0.refl _ | apply Drawn0.step)⟩

/-! ### patchbaylaw07_TurnWhos: function 3 -/
def patchbaylaw07_TurnWhos.f (k : Nat) (a0 : Int) (a1 : Int) (a2 : Int) : Option (Bool) := (patchbaylaw07_told.f k).bind fun t124 => (if t124 = true then ((turn_Who.f a0 a1).bind fun t125 => ((patchbayref07_Who.f a0 a1).bind fun t126 => (if t125 = t126 then ((turn_Mix.f a2).bind fun t127 => ((patchbayref07_Mix.f a2).bind fun t128 => (some (t127 == t128)))) else (some false)))) else (some false))
theorem patchbaylaw07_TurnWhos.mono : ∀ a0 a1 a2 k, LeO (patchbaylaw07_TurnWhos.f k a0 a1 a2) (patchbaylaw07_TurnWhos.f (k + 1) a0 a1 a2) := by
  intro a0 a1 a2 k
  unfold patchbaylaw07_TurnWhos.f
  repeat' first
      | (with_reducible exact patchbaylaw07_told.mono _)
      | (with_reducible exact LeO.refl _)
      | (with_reducible exact LeO.none _)
      | (with_reducible refine LeO.ite ?_ ?_)
      | (with_reducible refine LeO.bind ?_ (fun _ => ?_))
      | exact patchbaylaw07_told.mono _
      | exact LeO.none _
      | refine LeO.ite ?_ ?_
      | refine LeO.bind ?_ (fun _ => ?_)
set_option maxHeartbeats 8000000 in
set_option maxRecDepth 100000 in
theorem patchbaylaw07_TurnWhos.calls (k : Nat) (a0 : Int) (a1 : Int) (a2 : Int) (r : Bool) (w : World) (h : patchbaylaw07_TurnWhos.f k a0 a1 a2 = some r) :
    Calls Try.prog 3 #[.int .i64 a0, .int .i64 a1, .int .u64 a2] w fun e w' => e = .returned (.bool r) ∧ Below w.heap.size w w' := by
  have HB := Aside0.mk (Below.refl w.heap.size w)
  have H : ((patchbaylaw07_told.f k).bind fun t124 => (if t124 = true then ((turn_Who.f a0 a1).bind fun t125 => ((patchbayref07_Who.f a0 a1).bind fun t126 => (if t125 = t126 then ((turn_Mix.f a2).bind fun t127 => ((patchbayref07_Mix.f a2).bind fun t128 => (some (t127 == t128)))) else (some false)))) else (some false))) = some r := h
  clear h
  replace H := Option.bind_eq_some_iff.mp H
  obtain ⟨t124, A40, H⟩ := H
  replace H : (if t124 = true then ((turn_Who.f a0 a1).bind fun t125 => ((patchbayref07_Who.f a0 a1).bind fun t126 => (if t125 = t126 then ((turn_Mix.f a2).bind fun t127 => ((patchbayref07_Mix.f a2).bind fun t128 => (some (t127 == t128)))) else (some false)))) else (some false)) = some r := H
  have A4 := Aside0.mk A40
  clear A40
  by_cases c5 : t124 = true
  · subst c5
    have H1 : ((turn_Who.f a0 a1).bind fun t125 => ((patchbayref07_Who.f a0 a1).bind fun t126 => (if t125 = t126 then ((turn_Mix.f a2).bind fun t127 => ((patchbayref07_Mix.f a2).bind fun t128 => (some (t127 == t128)))) else (some false)))) = some r := by rw [if_pos rfl] at H; exact H
    clear H
    have H := H1
    clear H1
    replace H := Option.bind_eq_some_iff.mp H
    obtain ⟨t125, A60, H⟩ := H
    replace H : ((patchbayref07_Who.f a0 a1).bind fun t126 => (if t125 = t126 then ((turn_Mix.f a2).bind fun t127 => ((patchbayref07_Mix.f a2).bind fun t128 => (some (t127 == t128)))) else (some false))) = some r := H
    have A6 := Aside0.mk A60
    clear A60
    replace H := Option.bind_eq_some_iff.mp H
    obtain ⟨t126, A70, H⟩ := H
    replace H : (if t125 = t126 then ((turn_Mix.f a2).bind fun t127 => ((patchbayref07_Mix.f a2).bind fun t128 => (some (t127 == t128)))) else (some false)) = some r := H
    have A7 := Aside0.mk A70
    clear A70
    by_cases c8 : t125 = t126
    · rw [if_pos c8] at H
      have c8b0 : (t125 == t126) = true := beq_iff_eq.mpr c8
      have c8b1 : (t125 != t126) = false := bne_eq_false_iff_eq.mpr c8
      clear c8
      replace H := Option.bind_eq_some_iff.mp H
      obtain ⟨t127, A90, H⟩ := H
      replace H : ((patchbayref07_Mix.f a2).bind fun t128 => (some (t127 == t128))) = some r := H
      have A9 := Aside0.mk A90
      clear A90
      replace H := Option.bind_eq_some_iff.mp H
      obtain ⟨t128, A100, H⟩ := H
      replace H : (some (t127 == t128)) = some r := H
      have A10 := Aside0.mk A100
      clear A100
      obtain rfl := Option.some.inj H
      go_enter Try.func3, Try.ntmps3
      go_wp2_with (first | ((with_reducible refine gate_callee (f := 13) rfl ?_); refine goesL_ (some 7) rfl rfl Try.func13 (by kernel_rfl) rfl #[] rfl (by (try simp only [List.map_toArray, List.map_cons, List.map_nil]); first | done | rfl | (simp only [List.length_drop, List.length_take]; rfl)) ?_; (with_reducible refine (patchbaylaw07_told.calls k  true _ A4.out).mono ?_); rintro e w11 ⟨rfl, hb⟩; refine ⟨_, rfl, ?_⟩; have n0_ := Aside0.mk (below_step (by repeat (first | (with_reducible first | exact HB.out | apply below_alloc | apply pw_below_drewN | apply below_drew1) | exact HB.out)) hb); clear HB; have HB := n0_; clear n0_; (try clear hb); (try clear hb2); (try clear hk); (try clear hi)) | (go_at_call 14; (with_reducible refine (turn_Who.calls a0 a1 t125 _ A6.out).mono ?_); rintro e w' ⟨rfl, ⟨nd, rfl⟩⟩) | (go_at_call 15; (with_reducible refine (patchbayref07_Who.calls a0 a1 t126 _ A7.out).mono ?_); rintro e w' ⟨rfl, ⟨nd, rfl⟩⟩) | (go_at_call 16; (with_reducible refine (turn_Mix.calls a2 t127 _ A9.out).mono ?_); rintro e w' ⟨rfl, ⟨nd, rfl⟩⟩) | (go_at_call 17; (with_reducible refine (patchbayref07_Mix.calls a2 t128 _ A10.out).mono ?_); rintro e w' ⟨rfl, ⟨nd, rfl⟩⟩))
      go_ret
      exact ⟨by first | rfl | (simp [errW_none, errW_some] <;> rfl) | (simp [*, errW_none, errW_some] <;> rfl), by repeat (first | (with_reducible first | exact HB.out | apply below_alloc | apply pw_below_drewN | apply below_drew1) | exact HB.out)⟩
    · rw [if_neg c8] at H
      have c8b0 : (t125 == t126) = false := beq_eq_false_iff_ne.mpr c8
      have c8b1 : (t125 != t126) = true := bne_iff_ne.mpr c8
      obtain rfl := Option.some.inj H
      go_enter Try.func3, Try.ntmps3
      go_wp2_with (first | ((with_reducible refine gate_callee (f := 13) rfl ?_); refine goesL_ (some 7) rfl rfl Try.func13 (by kernel_rfl) rfl #[] rfl (by (try simp only [List.map_toArray, List.map_cons, List.map_nil]); first | done | rfl | (simp only [List.length_drop, List.length_take]; rfl)) ?_; (with_reducible refine (patchbaylaw07_told.calls k  true _ A4.out).mono ?_); rintro e w12 ⟨rfl, hb⟩; refine ⟨_, rfl, ?_⟩; have n0_ := Aside0.mk (below_step (by repeat (first | (with_reducible first | exact HB.out | apply below_alloc | apply pw_below_drewN | apply below_drew1) | exact HB.out)) hb); clear HB; have HB := n0_; clear n0_; (try clear hb); (try clear hb2); (try clear hk); (try clear hi)) | (go_at_call 14; (with_reducible refine (turn_Who.calls a0 a1 t125 _ A6.out).mono ?_); rintro e w' ⟨rfl, ⟨nd, rfl⟩⟩) | (go_at_call 15; (with_reducible refine (patchbayref07_Who.calls a0 a1 t126 _ A7.out).mono ?_); rintro e w' ⟨rfl, ⟨nd, rfl⟩⟩))
      go_ret
      exact ⟨by first | rfl | (simp [errW_none, errW_some] <;> rfl) | (simp [*, errW_none, errW_some] <;> rfl), by repeat (first | (with_reducible first | exact HB.out | apply below_alloc | apply pw_below_drewN | apply below_drew1) | exact HB.out)⟩
  · replace c5 := Bool.eq_false_iff.mpr c5
    subst c5
    have H1 : (some false) = some r := by rw [if_neg (show ¬ (false = true) by decide)] at H; exact H
    clear H
    have H := H1
    clear H1
    obtain rfl := Option.some.inj H
    go_enter Try.func3, Try.ntmps3
    go_wp2_with (first | ((with_reducible refine gate_callee (f := 13) rfl ?_); refine goesL_ (some 7) rfl rfl Try.func13 (by kernel_rfl) rfl #[] rfl (by (try simp only [List.map_toArray, List.map_cons, List.map_nil]); first | done | rfl | (simp only [List.length_drop, List.length_take]; rfl)) ?_; (with_reducible refine (patchbaylaw07_told.calls k  false _ A4.out).mono ?_); rintro e w13 ⟨rfl, hb⟩; refine ⟨_, rfl, ?_⟩; have n0_ := Aside0.mk (below_step (by repeat (first | (with_reducible first | exact HB.out | apply below_alloc | apply pw_below_drewN | apply below_drew1) | exact HB.out)) hb); clear HB; have HB := n0_; clear n0_; (try clear hb); (try clear hb2); (try clear hk); (try clear hi)))
    go_ret
    exact ⟨by first | rfl | (simp [errW_none, errW_some] <;> rfl) | (simp [*, errW_none, errW_some] <;> rfl), by repeat (first | (with_reducible first | exact HB.out | apply below_alloc | apply pw_below_drewN | apply below_drew1) | exact HB.out)⟩

/-- THE ONE PURE STATEMENT of patchbaylaw07_TurnWhos: yours. -/
def patchbaylaw07_TurnWhos.Pure : Prop := ∀ (a0 : Int) (a1 : Int) (a2 : Int), (Lit.int .i64 a0).wf = true → (Lit.int .i64 a1).wf = true → (Lit.int .u64 a2).wf = true → ∃ k, patchbaylaw07_TurnWhos.f k a0 a1 a2 = some true
theorem patchbaylaw07_TurnWhos.walk (P : patchbaylaw07_TurnWhos.Pure) (a0 : Int) (a1 : Int) (a2 : Int) (w : World) (w0 : (Lit.int .i64 a0).wf = true) (w1 : (Lit.int .i64 a1).wf = true) (w2 : (Lit.int .u64 a2).wf = true) :
    Calls Try.prog 3 #[.int .i64 a0, .int .i64 a1, .int .u64 a2] w fun e w' => e = .returned (.bool true) ∧ Below w.heap.size w w' := by
  obtain ⟨k, h⟩ := P a0 a1 a2 w0 w1 w2
  refine (patchbaylaw07_TurnWhos.calls k a0 a1 a2 true w h).mono ?_
  rintro e w' ⟨rfl, hd⟩
  exact ⟨rfl, hd⟩

end Go.Proofs.Ytfgdjljbdghdgaa.PTurn
