/- The law GaugeFills: whole numbers taken; no condition. -/
import Derived.Test.YtkgghjblfoempaaGW7
import Derived.Test.YtkgghjblfoempaaGX2
import Derived.Test.YtkgghjblfoempaaWMore
namespace Go.Proofs.Ytkgghjblfoempaa.GW
open Go.RowKit Go.Proofs.YtkgghjblfoempaaW.PrintWords Go.Proofs.Ytkgghjblfoempaa.Fl
set_option linter.unusedVariables false
set_option linter.unusedSimpArgs false
attribute [local go_sem] run_store_float Go.Proofs.YtkgghjblfoempaaW.PrintMore.min2_int Go.Proofs.YtkgghjblfoempaaW.PrintMore.min_two

theorem clamp_Wn (mo q : Nat) (hm : mo < 4503599627370496) (hq : q < 4503599627370496) : clampw (Wn mo) (Wn q) = Wn (min mo q) := by
  unfold clampw
  rw [gt_Wn q mo hq hm]
  by_cases c : mo < q
  · rw [if_pos (decide_eq_true c), Nat.min_eq_left (by omega)]
    rw [show Ieee.double.order (Wn mo) 0 = Ieee.double.order (Wn mo) (Wn 0) from by rw [Wn_0], gt_Wn mo 0 hm (by decide)]
    by_cases d : 0 < mo
    · rw [if_pos (decide_eq_true d)]
    · obtain rfl : mo = 0 := by omega
      rw [if_neg (by simp), Wn_0]
  · rw [if_neg (show ¬ (decide (mo < q) = true) from by simpa using c), Nat.min_eq_right (by omega)]
    rw [show Ieee.double.order (Wn q) 0 = Ieee.double.order (Wn q) (Wn 0) from by rw [Wn_0], gt_Wn q 0 hq (by decide)]
    by_cases d : 0 < q
    · rw [if_pos (decide_eq_true d)]
    · obtain rfl : q = 0 := by omega
      rw [if_neg (by simp), Wn_0]

/-- A frame that may come or not, of whole numbers. -/
theorem take_Wn (L mo k t : Nat) (la now : Int) (hL : L ≤ 255) (hm : mo ≤ 255) (hk : k ≤ 255) (ht : t ≤ 255) (ha : age now la = (t : Int)) {r : Nat} {ok : Bool} (h : TakeR (Wn L) (Wn mo) (Wn k) la now r ok) :
    r = Wn (min mo (k + L * t) - 1) ∧ ok = decide (0 < min mo (k + L * t)) := by
  have hLt : L * t ≤ 65025 := Nat.le_trans (Nat.mul_le_mul hL ht) (by decide)
  have ho : openw (Wn L) = false := by unfold openw; rw [cls_Wn L (by omega)]; rfl
  have hmul : floatBits .mul .f64 (Wn L) (floatOfInt .f64 (age now la)) = some (Wn (L * t)) := by rw [ha]; exact mul_Wn L t (by omega) (by omega) (by omega)
  have hadd := add_Wn k (L * t) (by omega) (by omega) (by omega)
  obtain ⟨p, hp⟩ : ∃ p, min mo (k + L * t) = p := ⟨_, rfl⟩
  have hp2 : p ≤ 255 := by omega
  rw [hp]
  have hc : clampw (Wn mo) (Wn (k + L * t)) = Wn p := by rw [clamp_Wn mo _ (by omega) (by omega), hp]
  have hlt : (FloatKind.f64.format.order (Wn p) one == some .lt) = decide (p < 1) := by rw [← Wn_1]; exact lt_Wn p 1 (by omega) (by decide)
  rcases take_det _ _ _ h ho hmul hadd hc with ⟨a, b, c⟩ | ⟨a, b, c⟩
  · rw [hlt] at a
    have : p = 0 := by have := of_decide_eq_true a; omega
    subst this
    exact ⟨b, c⟩
  · rw [hlt] at a
    have q : 0 < p := by have := of_decide_eq_false a; omega
    rw [← Wn_1] at b
    exact ⟨FR_det b (sub_Wn p 1 (by omega) (by decide) (by omega)), by rw [c, decide_eq_true q]⟩

theorem age_00 : age 0 0 = ((0 : Nat) : Int) := by decide
theorem age_t0 (t : Nat) (h : t ≤ 255) : age (t : Int) 0 = (t : Int) := by unfold age; rw [if_neg (by omega)]; omega
theorem age_tt (t : Nat) : age (t : Int) (t : Int) = ((0 : Nat) : Int) := by unfold age; rw [Int.sub_self]; decide
end Go.Proofs.Ytkgghjblfoempaa.GW
