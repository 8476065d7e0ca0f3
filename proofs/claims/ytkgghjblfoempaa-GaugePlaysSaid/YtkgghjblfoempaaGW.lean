/- math.IsNaN .. and gauge.Kind, Compare: their walks; no condition. -/
import Derived.Test.YtkgghjblfoempaaProg
import Derived.Lib.SliceRun
import Derived.OpenShut
import Derived.Below
import Derived.Deep.Draws
import Derived.Deep.AppendLies
import Derived.Maps.AppendAt
import Derived.OwnWalk
import Derived.Laws.BytesArg
import Derived.Laws.MakeOwn
import Derived.Laws.OwnMore
import Derived.Deep.OwnRows
import Derived.Tactics
import Derived.Lib.ConvBytes
import Derived.Laws.Slices
import Derived.WalkKit
import Derived.KernelRfl
import Derived.RowKit3
import Derived.Deep.LoopGhost
import Derived.Deep.QuietTactic
import Derived.BigQuiet
import Derived.WideLaws
import Derived.Deep.DeepCutAuto
import Derived.Deep.CutBlock
import Derived.Deep.RegionHeld3
import Derived.Laws.Rows
import Derived.Lib.AppendStr
import Derived.ArgAppend
import Derived.Laws.IdiomCopy
import Derived.OrdersHeld
import Derived.Laws.BitsLemmas
import Derived.RowKit
import Derived.WalkLawsBesides
import Derived.Test.YtkgghjblfoempaaWWords
import Derived.Test.YtkgghjblfoempaaWLast
import Derived.Test.YtkgghjblfoempaaGFloat2
import Derived.Deep.RegionHeld
namespace Go.Proofs.Ytkgghjblfoempaa.GW
open Go.RowKit Go.Proofs.YtkgghjblfoempaaW.PrintWords Go.Proofs.Ytkgghjblfoempaa.Fl
set_option linter.unusedVariables false
set_option linter.unusedSimpArgs false

theorem isNaN_ (x : Nat) (w : World) : Calls Try.prog 58 #[.float .f64 x] w fun e w' => e = .returned (.bool (decide (cls x = 6))) ∧ w' = w := by
  rw [← nan_iff]
  go_enter Try.func58, Try.ntmps58
  go_wp2
  go_ret
  exact ⟨rfl, rfl⟩

theorem isInf_p (x : Nat) (w : World) : Calls Try.prog 59 #[.float .f64 x, .int .i64 1] w fun e w' => e = .returned (.bool (decide (cls x = 5))) ∧ w' = w := by
  rw [← inf_iff]
  go_enter Try.func59, Try.ntmps59
  go_wp2
  go_ret
  exact ⟨rfl, rfl⟩

theorem isInf_m (x : Nat) (hx : x < 18446744073709551616) (w : World) : Calls Try.prog 59 #[.float .f64 x, .int .i64 (-1)] w fun e w' => e = .returned (.bool (decide (cls x = 0))) ∧ w' = w := by
  rw [← less_iff x hx]
  have hn : (Op.unary .neg (.float .f64 x)).run Try.prog w = .ok (.float .f64 (Op.negFloat .f64 x)) w := rfl
  go_enter Try.func59, Try.ntmps59
  go_wp2
  go_ret
  exact ⟨rfl, rfl⟩

theorem float64bits_ (x : Nat) (w : World) : (Extern.MathFloatBits.float64bits #[.float .f64 x]).run Try.prog w = .ok (.int .u64 x) w := rfl

theorem signbit_ (x : Nat) (w : World) : Calls Try.prog 63 #[.float .f64 x] w fun e w' => e = .returned (.bool (sgn x)) ∧ w' = w := by
  go_enter Try.func63, Try.ntmps63
  go_wp2
  rw [run_callFunc_extern Try.func66 (by kernel_rfl) (by kernel_rfl) (by kernel_rfl) (e := Extern.MathFloatBits.float64bits) (by kernel_rfl), float64bits_]
  simp only [Result.andThen]
  rw [Oper.upon_value]
  go_wp2
  go_ret
  exact ⟨by unfold sgn; rw [show IntKind.i64.wrap (x : Int) = wrap64 (x : Int) from Go.Proofs.YtkgghjblfoempaaW.PrintLast.i64_w _]; rfl, rfl⟩

set_option maxHeartbeats 4000000 in
theorem kind_ (x : Nat) (hx : x < 18446744073709551616) (w : World) : Calls Try.prog 41 #[.float .f64 x] w fun e w' => e = .returned (.int .i64 (kindw x)) ∧ w' = w := by
  have hz := zero_iff x
  have hc := cls_le x
  unfold kindw
  rcases hc with c | c | c | c
  · rw [c] at hz ⊢
    go_enter Try.func41, Try.ntmps41
    go_wp2_with (first | (go_at_call 58; with_reducible refine (isNaN_ x _).mono ?_; rintro e w' ⟨rfl, rfl⟩) | (go_at_call 59; with_reducible refine (isInf_p x _).mono ?_; rintro e w' ⟨rfl, rfl⟩) | (go_at_call 59; with_reducible refine (isInf_m x hx _).mono ?_; rintro e w' ⟨rfl, rfl⟩) | (go_at_call 63; with_reducible refine (signbit_ x _).mono ?_; rintro e w' ⟨rfl, rfl⟩))
    go_ret
    exact ⟨rfl, rfl⟩
  · by_cases hv : val x = 0
    · have hz1 : (Ieee.double.order x 0 == some .eq) = true := by rw [hz]; simp [c, hv]
      have hz2 : (FloatKind.f64.format.order x 0 == some .eq) = true := hz1
      rw [if_pos hv, c]
      cases hs : sgn x
      · go_enter Try.func41, Try.ntmps41
        go_wp2_with (first | (go_at_call 58; with_reducible refine (isNaN_ x _).mono ?_; rintro e w' ⟨rfl, rfl⟩) | (go_at_call 59; with_reducible refine (isInf_p x _).mono ?_; rintro e w' ⟨rfl, rfl⟩) | (go_at_call 59; with_reducible refine (isInf_m x hx _).mono ?_; rintro e w' ⟨rfl, rfl⟩) | (go_at_call 63; with_reducible refine (signbit_ x _).mono ?_; rintro e w' ⟨rfl, rfl⟩))
        go_ret
        exact ⟨rfl, rfl⟩
      · go_enter Try.func41, Try.ntmps41
        go_wp2_with (first | (go_at_call 58; with_reducible refine (isNaN_ x _).mono ?_; rintro e w' ⟨rfl, rfl⟩) | (go_at_call 59; with_reducible refine (isInf_p x _).mono ?_; rintro e w' ⟨rfl, rfl⟩) | (go_at_call 59; with_reducible refine (isInf_m x hx _).mono ?_; rintro e w' ⟨rfl, rfl⟩) | (go_at_call 63; with_reducible refine (signbit_ x _).mono ?_; rintro e w' ⟨rfl, rfl⟩))
        go_ret
        exact ⟨rfl, rfl⟩
    · have hz1 : (Ieee.double.order x 0 == some .eq) = false := by rw [hz]; simp [hv]
      have hz2 : (FloatKind.f64.format.order x 0 == some .eq) = false := hz1
      rw [if_neg hv, c]
      go_enter Try.func41, Try.ntmps41
      go_wp2_with (first | (go_at_call 58; with_reducible refine (isNaN_ x _).mono ?_; rintro e w' ⟨rfl, rfl⟩) | (go_at_call 59; with_reducible refine (isInf_p x _).mono ?_; rintro e w' ⟨rfl, rfl⟩) | (go_at_call 59; with_reducible refine (isInf_m x hx _).mono ?_; rintro e w' ⟨rfl, rfl⟩) | (go_at_call 63; with_reducible refine (signbit_ x _).mono ?_; rintro e w' ⟨rfl, rfl⟩))
      go_ret
      exact ⟨rfl, rfl⟩
  · rw [c] at hz ⊢
    go_enter Try.func41, Try.ntmps41
    go_wp2_with (first | (go_at_call 58; with_reducible refine (isNaN_ x _).mono ?_; rintro e w' ⟨rfl, rfl⟩) | (go_at_call 59; with_reducible refine (isInf_p x _).mono ?_; rintro e w' ⟨rfl, rfl⟩) | (go_at_call 59; with_reducible refine (isInf_m x hx _).mono ?_; rintro e w' ⟨rfl, rfl⟩) | (go_at_call 63; with_reducible refine (signbit_ x _).mono ?_; rintro e w' ⟨rfl, rfl⟩))
    go_ret
    exact ⟨rfl, rfl⟩
  · rw [c] at hz ⊢
    go_enter Try.func41, Try.ntmps41
    go_wp2_with (first | (go_at_call 58; with_reducible refine (isNaN_ x _).mono ?_; rintro e w' ⟨rfl, rfl⟩) | (go_at_call 59; with_reducible refine (isInf_p x _).mono ?_; rintro e w' ⟨rfl, rfl⟩) | (go_at_call 59; with_reducible refine (isInf_m x hx _).mono ?_; rintro e w' ⟨rfl, rfl⟩) | (go_at_call 63; with_reducible refine (signbit_ x _).mono ?_; rintro e w' ⟨rfl, rfl⟩))
    go_ret
    exact ⟨rfl, rfl⟩

theorem sign_ (x : Nat) (w : World) : Calls Try.prog 62 #[.float .f64 x] w fun e w' => e = .returned (.int .i64 (zs x)) ∧ w' = w := by
  have hz := zero_iff x
  unfold zs
  by_cases hv : cls x = 1 ∧ val x = 0
  · have hz2 : (FloatKind.f64.format.order x 0 == some .eq) = true := by rw [show FloatKind.f64.format = Ieee.double from rfl, hz]; exact decide_eq_true hv
    cases hs : sgn x
    · rw [if_neg (by simp)]
      go_enter Try.func62, Try.ntmps62
      go_wp2_with (first | (go_at_call 58; with_reducible refine (isNaN_ x _).mono ?_; rintro e w' ⟨rfl, rfl⟩) | (go_at_call 59; with_reducible refine (isInf_p x _).mono ?_; rintro e w' ⟨rfl, rfl⟩) | (go_at_call 59; with_reducible refine (isInf_m x hx _).mono ?_; rintro e w' ⟨rfl, rfl⟩) | (go_at_call 63; with_reducible refine (signbit_ x _).mono ?_; rintro e w' ⟨rfl, rfl⟩))
      go_ret
      exact ⟨rfl, rfl⟩
    · rw [if_pos ⟨hv, rfl⟩]
      go_enter Try.func62, Try.ntmps62
      go_wp2_with (first | (go_at_call 58; with_reducible refine (isNaN_ x _).mono ?_; rintro e w' ⟨rfl, rfl⟩) | (go_at_call 59; with_reducible refine (isInf_p x _).mono ?_; rintro e w' ⟨rfl, rfl⟩) | (go_at_call 59; with_reducible refine (isInf_m x hx _).mono ?_; rintro e w' ⟨rfl, rfl⟩) | (go_at_call 63; with_reducible refine (signbit_ x _).mono ?_; rintro e w' ⟨rfl, rfl⟩))
      go_ret
      exact ⟨rfl, rfl⟩
  · have hz2 : (FloatKind.f64.format.order x 0 == some .eq) = false := by rw [show FloatKind.f64.format = Ieee.double from rfl, hz]; exact decide_eq_false hv
    rw [if_neg (fun h => hv h.1)]
    go_enter Try.func62, Try.ntmps62
    go_wp2_with (first | (go_at_call 58; with_reducible refine (isNaN_ x _).mono ?_; rintro e w' ⟨rfl, rfl⟩) | (go_at_call 59; with_reducible refine (isInf_p x _).mono ?_; rintro e w' ⟨rfl, rfl⟩) | (go_at_call 59; with_reducible refine (isInf_m x hx _).mono ?_; rintro e w' ⟨rfl, rfl⟩) | (go_at_call 63; with_reducible refine (signbit_ x _).mono ?_; rintro e w' ⟨rfl, rfl⟩))
    go_ret
    exact ⟨rfl, rfl⟩
end Go.Proofs.Ytkgghjblfoempaa.GW
