/- What was old stays so as time goes on by less than half of all ticks; no condition. -/
import Derived.OpenShut
import Derived.IntWalk
import Derived.Test.YtigaajkophmhoaaPTicksLaterx1
namespace Go.Proofs.Ytigaajkophmhoaa.Pure
open Go.RowKit Go.Proofs.Ytigaajkophmhoaa.PTicksLater Go.Proofs.YtigaajkophmhoaaW.PrintWords Go.Proofs.YtigaajkophmhoaaW.PrintLast

theorem told1 : patchbaylaw04_told.f 1 = some true := by decide

theorem TicksLater : patchbaylaw04_TicksLater.Pure := by
  intro a0 a1 a2 h0 h1 h2
  have b0 := bounds_u32 h0
  have b1 := bounds_u32 h1
  have b2 := bounds_u32 h2
  refine ⟨1, ?_⟩
  have ex : Int.tmod a1 1073741824 = a1 % 1073741824 := Int.tmod_eq_emod_of_nonneg (by omega)
  have ey : Int.tmod a2 1073741824 = a2 % 1073741824 := Int.tmod_eq_emod_of_nonneg (by omega)
  have e1 : ticks_Age.f ((a0 + a1 % 1073741824) % 4294967296) a0 = some (a1 % 1073741824) := by
    unfold ticks_Age.f
    rw [show ((a0 + a1 % 1073741824) % 4294967296 - a0) % 4294967296 = a1 % 1073741824 from by omega, if_neg (by omega)]
  have e2 : ticks_Age.f (((a0 + a1 % 1073741824) % 4294967296 + a2 % 1073741824) % 4294967296) a0 = some (a1 % 1073741824 + a2 % 1073741824) := by
    unfold ticks_Age.f
    rw [show (((a0 + a1 % 1073741824) % 4294967296 + a2 % 1073741824) % 4294967296 - a0) % 4294967296 = a1 % 1073741824 + a2 % 1073741824 from by omega, if_neg (by omega)]
  have e3 : (a1 % 1073741824 + a2 % 1073741824) % 4294967296 = a1 % 1073741824 + a2 % 1073741824 := by omega
  unfold patchbaylaw04_TicksLater.f
  simp only [told1, Option.bind_some, if_true, ticks_Add.f, ex, ey, e1, e2, e3, bne_self_eq_false, patchbaylaw04_TicksLater.j0, ticks_Old.f]
  by_cases h : a1 % 1073741824 > a2
  · have : a1 % 1073741824 + a2 % 1073741824 > a2 := by omega
    simp [h, this]
  · simp [h]

end Go.Proofs.Ytigaajkophmhoaa.Pure
