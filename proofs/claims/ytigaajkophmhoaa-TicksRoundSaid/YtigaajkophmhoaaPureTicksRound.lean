/- Ages are the same of ticks that are as much later, for all three ticks; no condition. -/
import Derived.OpenShut
import Derived.Test.YtigaajkophmhoaaPTicksRoundx1
namespace Go.Proofs.Ytigaajkophmhoaa.Pure
open Go.RowKit Go.Proofs.Ytigaajkophmhoaa.PTicksRound Go.Proofs.YtigaajkophmhoaaW.PrintWords Go.Proofs.YtigaajkophmhoaaW.PrintLast

theorem told1 : patchbaylaw04_told.f 1 = some true := by decide

theorem TicksRound : patchbaylaw04_TicksRound.Pure := by
  intro a0 a1 a2 h0 h1 h2
  have b0 := bounds_u32 h0
  have b1 := bounds_u32 h1
  have b2 := bounds_u32 h2
  refine ⟨1, ?_⟩
  have e1 : ticks_Age.f ((a0 + a2) % 4294967296) ((a1 + a2) % 4294967296) = ticks_Age.f a0 a1 := by
    unfold ticks_Age.f
    rw [show ((a0 + a2) % 4294967296 - (a1 + a2) % 4294967296) % 4294967296 = (a0 - a1) % 4294967296 from by omega]
  have e2 : ticks_Age.f ((a1 + a2) % 4294967296) a1 = some (if a2 ≥ 2147483648 then 0 else a2) := by
    unfold ticks_Age.f
    rw [show ((a1 + a2) % 4294967296 - a1) % 4294967296 = a2 from by omega]
    split <;> rfl
  have e3 : ticks_Age.f a1 a1 = some 0 := by
    unfold ticks_Age.f
    rw [show (a1 - a1) % 4294967296 = 0 from by omega]; rfl
  obtain ⟨x, hx⟩ : ∃ x, ticks_Age.f a0 a1 = some x := by unfold ticks_Age.f; split <;> exact ⟨_, rfl⟩
  unfold patchbaylaw04_TicksRound.f
  simp only [ticks_Add.f, Option.bind_some, e1, e2, e3, hx, told1, if_true]
  by_cases h : a2 ≥ 2147483648
  · simp [h]
  · simp [h]

end Go.Proofs.Ytigaajkophmhoaa.Pure
