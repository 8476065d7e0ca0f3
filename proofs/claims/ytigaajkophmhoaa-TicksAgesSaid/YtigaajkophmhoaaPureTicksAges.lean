/- Sums, ages, old ones and limits are as the reference tells, for all three ticks; no condition. -/
import Derived.OpenShut
import Derived.IntWalk
import Derived.Test.YtigaajkophmhoaaPTicksAgesx1
namespace Go.Proofs.Ytigaajkophmhoaa.Pure
open Go.RowKit Go.Proofs.Ytigaajkophmhoaa.PTicksAges Go.Proofs.YtigaajkophmhoaaW.PrintWords Go.Proofs.YtigaajkophmhoaaW.PrintLast

theorem told1 : patchbaylaw04_told.f 1 = some true := by decide

theorem refAge {a b : Int} (h : 0 ≤ a ∧ a ≤ 4294967295) (k : 0 ≤ b ∧ b ≤ 4294967295) : patchbayref04_Age.f a b = ticks_Age.f a b := by
  unfold patchbayref04_Age.f ticks_Age.f
  rw [IntWalk.u64_in a (by omega), IntWalk.u64_in b (by omega), IntWalk.u64_in (a + 4294967296) (by omega), IntWalk.u64_in (a + 4294967296 - b) (by omega), Int.tmod_eq_emod_of_nonneg (by omega)]
  rw [show (a + 4294967296 - b) % 4294967296 = (a - b) % 4294967296 from by omega, Int.emod_emod_of_dvd _ (by decide)]

theorem refAdd {a b : Int} (h : 0 ≤ a ∧ a ≤ 4294967295) (k : 0 ≤ b ∧ b ≤ 4294967295) : patchbayref04_Add.f a b = ticks_Add.f a b := by
  unfold patchbayref04_Add.f ticks_Add.f
  rw [IntWalk.u64_in a (by omega), IntWalk.u64_in b (by omega), IntWalk.u64_in (a + b) (by omega), Int.tmod_eq_emod_of_nonneg (by omega), Int.emod_emod_of_dvd _ (by decide)]

theorem TicksAges : patchbaylaw04_TicksAges.Pure := by
  intro a0 a1 a2 h0 h1 h2
  have b0 := bounds_u32 h0
  have b1 := bounds_u32 h1
  have b2 := bounds_u32 h2
  refine ⟨1, ?_⟩
  have e4 : ∀ c, ticks_Limit.f a0 a2 c = patchbayref04_Limit.f a0 a2 c := by
    intro c
    unfold ticks_Limit.f patchbayref04_Limit.f mn
    cases c
    · simp
    · by_cases h : a2 < a0
      · simp [h]
      · simp [h]
  obtain ⟨x, hx⟩ : ∃ x, ticks_Age.f a0 a1 = some x := by unfold ticks_Age.f; split <;> exact ⟨_, rfl⟩
  obtain ⟨y, hy⟩ : ∃ x, patchbayref04_Limit.f a0 a2 ((Int.tmod a1 2) == 1) = some x := by unfold patchbayref04_Limit.f; split <;> (try split) <;> exact ⟨_, rfl⟩
  unfold patchbaylaw04_TicksAges.f ticks_Old.f patchbayref04_Old.f
  simp only [told1, Option.bind_some, if_true, refAdd b1 b2, refAge b0 b1, ticks_Add.f, hx, e4, hy, beq_self_eq_true]

end Go.Proofs.Ytigaajkophmhoaa.Pure
