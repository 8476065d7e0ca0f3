/- MacTexts: the plain law. -/
import Derived.Test.YtdohdjfclnlpmaaMacPure2
namespace Go.Proofs.Ytdohdjfclnlpmaa.Pure
open Go.RowKit Go.Proofs.Ytdohdjfclnlpmaa.PMac Go.Proofs.YtdohdjfclnlpmaaW.PrintWords Go.Proofs.YtdohdjfclnlpmaaW.PrintLast Go.Proofs.Ytdohdjfclnlpmaa.MacW Go.Proofs.Ytdohdjfclnlpmaa
set_option linter.unusedVariables false
set_option linter.unusedSimpArgs false

theorem MacTexts : patchbaylaw01_MacTexts.Pure := by
  intro m hm
  obtain ⟨h0, h1⟩ := bounds_u64 hm
  refine ⟨30, ?_⟩
  unfold patchbaylaw01_MacTexts.f
  rw [mac_Text_eq h0 h1, Option.bind_some]
  unfold mac_Parse.f
  rw [prs_txt h0, Option.bind_some, told30, Option.bind_some, if_pos rfl, ref_Text_eq h0 h1, Option.bind_some, if_pos rfl, if_pos rfl, ref_Low_eq h0, Option.bind_some]
  simp
end Go.Proofs.Ytdohdjfclnlpmaa.Pure
