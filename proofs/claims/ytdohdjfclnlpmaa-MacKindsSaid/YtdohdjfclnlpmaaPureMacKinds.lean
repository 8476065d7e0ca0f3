/- MacKinds: the plain law. -/
import Derived.Test.YtdohdjfclnlpmaaMacPure2
namespace Go.Proofs.Ytdohdjfclnlpmaa.Pure
open Go.RowKit Go.Proofs.Ytdohdjfclnlpmaa.PMac Go.Proofs.YtdohdjfclnlpmaaW.PrintWords Go.Proofs.YtdohdjfclnlpmaaW.PrintLast Go.Proofs.Ytdohdjfclnlpmaa.MacW Go.Proofs.Ytdohdjfclnlpmaa
set_option linter.unusedVariables false
set_option linter.unusedSimpArgs false

theorem MacKinds : patchbaylaw01_MacKinds.Pure := by
  intro m hm
  obtain ⟨h0, h1⟩ := bounds_u64 hm
  refine ⟨30, ?_⟩
  have r0 : rd (mac_Text.b6 m) 0 = m / 1099511627776 % 256 := rfl
  unfold patchbaylaw01_MacKinds.f
  rw [mac_Kind_eq h0 h1, Option.bind_some, ref_Bytes_b6 h0 h1, Option.bind_some, if_pos (by simp [mac_Text.b6]), told30, Option.bind_some, if_pos rfl, ref_Kind_eq h0 h1 (by decide), Option.bind_some, if_pos rfl]
  unfold mac_Local.f patchbayref01_Local.f
  rw [Option.bind_some, ref_Bytes_b6 h0 h1, Option.bind_some, if_pos (by simp [mac_Text.b6]), Option.bind_some, r0]
  rw [Bits.and64 41 42 _ (by decide) (by decide) h0 h1 2199023255552 rfl, Int.tdiv_eq_ediv_of_nonneg (by omega), Int.tmod_eq_emod_of_nonneg (by omega)]
  simp only [Nat.reducePow, Nat.reduceSub, Int.cast_ofNat_Int]
  have hk : (kindOf m != 0) = (m / 1099511627776 % 256 % 2 == 1) := by
    unfold kindOf
    by_cases c1 : m % 281474976710656 = 281474976710655
    · rw [if_pos c1]
      have : m / 1099511627776 % 256 % 2 = 1 := by omega
      rw [this]; rfl
    · rw [if_neg c1]
      by_cases c2 : m % 281474976710656 / 16 = 103282638848
      · rw [if_pos c2]
        have : m / 1099511627776 % 256 % 2 = 1 := by omega
        rw [this]; rfl
      · rw [if_neg c2]
        rcases Int.emod_two_eq (m / 1099511627776) with e | e
        · rw [e, show m / 1099511627776 % 256 % 2 = 0 from by omega]; rfl
        · rw [e, show m / 1099511627776 % 256 % 2 = 1 from by omega]; rfl
  rw [hk]
  by_cases c : m / 2199023255552 % 2 = 0
  · rw [show m / 1099511627776 % 256 / 2 % 256 % 2 = 0 from by omega]
    rw [if_pos (by simp; omega)]
    simp
  · rw [show m / 1099511627776 % 256 / 2 % 256 % 2 = 1 from by omega]
    rw [if_pos (by simp; omega)]
    simp
end Go.Proofs.Ytdohdjfclnlpmaa.Pure
