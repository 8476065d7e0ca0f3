/- The law MacSpoils, whole; no condition. -/
import Derived.Test.YtdohdjfclnlpmaaMacS
namespace Go.Proofs.Ytdohdjfclnlpmaa.MacW
open Go.RowKit Go.Proofs.Ytdohdjfclnlpmaa.PMac Go.Proofs.YtdohdjfclnlpmaaW.PrintWords Go.Proofs.YtdohdjfclnlpmaaW.PrintLast Go.Proofs.Ytdohdjfclnlpmaa.Pure
set_option linter.unusedVariables false
set_option linter.unusedSimpArgs false

theorem b6_low (m : Int) : mac_Text.b6 (m % 281474976710656) = mac_Text.b6 m := by
  unfold mac_Text.b6
  rw [show m % 281474976710656 / 1099511627776 % 256 = m / 1099511627776 % 256 from by omega, show m % 281474976710656 / 4294967296 % 256 = m / 4294967296 % 256 from by omega, show m % 281474976710656 / 16777216 % 256 = m / 16777216 % 256 from by omega, show m % 281474976710656 / 65536 % 256 = m / 65536 % 256 from by omega, show m % 281474976710656 / 256 % 256 = m / 256 % 256 from by omega, show m % 281474976710656 % 256 = m % 256 from by omega]

theorem k17 (a : Int) : ∃ k : Nat, k < 17 ∧ IntKind.i64.wrap (Int.tmod (IntKind.u64.wrap a) 17) = (k : Int) := by
  have h : 0 ≤ IntKind.u64.wrap a := by show 0 ≤ a % _; exact Int.emod_nonneg _ (by decide)
  refine ⟨(IntKind.u64.wrap a % 17).toNat, by omega, ?_⟩
  rw [Int.tmod_eq_emod_of_nonneg h, IntWalk.i64_in _ (by omega)]
  omega

theorem MacSpoils_calls (m a c : Int) (w : World) (hm : 0 ≤ m ∧ m ≤ 18446744073709551615) :
    Calls Try.prog 10 #[.int .u64 m, .int .i64 a, .int .u8 c] w fun e w' => e = .returned (.bool true) ∧ Below w.heap.size w w' := by
  obtain ⟨k, hk, hq⟩ := k17 a
  obtain ⟨S, hSd⟩ : ∃ S : ByteArray, (⟨(txt (mac_Text.b6 m) 6).toArray⟩ : ByteArray) = S := ⟨_, rfl⟩
  obtain ⟨T, hT⟩ : ∃ T : ByteArray, S.extract 0 k ++ ⟨#[UInt8.ofNat c.toNat]⟩ ++ S.extract (k + 1) 17 = T := ⟨_, rfl⟩
  have hS : patchbayref01_Text.f m = some S := by rw [← hSd]; exact ref_Text_eq hm.1 hm.2
  have h17 : S.size = 17 := by rw [← hSd, txt_T12]; rfl
  have hL : patchbayref01_Low.f m = some (m % 281474976710656) := ref_Low_eq hm.1
  have hpS : prs S = (m % 281474976710656, 0) := by rw [← hSd]; exact prs_txt hm.1
  by_cases hE : T = S
  · exact spoils_same m a c (m % 281474976710656) 0 S T w k hk hq h17 hS hT (by unfold mac_Parse.f; rw [hE, hpS]) rfl hE hL
  · match hp : prs T with
    | (v, e) =>
      have he : e = 0 ∨ (e = 4 ∧ v = 0) := by
        unfold prs at hp
        split at hp
        · split at hp
          · simp only [Prod.mk.injEq] at hp; exact .inl hp.2.symm
          · simp only [Prod.mk.injEq] at hp; exact .inr ⟨hp.2.symm, hp.1.symm⟩
        · simp only [Prod.mk.injEq] at hp; exact .inr ⟨hp.2.symm, hp.1.symm⟩
      rcases he with rfl | ⟨rfl, rfl⟩
      · obtain ⟨_, _, v0, v1, ht⟩ := text_of_parse hp
        refine spoils_other m a c v 0 S T w k hk hq h17 hS hT (by unfold mac_Parse.f; rw [hp]) (m % 281474976710656) rfl hE hL ?_ (by rw [mac_Text_eq v0 (by omega), ← ht])
        intro hv
        apply hE
        rw [ht, hv, b6_low, hSd]
      · exact spoils_none m a c 0 4 S T w k hk hq h17 hS hT (by unfold mac_Parse.f; rw [hp]) rfl rfl hE
end Go.Proofs.Ytdohdjfclnlpmaa.MacW
