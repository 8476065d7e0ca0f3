/- Of every stand and every number the word, and whose it is, are told; no condition. -/
import Derived.OpenShut
import Derived.IntWalk
import Derived.Test.YtigaajkophmhoaaBits
import Derived.Test.YtigaajkophmhoaaPPortWordsx3
namespace Go.Proofs.Ytigaajkophmhoaa.Pure
open Go.RowKit Go.Proofs.Ytigaajkophmhoaa.PPortWords Go.Proofs.YtigaajkophmhoaaW.PrintWords Go.Proofs.YtigaajkophmhoaaW.PrintLast
open Go.Proofs.Ytigaajkophmhoaa

theorem told1 : patchbaylaw16_told.f = some true := by decide +kernel

def pr (s : Int) : Bool := decide (0 ≤ s ∧ s ≤ 4)

theorem port_Right_eq (s : Int) : port_Right.f s = some (pr s) := by
  unfold port_Right.f pr
  by_cases c : s ≥ 0
  · simp [c]
  · have : ¬ 0 ≤ s := by omega
    simp [this]

theorem ref16_Right_eq (s : Int) : patchbayref16_Right.f s = some (pr s) := by
  unfold patchbayref16_Right.f pr
  by_cases c : s ≥ 0
  · simp [c]
  · have : ¬ 0 ≤ s := by omega
    simp [this]

def wordP (s e : Int) : Int := if pr s = true then e * 256 + s else 0

theorem port_Word_eq {s e : Int} (h0 : 0 ≤ e) (h1 : e ≤ 4294967295) : port_Word.f s e = some (wordP s e) := by
  unfold port_Word.f wordP
  rw [port_Right_eq]
  simp only [Option.bind_some]
  by_cases c : pr s = true
  · rw [if_pos c, if_pos c]
    have hs : 0 ≤ s ∧ s ≤ 4 := of_decide_eq_true c
    rw [IntWalk.u64_in s (by omega), IntWalk.u64_in e (by omega), IntWalk.u64_in (e * 256) (by omega), Bits.or64' 8 s _ (by omega) (by omega) (by omega) (by omega) (by omega) (by omega)]
    congr 1; omega
  · rw [if_neg c, if_neg c]

theorem ref16_Word_eq {s e : Int} (h0 : 0 ≤ e) (h1 : e ≤ 4294967295) : patchbayref16_Word.f s e = some (wordP s e) := by
  unfold patchbayref16_Word.f wordP
  rw [ref16_Right_eq]
  simp only [Option.bind_some]
  by_cases c : pr s = true
  · rw [if_pos c, if_pos c]
    have hs : 0 ≤ s ∧ s ≤ 4 := of_decide_eq_true c
    rw [IntWalk.u64_in s (by omega), IntWalk.u64_in e (by omega), IntWalk.u64_in (256 * e) (by omega), IntWalk.u64_in _ (by omega)]
    congr 1; omega
  · rw [if_neg c, if_neg c]

def ofP (w : Int) : Int × Int × Bool := if w < 1099511627776 ∧ w % 256 ≤ 4 then (w % 256, w / 256, true) else (0, 0, false)

theorem port_Of_eq {w : Int} (h0 : 0 ≤ w) (h1 : w ≤ 18446744073709551615) : port_Of.f w = some (ofP w) := by
  unfold port_Of.f ofP
  rw [Bits.and64 0 8 w (by decide) (by decide) h0 h1 255 rfl]
  simp only [Nat.reducePow, Nat.reduceSub, Int.cast_ofNat_Int]
  rw [show wrap64 (w / 1 % 256 * 1) = w % 256 from by unfold wrap64; omega, port_Right_eq]
  simp only [Option.bind_some, pr]
  by_cases c : w < 1099511627776
  · rw [if_pos (by omega), show w / 256 % 4294967296 = w / 256 from by omega]
    by_cases d : w % 256 ≤ 4
    · rw [if_pos (decide_eq_true (by omega)), if_pos ⟨c, d⟩]
    · rw [if_neg (by simp; omega), if_neg (by omega)]
  · rw [if_neg (by omega), if_neg (by omega)]

theorem ref16_Of_eq {w : Int} (h0 : 0 ≤ w) (h1 : w ≤ 18446744073709551615) : patchbayref16_Of.f w = some (ofP w) := by
  unfold patchbayref16_Of.f ofP
  rw [Int.tmod_eq_emod_of_nonneg h0, Int.tdiv_eq_ediv_of_nonneg h0, IntWalk.u64_in _ (by omega)]
  by_cases c : w < 1099511627776
  · rw [if_neg (by omega)]
    by_cases d : w % 256 ≤ 4
    · rw [if_neg (by omega), if_pos ⟨c, d⟩, show wrap64 (w % 256) = w % 256 from by unfold wrap64; omega, show w / 256 % 4294967296 = w / 256 from by omega]
    · rw [if_pos (by omega), if_neg (by omega)]
  · rw [if_pos (by omega), if_neg (by omega)]

theorem ofP_word {s e : Int} (h0 : 0 ≤ e) (h1 : e ≤ 4294967295) (h : pr s = true) : ofP (wordP s e) = (s, e, true) := by
  have hs : 0 ≤ s ∧ s ≤ 4 := of_decide_eq_true h
  unfold ofP wordP
  rw [if_pos h, if_pos (by omega), show (e * 256 + s) % 256 = s from by omega, show (e * 256 + s) / 256 = e from by omega]

theorem ofP_back {w : Int} (h0 : 0 ≤ w) (h : (ofP w).2.2 = true) : wordP (ofP w).1 (ofP w).2.1 = w ∧ 0 ≤ (ofP w).2.1 ∧ (ofP w).2.1 ≤ 4294967295 := by
  unfold ofP at h ⊢
  split at h
  · rename_i c
    rw [if_pos c]
    unfold wordP pr
    simp only
    rw [if_pos (decide_eq_true (by omega))]
    omega
  · cases h

theorem PortWords (s e w : Int) (_hs : (Lit.int .i64 s).wf = true) (he : (Lit.int .u32 e).wf = true) (hw : (Lit.int .u64 w).wf = true) : ∃ k, patchbaylaw16_PortWords.f k s e w = some true := by
  have be := bounds_u32 he
  have bw := bounds_u64 hw
  refine ⟨1, ?_⟩
  have fin : patchbaylaw16_PortWords.j0 1 false s e = some true := by
    simp only [patchbaylaw16_PortWords.j0, patchbaylaw16_to.f, Option.bind_some, port_Word_eq be.1 be.2, ref16_Right_eq, patchbaylaw16_from.f]
    have hr : 0 ≤ wordP s e ∧ wordP s e ≤ 18446744073709551615 := by
      unfold wordP
      by_cases c : pr s = true
      · have : 0 ≤ s ∧ s ≤ 4 := of_decide_eq_true c
        rw [if_pos c]; omega
      · rw [if_neg c]; omega
    rw [port_Of_eq hr.1 hr.2]
    by_cases c : pr s = true
    · simp [ofP_word be.1 be.2 c, c]
    · simp [c]
  unfold patchbaylaw16_PortWords.f
  rw [port_Of_eq bw.1 bw.2, ref16_Of_eq bw.1 bw.2, ref16_Word_eq be.1 be.2]
  simp only [Option.bind_some, told1, if_true, patchbaylaw16_to.f, patchbaylaw16_from.f, bne_self_eq_false, port_Word_eq be.1 be.2]
  by_cases c : (ofP w).2.2 = true
  · obtain ⟨g1, g2, g3⟩ := ofP_back bw.1 c
    rw [port_Word_eq g2 g3]
    simp [c, g1, fin]
  · simp [c, fin]

end Go.Proofs.Ytigaajkophmhoaa.Pure
