/- Of every stand and every state how a port stands then; no condition. -/
import Derived.OpenShut
import Derived.IntWalk
import Derived.Test.YtigaajkophmhoaaBits
import Derived.Test.YtigaajkophmhoaaPPortSetsx3
namespace Go.Proofs.Ytigaajkophmhoaa.Pure
open Go.RowKit Go.Proofs.Ytigaajkophmhoaa.PPortSets Go.Proofs.YtigaajkophmhoaaW.PrintWords Go.Proofs.YtigaajkophmhoaaW.PrintLast Go.Proofs.YtigaajkophmhoaaW.PrintMore
open Go.Proofs.Ytigaajkophmhoaa

theorem told1 : patchbaylaw16_told.f = some true := by decide +kernel

def pr (s : Int) : Bool := decide (0 ≤ s ∧ s ≤ 4)

theorem port_Right_eq (s : Int) : port_Right.f s = some (pr s) := by
  unfold port_Right.f pr
  by_cases c : s ≥ 0
  · simp [c]
  · have : ¬ 0 ≤ s := by omega
    simp [this]

theorem ref16_Right_eq (s : Int) : patchbayref16_Right.f s = some (pr s) := by
  unfold patchbayref16_Right.f pr
  by_cases c : s ≥ 0
  · simp [c]
  · have : ¬ 0 ≤ s := by omega
    simp [this]

def wordP (s e : Int) : Int := if pr s = true then e * 256 + s else 0

theorem port_Word_eq {s e : Int} (h0 : 0 ≤ e) (h1 : e ≤ 4294967295) : port_Word.f s e = some (wordP s e) := by
  unfold port_Word.f wordP
  rw [port_Right_eq]
  simp only [Option.bind_some]
  by_cases c : pr s = true
  · rw [if_pos c, if_pos c]
    have hs : 0 ≤ s ∧ s ≤ 4 := of_decide_eq_true c
    rw [IntWalk.u64_in s (by omega), IntWalk.u64_in e (by omega), IntWalk.u64_in (e * 256) (by omega), Bits.or64' 8 s _ (by omega) (by omega) (by omega) (by omega) (by omega) (by omega)]
    congr 1; omega
  · rw [if_neg c, if_neg c]

def ofP (w : Int) : Int × Int × Bool := if w < 1099511627776 ∧ w % 256 ≤ 4 then (w % 256, w / 256, true) else (0, 0, false)

theorem ofP_word {s e : Int} (h0 : 0 ≤ e) (h1 : e ≤ 4294967295) (h : pr s = true) : ofP (wordP s e) = (s, e, true) := by
  have hs : 0 ≤ s ∧ s ≤ 4 := of_decide_eq_true h
  unfold ofP wordP
  rw [if_pos h, if_pos (by omega), show (e * 256 + s) % 256 = s from by omega, show (e * 256 + s) / 256 = e from by omega]

theorem ofP_back {w : Int} (h0 : 0 ≤ w) (h : (ofP w).2.2 = true) : wordP (ofP w).1 (ofP w).2.1 = w ∧ 0 ≤ (ofP w).2.1 ∧ (ofP w).2.1 ≤ 4294967295 := by
  unfold ofP at h ⊢
  split at h
  · rename_i c
    rw [if_pos c]
    unfold wordP pr
    simp only
    rw [if_pos (decide_eq_true (by omega))]
    omega
  · cases h

theorem PortSets (s e t : Int) (_hs : (Lit.int .i64 s).wf = true) (_he : (Lit.int .u32 e).wf = true) (_ht : (Lit.int .i64 t).wf = true) : patchbaylaw16_PortSets.f s e t = some true := by
  unfold patchbaylaw16_PortSets.f port_Set.f patchbayref16_Set.f port_Learns.f port_Forwards.f
  simp only [port_Right_eq, ref16_Right_eq, told1, patchbaylaw16_to.f, patchbaylaw16_from.f, Option.bind_some, if_true]
  by_cases c : pr t = true
  · by_cases d : t = 3
    · subst d; simp [c]
    · simp [c, d]
  · by_cases d : t = 3
    · exfalso; subst d; exact c (by decide)
    · simp [c, d]

end Go.Proofs.Ytigaajkophmhoaa.Pure
