/- The row of the law LaneTurns: its walk and its plain law joined; no condition beyond the row's own. -/
import Derived.Test.YtejplbeddcpmeaaRows
import Derived.Test.YtejplbeddcpmeaaLane22
import Derived.WalkKit
import Derived.ProofKit
import Derived.OpenShut
import Derived.ShutString
import Derived.ChangeOld
import Derived.Below
import Derived.SizedLaws
import Derived.Carry
import Derived.Test.YtejplbeddcpmeaaWSized
import Derived.Test.YtejplbeddcpmeaaOpen
namespace Go.Proofs.Ytejplbeddcpmeaa.laneTurns
open Go.ChangeShapes Go.WideShapes Go.ChangeAt Go.RowKit
open Go.ChangeMaps (open_string shut_string)
theorem own : ownKnob Try.prog.godebug = none := by kernel_rfl
theorem laidOut : laidOutB Try.prog = true := by kernel_rfl
theorem cells3 : Try.prog.cellsOf 3 = 1 := by kernel_rfl
theorem cells29 : Try.prog.cellsOf 29 = 1 := by kernel_rfl
theorem cells44 : Try.prog.cellsOf 44 = 1 := by kernel_rfl
set_option maxRecDepth 100000 in
theorem lifted (os : Os) (started : os.Started) (H : Type) (enc : TypeId × Value → H) :
    ReturnsInHanded {} Try.checked os 14 .any (Rows.laneTurnsSpec.pre6 enc Try.prog Try.f14 Rows.laneTurnsRow.domain false) (Rows.laneTurnsSpec.post enc Try.prog Try.f14 false true false false) := by
  refine returnsInHanded_of_change_sized (C := Try.checked) own started (by kernel_rfl) Try.func14
    (ChangeSpec.witness6 (enc := enc) (C := Try.checked) false ⟨#[], #[.int .i64 0, .slice none 0 0, .slice none 0 0], []⟩ 8 (by kernel_rfl) (by kernel_rfl) (by kernel_rfl) (by kernel_rfl)) ?_
  intro W base args ds gs before hval0 hW hcnd hsz0 _
  have hval : ∀ (j : Nat) t v, Try.f14.params[j]? = some t → args[j]? = some v → Value.okWide Try.prog W .any base t v := hval0
  have hW' := hW
  obtain ⟨p, q, hA0, hV, rfl, hfz, hnd⟩ := hW
  have hA : DataW.TrodAll enc Try.prog W 0 (fun _ => true) true Try.f14.params.toList args.toList ds p := hA0
  rw [Try.params14] at hA hval
  obtain ⟨v0, vs0, d0, ds0, p0, q0, hargs, rfl, rfl, h0, r0⟩ := trodAll_cons hA
  obtain ⟨v1, vs1, d1, ds1, p1, q1, rfl, rfl, rfl, h1, r1⟩ := trodAll_cons r0
  obtain ⟨v2, vs2, d2, ds2, p2, q2, rfl, rfl, rfl, h2, r2⟩ := trodAll_cons r1
  obtain ⟨rfl, rfl, rfl⟩ := trodAll_nil r2
  obtain rfl : args = #[v0, v1, v2] := by cases args; simp_all
  obtain ⟨rfl, rfl⟩ := trodVars_none hV
  obtain ⟨a0, rfl, rfl, rfl, w0⟩ := open_int Try.underlying3 (hval 0 3 v0 rfl rfl) h0
  obtain ⟨A1, len1, cap1, rfl⟩ := okWide_slice Try.underlying78 (hval 1 78 v1 rfl rfl)
  have k1 := h1
  have lt1 : ∀ x ∈ p1, x.block < W.heap.size := by obtain ⟨m, hm⟩ := k1; exact DataW.trod_lt m _ _ _ hm
  obtain ⟨l1, rfl, hl1, hm1, hC1, hq1⟩ : ∃ l, l.length = len1 ∧ len1 ≤ cap1 ∧ len1 ≤ 9223372036854775807 ∧ Opens.RowC (Opens.rowK (Opens.intK .u64) 1) 1 W A1 len1 l ∧ ∀ x ∈ l, (fun l => ∀ x ∈ l, (fun x => (Lit.int .u64 x).wf = true) x) x := by
    obtain ⟨fuel, hf⟩ := h1
    obtain ⟨A, len, cap, xs, hcs, hxl, hl, hm, hC, hw⟩ := Opens.open_row (Opens.rowK (Opens.intK .u64) 1) 1 (fun l => ∀ x ∈ l, (fun x => (Lit.int .u64 x).wf = true) x) Try.underlying78 cells44 (fun n cs y _ h => Opens.each_row (Opens.intK .u64) 1 (fun x => (Lit.int .u64 x).wf = true) Try.underlying44 cells29 (fun n cs y _ h => Opens.each_int Try.underlying29 n cs y h) n cs y h) hf
    simp [Value.cells] at hcs
    obtain ⟨rfl, rfl, rfl⟩ := hcs
    exact ⟨xs, hxl, hl, hm, hC, hw⟩
  obtain ⟨A2, len2, cap2, rfl⟩ := okWide_slice Try.underlying22 (hval 2 22 v2 rfl rfl)
  have k2 := h2
  have lt2 : ∀ x ∈ p2, x.block < W.heap.size := by obtain ⟨m, hm⟩ := k2; exact DataW.trod_lt m _ _ _ hm
  obtain ⟨l2, rfl, hl2, hm2, hC2, hq2⟩ : ∃ l, l.length = len2 ∧ len2 ≤ cap2 ∧ len2 ≤ 9223372036854775807 ∧ Opens.RowC (Opens.intK .i64) 1 W A2 len2 l ∧ ∀ x ∈ l, (fun x => (Lit.int .i64 x).wf = true) x := by
    obtain ⟨fuel, hf⟩ := h2
    obtain ⟨A, len, cap, xs, hcs, hxl, hl, hm, hC, hw⟩ := Opens.open_row (Opens.intK .i64) 1 (fun x => (Lit.int .i64 x).wf = true) Try.underlying22 cells3 (fun n cs y _ h => Opens.each_int Try.underlying3 n cs y h) hf
    simp [Value.cells] at hcs
    obtain ⟨rfl, rfl, rfl⟩ := hcs
    exact ⟨xs, hxl, hl, hm, hC, hw⟩
  clear hA0 hval0 hsz0
  refine (Lane.LaneTurns_calls a0 A1 A2 cap1 cap2 l1 l2 W hC1 hm1 hq1 hC2 hm2).mono fun e W' ⟨he, bel⟩ => ?_
  subst he
  exact ⟨_, rfl, _, _, _, [], _, [], hW', trodAll_mk1 (shut_bool Try.underlying4 _), (trodAll_cons_mk (shut_int Try.underlying3 w0) (trodAll_cons_mk (Below.trod laidOut (by kernel_rfl) (of_decide_eq_true (by kernel_rfl)) k1 bel lt1) (trodAll_cons_mk (Below.trod laidOut (by kernel_rfl) (of_decide_eq_true (by kernel_rfl)) k2 bel lt2) trodAll_mk0))), rfl, bel.frame _, fun h => by cases h⟩
theorem over : Rows.laneTurnsRow.holds Try.pinned (OpenSpec.ofChange Rows.laneTurnsSpec) :=
  OpenClaim.holds_of_wide 14 Try.f14 rfl rfl rfl rfl rfl rfl rfl ⟨rfl, rfl, rfl, rfl, rfl⟩ rfl rfl rfl rfl rfl (by kernel_rfl) Try.func14 (by kernel_rfl)
    (of_decide_eq_true (by kernel_rfl)) (by unfold Func.isWrapper; first | (rw [if_pos (by decide +kernel)]; kernel_rfl) | (rw [if_neg (by decide +kernel)]; exact ⟨rfl, rfl⟩))
    (fun os started H enc _ => lifted os started H enc)
theorem proved : Rows.LaneTurnsSaid := over
#print axioms proved
end Go.Proofs.Ytejplbeddcpmeaa.laneTurns
namespace Go.Proofs.Ytejplbeddcpmeaa
/-- The row, under a short name, for the claim. -/
theorem laneTurns_holds : Rows.LaneTurnsSaid := laneTurns.proved
end Go.Proofs.Ytejplbeddcpmeaa
