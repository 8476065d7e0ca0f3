/- The row of the law LaneAlone: its walk and its plain law joined; no condition beyond the row's own. -/
import Derived.Test.YtejplbeddcpmeaaRows
import Derived.Test.YtejplbeddcpmeaaLane18
import Derived.WalkKit
import Derived.ProofKit
import Derived.OpenShut
import Derived.ShutString
import Derived.ChangeOld
import Derived.Below
import Derived.SizedLaws
import Derived.Carry
import Derived.Test.YtejplbeddcpmeaaWSized
import Derived.Test.YtejplbeddcpmeaaOpen
namespace Go.Proofs.Ytejplbeddcpmeaa.laneAlone
open Go.ChangeShapes Go.WideShapes Go.ChangeAt Go.RowKit
open Go.ChangeMaps (open_string shut_string)
theorem own : ownKnob Try.prog.godebug = none := by kernel_rfl
theorem laidOut : laidOutB Try.prog = true := by kernel_rfl
theorem cells3 : Try.prog.cellsOf 3 = 1 := by kernel_rfl
theorem cells4 : Try.prog.cellsOf 4 = 1 := by kernel_rfl
theorem cells29 : Try.prog.cellsOf 29 = 1 := by kernel_rfl
theorem cells82 : Try.prog.cellsOf 82 = 3 := by kernel_rfl
theorem each82 {H : Type} {enc : TypeId × Value → H} {W : World} {base : Nat} {spare : Nat → Bool} {held : Bool} : ∀ n cs y, cs.length = 3 → DataW.trod enc Try.prog W base spare held n 82 cs = some y → ∃ x, Opens.flatK Lane.jobEnc W x cs ∧ Lane.jobQ x := by
  intro n cs y hl hy
  match cs, hl with
  | [c0, c1, c2], _ =>
    obtain ⟨xsz, nz, _, _, _, lz, Fz⟩ := DataW.trod_struct Try.underlying82 hy
    obtain ⟨yz_0, ez_0⟩ : ∃ y, xsz[0]? = some y := ⟨_, List.getElem?_eq_getElem (by rw [lz]; decide)⟩
    have fz_0 : DataW.trod enc Try.prog W base spare held nz 4 (([c0, c1, c2].drop 0).take (Try.prog.cellsOf 4)) = some yz_0 := (Fz 0 _ rfl).trans ez_0
    rw [cells4] at fz_0
    replace fz_0 : DataW.trod enc Try.prog W base spare held nz 4 [c0] = some yz_0 := fz_0
    obtain ⟨uz_0, Ez_0, _⟩ := DataW.trod_bool Try.underlying4 fz_0
    obtain rfl := List.singleton_inj.1 Ez_0
    obtain ⟨yz_1, ez_1⟩ : ∃ y, xsz[1]? = some y := ⟨_, List.getElem?_eq_getElem (by rw [lz]; decide)⟩
    have fz_1 : DataW.trod enc Try.prog W base spare held nz 3 (([(.bool uz_0), c1, c2].drop 1).take (Try.prog.cellsOf 3)) = some yz_1 := (Fz 1 _ rfl).trans ez_1
    rw [cells3] at fz_1
    replace fz_1 : DataW.trod enc Try.prog W base spare held nz 3 [c1] = some yz_1 := fz_1
    obtain ⟨uz_1, Ez_1, _, wz_1⟩ := DataW.trod_int Try.underlying3 fz_1
    obtain rfl := List.singleton_inj.1 Ez_1
    obtain ⟨yz_2, ez_2⟩ : ∃ y, xsz[2]? = some y := ⟨_, List.getElem?_eq_getElem (by rw [lz]; decide)⟩
    have fz_2 : DataW.trod enc Try.prog W base spare held nz 29 (([(.bool uz_0), (.int .i64 uz_1), c2].drop 2).take (Try.prog.cellsOf 29)) = some yz_2 := (Fz 2 _ rfl).trans ez_2
    rw [cells29] at fz_2
    replace fz_2 : DataW.trod enc Try.prog W base spare held nz 29 [c2] = some yz_2 := fz_2
    obtain ⟨uz_2, Ez_2, _, wz_2⟩ := DataW.trod_int Try.underlying29 fz_2
    obtain rfl := List.singleton_inj.1 Ez_2
    exact ⟨(uz_0, uz_1, uz_2), rfl, ⟨wz_1, wz_2⟩⟩
set_option maxRecDepth 100000 in
theorem lifted (os : Os) (started : os.Started) (H : Type) (enc : TypeId × Value → H) :
    ReturnsInHanded {} Try.checked os 11 .any (Rows.laneAloneSpec.pre6 enc Try.prog Try.f11 Rows.laneAloneRow.domain false) (Rows.laneAloneSpec.post enc Try.prog Try.f11 false true false false) := by
  refine returnsInHanded_of_change_sized (C := Try.checked) own started (by kernel_rfl) Try.func11
    (ChangeSpec.witness6 (enc := enc) (C := Try.checked) false ⟨#[], #[.int .i64 0, .int .i64 0, .slice none 0 0], []⟩ 8 (by kernel_rfl) (by kernel_rfl) (by kernel_rfl) (by kernel_rfl)) ?_
  intro W base args ds gs before hval0 hW hcnd hsz0 _
  have hval : ∀ (j : Nat) t v, Try.f11.params[j]? = some t → args[j]? = some v → Value.okWide Try.prog W .any base t v := hval0
  have hW' := hW
  obtain ⟨p, q, hA0, hV, rfl, hfz, hnd⟩ := hW
  have hA : DataW.TrodAll enc Try.prog W 0 (fun _ => true) true Try.f11.params.toList args.toList ds p := hA0
  rw [Try.params11] at hA hval
  obtain ⟨v0, vs0, d0, ds0, p0, q0, hargs, rfl, rfl, h0, r0⟩ := trodAll_cons hA
  obtain ⟨v1, vs1, d1, ds1, p1, q1, rfl, rfl, rfl, h1, r1⟩ := trodAll_cons r0
  obtain ⟨v2, vs2, d2, ds2, p2, q2, rfl, rfl, rfl, h2, r2⟩ := trodAll_cons r1
  obtain ⟨rfl, rfl, rfl⟩ := trodAll_nil r2
  obtain rfl : args = #[v0, v1, v2] := by cases args; simp_all
  obtain ⟨rfl, rfl⟩ := trodVars_none hV
  obtain ⟨a0, rfl, rfl, rfl, w0⟩ := open_int Try.underlying3 (hval 0 3 v0 rfl rfl) h0
  obtain ⟨a1, rfl, rfl, rfl, w1⟩ := open_int Try.underlying3 (hval 1 3 v1 rfl rfl) h1
  obtain ⟨A2, len2, cap2, rfl⟩ := okWide_slice Try.underlying74 (hval 2 74 v2 rfl rfl)
  have k2 := h2
  have lt2 : ∀ x ∈ p2, x.block < W.heap.size := by obtain ⟨m, hm⟩ := k2; exact DataW.trod_lt m _ _ _ hm
  obtain ⟨l2, rfl, hl2, hm2, hC2, hq2⟩ : ∃ l, l.length = len2 ∧ len2 ≤ cap2 ∧ len2 ≤ 9223372036854775807 ∧ Opens.RowC (Opens.flatK Lane.jobEnc) 3 W A2 len2 l ∧ ∀ x ∈ l, Lane.jobQ x := by
    obtain ⟨fuel, hf⟩ := h2
    obtain ⟨A, len, cap, xs, hcs, hxl, hl, hm, hC, hw⟩ := Opens.open_row (Opens.flatK Lane.jobEnc) 3 Lane.jobQ Try.underlying74 cells82 each82 hf
    simp [Value.cells] at hcs
    obtain ⟨rfl, rfl, rfl⟩ := hcs
    exact ⟨xs, hxl, hl, hm, hC, hw⟩
  clear hA0 hval0 hsz0
  refine (Lane.LaneAlone_calls a0 a1 A2 cap2 l2 W hC2 hm2 hq2).mono fun e W' ⟨he, bel⟩ => ?_
  subst he
  exact ⟨_, rfl, _, _, _, [], _, [], hW', trodAll_mk1 (shut_bool Try.underlying4 _), (trodAll_cons_mk (shut_int Try.underlying3 w0) (trodAll_cons_mk (shut_int Try.underlying3 w1) (trodAll_cons_mk (Below.trod laidOut (by kernel_rfl) (of_decide_eq_true (by kernel_rfl)) k2 bel lt2) trodAll_mk0))), rfl, bel.frame _, fun h => by cases h⟩
theorem over : Rows.laneAloneRow.holds Try.pinned (OpenSpec.ofChange Rows.laneAloneSpec) :=
  OpenClaim.holds_of_wide 11 Try.f11 rfl rfl rfl rfl rfl rfl rfl ⟨rfl, rfl, rfl, rfl, rfl⟩ rfl rfl rfl rfl rfl (by kernel_rfl) Try.func11 (by kernel_rfl)
    (of_decide_eq_true (by kernel_rfl)) (by unfold Func.isWrapper; first | (rw [if_pos (by decide +kernel)]; kernel_rfl) | (rw [if_neg (by decide +kernel)]; exact ⟨rfl, rfl⟩))
    (fun os started H enc _ => lifted os started H enc)
theorem proved : Rows.LaneAloneSaid := over
#print axioms proved
end Go.Proofs.Ytejplbeddcpmeaa.laneAlone
namespace Go.Proofs.Ytejplbeddcpmeaa
/-- The row, under a short name, for the claim. -/
theorem laneAlone_holds : Rows.LaneAloneSaid := laneAlone.proved
end Go.Proofs.Ytejplbeddcpmeaa
