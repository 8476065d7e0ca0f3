/- The row of the law TurnBursts: its walk and its plain law joined; no condition beyond the row's own. -/
import Derived.Test.YtfgdjljbdghdgaaRows
import Derived.Test.YtfgdjljbdghdgaaPTurnx3
import Derived.Test.YtfgdjljbdghdgaaPureTurnBursts
import Derived.WalkKit
import Derived.ProofKit
import Derived.OpenShut
import Derived.ShutString
import Derived.ChangeOld
import Derived.Below
import Derived.SizedLaws
import Derived.Carry
import Derived.Test.YtfgdjljbdghdgaaWSized
namespace Go.Proofs.Ytfgdjljbdghdgaa.turnBursts
open Go.ChangeShapes Go.WideShapes Go.ChangeAt Go.RowKit
open Go.ChangeMaps (open_string shut_string)
theorem own : ownKnob Try.prog.godebug = none := by kernel_rfl
theorem laidOut : laidOutB Try.prog = true := by kernel_rfl
theorem cells3 : Try.prog.cellsOf 3 = 1 := by kernel_rfl
theorem cells22 : Try.prog.cellsOf 22 = 1 := by kernel_rfl
theorem cells33 : Try.prog.cellsOf 33 = 2 := by kernel_rfl
theorem arr2 {cs : Array Value} (h : cs.size = 2) : ∃ c0 c1, cs = #[c0, c1] := by
  obtain ⟨l⟩ := cs
  match l, h with
  | [c0, c1], _ => exact ⟨c0, c1, rfl⟩
set_option maxRecDepth 100000 in
theorem lifted (os : Os) (started : os.Started) (H : Type) (enc : TypeId × Value → H) :
    ReturnsInHanded {} Try.checked os 5 .any (Rows.turnBurstsSpec.pre6 enc Try.prog Try.f5 Rows.turnBurstsRow.domain false) (Rows.turnBurstsSpec.post enc Try.prog Try.f5 false true false false) := by
  refine returnsInHanded_of_change_sized (C := Try.checked) own started (by kernel_rfl) Try.func5
    (ChangeSpec.witness6 (enc := enc) (C := Try.checked) false ⟨#[], #[.int .i64 0, .int .i64 0, .agg #[.int .i64 0, .int .u64 0]], []⟩ 8 (by kernel_rfl) (by kernel_rfl) (by kernel_rfl) (by kernel_rfl)) ?_
  intro W base args ds gs before hval0 hW hcnd hsz0 _
  have hval : ∀ (j : Nat) t v, Try.f5.params[j]? = some t → args[j]? = some v → Value.okWide Try.prog W .any base t v := hval0
  have hW' := hW
  obtain ⟨p, q, hA0, hV, rfl, hfz, hnd⟩ := hW
  have hA : DataW.TrodAll enc Try.prog W 0 (fun _ => true) true Try.f5.params.toList args.toList ds p := hA0
  rw [Try.params5] at hA hval
  obtain ⟨v0, vs0, d0, ds0, p0, q0, hargs, rfl, rfl, h0, r0⟩ := trodAll_cons hA
  obtain ⟨v1, vs1, d1, ds1, p1, q1, rfl, rfl, rfl, h1, r1⟩ := trodAll_cons r0
  obtain ⟨v2, vs2, d2, ds2, p2, q2, rfl, rfl, rfl, h2, r2⟩ := trodAll_cons r1
  obtain ⟨rfl, rfl, rfl⟩ := trodAll_nil r2
  obtain rfl : args = #[v0, v1, v2] := by cases args; simp_all
  obtain ⟨rfl, rfl⟩ := trodVars_none hV
  obtain ⟨a0, rfl, rfl, rfl, w0⟩ := open_int Try.underlying3 (hval 0 3 v0 rfl rfl) h0
  obtain ⟨a1, rfl, rfl, rfl, w1⟩ := open_int Try.underlying3 (hval 1 3 v1 rfl rfl) h1
  obtain ⟨cs2, rfl, zs2⟩ := okWide_struct Try.underlying33 (hval 2 33 v2 rfl rfl)
  have k2 := h2
  have lt2 : ∀ x ∈ p2, x.block < W.heap.size := by obtain ⟨m, hm⟩ := k2; exact DataW.trod_lt m _ _ _ hm
  obtain ⟨c2_0, c2_1, rfl⟩ := arr2 (zs2.trans cells33)
  obtain ⟨fuel2, hf2⟩ := h2
  replace hf2 : DataW.trod enc Try.prog W 0 (fun _ => true) true fuel2 33 [c2_0, c2_1] = some (d2, p2) := hf2
  obtain ⟨xs2, n2, _, _, _, l2, F2⟩ := DataW.trod_struct Try.underlying33 hf2
  obtain ⟨y2_0, e2_0⟩ : ∃ y, xs2[0]? = some y := ⟨_, List.getElem?_eq_getElem (by rw [l2]; decide)⟩
  have f2_0 : DataW.trod enc Try.prog W 0 (fun _ => true) true n2 3 (([c2_0, c2_1].drop 0).take (Try.prog.cellsOf 3)) = some y2_0 := (F2 0 _ rfl).trans e2_0
  rw [cells3] at f2_0
  replace f2_0 : DataW.trod enc Try.prog W 0 (fun _ => true) true n2 3 [c2_0] = some y2_0 := f2_0
  obtain ⟨u2_0, E2_0, _, w2_0⟩ := DataW.trod_int Try.underlying3 f2_0
  obtain rfl := List.singleton_inj.1 E2_0
  obtain ⟨y2_1, e2_1⟩ : ∃ y, xs2[1]? = some y := ⟨_, List.getElem?_eq_getElem (by rw [l2]; decide)⟩
  have f2_1 : DataW.trod enc Try.prog W 0 (fun _ => true) true n2 22 (([(.int .i64 u2_0), c2_1].drop 1).take (Try.prog.cellsOf 22)) = some y2_1 := (F2 1 _ rfl).trans e2_1
  rw [cells22] at f2_1
  replace f2_1 : DataW.trod enc Try.prog W 0 (fun _ => true) true n2 22 [c2_1] = some y2_1 := f2_1
  obtain ⟨u2_1, E2_1, _, w2_1⟩ := DataW.trod_int Try.underlying22 f2_1
  obtain rfl := List.singleton_inj.1 E2_1
  clear hA0 hval0 hsz0
  obtain ⟨k, P⟩ := Pure.TurnBursts a0 a1 u2_0 u2_1 w0 w1 w2_0 w2_1
  refine (PTurn.patchbaylaw07_TurnBursts.calls k a0 a1 u2_0 u2_1 true W P).mono fun e W' ⟨he, bel0⟩ => ?_
  have bel : Below W.heap.size W W' := by first | exact bel0 | exact bel0.below
  subst he
  exact ⟨_, rfl, _, _, _, [], _, [], hW', trodAll_mk1 (shut_bool Try.underlying4 _), (trodAll_cons_mk (shut_int Try.underlying3 w0) (trodAll_cons_mk (shut_int Try.underlying3 w1) (trodAll_cons_mk (Below.trod laidOut (by kernel_rfl) (of_decide_eq_true (by kernel_rfl)) k2 bel lt2) trodAll_mk0))), rfl, bel.frame _, fun h => by cases h⟩
theorem over : Rows.turnBurstsRow.holds Try.pinned (OpenSpec.ofChange Rows.turnBurstsSpec) :=
  OpenClaim.holds_of_wide 5 Try.f5 rfl rfl rfl rfl rfl rfl rfl ⟨rfl, rfl, rfl, rfl, rfl⟩ rfl rfl rfl rfl rfl (by kernel_rfl) Try.func5 (by kernel_rfl)
    (of_decide_eq_true (by kernel_rfl)) (by unfold Func.isWrapper; first | (rw [if_pos (by decide +kernel)]; kernel_rfl) | (rw [if_neg (by decide +kernel)]; exact ⟨rfl, rfl⟩))
    (fun os started H enc _ => lifted os started H enc)
theorem proved : Rows.TurnBurstsSaid := over
#print axioms proved
end Go.Proofs.Ytfgdjljbdghdgaa.turnBursts
namespace Go.Proofs.Ytfgdjljbdghdgaa
/-- The row, under a short name, for the claim. -/
theorem turnBursts_holds : Rows.TurnBurstsSaid := turnBursts.proved
end Go.Proofs.Ytfgdjljbdghdgaa
