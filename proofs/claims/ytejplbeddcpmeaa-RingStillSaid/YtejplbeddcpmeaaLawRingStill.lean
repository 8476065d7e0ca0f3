/- The row of the law RingStill: its walk and its plain law joined; no condition beyond the row's own. -/
import Derived.Test.YtejplbeddcpmeaaRows
import Derived.Test.YtejplbeddcpmeaaRing9
import Derived.WalkKit
import Derived.ProofKit
import Derived.OpenShut
import Derived.ShutString
import Derived.ChangeOld
import Derived.Below
import Derived.SizedLaws
import Derived.Carry
import Derived.Test.YtejplbeddcpmeaaWSized
import Derived.Test.YtejplbeddcpmeaaOpen
namespace Go.Proofs.Ytejplbeddcpmeaa.ringStill
open Go.ChangeShapes Go.WideShapes Go.ChangeAt Go.RowKit
open Go.ChangeMaps (open_string shut_string)
theorem own : ownKnob Try.prog.godebug = none := by kernel_rfl
theorem laidOut : laidOutB Try.prog = true := by kernel_rfl
theorem okWide_array {P : Program} {w : World} {r : Reach} {base : Nat} {t : TypeId} {v : Value} {n : Nat} {e : TypeId} (ht : P.underlying t = some (.array n e)) (h : Value.okWide P w r base t v) : ∃ cs, v = .agg cs ∧ cs.size = P.cellsOf t := by
  simp only [Value.okWide, ht] at h
  obtain ⟨cs, h1, h2, _⟩ := h
  exact ⟨cs, h1, h2⟩
theorem cells3 : Try.prog.cellsOf 3 = 1 := by kernel_rfl
theorem cells29 : Try.prog.cellsOf 29 = 1 := by kernel_rfl
theorem cells50 : Try.prog.cellsOf 50 = 2 := by kernel_rfl
theorem cells51 : Try.prog.cellsOf 51 = 2 := by kernel_rfl
theorem arr2 {cs : Array Value} (h : cs.size = 2) : ∃ c0 c1, cs = #[c0, c1] := by
  obtain ⟨l⟩ := cs
  match l, h with
  | [c0, c1], _ => exact ⟨c0, c1, rfl⟩
set_option maxRecDepth 100000 in
theorem lifted (os : Os) (started : os.Started) (H : Type) (enc : TypeId × Value → H) :
    ReturnsInHanded {} Try.checked os 7 .any (Rows.ringStillSpec.pre6 enc Try.prog Try.f7 Rows.ringStillRow.domain false) (Rows.ringStillSpec.post enc Try.prog Try.f7 false true false false) := by
  refine returnsInHanded_of_change_sized (C := Try.checked) own started (by kernel_rfl) Try.func7
    (ChangeSpec.witness6 (enc := enc) (C := Try.checked) false ⟨#[], #[.agg #[.int .i64 0, .int .u64 0], .bool false, .agg #[.int .i64 0, .int .i64 0]], []⟩ 8 (by kernel_rfl) (by kernel_rfl) (by kernel_rfl) (by kernel_rfl)) ?_
  intro W base args ds gs before hval0 hW hcnd hsz0 _
  have hval : ∀ (j : Nat) t v, Try.f7.params[j]? = some t → args[j]? = some v → Value.okWide Try.prog W .any base t v := hval0
  have hW' := hW
  obtain ⟨p, q, hA0, hV, rfl, hfz, hnd⟩ := hW
  have hA : DataW.TrodAll enc Try.prog W 0 (fun _ => true) true Try.f7.params.toList args.toList ds p := hA0
  rw [Try.params7] at hA hval
  obtain ⟨v0, vs0, d0, ds0, p0, q0, hargs, rfl, rfl, h0, r0⟩ := trodAll_cons hA
  obtain ⟨v1, vs1, d1, ds1, p1, q1, rfl, rfl, rfl, h1, r1⟩ := trodAll_cons r0
  obtain ⟨v2, vs2, d2, ds2, p2, q2, rfl, rfl, rfl, h2, r2⟩ := trodAll_cons r1
  obtain ⟨rfl, rfl, rfl⟩ := trodAll_nil r2
  obtain rfl : args = #[v0, v1, v2] := by cases args; simp_all
  obtain ⟨rfl, rfl⟩ := trodVars_none hV
  obtain ⟨cs0, rfl, zs0⟩ := okWide_struct Try.underlying50 (hval 0 50 v0 rfl rfl)
  have k0 := h0
  have lt0 : ∀ x ∈ p0, x.block < W.heap.size := by obtain ⟨m, hm⟩ := k0; exact DataW.trod_lt m _ _ _ hm
  obtain ⟨c0_0, c0_1, rfl⟩ := arr2 (zs0.trans cells50)
  obtain ⟨fuel0, hf0⟩ := h0
  replace hf0 : DataW.trod enc Try.prog W 0 (fun _ => true) true fuel0 50 [c0_0, c0_1] = some (d0, p0) := hf0
  obtain ⟨xs0, n0, _, _, _, l0, F0⟩ := DataW.trod_struct Try.underlying50 hf0
  obtain ⟨y0_0, e0_0⟩ : ∃ y, xs0[0]? = some y := ⟨_, List.getElem?_eq_getElem (by rw [l0]; decide)⟩
  have f0_0 : DataW.trod enc Try.prog W 0 (fun _ => true) true n0 3 (([c0_0, c0_1].drop 0).take (Try.prog.cellsOf 3)) = some y0_0 := (F0 0 _ rfl).trans e0_0
  rw [cells3] at f0_0
  replace f0_0 : DataW.trod enc Try.prog W 0 (fun _ => true) true n0 3 [c0_0] = some y0_0 := f0_0
  obtain ⟨u0_0, E0_0, _, w0_0⟩ := DataW.trod_int Try.underlying3 f0_0
  obtain rfl := List.singleton_inj.1 E0_0
  obtain ⟨y0_1, e0_1⟩ : ∃ y, xs0[1]? = some y := ⟨_, List.getElem?_eq_getElem (by rw [l0]; decide)⟩
  have f0_1 : DataW.trod enc Try.prog W 0 (fun _ => true) true n0 29 (([(.int .i64 u0_0), c0_1].drop 1).take (Try.prog.cellsOf 29)) = some y0_1 := (F0 1 _ rfl).trans e0_1
  rw [cells29] at f0_1
  replace f0_1 : DataW.trod enc Try.prog W 0 (fun _ => true) true n0 29 [c0_1] = some y0_1 := f0_1
  obtain ⟨u0_1, E0_1, _, w0_1⟩ := DataW.trod_int Try.underlying29 f0_1
  obtain rfl := List.singleton_inj.1 E0_1
  obtain ⟨a1, rfl, rfl, rfl⟩ := open_bool Try.underlying4 (hval 1 4 v1 rfl rfl) h1
  obtain ⟨cs2, rfl, zs2⟩ := okWide_array Try.underlying51 (hval 2 51 v2 rfl rfl)
  have k2 := h2
  have lt2 : ∀ x ∈ p2, x.block < W.heap.size := by obtain ⟨m, hm⟩ := k2; exact DataW.trod_lt m _ _ _ hm
  obtain ⟨c2_0, c2_1, rfl⟩ := arr2 (zs2.trans cells51)
  obtain ⟨fuel2, hf2⟩ := h2
  replace hf2 : DataW.trod enc Try.prog W 0 (fun _ => true) true fuel2 51 [c2_0, c2_1] = some (d2, p2) := hf2
  obtain ⟨xs2, n2, _, _, _, l2, F2⟩ := DataW.trod_array Try.underlying51 hf2
  obtain ⟨y2_0, e2_0⟩ : ∃ y, xs2[0]? = some y := ⟨_, List.getElem?_eq_getElem (by rw [l2]; decide)⟩
  have f2_0 : DataW.trod enc Try.prog W 0 (fun _ => true) true n2 3 (([c2_0, c2_1].drop (0 * Try.prog.cellsOf 3)).take (Try.prog.cellsOf 3)) = some y2_0 := (F2 0 (by decide)).trans e2_0
  rw [cells3] at f2_0
  replace f2_0 : DataW.trod enc Try.prog W 0 (fun _ => true) true n2 3 [c2_0] = some y2_0 := f2_0
  obtain ⟨u2_0, E2_0, _, w2_0⟩ := DataW.trod_int Try.underlying3 f2_0
  obtain rfl := List.singleton_inj.1 E2_0
  obtain ⟨y2_1, e2_1⟩ : ∃ y, xs2[1]? = some y := ⟨_, List.getElem?_eq_getElem (by rw [l2]; decide)⟩
  have f2_1 : DataW.trod enc Try.prog W 0 (fun _ => true) true n2 3 (([(.int .i64 u2_0), c2_1].drop (1 * Try.prog.cellsOf 3)).take (Try.prog.cellsOf 3)) = some y2_1 := (F2 1 (by decide)).trans e2_1
  rw [cells3] at f2_1
  replace f2_1 : DataW.trod enc Try.prog W 0 (fun _ => true) true n2 3 [c2_1] = some y2_1 := f2_1
  obtain ⟨u2_1, E2_1, _, w2_1⟩ := DataW.trod_int Try.underlying3 f2_1
  obtain rfl := List.singleton_inj.1 E2_1
  clear hA0 hval0 hsz0
  refine (Ring.RingStill_calls u0_0 u0_1 a1 u2_0 u2_1 W (Mem.wf_u64 w0_1)).mono fun e W' ⟨he, bel⟩ => ?_
  subst he
  exact ⟨_, rfl, _, _, _, [], _, [], hW', trodAll_mk1 (shut_bool Try.underlying4 _), (trodAll_cons_mk (Below.trod laidOut (by kernel_rfl) (of_decide_eq_true (by kernel_rfl)) k0 bel lt0) (trodAll_cons_mk (shut_bool Try.underlying4 _) (trodAll_cons_mk (Below.trod laidOut (by kernel_rfl) (of_decide_eq_true (by kernel_rfl)) k2 bel lt2) trodAll_mk0))), rfl, bel.frame _, fun h => by cases h⟩
theorem over : Rows.ringStillRow.holds Try.pinned (OpenSpec.ofChange Rows.ringStillSpec) :=
  OpenClaim.holds_of_wide 7 Try.f7 rfl rfl rfl rfl rfl rfl rfl ⟨rfl, rfl, rfl, rfl, rfl⟩ rfl rfl rfl rfl rfl (by kernel_rfl) Try.func7 (by kernel_rfl)
    (of_decide_eq_true (by kernel_rfl)) (by unfold Func.isWrapper; first | (rw [if_pos (by decide +kernel)]; kernel_rfl) | (rw [if_neg (by decide +kernel)]; exact ⟨rfl, rfl⟩))
    (fun os started H enc _ => lifted os started H enc)
theorem proved : Rows.RingStillSaid := over
#print axioms proved
end Go.Proofs.Ytejplbeddcpmeaa.ringStill
namespace Go.Proofs.Ytejplbeddcpmeaa
/-- The row, under a short name, for the claim. -/
theorem ringStill_holds : Rows.RingStillSaid := ringStill.proved
end Go.Proofs.Ytejplbeddcpmeaa
