/- The row of the law MemNews: its walk and its plain law joined; no condition beyond the row's own. -/
import Derived.Test.YtejplbeddcpmeaaRows
import Derived.Test.YtejplbeddcpmeaaMemB
import Derived.WalkKit
import Derived.ProofKit
import Derived.OpenShut
import Derived.ShutString
import Derived.ChangeOld
import Derived.Below
import Derived.SizedLaws
import Derived.Carry
import Derived.Test.YtejplbeddcpmeaaWSized
import Derived.Test.YtejplbeddcpmeaaOpen
namespace Go.Proofs.Ytejplbeddcpmeaa.memNews
open Go.ChangeShapes Go.WideShapes Go.ChangeAt Go.RowKit
open Go.ChangeMaps (open_string shut_string)
theorem own : ownKnob Try.prog.godebug = none := by kernel_rfl
theorem laidOut : laidOutB Try.prog = true := by kernel_rfl
theorem cells3 : Try.prog.cellsOf 3 = 1 := by kernel_rfl
theorem cells29 : Try.prog.cellsOf 29 = 1 := by kernel_rfl
theorem cells36 : Try.prog.cellsOf 36 = 4 := by kernel_rfl
theorem arr4 {cs : Array Value} (h : cs.size = 4) : ∃ c0 c1 c2 c3, cs = #[c0, c1, c2, c3] := by
  obtain ⟨l⟩ := cs
  match l, h with
  | [c0, c1, c2, c3], _ => exact ⟨c0, c1, c2, c3, rfl⟩
set_option maxRecDepth 100000 in
theorem lifted (os : Os) (started : os.Started) (H : Type) (enc : TypeId × Value → H) :
    ReturnsInHanded {} Try.checked os 6 .any (Rows.memNewsSpec.pre6 enc Try.prog Try.f6 Rows.memNewsRow.domain false) (Rows.memNewsSpec.post enc Try.prog Try.f6 false true false false) := by
  refine returnsInHanded_of_change_sized (C := Try.checked) own started (by kernel_rfl) Try.func6
    (ChangeSpec.witness6 (enc := enc) (C := Try.checked) false ⟨#[], #[.int .i64 0, .int .i64 0, .agg #[.int .i64 0, .int .i64 0, .int .i64 0, .int .u64 0]], []⟩ 8 (by kernel_rfl) (by kernel_rfl) (by kernel_rfl) (by kernel_rfl)) ?_
  intro W base args ds gs before hval0 hW hcnd hsz0 _
  have hval : ∀ (j : Nat) t v, Try.f6.params[j]? = some t → args[j]? = some v → Value.okWide Try.prog W .any base t v := hval0
  have hW' := hW
  obtain ⟨p, q, hA0, hV, rfl, hfz, hnd⟩ := hW
  have hA : DataW.TrodAll enc Try.prog W 0 (fun _ => true) true Try.f6.params.toList args.toList ds p := hA0
  rw [Try.params6] at hA hval
  obtain ⟨v0, vs0, d0, ds0, p0, q0, hargs, rfl, rfl, h0, r0⟩ := trodAll_cons hA
  obtain ⟨v1, vs1, d1, ds1, p1, q1, rfl, rfl, rfl, h1, r1⟩ := trodAll_cons r0
  obtain ⟨v2, vs2, d2, ds2, p2, q2, rfl, rfl, rfl, h2, r2⟩ := trodAll_cons r1
  obtain ⟨rfl, rfl, rfl⟩ := trodAll_nil r2
  obtain rfl : args = #[v0, v1, v2] := by cases args; simp_all
  obtain ⟨rfl, rfl⟩ := trodVars_none hV
  obtain ⟨a0, rfl, rfl, rfl, w0⟩ := open_int Try.underlying3 (hval 0 3 v0 rfl rfl) h0
  obtain ⟨a1, rfl, rfl, rfl, w1⟩ := open_int Try.underlying3 (hval 1 3 v1 rfl rfl) h1
  obtain ⟨cs2, rfl, zs2⟩ := okWide_struct Try.underlying36 (hval 2 36 v2 rfl rfl)
  have k2 := h2
  have lt2 : ∀ x ∈ p2, x.block < W.heap.size := by obtain ⟨m, hm⟩ := k2; exact DataW.trod_lt m _ _ _ hm
  obtain ⟨c2_0, c2_1, c2_2, c2_3, rfl⟩ := arr4 (zs2.trans cells36)
  obtain ⟨fuel2, hf2⟩ := h2
  replace hf2 : DataW.trod enc Try.prog W 0 (fun _ => true) true fuel2 36 [c2_0, c2_1, c2_2, c2_3] = some (d2, p2) := hf2
  obtain ⟨xs2, n2, _, _, _, l2, F2⟩ := DataW.trod_struct Try.underlying36 hf2
  obtain ⟨y2_0, e2_0⟩ : ∃ y, xs2[0]? = some y := ⟨_, List.getElem?_eq_getElem (by rw [l2]; decide)⟩
  have f2_0 : DataW.trod enc Try.prog W 0 (fun _ => true) true n2 3 (([c2_0, c2_1, c2_2, c2_3].drop 0).take (Try.prog.cellsOf 3)) = some y2_0 := (F2 0 _ rfl).trans e2_0
  rw [cells3] at f2_0
  replace f2_0 : DataW.trod enc Try.prog W 0 (fun _ => true) true n2 3 [c2_0] = some y2_0 := f2_0
  obtain ⟨u2_0, E2_0, _, w2_0⟩ := DataW.trod_int Try.underlying3 f2_0
  obtain rfl := List.singleton_inj.1 E2_0
  obtain ⟨y2_1, e2_1⟩ : ∃ y, xs2[1]? = some y := ⟨_, List.getElem?_eq_getElem (by rw [l2]; decide)⟩
  have f2_1 : DataW.trod enc Try.prog W 0 (fun _ => true) true n2 3 (([(.int .i64 u2_0), c2_1, c2_2, c2_3].drop 1).take (Try.prog.cellsOf 3)) = some y2_1 := (F2 1 _ rfl).trans e2_1
  rw [cells3] at f2_1
  replace f2_1 : DataW.trod enc Try.prog W 0 (fun _ => true) true n2 3 [c2_1] = some y2_1 := f2_1
  obtain ⟨u2_1, E2_1, _, w2_1⟩ := DataW.trod_int Try.underlying3 f2_1
  obtain rfl := List.singleton_inj.1 E2_1
  obtain ⟨y2_2, e2_2⟩ : ∃ y, xs2[2]? = some y := ⟨_, List.getElem?_eq_getElem (by rw [l2]; decide)⟩
  have f2_2 : DataW.trod enc Try.prog W 0 (fun _ => true) true n2 3 (([(.int .i64 u2_0), (.int .i64 u2_1), c2_2, c2_3].drop 2).take (Try.prog.cellsOf 3)) = some y2_2 := (F2 2 _ rfl).trans e2_2
  rw [cells3] at f2_2
  replace f2_2 : DataW.trod enc Try.prog W 0 (fun _ => true) true n2 3 [c2_2] = some y2_2 := f2_2
  obtain ⟨u2_2, E2_2, _, w2_2⟩ := DataW.trod_int Try.underlying3 f2_2
  obtain rfl := List.singleton_inj.1 E2_2
  obtain ⟨y2_3, e2_3⟩ : ∃ y, xs2[3]? = some y := ⟨_, List.getElem?_eq_getElem (by rw [l2]; decide)⟩
  have f2_3 : DataW.trod enc Try.prog W 0 (fun _ => true) true n2 29 (([(.int .i64 u2_0), (.int .i64 u2_1), (.int .i64 u2_2), c2_3].drop 3).take (Try.prog.cellsOf 29)) = some y2_3 := (F2 3 _ rfl).trans e2_3
  rw [cells29] at f2_3
  replace f2_3 : DataW.trod enc Try.prog W 0 (fun _ => true) true n2 29 [c2_3] = some y2_3 := f2_3
  obtain ⟨u2_3, E2_3, _, w2_3⟩ := DataW.trod_int Try.underlying29 f2_3
  obtain rfl := List.singleton_inj.1 E2_3
  clear hA0 hval0 hsz0
  refine (Mem.MemNews_calls a0 a1 u2_0 u2_1 u2_2 u2_3 W (Mem.wf_i64 w0) (Mem.wf_i64 w1)).mono fun e W' ⟨he, bel⟩ => ?_
  subst he
  exact ⟨_, rfl, _, _, _, [], _, [], hW', trodAll_mk1 (shut_bool Try.underlying4 _), (trodAll_cons_mk (shut_int Try.underlying3 w0) (trodAll_cons_mk (shut_int Try.underlying3 w1) (trodAll_cons_mk (Below.trod laidOut (by kernel_rfl) (of_decide_eq_true (by kernel_rfl)) k2 bel lt2) trodAll_mk0))), rfl, bel.frame _, fun h => by cases h⟩
theorem over : Rows.memNewsRow.holds Try.pinned (OpenSpec.ofChange Rows.memNewsSpec) :=
  OpenClaim.holds_of_wide 6 Try.f6 rfl rfl rfl rfl rfl rfl rfl ⟨rfl, rfl, rfl, rfl, rfl⟩ rfl rfl rfl rfl rfl (by kernel_rfl) Try.func6 (by kernel_rfl)
    (of_decide_eq_true (by kernel_rfl)) (by unfold Func.isWrapper; first | (rw [if_pos (by decide +kernel)]; kernel_rfl) | (rw [if_neg (by decide +kernel)]; exact ⟨rfl, rfl⟩))
    (fun os started H enc _ => lifted os started H enc)
theorem proved : Rows.MemNewsSaid := over
#print axioms proved
end Go.Proofs.Ytejplbeddcpmeaa.memNews
namespace Go.Proofs.Ytejplbeddcpmeaa
/-- The row, under a short name, for the claim. -/
theorem memNews_holds : Rows.MemNewsSaid := memNews.proved
end Go.Proofs.Ytejplbeddcpmeaa
