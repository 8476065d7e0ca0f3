/- The row of the law SlotWords: its walk and its plain law joined; no condition beyond the row's own. -/
import Derived.Test.YtigaajkophmhoaaRows
import Derived.Test.YtigaajkophmhoaaPSlotWordsx5
import Derived.Test.YtigaajkophmhoaaPureSlotWords
import Derived.WalkKit
import Derived.ProofKit
import Derived.OpenShut
import Derived.ShutString
import Derived.ChangeOld
import Derived.Below
import Derived.SizedLaws
import Derived.Carry
import Derived.Test.YtigaajkophmhoaaWSized
namespace Go.Proofs.Ytigaajkophmhoaa.slotWords
open Go.ChangeShapes Go.WideShapes Go.ChangeAt Go.RowKit
open Go.ChangeMaps (open_string shut_string)
theorem own : ownKnob Try.prog.godebug = none := by kernel_rfl
theorem laidOut : laidOutB Try.prog = true := by kernel_rfl
theorem cells3 : Try.prog.cellsOf 3 = 1 := by kernel_rfl
theorem cells4 : Try.prog.cellsOf 4 = 1 := by kernel_rfl
theorem cells22 : Try.prog.cellsOf 22 = 1 := by kernel_rfl
theorem cells42 : Try.prog.cellsOf 42 = 1 := by kernel_rfl
theorem cells50 : Try.prog.cellsOf 50 = 2 := by kernel_rfl
theorem cells78 : Try.prog.cellsOf 78 = 5 := by kernel_rfl
theorem arr5 {cs : Array Value} (h : cs.size = 5) : ∃ c0 c1 c2 c3 c4, cs = #[c0, c1, c2, c3, c4] := by
  obtain ⟨l⟩ := cs
  match l, h with
  | [c0, c1, c2, c3, c4], _ => exact ⟨c0, c1, c2, c3, c4, rfl⟩
set_option maxRecDepth 100000 in
theorem lifted (os : Os) (started : os.Started) (H : Type) (enc : TypeId × Value → H) :
    ReturnsInHanded {} Try.checked os 13 .any (Rows.slotWordsSpec.pre6 enc Try.prog Try.f13 Rows.slotWordsRow.domain false) (Rows.slotWordsSpec.post enc Try.prog Try.f13 false true false false) := by
  refine returnsInHanded_of_change_sized (C := Try.checked) own started (by kernel_rfl) Try.func13
    (ChangeSpec.witness6 (enc := enc) (C := Try.checked) false ⟨#[], #[.agg #[.int .i64 0, .int .u64 0, .int .i64 0, .bool false, .int .u32 0], .agg #[.int .i64 0, .int .u64 0, .int .i64 0, .bool false, .int .u32 0]], []⟩ 8 (by kernel_rfl) (by kernel_rfl) (by kernel_rfl) (by kernel_rfl)) ?_
  intro W base args ds gs before hval0 hW hcnd hsz0 _
  have hval : ∀ (j : Nat) t v, Try.f13.params[j]? = some t → args[j]? = some v → Value.okWide Try.prog W .any base t v := hval0
  have hW' := hW
  obtain ⟨p, q, hA0, hV, rfl, hfz, hnd⟩ := hW
  have hA : DataW.TrodAll enc Try.prog W 0 (fun _ => true) true Try.f13.params.toList args.toList ds p := hA0
  rw [Try.params13] at hA hval
  obtain ⟨v0, vs0, d0, ds0, p0, q0, hargs, rfl, rfl, h0, r0⟩ := trodAll_cons hA
  obtain ⟨v1, vs1, d1, ds1, p1, q1, rfl, rfl, rfl, h1, r1⟩ := trodAll_cons r0
  obtain ⟨rfl, rfl, rfl⟩ := trodAll_nil r1
  obtain rfl : args = #[v0, v1] := by cases args; simp_all
  obtain ⟨rfl, rfl⟩ := trodVars_none hV
  obtain ⟨cs0, rfl, zs0⟩ := okWide_struct Try.underlying78 (hval 0 78 v0 rfl rfl)
  have k0 := h0
  have lt0 : ∀ x ∈ p0, x.block < W.heap.size := by obtain ⟨m, hm⟩ := k0; exact DataW.trod_lt m _ _ _ hm
  obtain ⟨c0_0, c0_1, c0_2, c0_3, c0_4, rfl⟩ := arr5 (zs0.trans cells78)
  obtain ⟨fuel0, hf0⟩ := h0
  replace hf0 : DataW.trod enc Try.prog W 0 (fun _ => true) true fuel0 78 [c0_0, c0_1, c0_2, c0_3, c0_4] = some (d0, p0) := hf0
  obtain ⟨xs0, n0, _, _, _, l0, F0⟩ := DataW.trod_struct Try.underlying78 hf0
  obtain ⟨y0_0, e0_0⟩ : ∃ y, xs0[0]? = some y := ⟨_, List.getElem?_eq_getElem (by rw [l0]; decide)⟩
  have f0_0 : DataW.trod enc Try.prog W 0 (fun _ => true) true n0 50 (([c0_0, c0_1, c0_2, c0_3, c0_4].drop 0).take (Try.prog.cellsOf 50)) = some y0_0 := (F0 0 _ rfl).trans e0_0
  rw [cells50] at f0_0
  replace f0_0 : DataW.trod enc Try.prog W 0 (fun _ => true) true n0 50 [c0_0, c0_1] = some y0_0 := f0_0
  obtain ⟨xs0_0, n0_0, _, _, _, l0_0, F0_0⟩ := DataW.trod_struct Try.underlying50 f0_0
  obtain ⟨y0_0_0, e0_0_0⟩ : ∃ y, xs0_0[0]? = some y := ⟨_, List.getElem?_eq_getElem (by rw [l0_0]; decide)⟩
  have f0_0_0 : DataW.trod enc Try.prog W 0 (fun _ => true) true n0_0 3 (([c0_0, c0_1].drop 0).take (Try.prog.cellsOf 3)) = some y0_0_0 := (F0_0 0 _ rfl).trans e0_0_0
  rw [cells3] at f0_0_0
  replace f0_0_0 : DataW.trod enc Try.prog W 0 (fun _ => true) true n0_0 3 [c0_0] = some y0_0_0 := f0_0_0
  obtain ⟨u0_0_0, E0_0_0, _, w0_0_0⟩ := DataW.trod_int Try.underlying3 f0_0_0
  obtain rfl := List.singleton_inj.1 E0_0_0
  obtain ⟨y0_0_1, e0_0_1⟩ : ∃ y, xs0_0[1]? = some y := ⟨_, List.getElem?_eq_getElem (by rw [l0_0]; decide)⟩
  have f0_0_1 : DataW.trod enc Try.prog W 0 (fun _ => true) true n0_0 42 (([(.int .i64 u0_0_0), c0_1].drop 1).take (Try.prog.cellsOf 42)) = some y0_0_1 := (F0_0 1 _ rfl).trans e0_0_1
  rw [cells42] at f0_0_1
  replace f0_0_1 : DataW.trod enc Try.prog W 0 (fun _ => true) true n0_0 42 [c0_1] = some y0_0_1 := f0_0_1
  obtain ⟨u0_0_1, E0_0_1, _, w0_0_1⟩ := DataW.trod_int Try.underlying42 f0_0_1
  obtain rfl := List.singleton_inj.1 E0_0_1
  obtain ⟨y0_1, e0_1⟩ : ∃ y, xs0[1]? = some y := ⟨_, List.getElem?_eq_getElem (by rw [l0]; decide)⟩
  have f0_1 : DataW.trod enc Try.prog W 0 (fun _ => true) true n0 3 (([(.int .i64 u0_0_0), (.int .u64 u0_0_1), c0_2, c0_3, c0_4].drop 2).take (Try.prog.cellsOf 3)) = some y0_1 := (F0 1 _ rfl).trans e0_1
  rw [cells3] at f0_1
  replace f0_1 : DataW.trod enc Try.prog W 0 (fun _ => true) true n0 3 [c0_2] = some y0_1 := f0_1
  obtain ⟨u0_1, E0_1, _, w0_1⟩ := DataW.trod_int Try.underlying3 f0_1
  obtain rfl := List.singleton_inj.1 E0_1
  obtain ⟨y0_2, e0_2⟩ : ∃ y, xs0[2]? = some y := ⟨_, List.getElem?_eq_getElem (by rw [l0]; decide)⟩
  have f0_2 : DataW.trod enc Try.prog W 0 (fun _ => true) true n0 4 (([(.int .i64 u0_0_0), (.int .u64 u0_0_1), (.int .i64 u0_1), c0_3, c0_4].drop 3).take (Try.prog.cellsOf 4)) = some y0_2 := (F0 2 _ rfl).trans e0_2
  rw [cells4] at f0_2
  replace f0_2 : DataW.trod enc Try.prog W 0 (fun _ => true) true n0 4 [c0_3] = some y0_2 := f0_2
  obtain ⟨u0_2, E0_2, _⟩ := DataW.trod_bool Try.underlying4 f0_2
  obtain rfl := List.singleton_inj.1 E0_2
  obtain ⟨y0_3, e0_3⟩ : ∃ y, xs0[3]? = some y := ⟨_, List.getElem?_eq_getElem (by rw [l0]; decide)⟩
  have f0_3 : DataW.trod enc Try.prog W 0 (fun _ => true) true n0 22 (([(.int .i64 u0_0_0), (.int .u64 u0_0_1), (.int .i64 u0_1), (.bool u0_2), c0_4].drop 4).take (Try.prog.cellsOf 22)) = some y0_3 := (F0 3 _ rfl).trans e0_3
  rw [cells22] at f0_3
  replace f0_3 : DataW.trod enc Try.prog W 0 (fun _ => true) true n0 22 [c0_4] = some y0_3 := f0_3
  obtain ⟨u0_3, E0_3, _, w0_3⟩ := DataW.trod_int Try.underlying22 f0_3
  obtain rfl := List.singleton_inj.1 E0_3
  obtain ⟨cs1, rfl, zs1⟩ := okWide_struct Try.underlying78 (hval 1 78 v1 rfl rfl)
  have k1 := h1
  have lt1 : ∀ x ∈ p1, x.block < W.heap.size := by obtain ⟨m, hm⟩ := k1; exact DataW.trod_lt m _ _ _ hm
  obtain ⟨c1_0, c1_1, c1_2, c1_3, c1_4, rfl⟩ := arr5 (zs1.trans cells78)
  obtain ⟨fuel1, hf1⟩ := h1
  replace hf1 : DataW.trod enc Try.prog W 0 (fun _ => true) true fuel1 78 [c1_0, c1_1, c1_2, c1_3, c1_4] = some (d1, p1) := hf1
  obtain ⟨xs1, n1, _, _, _, l1, F1⟩ := DataW.trod_struct Try.underlying78 hf1
  obtain ⟨y1_0, e1_0⟩ : ∃ y, xs1[0]? = some y := ⟨_, List.getElem?_eq_getElem (by rw [l1]; decide)⟩
  have f1_0 : DataW.trod enc Try.prog W 0 (fun _ => true) true n1 50 (([c1_0, c1_1, c1_2, c1_3, c1_4].drop 0).take (Try.prog.cellsOf 50)) = some y1_0 := (F1 0 _ rfl).trans e1_0
  rw [cells50] at f1_0
  replace f1_0 : DataW.trod enc Try.prog W 0 (fun _ => true) true n1 50 [c1_0, c1_1] = some y1_0 := f1_0
  obtain ⟨xs1_0, n1_0, _, _, _, l1_0, F1_0⟩ := DataW.trod_struct Try.underlying50 f1_0
  obtain ⟨y1_0_0, e1_0_0⟩ : ∃ y, xs1_0[0]? = some y := ⟨_, List.getElem?_eq_getElem (by rw [l1_0]; decide)⟩
  have f1_0_0 : DataW.trod enc Try.prog W 0 (fun _ => true) true n1_0 3 (([c1_0, c1_1].drop 0).take (Try.prog.cellsOf 3)) = some y1_0_0 := (F1_0 0 _ rfl).trans e1_0_0
  rw [cells3] at f1_0_0
  replace f1_0_0 : DataW.trod enc Try.prog W 0 (fun _ => true) true n1_0 3 [c1_0] = some y1_0_0 := f1_0_0
  obtain ⟨u1_0_0, E1_0_0, _, w1_0_0⟩ := DataW.trod_int Try.underlying3 f1_0_0
  obtain rfl := List.singleton_inj.1 E1_0_0
  obtain ⟨y1_0_1, e1_0_1⟩ : ∃ y, xs1_0[1]? = some y := ⟨_, List.getElem?_eq_getElem (by rw [l1_0]; decide)⟩
  have f1_0_1 : DataW.trod enc Try.prog W 0 (fun _ => true) true n1_0 42 (([(.int .i64 u1_0_0), c1_1].drop 1).take (Try.prog.cellsOf 42)) = some y1_0_1 := (F1_0 1 _ rfl).trans e1_0_1
  rw [cells42] at f1_0_1
  replace f1_0_1 : DataW.trod enc Try.prog W 0 (fun _ => true) true n1_0 42 [c1_1] = some y1_0_1 := f1_0_1
  obtain ⟨u1_0_1, E1_0_1, _, w1_0_1⟩ := DataW.trod_int Try.underlying42 f1_0_1
  obtain rfl := List.singleton_inj.1 E1_0_1
  obtain ⟨y1_1, e1_1⟩ : ∃ y, xs1[1]? = some y := ⟨_, List.getElem?_eq_getElem (by rw [l1]; decide)⟩
  have f1_1 : DataW.trod enc Try.prog W 0 (fun _ => true) true n1 3 (([(.int .i64 u1_0_0), (.int .u64 u1_0_1), c1_2, c1_3, c1_4].drop 2).take (Try.prog.cellsOf 3)) = some y1_1 := (F1 1 _ rfl).trans e1_1
  rw [cells3] at f1_1
  replace f1_1 : DataW.trod enc Try.prog W 0 (fun _ => true) true n1 3 [c1_2] = some y1_1 := f1_1
  obtain ⟨u1_1, E1_1, _, w1_1⟩ := DataW.trod_int Try.underlying3 f1_1
  obtain rfl := List.singleton_inj.1 E1_1
  obtain ⟨y1_2, e1_2⟩ : ∃ y, xs1[2]? = some y := ⟨_, List.getElem?_eq_getElem (by rw [l1]; decide)⟩
  have f1_2 : DataW.trod enc Try.prog W 0 (fun _ => true) true n1 4 (([(.int .i64 u1_0_0), (.int .u64 u1_0_1), (.int .i64 u1_1), c1_3, c1_4].drop 3).take (Try.prog.cellsOf 4)) = some y1_2 := (F1 2 _ rfl).trans e1_2
  rw [cells4] at f1_2
  replace f1_2 : DataW.trod enc Try.prog W 0 (fun _ => true) true n1 4 [c1_3] = some y1_2 := f1_2
  obtain ⟨u1_2, E1_2, _⟩ := DataW.trod_bool Try.underlying4 f1_2
  obtain rfl := List.singleton_inj.1 E1_2
  obtain ⟨y1_3, e1_3⟩ : ∃ y, xs1[3]? = some y := ⟨_, List.getElem?_eq_getElem (by rw [l1]; decide)⟩
  have f1_3 : DataW.trod enc Try.prog W 0 (fun _ => true) true n1 22 (([(.int .i64 u1_0_0), (.int .u64 u1_0_1), (.int .i64 u1_1), (.bool u1_2), c1_4].drop 4).take (Try.prog.cellsOf 22)) = some y1_3 := (F1 3 _ rfl).trans e1_3
  rw [cells22] at f1_3
  replace f1_3 : DataW.trod enc Try.prog W 0 (fun _ => true) true n1 22 [c1_4] = some y1_3 := f1_3
  obtain ⟨u1_3, E1_3, _, w1_3⟩ := DataW.trod_int Try.underlying22 f1_3
  obtain rfl := List.singleton_inj.1 E1_3
  clear hA0 hval0 hsz0
  obtain ⟨k, P⟩ := Pure.SlotWords u0_0_0 u0_0_1 u0_1 u0_2 u0_3 u1_0_0 u1_0_1 u1_1 u1_2 u1_3 w0_0_0 w0_0_1 w0_1 w0_3 w1_0_0 w1_0_1 w1_1 w1_3
  refine (PSlotWords.patchbaylaw09_SlotWords.calls k u0_0_0 u0_0_1 u0_1 u0_2 u0_3 u1_0_0 u1_0_1 u1_1 u1_2 u1_3 true W ⟨rfl⟩ P).mono fun e W' ⟨he, bel0⟩ => ?_
  have bel : Below W.heap.size W W' := by first | exact bel0 | exact bel0.below
  subst he
  exact ⟨_, rfl, _, _, _, [], _, [], hW', trodAll_mk1 (shut_bool Try.underlying4 _), (trodAll_cons_mk (Below.trod laidOut (by kernel_rfl) (of_decide_eq_true (by kernel_rfl)) k0 bel lt0) (trodAll_cons_mk (Below.trod laidOut (by kernel_rfl) (of_decide_eq_true (by kernel_rfl)) k1 bel lt1) trodAll_mk0)), rfl, bel.frame _, fun h => by cases h⟩
theorem over : Rows.slotWordsRow.holds Try.pinned (OpenSpec.ofChange Rows.slotWordsSpec) :=
  OpenClaim.holds_of_wide 13 Try.f13 rfl rfl rfl rfl rfl rfl rfl ⟨rfl, rfl, rfl, rfl, rfl⟩ rfl rfl rfl rfl rfl (by kernel_rfl) Try.func13 (by kernel_rfl)
    (of_decide_eq_true (by kernel_rfl)) (by unfold Func.isWrapper; first | (rw [if_pos (by decide +kernel)]; kernel_rfl) | (rw [if_neg (by decide +kernel)]; exact ⟨rfl, rfl⟩))
    (fun os started H enc _ => lifted os started H enc)
theorem proved : Rows.SlotWordsSaid := over
#print axioms proved
end Go.Proofs.Ytigaajkophmhoaa.slotWords
namespace Go.Proofs.Ytigaajkophmhoaa
/-- The row, under a short name, for the claim. -/
theorem slotWords_holds : Rows.SlotWordsSaid := slotWords.proved
end Go.Proofs.Ytigaajkophmhoaa
