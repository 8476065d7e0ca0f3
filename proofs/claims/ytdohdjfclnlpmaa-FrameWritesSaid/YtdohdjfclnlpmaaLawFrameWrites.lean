/- The row of the law FrameWrites: its walk and its plain law joined; no condition beyond the row's own. -/
import Derived.Test.YtdohdjfclnlpmaaRows
import Derived.Test.YtdohdjfclnlpmaaPFramex15
import Derived.Test.YtdohdjfclnlpmaaPureFrameWrites
import Derived.WalkKit
import Derived.ProofKit
import Derived.OpenShut
import Derived.ShutString
import Derived.ChangeOld
import Derived.Below
import Derived.SizedLaws
import Derived.Carry
import Derived.Test.YtdohdjfclnlpmaaWSized
namespace Go.Proofs.Ytdohdjfclnlpmaa.frameWrites
open Go.ChangeShapes Go.WideShapes Go.ChangeAt Go.RowKit
open Go.ChangeMaps (open_string shut_string)
theorem own : ownKnob Try.prog.godebug = none := by kernel_rfl
theorem laidOut : laidOutB Try.prog = true := by kernel_rfl
theorem sized_field {H : Type} {P : Program} {ts : List TypeId} {ds parts : List (DataW H)} {i : Nat} {t : TypeId} {fs : Array Field} (hsz : (DataW.weightsEach P ts ds).all (· ≤ reachBytes) = true) (ht : ts[i]? = some t) (hd : ds[i]? = some (.agg parts)) (hu : P.underlying t = some (.struct fs)) : (DataW.weightsEach P (fs.toList.map (·.type)) parts).all (· ≤ reachBytes) = true := by
  refine List.all_eq_true.2 fun n hn => ?_
  exact List.all_eq_true.1 hsz _ (DataW.weights_mem_each ht hd n (by simp only [DataW.weights, hu]; exact hn))
def IsRow (k : IntKind) (w : World) (a : Option Addr) (len cap : Nat) (zs : List Int) : Prop :=
  (a = none ∧ len = 0 ∧ cap = 0 ∧ zs = []) ∨
  ∃ x, a = some x ∧ len ≤ cap ∧ cap ≤ maxLen ∧ zs.length = cap ∧ (∀ i, i < zs.length → w.cell? (x.add i) = some (.int k (zs.getD i 0))) ∧ ∀ n ∈ zs, (Lit.int k n).wf = true
theorem cells4 : Try.prog.cellsOf 4 = 1 := by kernel_rfl
theorem cells22 : Try.prog.cellsOf 22 = 1 := by kernel_rfl
theorem cells31 : Try.prog.cellsOf 31 = 1 := by kernel_rfl
theorem cells32 : Try.prog.cellsOf 32 = 1 := by kernel_rfl
theorem cells34 : Try.prog.cellsOf 34 = 6 := by kernel_rfl
theorem arr6 {cs : Array Value} (h : cs.size = 6) : ∃ c0 c1 c2 c3 c4 c5, cs = #[c0, c1, c2, c3, c4, c5] := by
  obtain ⟨l⟩ := cs
  match l, h with
  | [c0, c1, c2, c3, c4, c5], _ => exact ⟨c0, c1, c2, c3, c4, c5, rfl⟩
set_option maxRecDepth 100000 in
theorem lifted (os : Os) (started : os.Started) (H : Type) (enc : TypeId × Value → H) :
    ReturnsInHanded {} Try.checked os 14 .any (Rows.frameWritesSpec.pre6 enc Try.prog Try.f14 Rows.frameWritesRow.domain false) (Rows.frameWritesSpec.post enc Try.prog Try.f14 false true false false) := by
  refine returnsInHanded_of_change_sized (C := Try.checked) own started (by kernel_rfl) Try.func14
    (ChangeSpec.witness6 (enc := enc) (C := Try.checked) false ⟨#[], #[.agg #[.int .u64 0, .int .u64 0, .bool false, .int .u16 0, .int .u16 0, .slice none 0 0]], []⟩ 8 (by kernel_rfl) (by kernel_rfl) (by kernel_rfl) (by kernel_rfl)) ?_
  intro W base args ds gs before hval0 hW hcnd hsz0 _
  have hsz : (DataW.weightsEach Try.prog (Try.f14.params.toList ++ Rows.frameWritesSpec.plain.varTypes Try.prog) (ds ++ gs)).all (· ≤ reachBytes) = true := hsz0
  have hval : ∀ (j : Nat) t v, Try.f14.params[j]? = some t → args[j]? = some v → Value.okWide Try.prog W .any base t v := hval0
  have hW' := hW
  obtain ⟨p, q, hA0, hV, rfl, hfz, hnd⟩ := hW
  have hA : DataW.TrodAll enc Try.prog W 0 (fun _ => true) true Try.f14.params.toList args.toList ds p := hA0
  rw [Try.params14] at hA hval hsz
  obtain ⟨v0, vs0, d0, ds0, p0, q0, hargs, rfl, rfl, h0, r0⟩ := trodAll_cons hA
  obtain ⟨rfl, rfl, rfl⟩ := trodAll_nil r0
  obtain rfl : args = #[v0] := by cases args; simp_all
  obtain ⟨rfl, rfl⟩ := trodVars_none hV
  obtain ⟨cs0, rfl, zs0⟩ := okWide_struct Try.underlying34 (hval 0 34 v0 rfl rfl)
  have k0 := h0
  have lt0 : ∀ x ∈ p0, x.block < W.heap.size := by obtain ⟨m, hm⟩ := k0; exact DataW.trod_lt m _ _ _ hm
  obtain ⟨c0_0, c0_1, c0_2, c0_3, c0_4, c0_5, rfl⟩ := arr6 (zs0.trans cells34)
  obtain ⟨fuel0, hf0⟩ := h0
  replace hf0 : DataW.trod enc Try.prog W 0 (fun _ => true) true fuel0 34 [c0_0, c0_1, c0_2, c0_3, c0_4, c0_5] = some (d0, p0) := hf0
  obtain ⟨xs0, n0, _, X0, _, l0, F0⟩ := DataW.trod_struct Try.underlying34 hf0
  have hs0 := sized_field hsz (i := 0) (t := 34) rfl (show some d0 = some _ from congrArg some (Prod.mk.inj X0).1) Try.underlying34
  obtain ⟨y0_0, e0_0⟩ : ∃ y, xs0[0]? = some y := ⟨_, List.getElem?_eq_getElem (by rw [l0]; decide)⟩
  have f0_0 : DataW.trod enc Try.prog W 0 (fun _ => true) true n0 31 (([c0_0, c0_1, c0_2, c0_3, c0_4, c0_5].drop 0).take (Try.prog.cellsOf 31)) = some y0_0 := (F0 0 _ rfl).trans e0_0
  rw [cells31] at f0_0
  replace f0_0 : DataW.trod enc Try.prog W 0 (fun _ => true) true n0 31 [c0_0] = some y0_0 := f0_0
  obtain ⟨u0_0, E0_0, _, w0_0⟩ := DataW.trod_int Try.underlying31 f0_0
  obtain rfl := List.singleton_inj.1 E0_0
  obtain ⟨y0_1, e0_1⟩ : ∃ y, xs0[1]? = some y := ⟨_, List.getElem?_eq_getElem (by rw [l0]; decide)⟩
  have f0_1 : DataW.trod enc Try.prog W 0 (fun _ => true) true n0 31 (([(.int .u64 u0_0), c0_1, c0_2, c0_3, c0_4, c0_5].drop 1).take (Try.prog.cellsOf 31)) = some y0_1 := (F0 1 _ rfl).trans e0_1
  rw [cells31] at f0_1
  replace f0_1 : DataW.trod enc Try.prog W 0 (fun _ => true) true n0 31 [c0_1] = some y0_1 := f0_1
  obtain ⟨u0_1, E0_1, _, w0_1⟩ := DataW.trod_int Try.underlying31 f0_1
  obtain rfl := List.singleton_inj.1 E0_1
  obtain ⟨y0_2, e0_2⟩ : ∃ y, xs0[2]? = some y := ⟨_, List.getElem?_eq_getElem (by rw [l0]; decide)⟩
  have f0_2 : DataW.trod enc Try.prog W 0 (fun _ => true) true n0 4 (([(.int .u64 u0_0), (.int .u64 u0_1), c0_2, c0_3, c0_4, c0_5].drop 2).take (Try.prog.cellsOf 4)) = some y0_2 := (F0 2 _ rfl).trans e0_2
  rw [cells4] at f0_2
  replace f0_2 : DataW.trod enc Try.prog W 0 (fun _ => true) true n0 4 [c0_2] = some y0_2 := f0_2
  obtain ⟨u0_2, E0_2, _⟩ := DataW.trod_bool Try.underlying4 f0_2
  obtain rfl := List.singleton_inj.1 E0_2
  obtain ⟨y0_3, e0_3⟩ : ∃ y, xs0[3]? = some y := ⟨_, List.getElem?_eq_getElem (by rw [l0]; decide)⟩
  have f0_3 : DataW.trod enc Try.prog W 0 (fun _ => true) true n0 32 (([(.int .u64 u0_0), (.int .u64 u0_1), (.bool u0_2), c0_3, c0_4, c0_5].drop 3).take (Try.prog.cellsOf 32)) = some y0_3 := (F0 3 _ rfl).trans e0_3
  rw [cells32] at f0_3
  replace f0_3 : DataW.trod enc Try.prog W 0 (fun _ => true) true n0 32 [c0_3] = some y0_3 := f0_3
  obtain ⟨u0_3, E0_3, _, w0_3⟩ := DataW.trod_int Try.underlying32 f0_3
  obtain rfl := List.singleton_inj.1 E0_3
  obtain ⟨y0_4, e0_4⟩ : ∃ y, xs0[4]? = some y := ⟨_, List.getElem?_eq_getElem (by rw [l0]; decide)⟩
  have f0_4 : DataW.trod enc Try.prog W 0 (fun _ => true) true n0 32 (([(.int .u64 u0_0), (.int .u64 u0_1), (.bool u0_2), (.int .u16 u0_3), c0_4, c0_5].drop 4).take (Try.prog.cellsOf 32)) = some y0_4 := (F0 4 _ rfl).trans e0_4
  rw [cells32] at f0_4
  replace f0_4 : DataW.trod enc Try.prog W 0 (fun _ => true) true n0 32 [c0_4] = some y0_4 := f0_4
  obtain ⟨u0_4, E0_4, _, w0_4⟩ := DataW.trod_int Try.underlying32 f0_4
  obtain rfl := List.singleton_inj.1 E0_4
  obtain ⟨y0_5, e0_5⟩ : ∃ y, xs0[5]? = some y := ⟨_, List.getElem?_eq_getElem (by rw [l0]; decide)⟩
  have f0_5 : DataW.trod enc Try.prog W 0 (fun _ => true) true n0 22 (([(.int .u64 u0_0), (.int .u64 u0_1), (.bool u0_2), (.int .u16 u0_3), (.int .u16 u0_4), c0_5].drop 5).take (Try.prog.cellsOf 22)) = some y0_5 := (F0 5 _ rfl).trans e0_5
  rw [cells22] at f0_5
  replace f0_5 : DataW.trod enc Try.prog W 0 (fun _ => true) true n0 22 [c0_5] = some y0_5 := f0_5
  obtain ⟨z0_5, A0_5, len0_5, cap0_5, E0_5, w0_5⟩ : ∃ (zs : List Int) (A : Option Addr) (len cap : Nat), c0_5 = .slice A len cap ∧ IsRow .u8 W A len cap zs := by
    rcases open_ints Try.underlying22 Try.underlying5 (by kernel_rfl) f0_5 with ⟨hcs, _⟩ | ⟨x, l, c, zs, hcs, _, hl, hm, hz, _, hcell, hwz⟩
    · exact ⟨[], none, 0, 0, List.singleton_inj.1 hcs, .inl ⟨rfl, rfl, rfl, rfl⟩⟩
    · exact ⟨zs, some x, l, c, List.singleton_inj.1 hcs, .inr ⟨_, rfl, hl, hm, by simpa using hz, hcell, hwz⟩⟩
  subst E0_5
  have y0_5 : len0_5 * 1 ≤ 140737488351232 := Go.Proofs.YtdohdjfclnlpmaaW.PrintWords.sized_ints hs0 (j := 5) (t := 22) rfl (by rw [List.getElem?_map, e0_5]; rfl) Try.underlying22 Try.underlying5 (by kernel_rfl) (by kernel_rfl) ⟨n0, f0_5⟩
  obtain ⟨l0_5_, rfl, hr0_5, hm0_5, hw0_5, hc0_5⟩ := Go.Proofs.YtdohdjfclnlpmaaW.PrintWords.ReadsInt.ofRowC w0_5
  clear hA0 hval0 hsz0
  obtain ⟨k, P⟩ := Pure.FrameWrites u0_0 u0_1 u0_2 u0_3 u0_4 l0_5_ w0_0 w0_1 w0_3 w0_4 hm0_5 y0_5 hw0_5
  refine (PFrame.patchbaylaw02_FrameWrites.calls k u0_0 u0_1 u0_2 u0_3 u0_4 _ _ l0_5_ true W (Go.Proofs.YtdohdjfclnlpmaaW.PrintWords.Kd.C_of_reads (d := (0 : Int)) (h1 := fun _ => rfl) hr0_5) hc0_5 P).mono fun e W' ⟨he, bel0⟩ => ?_
  have bel : Below W.heap.size W W' := by first | exact bel0 | exact bel0.below
  subst he
  exact ⟨_, rfl, _, _, _, [], _, [], hW', trodAll_mk1 (shut_bool Try.underlying4 _), (trodAll_cons_mk (Below.trod laidOut (by kernel_rfl) (of_decide_eq_true (by kernel_rfl)) k0 bel lt0) trodAll_mk0), rfl, bel.frame _, fun h => by cases h⟩
theorem over : Rows.frameWritesRow.holds Try.pinned (OpenSpec.ofChange Rows.frameWritesSpec) :=
  OpenClaim.holds_of_wide 14 Try.f14 rfl rfl rfl rfl rfl rfl rfl ⟨rfl, rfl, rfl, rfl, rfl⟩ rfl rfl rfl rfl rfl (by kernel_rfl) Try.func14 (by kernel_rfl)
    (of_decide_eq_true (by kernel_rfl)) (by unfold Func.isWrapper; first | (rw [if_pos (by decide +kernel)]; kernel_rfl) | (rw [if_neg (by decide +kernel)]; exact ⟨rfl, rfl⟩))
    (fun os started H enc _ => lifted os started H enc)
theorem proved : Rows.FrameWritesSaid := over
#print axioms proved
end Go.Proofs.Ytdohdjfclnlpmaa.frameWrites
namespace Go.Proofs.Ytdohdjfclnlpmaa
/-- The row, under a short name, for the claim. -/
theorem frameWrites_holds : Rows.FrameWritesSaid := frameWrites.proved
end Go.Proofs.Ytdohdjfclnlpmaa
