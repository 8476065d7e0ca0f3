/- The row of the law GaugePlays: its walk and its plain law joined; no condition beyond the row's own. -/
import Derived.Test.YtkgghjblfoempaaRows
import Derived.Test.YtkgghjblfoempaaGW24
import Derived.Test.YtkgghjblfoempaaOpenF
import Derived.WalkKit
import Derived.ProofKit
import Derived.OpenShut
import Derived.ShutString
import Derived.ChangeOld
import Derived.Below
import Derived.SizedLaws
import Derived.Carry
import Derived.Test.YtkgghjblfoempaaWSized
import Derived.Test.YtkgghjblfoempaaOpen
namespace Go.Proofs.Ytkgghjblfoempaa.gaugePlays
open Go.ChangeShapes Go.WideShapes Go.ChangeAt Go.RowKit
open Go.ChangeMaps (open_string shut_string)
theorem own : ownKnob Try.prog.godebug = none := by kernel_rfl
theorem laidOut : laidOutB Try.prog = true := by kernel_rfl
theorem cells49 : Try.prog.cellsOf 49 = 1 := by kernel_rfl
theorem cells50 : Try.prog.cellsOf 50 = 1 := by kernel_rfl
theorem cells52 : Try.prog.cellsOf 52 = 4 := by kernel_rfl
theorem arr4 {cs : Array Value} (h : cs.size = 4) : ∃ c0 c1 c2 c3, cs = #[c0, c1, c2, c3] := by
  obtain ⟨l⟩ := cs
  match l, h with
  | [c0, c1, c2, c3], _ => exact ⟨c0, c1, c2, c3, rfl⟩
set_option maxRecDepth 100000 in
theorem lifted (os : Os) (started : os.Started) (H : Type) (enc : TypeId × Value → H) :
    ReturnsInHanded {} Try.checked os 7 .any (Rows.gaugePlaysSpec.pre6 enc Try.prog Try.f7 Rows.gaugePlaysRow.domain false) (Rows.gaugePlaysSpec.post enc Try.prog Try.f7 false true false false) := by
  refine returnsInHanded_of_change_sized (C := Try.checked) own started (by kernel_rfl) Try.func7
    (ChangeSpec.witness6 (enc := enc) (C := Try.checked) false ⟨#[], #[.agg #[.float .f64 0, .float .f64 0, .float .f64 0, .int .u32 0], .slice none 0 0], []⟩ 8 (by kernel_rfl) (by kernel_rfl) (by kernel_rfl) (by kernel_rfl)) ?_
  intro W base args ds gs before hval0 hW hcnd hsz0 _
  have hval : ∀ (j : Nat) t v, Try.f7.params[j]? = some t → args[j]? = some v → Value.okWide Try.prog W .any base t v := hval0
  have hW' := hW
  obtain ⟨p, q, hA0, hV, rfl, hfz, hnd⟩ := hW
  have hA : DataW.TrodAll enc Try.prog W 0 (fun _ => true) true Try.f7.params.toList args.toList ds p := hA0
  rw [Try.params7] at hA hval
  obtain ⟨v0, vs0, d0, ds0, p0, q0, hargs, rfl, rfl, h0, r0⟩ := trodAll_cons hA
  obtain ⟨v1, vs1, d1, ds1, p1, q1, rfl, rfl, rfl, h1, r1⟩ := trodAll_cons r0
  obtain ⟨rfl, rfl, rfl⟩ := trodAll_nil r1
  obtain rfl : args = #[v0, v1] := by cases args; simp_all
  obtain ⟨rfl, rfl⟩ := trodVars_none hV
  obtain ⟨cs0, rfl, zs0⟩ := okWide_struct Try.underlying52 (hval 0 52 v0 rfl rfl)
  have k0 := h0
  have lt0 : ∀ x ∈ p0, x.block < W.heap.size := by obtain ⟨m, hm⟩ := k0; exact DataW.trod_lt m _ _ _ hm
  obtain ⟨c0_0, c0_1, c0_2, c0_3, rfl⟩ := arr4 (zs0.trans cells52)
  obtain ⟨fuel0, hf0⟩ := h0
  replace hf0 : DataW.trod enc Try.prog W 0 (fun _ => true) true fuel0 52 [c0_0, c0_1, c0_2, c0_3] = some (d0, p0) := hf0
  obtain ⟨xs0, n0, _, _, _, l0, F0⟩ := DataW.trod_struct Try.underlying52 hf0
  obtain ⟨y0_0, e0_0⟩ : ∃ y, xs0[0]? = some y := ⟨_, List.getElem?_eq_getElem (by rw [l0]; decide)⟩
  have f0_0 : DataW.trod enc Try.prog W 0 (fun _ => true) true n0 49 (([c0_0, c0_1, c0_2, c0_3].drop 0).take (Try.prog.cellsOf 49)) = some y0_0 := (F0 0 _ rfl).trans e0_0
  rw [cells49] at f0_0
  replace f0_0 : DataW.trod enc Try.prog W 0 (fun _ => true) true n0 49 [c0_0] = some y0_0 := f0_0
  obtain ⟨u0_0, E0_0, _, w0_0⟩ := Opens.trod_float Try.underlying49 f0_0
  obtain rfl := List.singleton_inj.1 E0_0
  obtain ⟨y0_1, e0_1⟩ : ∃ y, xs0[1]? = some y := ⟨_, List.getElem?_eq_getElem (by rw [l0]; decide)⟩
  have f0_1 : DataW.trod enc Try.prog W 0 (fun _ => true) true n0 49 (([(.float .f64 u0_0), c0_1, c0_2, c0_3].drop 1).take (Try.prog.cellsOf 49)) = some y0_1 := (F0 1 _ rfl).trans e0_1
  rw [cells49] at f0_1
  replace f0_1 : DataW.trod enc Try.prog W 0 (fun _ => true) true n0 49 [c0_1] = some y0_1 := f0_1
  obtain ⟨u0_1, E0_1, _, w0_1⟩ := Opens.trod_float Try.underlying49 f0_1
  obtain rfl := List.singleton_inj.1 E0_1
  obtain ⟨y0_2, e0_2⟩ : ∃ y, xs0[2]? = some y := ⟨_, List.getElem?_eq_getElem (by rw [l0]; decide)⟩
  have f0_2 : DataW.trod enc Try.prog W 0 (fun _ => true) true n0 49 (([(.float .f64 u0_0), (.float .f64 u0_1), c0_2, c0_3].drop 2).take (Try.prog.cellsOf 49)) = some y0_2 := (F0 2 _ rfl).trans e0_2
  rw [cells49] at f0_2
  replace f0_2 : DataW.trod enc Try.prog W 0 (fun _ => true) true n0 49 [c0_2] = some y0_2 := f0_2
  obtain ⟨u0_2, E0_2, _, w0_2⟩ := Opens.trod_float Try.underlying49 f0_2
  obtain rfl := List.singleton_inj.1 E0_2
  obtain ⟨y0_3, e0_3⟩ : ∃ y, xs0[3]? = some y := ⟨_, List.getElem?_eq_getElem (by rw [l0]; decide)⟩
  have f0_3 : DataW.trod enc Try.prog W 0 (fun _ => true) true n0 50 (([(.float .f64 u0_0), (.float .f64 u0_1), (.float .f64 u0_2), c0_3].drop 3).take (Try.prog.cellsOf 50)) = some y0_3 := (F0 3 _ rfl).trans e0_3
  rw [cells50] at f0_3
  replace f0_3 : DataW.trod enc Try.prog W 0 (fun _ => true) true n0 50 [c0_3] = some y0_3 := f0_3
  obtain ⟨u0_3, E0_3, _, w0_3⟩ := DataW.trod_int Try.underlying50 f0_3
  obtain rfl := List.singleton_inj.1 E0_3
  obtain ⟨A1, len1, cap1, rfl⟩ := okWide_slice Try.underlying53 (hval 1 53 v1 rfl rfl)
  have k1 := h1
  have lt1 : ∀ x ∈ p1, x.block < W.heap.size := by obtain ⟨m, hm⟩ := k1; exact DataW.trod_lt m _ _ _ hm
  obtain ⟨l1, rfl, hl1, hm1, hC1, hq1⟩ : ∃ l, l.length = len1 ∧ len1 ≤ cap1 ∧ len1 ≤ 9223372036854775807 ∧ Opens.RowC (Opens.intK .u32) 1 W A1 len1 l ∧ ∀ x ∈ l, (fun x => (Lit.int .u32 x).wf = true) x := by
    obtain ⟨fuel, hf⟩ := h1
    obtain ⟨A, len, cap, xs, hcs, hxl, hl, hm, hC, hw⟩ := Opens.open_row (Opens.intK .u32) 1 (fun x => (Lit.int .u32 x).wf = true) Try.underlying53 cells50 (fun n cs y _ h => Opens.each_int Try.underlying50 n cs y h) hf
    simp [Value.cells] at hcs
    obtain ⟨rfl, rfl, rfl⟩ := hcs
    exact ⟨xs, hxl, hl, hm, hC, hw⟩
  clear hA0 hval0 hsz0
  refine (GW.GaugePlays_calls u0_0 u0_1 u0_2 u0_3 A1 cap1 l1 W w0_0 w0_1 w0_2 w0_3 hC1 hm1 hq1).mono fun e W' ⟨he, bel⟩ => ?_
  subst he
  exact ⟨_, rfl, _, _, _, [], _, [], hW', trodAll_mk1 (shut_bool Try.underlying4 _), (trodAll_cons_mk (Below.trod laidOut (by kernel_rfl) (of_decide_eq_true (by kernel_rfl)) k0 bel lt0) (trodAll_cons_mk (Below.trod laidOut (by kernel_rfl) (of_decide_eq_true (by kernel_rfl)) k1 bel lt1) trodAll_mk0)), rfl, bel.frame _, fun h => by cases h⟩
theorem over : Rows.gaugePlaysRow.holds Try.pinned (OpenSpec.ofChange Rows.gaugePlaysSpec) :=
  OpenClaim.holds_of_wide 7 Try.f7 rfl rfl rfl rfl rfl rfl rfl ⟨rfl, rfl, rfl, rfl, rfl⟩ rfl rfl rfl rfl rfl (by kernel_rfl) Try.func7 (by kernel_rfl)
    (of_decide_eq_true (by kernel_rfl)) (by unfold Func.isWrapper; first | (rw [if_pos (by decide +kernel)]; kernel_rfl) | (rw [if_neg (by decide +kernel)]; exact ⟨rfl, rfl⟩))
    (fun os started H enc _ => lifted os started H enc)
theorem proved : Rows.GaugePlaysSaid := over
#print axioms proved
end Go.Proofs.Ytkgghjblfoempaa.gaugePlays
namespace Go.Proofs.Ytkgghjblfoempaa
/-- The row, under a short name, for the claim. -/
theorem gaugePlays_holds : Rows.GaugePlaysSaid := gaugePlays.proved
end Go.Proofs.Ytkgghjblfoempaa
