/- The row of the law VlanChecks: its walk and its plain law joined; no condition beyond the row's own. -/
import Derived.Test.YtfgdjljbdghdgaaRows
import Derived.Test.YtfgdjljbdghdgaaOpenRows
import Derived.Test.YtfgdjljbdghdgaaPureVlanChecks
import Derived.Test.YtfgdjljbdghdgaaHandVlanB
import Derived.WalkKit
import Derived.ProofKit
import Derived.OpenShut
import Derived.ShutString
import Derived.ChangeOld
import Derived.Below
import Derived.SizedLaws
import Derived.Carry
import Derived.Test.YtfgdjljbdghdgaaWSized
namespace Go.Proofs.Ytfgdjljbdghdgaa.vlanChecks
open Go.ChangeShapes Go.WideShapes Go.ChangeAt Go.RowKit
open Go.ChangeMaps (open_string shut_string)
theorem own : ownKnob Try.prog.godebug = none := by kernel_rfl
theorem laidOut : laidOutB Try.prog = true := by kernel_rfl
theorem cells3 : Try.prog.cellsOf 3 = 1 := by kernel_rfl
theorem cells22 : Try.prog.cellsOf 22 = 1 := by kernel_rfl
theorem cells39 : Try.prog.cellsOf 39 = 2 := by kernel_rfl
theorem arr2 {cs : Array Value} (h : cs.size = 2) : ∃ c0 c1, cs = #[c0, c1] := by
  obtain ⟨l⟩ := cs
  match l, h with
  | [c0, c1], _ => exact ⟨c0, c1, rfl⟩
theorem cells91 : Try.prog.cellsOf 91 = PVlan.k91.sz := by kernel_rfl
theorem each91 {H : Type} {enc : TypeId × Value → H} {W : World} {base : Nat} {spare : Nat → Bool} {held : Bool} : ∀ n cs y, cs.length = PVlan.k91.sz → DataW.trod enc Try.prog W base spare held n 91 cs = some y → ∃ x : PVlan.S91, PVlan.k91.K W x cs ∧ ((Lit.int .u64 x.f1).wf = true ∧ (Lit.int .u64 x.f2).wf = true) := by
  intro n cs y hl hy
  match cs, hl with
  | [c0, c1, c2], _ =>
    obtain ⟨xs, m, _, _, _, l1, F⟩ := DataW.trod_struct Try.underlying91 hy
    obtain ⟨y0, e0⟩ : ∃ y, xs[0]? = some y := ⟨_, List.getElem?_eq_getElem (by rw [l1]; decide)⟩
    have f0 : DataW.trod enc Try.prog W base spare held m 3 (([c0, c1, c2].drop 0).take (Try.prog.cellsOf 3)) = some y0 := (F 0 _ rfl).trans e0
    rw [cells3] at f0
    replace f0 : DataW.trod enc Try.prog W base spare held m 3 [c0] = some y0 := f0
    obtain ⟨u0, E0, _, w0⟩ := DataW.trod_int Try.underlying3 f0
    obtain rfl := List.singleton_inj.1 E0
    obtain ⟨y1, e1⟩ : ∃ y, xs[1]? = some y := ⟨_, List.getElem?_eq_getElem (by rw [l1]; decide)⟩
    have f1 : DataW.trod enc Try.prog W base spare held m 22 (([.int .i64 u0, c1, c2].drop 1).take (Try.prog.cellsOf 22)) = some y1 := (F 1 _ rfl).trans e1
    rw [cells22] at f1
    replace f1 : DataW.trod enc Try.prog W base spare held m 22 [c1] = some y1 := f1
    obtain ⟨u1, E1, _, w1⟩ := DataW.trod_int Try.underlying22 f1
    obtain rfl := List.singleton_inj.1 E1
    obtain ⟨y2, e2⟩ : ∃ y, xs[2]? = some y := ⟨_, List.getElem?_eq_getElem (by rw [l1]; decide)⟩
    have f2 : DataW.trod enc Try.prog W base spare held m 22 (([.int .i64 u0, .int .u64 u1, c2].drop 2).take (Try.prog.cellsOf 22)) = some y2 := (F 2 _ rfl).trans e2
    rw [cells22] at f2
    replace f2 : DataW.trod enc Try.prog W base spare held m 22 [c2] = some y2 := f2
    obtain ⟨u2, E2, _, w2⟩ := DataW.trod_int Try.underlying22 f2
    obtain rfl := List.singleton_inj.1 E2
    exact ⟨⟨u0, u1, u2⟩, PVlan.k91_mk _ _, w1, w2⟩
set_option maxRecDepth 100000 in
theorem lifted (os : Os) (started : os.Started) (H : Type) (enc : TypeId × Value → H) :
    ReturnsInHanded {} Try.checked os 12 .any (Rows.vlanChecksSpec.pre6 enc Try.prog Try.f12 Rows.vlanChecksRow.domain false) (Rows.vlanChecksSpec.post enc Try.prog Try.f12 false true false false) := by
  refine returnsInHanded_of_change_sized (C := Try.checked) own started (by kernel_rfl) Try.func12
    (ChangeSpec.witness6 (enc := enc) (C := Try.checked) false ⟨#[], #[.slice none 0 0, .int .i64 0, .agg #[.int .i64 0, .int .i64 0]], []⟩ 8 (by kernel_rfl) (by kernel_rfl) (by kernel_rfl) (by kernel_rfl)) ?_
  intro W base args ds gs before hval0 hW hcnd hsz0 _
  have hsz : (DataW.weightsEach Try.prog (Try.f12.params.toList ++ Rows.vlanChecksSpec.plain.varTypes Try.prog) (ds ++ gs)).all (· ≤ reachBytes) = true := hsz0
  have hval : ∀ (j : Nat) t v, Try.f12.params[j]? = some t → args[j]? = some v → Value.okWide Try.prog W .any base t v := hval0
  have hW' := hW
  obtain ⟨p, q, hA0, hV, rfl, hfz, hnd⟩ := hW
  have hA : DataW.TrodAll enc Try.prog W 0 (fun _ => true) true Try.f12.params.toList args.toList ds p := hA0
  rw [Try.params12] at hA hval hsz
  obtain ⟨v0, vs0, d0, ds0, p0, q0, hargs, rfl, rfl, h0, r0⟩ := trodAll_cons hA
  obtain ⟨v1, vs1, d1, ds1, p1, q1, rfl, rfl, rfl, h1, r1⟩ := trodAll_cons r0
  obtain ⟨v2, vs2, d2, ds2, p2, q2, rfl, rfl, rfl, h2, r2⟩ := trodAll_cons r1
  obtain ⟨rfl, rfl, rfl⟩ := trodAll_nil r2
  obtain rfl : args = #[v0, v1, v2] := by cases args; simp_all
  obtain ⟨rfl, rfl⟩ := trodVars_none hV
  obtain ⟨a0, len0, cap0, rfl⟩ := okWide_slice Try.underlying48 (hval 0 48 v0 rfl rfl)
  have k0 := h0
  have lt0 : ∀ x ∈ p0, x.block < W.heap.size := by obtain ⟨m, hm⟩ := k0; exact DataW.trod_lt m _ _ _ hm
  obtain ⟨l0, rfl, hc0, hm0, hC0, hw0⟩ : ∃ l0 : List PVlan.S91, l0.length = len0 ∧ len0 ≤ cap0 ∧ len0 ≤ maxLen ∧ Go.Proofs.YtfgdjljbdghdgaaW.PrintWords.Kd.C PVlan.k91 W a0 len0 l0 ∧ ∀ x ∈ l0, ((Lit.int .u64 x.f1).wf = true ∧ (Lit.int .u64 x.f2).wf = true) := by
    obtain ⟨fuel, hf⟩ := h0
    obtain ⟨A, len, cap, xs, hcs, hxl, hl, hm, hC, hw⟩ := Opens.open_rows PVlan.k91 (fun x => (Lit.int .u64 x.f1).wf = true ∧ (Lit.int .u64 x.f2).wf = true) Try.underlying48 cells91 each91 hf
    simp [Value.cells] at hcs
    obtain ⟨rfl, rfl, rfl⟩ := hcs
    exact ⟨xs, hxl, hl, hm, hC, hw⟩
  obtain ⟨a1, rfl, rfl, rfl, w1⟩ := open_int Try.underlying3 (hval 1 3 v1 rfl rfl) h1
  obtain ⟨cs2, rfl, zs2⟩ := okWide_struct Try.underlying39 (hval 2 39 v2 rfl rfl)
  have k2 := h2
  have lt2 : ∀ x ∈ p2, x.block < W.heap.size := by obtain ⟨m, hm⟩ := k2; exact DataW.trod_lt m _ _ _ hm
  obtain ⟨c1_0, c1_1, rfl⟩ := arr2 (zs2.trans cells39)
  obtain ⟨fuel1, hf1⟩ := h2
  replace hf1 : DataW.trod enc Try.prog W 0 (fun _ => true) true fuel1 39 [c1_0, c1_1] = some (d2, p2) := hf1
  obtain ⟨xs1, n1, _, _, _, l1, F1⟩ := DataW.trod_struct Try.underlying39 hf1
  obtain ⟨y1_0, e1_0⟩ : ∃ y, xs1[0]? = some y := ⟨_, List.getElem?_eq_getElem (by rw [l1]; decide)⟩
  have f1_0 : DataW.trod enc Try.prog W 0 (fun _ => true) true n1 3 (([c1_0, c1_1].drop 0).take (Try.prog.cellsOf 3)) = some y1_0 := (F1 0 _ rfl).trans e1_0
  rw [cells3] at f1_0
  replace f1_0 : DataW.trod enc Try.prog W 0 (fun _ => true) true n1 3 [c1_0] = some y1_0 := f1_0
  obtain ⟨u1_0, E1_0, _, w1_0⟩ := DataW.trod_int Try.underlying3 f1_0
  obtain rfl := List.singleton_inj.1 E1_0
  obtain ⟨y1_1, e1_1⟩ : ∃ y, xs1[1]? = some y := ⟨_, List.getElem?_eq_getElem (by rw [l1]; decide)⟩
  have f1_1 : DataW.trod enc Try.prog W 0 (fun _ => true) true n1 3 (([(.int .i64 u1_0), c1_1].drop 1).take (Try.prog.cellsOf 3)) = some y1_1 := (F1 1 _ rfl).trans e1_1
  rw [cells3] at f1_1
  replace f1_1 : DataW.trod enc Try.prog W 0 (fun _ => true) true n1 3 [c1_1] = some y1_1 := f1_1
  obtain ⟨u1_1, E1_1, _, w1_1⟩ := DataW.trod_int Try.underlying3 f1_1
  obtain rfl := List.singleton_inj.1 E1_1
  clear hA0 hval0 hsz0
  obtain ⟨k, t, ee, i, b, G1, G2, G3, G4, G5, G6, G7, G8⟩ := Pure.VlanChecks (l0.take 20) a1 u1_0 u1_1 (by rw [List.length_take]; omega) (fun x hx => hw0 x (List.mem_of_mem_take hx))
  refine (PVlan.checks12 k a0 cap0 l0 a1 u1_0 u1_1 t ee i b W hC0 hc0 G1 G2 G3 G4 G5 G6 G7 G8).mono fun e W' ⟨he, bel⟩ => ?_
  subst he
  exact ⟨_, rfl, _, _, _, [], _, [], hW', trodAll_mk1 (shut_bool Try.underlying4 _), (trodAll_cons_mk (Below.trod laidOut (by kernel_rfl) (of_decide_eq_true (by kernel_rfl)) k0 bel lt0) (trodAll_cons_mk (shut_int Try.underlying3 w1) (trodAll_cons_mk (Below.trod laidOut (by kernel_rfl) (of_decide_eq_true (by kernel_rfl)) k2 bel lt2) trodAll_mk0))), rfl, bel.frame _, fun h => by cases h⟩
theorem over : Rows.vlanChecksRow.holds Try.pinned (OpenSpec.ofChange Rows.vlanChecksSpec) :=
  OpenClaim.holds_of_wide 12 Try.f12 rfl rfl rfl rfl rfl rfl rfl ⟨rfl, rfl, rfl, rfl, rfl⟩ rfl rfl rfl rfl rfl (by kernel_rfl) Try.func12 (by kernel_rfl)
    (of_decide_eq_true (by kernel_rfl)) (by unfold Func.isWrapper; first | (rw [if_pos (by decide +kernel)]; kernel_rfl) | (rw [if_neg (by decide +kernel)]; exact ⟨rfl, rfl⟩))
    (fun os started H enc _ => lifted os started H enc)
theorem proved : Rows.VlanChecksSaid := over
#print axioms proved
end Go.Proofs.Ytfgdjljbdghdgaa.vlanChecks
namespace Go.Proofs.Ytfgdjljbdghdgaa
/-- The row, under a short name, for the claim. -/
theorem vlanChecks_holds : Rows.VlanChecksSaid := vlanChecks.proved
end Go.Proofs.Ytfgdjljbdghdgaa
