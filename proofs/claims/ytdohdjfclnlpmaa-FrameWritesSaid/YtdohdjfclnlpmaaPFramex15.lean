/- Plain Lean functions of what a law comes to, and their contracts: the machine's call does what they say; no condition. Written by wip/myprint.sh over the kit's print.py. -/
import Derived.Test.YtdohdjfclnlpmaaPFramex0
import Derived.Test.YtdohdjfclnlpmaaPFramex2
import Derived.Test.YtdohdjfclnlpmaaPFramex4
import Derived.Test.YtdohdjfclnlpmaaPFramex7
import Derived.Test.YtdohdjfclnlpmaaPFramex8
import Derived.Test.YtdohdjfclnlpmaaPFramex9
import Derived.Test.YtdohdjfclnlpmaaPFramex11
import Derived.Test.YtdohdjfclnlpmaaPFramex14
namespace Go.Proofs.Ytdohdjfclnlpmaa.PFrame
open Go.RowKit Go.Proofs.YtdohdjfclnlpmaaW.PrintWords Go.Proofs.YtdohdjfclnlpmaaW.PrintLast Go.Proofs.YtdohdjfclnlpmaaW.PrintMore
attribute [local go_sem] max2_int min2_int max_two min_two max_three min_three max_four min_four   -- for this text's walks alone
set_option linter.unusedVariables false
set_option linter.unusedSimpArgs false

/-! ### patchbaylaw02_FrameWrites: function 14 -/
def patchbaylaw02_FrameWrites.j0 : Nat → List Int → Int → Bool → Int → Int → Bool → Int → Int → List Int → Option (Bool)
  | 0, _, _, _, _, _, _, _, _, _ => none
  | k + 1, x3, x6, x40, x433000, x433001, x433002, x433003, x433004, x433005 => if x40 = true then (some false) else (if x6 = 0 then ((frame_Parse.f k x3).bind fun bt452 => (if bt452.2.2.2.2.2.2 = 0 then ((patchbaylaw02_From.f bt452.1 bt452.2.1 bt452.2.2.1 bt452.2.2.2.1 bt452.2.2.2.2.1 bt452.2.2.2.2.2.1).bind fun bt462 => ((patchbaylaw02_same.f k x433000 x433001 x433002 x433003 x433004 x433005 bt462.1 bt462.2.1 bt462.2.2.1 bt462.2.2.2.1 bt462.2.2.2.2.1 bt462.2.2.2.2.2 true).bind fun t470 => (some t470))) else (some false))) else (some ((x3.length : Int) == 0)))
def patchbaylaw02_FrameWrites.f (k : Nat) (a0_0 : Int) (a0_1 : Int) (a0_2 : Bool) (a0_3 : Int) (a0_4 : Int) (l0_5 : List Int) : Option (Bool) := if 0 ≤ (mn (l0_5.length : Int) 1600) then (if (mn (l0_5.length : Int) 1600) ≤ (l0_5.length : Int) then ((patchbaylaw02_To.f a0_0 a0_1 a0_2 a0_3 a0_4 (l0_5.take ((mn (l0_5.length : Int) 1600) : Int).toNat)).bind fun bt434 => ((frame_Write.f k bt434.1 bt434.2.1 bt434.2.2.1 bt434.2.2.2.1 bt434.2.2.2.2.1 bt434.2.2.2.2.2).bind fun bt442 => ((patchbayref02_Write.f k a0_0 a0_1 a0_2 a0_3 a0_4 (l0_5.take ((mn (l0_5.length : Int) 1600) : Int).toNat)).bind fun bt446 => ((patchbaylaw02_told.f k).bind fun t450 => (if t450 = true then (if bt442.2 = bt446.2 then ((patchbayref01_Same.f k bt442.1 bt446.1).bind fun t451 => (patchbaylaw02_FrameWrites.j0 k bt442.1 bt446.2 (!t451) a0_0 a0_1 a0_2 a0_3 a0_4 (l0_5.take ((mn (l0_5.length : Int) 1600) : Int).toNat))) else (patchbaylaw02_FrameWrites.j0 k bt442.1 bt446.2 true a0_0 a0_1 a0_2 a0_3 a0_4 (l0_5.take ((mn (l0_5.length : Int) 1600) : Int).toNat))) else (patchbaylaw02_FrameWrites.j0 k bt442.1 bt446.2 true a0_0 a0_1 a0_2 a0_3 a0_4 (l0_5.take ((mn (l0_5.length : Int) 1600) : Int).toNat))))))) else (none)) else (none)
theorem patchbaylaw02_FrameWrites.mono_l : ∀ k, (∀ y0 y1 y2 y3 y4 y5 y6 y7 y8, LeO (patchbaylaw02_FrameWrites.j0 k y0 y1 y2 y3 y4 y5 y6 y7 y8) (patchbaylaw02_FrameWrites.j0 (k + 1) y0 y1 y2 y3 y4 y5 y6 y7 y8))
  | 0 => fun _ _ _ _ _ _ _ _ _ r h => by simp [patchbaylaw02_FrameWrites.j0] at h
  | k + 1 => by
    have ih0 := patchbaylaw02_FrameWrites.mono_l k
    · intro y0 y1 y2 y3 y4 y5 y6 y7 y8
      unfold patchbaylaw02_FrameWrites.j0
      repeat' first
      | (with_reducible exact ih0 _ _ _ _ _ _ _ _ _)
      | (with_reducible exact frame_Parse.mono _ _)
      | (with_reducible exact frame_Write.mono _ _ _ _ _ _ _)
      | (with_reducible exact patchbaylaw02_same.mono _ _ _ _ _ _ _ _ _ _ _ _ _ _)
      | (with_reducible exact patchbaylaw02_told.mono _)
      | (with_reducible exact patchbayref01_Same.mono _ _ _)
      | (with_reducible exact patchbayref02_Write.mono _ _ _ _ _ _ _)
      | (with_reducible exact LeO.refl _)
      | (with_reducible exact LeO.none _)
      | (with_reducible refine LeO.ite ?_ ?_)
      | (with_reducible refine LeO.bind ?_ (fun _ => ?_))
      | exact ih0 _ _ _ _ _ _ _ _ _
      | exact frame_Parse.mono _ _
      | exact frame_Write.mono _ _ _ _ _ _ _
      | exact patchbaylaw02_same.mono _ _ _ _ _ _ _ _ _ _ _ _ _ _
      | exact patchbaylaw02_told.mono _
      | exact patchbayref01_Same.mono _ _ _
      | exact patchbayref02_Write.mono _ _ _ _ _ _ _
      | exact LeO.none _
      | refine LeO.ite ?_ ?_
      | refine LeO.bind ?_ (fun _ => ?_)
theorem patchbaylaw02_FrameWrites.mono : ∀ a0 a1 a2 a3 a4 a5 k, LeO (patchbaylaw02_FrameWrites.f k a0 a1 a2 a3 a4 a5) (patchbaylaw02_FrameWrites.f (k + 1) a0 a1 a2 a3 a4 a5) := by
  intro a0 a1 a2 a3 a4 a5 k
  have ih0 := patchbaylaw02_FrameWrites.mono_l k
  unfold patchbaylaw02_FrameWrites.f
  repeat' first
      | (with_reducible exact ih0 _ _ _ _ _ _ _ _ _)
      | (with_reducible exact frame_Parse.mono _ _)
      | (with_reducible exact frame_Write.mono _ _ _ _ _ _ _)
      | (with_reducible exact patchbaylaw02_same.mono _ _ _ _ _ _ _ _ _ _ _ _ _ _)
      | (with_reducible exact patchbaylaw02_told.mono _)
      | (with_reducible exact patchbayref01_Same.mono _ _ _)
      | (with_reducible exact patchbayref02_Write.mono _ _ _ _ _ _ _)
      | (with_reducible exact LeO.refl _)
      | (with_reducible exact LeO.none _)
      | (with_reducible refine LeO.ite ?_ ?_)
      | (with_reducible refine LeO.bind ?_ (fun _ => ?_))
      | exact ih0 _ _ _ _ _ _ _ _ _
      | exact frame_Parse.mono _ _
      | exact frame_Write.mono _ _ _ _ _ _ _
      | exact patchbaylaw02_same.mono _ _ _ _ _ _ _ _ _ _ _ _ _ _
      | exact patchbaylaw02_told.mono _
      | exact patchbayref01_Same.mono _ _ _
      | exact patchbayref02_Write.mono _ _ _ _ _ _ _
      | exact LeO.none _
      | refine LeO.ite ?_ ?_
      | refine LeO.bind ?_ (fun _ => ?_)
def patchbaylaw02_FrameWrites.T9 : Bool × List (List Nat × List Nat) := (true, [([], []), ([0], [0]), ([1], [1]), ([2], [2]), ([2], [2]), ([4, 2, 2], [2, 4]), ([3, 5, 5, 2], [2, 3, 5]), ([2, 6], [2, 6]), ([7, 6, 0, 1, 2, 3, 4, 5, 6, 7], [7])])
def patchbaylaw02_FrameWrites.B9 : List Nat := [0, 1, 3, 7, 7, 23, 63, 127, 255]
theorem patchbaylaw02_FrameWrites.tab9 : rtab .any (opsOf Try.f14 9) = patchbaylaw02_FrameWrites.T9 := by kernel_rfl
theorem patchbaylaw02_FrameWrites.bits9 : waitsOk patchbaylaw02_FrameWrites.T9.2 patchbaylaw02_FrameWrites.B9 = true := by kernel_rfl
set_option maxHeartbeats 8000000 in
set_option maxRecDepth 100000 in
theorem patchbaylaw02_FrameWrites.calls (k : Nat) (a0_0 : Int) (a0_1 : Int) (a0_2 : Bool) (a0_3 : Int) (a0_4 : Int) (A0_5 : Option Addr) (c0_5 : Nat) (l0_5 : List Int) (r : Bool) (w : World) (hr0_5 : Kd.C (Kd.int .u8) w A0_5 l0_5.length l0_5) (hc0_5 : l0_5.length ≤ c0_5) (h : patchbaylaw02_FrameWrites.f k a0_0 a0_1 a0_2 a0_3 a0_4 l0_5 = some r) :
    Calls Try.prog 14 #[.agg #[.int .u64 a0_0, .int .u64 a0_1, .bool a0_2, .int .u16 a0_3, .int .u16 a0_4, .slice A0_5 l0_5.length c0_5]] w fun e w' => e = .returned (.bool r) ∧ Below w.heap.size w w' := by
  have hu34 := Try.underlying34
  have hu39 := Try.underlying39
  have HR0_5 := Aside0.mk hr0_5
  have HC0_5 := Aside0.mk hc0_5
  clear hr0_5 hc0_5
  have HB := Aside0.mk (Below.refl w.heap.size w)
  have H : (if 0 ≤ (mn (l0_5.length : Int) 1600) then (if (mn (l0_5.length : Int) 1600) ≤ (l0_5.length : Int) then ((patchbaylaw02_To.f a0_0 a0_1 a0_2 a0_3 a0_4 (l0_5.take ((mn (l0_5.length : Int) 1600) : Int).toNat)).bind fun bt434 => ((frame_Write.f k bt434.1 bt434.2.1 bt434.2.2.1 bt434.2.2.2.1 bt434.2.2.2.2.1 bt434.2.2.2.2.2).bind fun bt442 => ((patchbayref02_Write.f k a0_0 a0_1 a0_2 a0_3 a0_4 (l0_5.take ((mn (l0_5.length : Int) 1600) : Int).toNat)).bind fun bt446 => ((patchbaylaw02_told.f k).bind fun t450 => (if t450 = true then (if bt442.2 = bt446.2 then ((patchbayref01_Same.f k bt442.1 bt446.1).bind fun t451 => (patchbaylaw02_FrameWrites.j0 k bt442.1 bt446.2 (!t451) a0_0 a0_1 a0_2 a0_3 a0_4 (l0_5.take ((mn (l0_5.length : Int) 1600) : Int).toNat))) else (patchbaylaw02_FrameWrites.j0 k bt442.1 bt446.2 true a0_0 a0_1 a0_2 a0_3 a0_4 (l0_5.take ((mn (l0_5.length : Int) 1600) : Int).toNat))) else (patchbaylaw02_FrameWrites.j0 k bt442.1 bt446.2 true a0_0 a0_1 a0_2 a0_3 a0_4 (l0_5.take ((mn (l0_5.length : Int) 1600) : Int).toNat))))))) else (none)) else (none)) = some r := h
  clear h
  obtain ⟨ji2, hji2⟩ : ∃ j_ : Int, (mn (l0_5.length : Int) 1600) = j_ := ⟨_, rfl⟩
  replace H : (if 0 ≤ (ji2) then (if (ji2) ≤ (l0_5.length : Int) then ((patchbaylaw02_To.f a0_0 a0_1 a0_2 a0_3 a0_4 (l0_5.take ((ji2) : Int).toNat)).bind fun bt434 => ((frame_Write.f k bt434.1 bt434.2.1 bt434.2.2.1 bt434.2.2.2.1 bt434.2.2.2.2.1 bt434.2.2.2.2.2).bind fun bt442 => ((patchbayref02_Write.f k a0_0 a0_1 a0_2 a0_3 a0_4 (l0_5.take ((ji2) : Int).toNat)).bind fun bt446 => ((patchbaylaw02_told.f k).bind fun t450 => (if t450 = true then (if bt442.2 = bt446.2 then ((patchbayref01_Same.f k bt442.1 bt446.1).bind fun t451 => (patchbaylaw02_FrameWrites.j0 k bt442.1 bt446.2 (!t451) a0_0 a0_1 a0_2 a0_3 a0_4 (l0_5.take ((ji2) : Int).toNat))) else (patchbaylaw02_FrameWrites.j0 k bt442.1 bt446.2 true a0_0 a0_1 a0_2 a0_3 a0_4 (l0_5.take ((ji2) : Int).toNat))) else (patchbaylaw02_FrameWrites.j0 k bt442.1 bt446.2 true a0_0 a0_1 a0_2 a0_3 a0_4 (l0_5.take ((ji2) : Int).toNat))))))) else (none)) else (none)) = some r := by first | (rw [hji2] at H; exact H) | (simp only [hji2] at H ⊢; exact H)
  (try (have hji2h : ji2 ≤ 1600 := by (rw [← hji2]; unfold mn; (repeat' split) <;> omega)))
  (try (have hji2g : ji2 ≤ 64 := by omega))
  (try (have hji2l : 0 ≤ ji2 := by (rw [← hji2]; unfold mn; (repeat' split) <;> omega)))
  (try (have hji2m : 0 ≤ ji2 := by omega))
  have hji2_ : (if 1600 < (l0_5.length : Int) then 1600 else (l0_5.length : Int)) = ji2 := hji2
  by_cases c3 : 0 ≤ (ji2)
  · rw [if_pos c3] at H
    have c3b0 := eq_true c3
    have c3b1 : decide (0 ≤ (ji2)) = true := decide_eq_true c3
    clear c3
    by_cases c4 : (ji2) ≤ (l0_5.length : Int)
    · rw [if_pos c4] at H
      have c4b0 := eq_true c4
      have c4b1 : decide ((ji2) ≤ (l0_5.length : Int)) = true := decide_eq_true c4
      clear c4
      obtain ⟨M_, hM_⟩ : ∃ M_, l0_5.take ((ji2) : Int).toNat = M_ := ⟨_, rfl⟩
      rw [hM_] at H
      replace H := Option.bind_eq_some_iff.mp H
      obtain ⟨⟨t434, t435, t436, t437, t438, t439⟩, A50, H⟩ := H
      replace H : ((frame_Write.f k t434 t435 t436 t437 t438 t439).bind fun bt442 => ((patchbayref02_Write.f k a0_0 a0_1 a0_2 a0_3 a0_4 M_).bind fun bt446 => ((patchbaylaw02_told.f k).bind fun t450 => (if t450 = true then (if bt442.2 = bt446.2 then ((patchbayref01_Same.f k bt442.1 bt446.1).bind fun t451 => (patchbaylaw02_FrameWrites.j0 k bt442.1 bt446.2 (!t451) a0_0 a0_1 a0_2 a0_3 a0_4 M_)) else (patchbaylaw02_FrameWrites.j0 k bt442.1 bt446.2 true a0_0 a0_1 a0_2 a0_3 a0_4 M_)) else (patchbaylaw02_FrameWrites.j0 k bt442.1 bt446.2 true a0_0 a0_1 a0_2 a0_3 a0_4 M_))))) = some r := H
      have A5 := Aside0.mk A50
      clear A50
      replace H := Option.bind_eq_some_iff.mp H
      obtain ⟨⟨t442, t445⟩, A60, H⟩ := H
      replace H : ((patchbayref02_Write.f k a0_0 a0_1 a0_2 a0_3 a0_4 M_).bind fun bt446 => ((patchbaylaw02_told.f k).bind fun t450 => (if t450 = true then (if t445 = bt446.2 then ((patchbayref01_Same.f k t442 bt446.1).bind fun t451 => (patchbaylaw02_FrameWrites.j0 k t442 bt446.2 (!t451) a0_0 a0_1 a0_2 a0_3 a0_4 M_)) else (patchbaylaw02_FrameWrites.j0 k t442 bt446.2 true a0_0 a0_1 a0_2 a0_3 a0_4 M_)) else (patchbaylaw02_FrameWrites.j0 k t442 bt446.2 true a0_0 a0_1 a0_2 a0_3 a0_4 M_)))) = some r := H
      have A6 := Aside0.mk A60
      clear A60
      replace H := Option.bind_eq_some_iff.mp H
      obtain ⟨⟨t446, t449⟩, A70, H⟩ := H
      replace H : ((patchbaylaw02_told.f k).bind fun t450 => (if t450 = true then (if t445 = t449 then ((patchbayref01_Same.f k t442 t446).bind fun t451 => (patchbaylaw02_FrameWrites.j0 k t442 t449 (!t451) a0_0 a0_1 a0_2 a0_3 a0_4 M_)) else (patchbaylaw02_FrameWrites.j0 k t442 t449 true a0_0 a0_1 a0_2 a0_3 a0_4 M_)) else (patchbaylaw02_FrameWrites.j0 k t442 t449 true a0_0 a0_1 a0_2 a0_3 a0_4 M_))) = some r := H
      have A7 := Aside0.mk A70
      clear A70
      have HC8 := Aside0.mk H
      clear H
      go_enter Try.func14, Try.ntmps14
      go_upto_region 4 with (first | ((with_reducible refine gate_dst (N := 1) rfl ?_); refine box_event ?hg (N := 1) ?hd (cs := #[.int .u64 a0_0, .int .u64 a0_1, .bool a0_2, .int .u16 a0_3, .int .u16 a0_4, .slice A0_5 l0_5.length c0_5]) (t := 34) ?hr ?_; (case hd => rfl); (case hg => rfl); (case hr => first | (go_simp; done) | (go_simp; rfl)); intro gb432 hg w9 hbox hb; have n0_ := Aside0.mk (below_step (by repeat (first | (with_reducible first | exact HB.out | apply below_alloc | apply pw_below_drewN | apply below_drew1) | exact HB.out)) hb); have n1_ := Aside0.mk (hbox); have n2_ := Aside0.mk ((by rw [hg]; exact (below_size (by repeat (first | (with_reducible first | exact HB.out | apply below_alloc | apply pw_below_drewN | apply below_drew1) | exact HB.out))) : w.heap.size ≤ gb432)); have n3_ := Aside0.mk ((by rw [hg]; exact (below_size (by repeat (first | (with_reducible first | exact HB.out | apply below_alloc | apply pw_below_drewN | apply below_drew1) | exact HB.out))) : w.heap.size ≤ gb432)); clear HB; have HB := n0_; have BK432 := n1_; have GW432 := n2_; have GE432 := n3_; clear n0_ n1_ n2_ n3_; clear hb hbox hg; have hcz10_0 : w9.cell? ⟨gb432, 0, none⟩ = some (.int .u64 a0_0) := (blk_cell BK432.out 0).trans rfl; have hcz10_1 : w9.cell? ⟨gb432, 1, none⟩ = some (.int .u64 a0_1) := (blk_cell BK432.out 1).trans rfl; have hcz10_2 : w9.cell? ⟨gb432, 2, none⟩ = some (.bool a0_2) := (blk_cell BK432.out 2).trans rfl; have hcz10_3 : w9.cell? ⟨gb432, 3, none⟩ = some (.int .u16 a0_3) := (blk_cell BK432.out 3).trans rfl; have hcz10_4 : w9.cell? ⟨gb432, 4, none⟩ = some (.int .u16 a0_4) := (blk_cell BK432.out 4).trans rfl; have hcz10_5 : w9.cell? ⟨gb432, 5, none⟩ = some (.slice A0_5 l0_5.length c0_5) := (blk_cell BK432.out 5).trans rfl; have hfz10_0 := blk_frozen BK432.out 0; have hfz10_1 := blk_frozen BK432.out 1; have hfz10_2 := blk_frozen BK432.out 2; have hfz10_3 := blk_frozen BK432.out 3; have hfz10_4 := blk_frozen BK432.out 4; have hfz10_5 := blk_frozen BK432.out 5; obtain ⟨i011, hi011, _, hsz11, _⟩ := info_parts info5; obtain ⟨hcut11, hA11, hC11⟩ := print_take_of (P := Try.prog) (Value.int .u8) 0 22 5 .i64 Try.underlying22 hi011 hsz11 A0_5 c0_5 l0_5 (ji2) (of_decide_eq_true (by first | (with_reducible assumption) | assumption)) (of_decide_eq_true (by first | (with_reducible assumption) | assumption)) HC0_5.out; rw [hM_] at hcut11 hA11 hC11; have HR433 := Aside0.mk (Kd.C_of_reads (h1 := fun _ => rfl) (hA11 _ (Kd.reads_of_C HR0_5.out))); have HC433 := Aside0.mk hC11; clear hA11 hC11 hi011 hsz11) | ((with_reducible refine gate_callee (f := 22) rfl ?_); refine goesL_ (some 19) rfl rfl Try.func22 (by kernel_rfl) rfl #[.agg #[.int .u64 a0_0, .int .u64 a0_1, .bool a0_2, .int .u16 a0_3, .int .u16 a0_4, .slice A0_5 M_.length c0_5]] rfl (by (try simp only [List.map_toArray, List.map_cons, List.map_nil]); first | done | rfl | (simp only [List.length_drop, List.length_take]; rfl)) ?_; (with_reducible refine (patchbaylaw02_To.calls a0_0 a0_1 a0_2 a0_3 a0_4 _ _ M_ t434 t435 t436 t437 t438 t439 _ ?side1 ?side2 A5.out).mono ?_); (case side1 => exact Kd.C_below HR433.out (by repeat (first | (with_reducible first | exact HB.out | apply below_alloc | apply pw_below_drewN | apply below_drew1 | refine below_set ?_ GE432.out) | exact HB.out))); (case side2 => exact HC433.out); rintro e w12 ⟨v440, rfl, ho0, hb⟩; refine ⟨_, rfl, ?_⟩; have n0_ := Aside0.mk (Kd.R_lower ho0 (below_size (by repeat (first | (with_reducible first | exact HB.out | apply below_alloc | apply pw_below_drewN | apply below_drew1 | refine below_set ?_ GE432.out) | exact HB.out)))); have n1_ := Aside0.mk (blk_below (g := gb432) (o := .cells #[.int .u64 a0_0, .int .u64 a0_1, .bool a0_2, .int .u16 a0_3, .int .u16 a0_4, .slice A0_5 M_.length c0_5] 34 (0, 0)) (by (with_reducible repeat (first | refine blk_drewN ?_ _ | refine blk_drew ?_ | refine blk_alloc ?_ _)); refine blk_put (cs := #[.int .u64 a0_0, .int .u64 a0_1, .bool a0_2, .int .u16 a0_3, .int .u16 a0_4, .slice A0_5 l0_5.length c0_5]) ?_ 5 _ rfl; (with_reducible repeat (first | refine blk_drewN ?_ _ | refine blk_drew ?_ | refine blk_alloc ?_ _)); exact BK432.out) hb); have n2_ := Aside0.mk (below_step (by repeat (first | (with_reducible first | exact HB.out | apply below_alloc | apply pw_below_drewN | apply below_drew1 | refine below_set ?_ GE432.out) | exact HB.out)) hb); clear BK432; clear HB; have HO441 := n0_; have BK432 := n1_; have HB := n2_; clear n0_ n1_ n2_; (try clear hb); (try clear hb2); (try clear hk); (try clear hi); (try clear ho0); obtain ⟨Ao13, co13, eo13⟩ := Kd.R_slice HO441.out; subst eo13) | ((with_reducible refine gate_callee (f := 42) rfl ?_); refine goesL_ (some 20) rfl rfl Try.func42 (by kernel_rfl) rfl #[.agg #[.int .u64 t434, .int .u64 t435, .bool t436, .int .u16 t437, .int .u16 t438, .slice Ao13 t439.length co13]] rfl (by (try simp only [List.map_toArray, List.map_cons, List.map_nil]); first | done | rfl | (simp only [List.length_drop, List.length_take]; rfl)) ?_; (with_reducible refine (frame_Write.calls k t434 t435 t436 t437 t438 _ _ t439 t442 t445 _ ?side1 ?side2 A6.out).mono ?_); (case side1 => repeat (first | exact (Kd.R_reads' HO441.out).2.2 | (with_reducible refine Kd.C_alloc ?_ _) | (with_reducible refine Kd.C_drewN ?_ _) | (with_reducible refine Kd.C_drew ?_))); (case side2 => exact (Kd.R_reads' HO441.out).2.1); rintro e w14 ⟨v443, rfl, ho0, hb⟩; refine ⟨_, rfl, ?_⟩; have n0_ := Aside0.mk (Kd.R_elder' (by (with_reducible repeat (first | apply Kd.R_alloc | apply Kd.R_drewN | apply Kd.R_drew)); exact HO441.out) (Kd.R_base ho0) hb); have n1_ := Aside0.mk (Kd.R_lower (Kd.R_new' ho0 (Kd.R_lt (by (with_reducible repeat (first | apply Kd.R_alloc | apply Kd.R_drewN | apply Kd.R_drew)); exact HO441.out))) (below_size (by repeat (first | (with_reducible first | exact HB.out | apply below_alloc | apply pw_below_drewN | apply below_drew1 | refine below_set ?_ GE432.out) | exact HB.out)))); have n2_ := Aside0.mk (blk_below (g := gb432) (o := .cells #[.int .u64 a0_0, .int .u64 a0_1, .bool a0_2, .int .u16 a0_3, .int .u16 a0_4, .slice A0_5 M_.length c0_5] 34 (0, 0)) (by (with_reducible repeat (first | refine blk_drewN ?_ _ | refine blk_drew ?_ | refine blk_alloc ?_ _)); exact BK432.out) hb); have n3_ := Aside0.mk (below_step (by repeat (first | (with_reducible first | exact HB.out | apply below_alloc | apply pw_below_drewN | apply below_drew1 | refine below_set ?_ GE432.out) | exact HB.out)) hb); clear HO441; clear BK432; clear HB; have HO441 := n0_; have HO444 := n1_; have BK432 := n2_; have HB := n3_; clear n0_ n1_ n2_ n3_; (try clear hb); (try clear hb2); (try clear hk); (try clear hi); (try clear ho0); have hcz15_0 : w14.cell? ⟨gb432, 0, none⟩ = some (.int .u64 a0_0) := (blk_cell BK432.out 0).trans rfl; have hcz15_1 : w14.cell? ⟨gb432, 1, none⟩ = some (.int .u64 a0_1) := (blk_cell BK432.out 1).trans rfl; have hcz15_2 : w14.cell? ⟨gb432, 2, none⟩ = some (.bool a0_2) := (blk_cell BK432.out 2).trans rfl; have hcz15_3 : w14.cell? ⟨gb432, 3, none⟩ = some (.int .u16 a0_3) := (blk_cell BK432.out 3).trans rfl; have hcz15_4 : w14.cell? ⟨gb432, 4, none⟩ = some (.int .u16 a0_4) := (blk_cell BK432.out 4).trans rfl; have hcz15_5 : w14.cell? ⟨gb432, 5, none⟩ = some (.slice A0_5 M_.length c0_5) := (blk_cell BK432.out 5).trans rfl; have hfz15_0 := blk_frozen BK432.out 0; have hfz15_1 := blk_frozen BK432.out 1; have hfz15_2 := blk_frozen BK432.out 2; have hfz15_3 := blk_frozen BK432.out 3; have hfz15_4 := blk_frozen BK432.out 4; have hfz15_5 := blk_frozen BK432.out 5) | ((with_reducible refine gate_callee (f := 43) rfl ?_); refine goesL_ (some 25) rfl rfl Try.func43 (by kernel_rfl) rfl #[.agg #[.int .u64 a0_0, .int .u64 a0_1, .bool a0_2, .int .u16 a0_3, .int .u16 a0_4, .slice A0_5 M_.length c0_5]] rfl (by (try simp only [List.map_toArray, List.map_cons, List.map_nil]); first | done | rfl | (simp only [List.length_drop, List.length_take]; rfl)) ?_; (with_reducible refine (patchbayref02_Write.calls k a0_0 a0_1 a0_2 a0_3 a0_4 _ _ M_ t446 t449 _ ?side1 ?side2 A7.out).mono ?_); (case side1 => repeat (first | exact (Kd.C_below HR433.out HB.out) | (with_reducible refine Kd.C_alloc ?_ _) | (with_reducible refine Kd.C_drewN ?_ _) | (with_reducible refine Kd.C_drew ?_))); (case side2 => exact HC433.out); rintro e w16 ⟨v447, rfl, ho0, hb⟩; refine ⟨_, rfl, ?_⟩; have n0_ := Aside0.mk (Kd.R_elder' (by (with_reducible repeat (first | apply Kd.R_alloc | apply Kd.R_drewN | apply Kd.R_drew)); exact HO441.out) (Kd.R_base ho0) hb); have n1_ := Aside0.mk (Kd.R_elder' (by (with_reducible repeat (first | apply Kd.R_alloc | apply Kd.R_drewN | apply Kd.R_drew)); exact HO444.out) (Kd.R_base ho0) hb); have n2_ := Aside0.mk (Kd.R_lower (Kd.R_new' (Kd.R_new' ho0 (Kd.R_lt (by (with_reducible repeat (first | apply Kd.R_alloc | apply Kd.R_drewN | apply Kd.R_drew)); exact HO441.out))) (Kd.R_lt (by (with_reducible repeat (first | apply Kd.R_alloc | apply Kd.R_drewN | apply Kd.R_drew)); exact HO444.out))) (below_size (by repeat (first | (with_reducible first | exact HB.out | apply below_alloc | apply pw_below_drewN | apply below_drew1 | refine below_set ?_ GE432.out) | exact HB.out)))); have n3_ := Aside0.mk (blk_below (g := gb432) (o := .cells #[.int .u64 a0_0, .int .u64 a0_1, .bool a0_2, .int .u16 a0_3, .int .u16 a0_4, .slice A0_5 M_.length c0_5] 34 (0, 0)) (by (with_reducible repeat (first | refine blk_drewN ?_ _ | refine blk_drew ?_ | refine blk_alloc ?_ _)); exact BK432.out) hb); have n4_ := Aside0.mk (below_step (by repeat (first | (with_reducible first | exact HB.out | apply below_alloc | apply pw_below_drewN | apply below_drew1 | refine below_set ?_ GE432.out) | exact HB.out)) hb); clear HO441; clear HO444; clear BK432; clear HB; have HO441 := n0_; have HO444 := n1_; have HO448 := n2_; have BK432 := n3_; have HB := n4_; clear n0_ n1_ n2_ n3_ n4_; (try clear hb); (try clear hb2); (try clear hk); (try clear hi); (try clear ho0)))
      (try simp only [Act.put, List.setIfInBounds_toArray, List.set_cons_zero, List.set_cons_succ])
      go_cut [40] (fun v40 wc => ∃ (kq : Nat) (x40_7 : Bool), v40 = .bool x40_7 ∧ Aside0 (patchbaylaw02_FrameWrites.j0 kq t442 t449 x40_7 a0_0 a0_1 a0_2 a0_3 a0_4 M_ = some r) ∧ Aside0 (kq ≤ k) ∧ Aside0 (Kd.R (Kd.int .u8) 5 wc w.heap.size (fun _ => True) v443 t442) ∧ Aside0 (wc.heap[gb432]? = some (.cells #[.int .u64 a0_0, .int .u64 a0_1, .bool a0_2, .int .u16 a0_3, .int .u16 a0_4, .slice A0_5 M_.length c0_5] 34 (0, 0))) ∧ Aside0 (Below w.heap.size w wc))
      case first =>
        have H := HC8.out
        clear HC8
        replace H := Option.bind_eq_some_iff.mp H
        obtain ⟨t450, A170, H⟩ := H
        replace H : (if t450 = true then (if t445 = t449 then ((patchbayref01_Same.f k t442 t446).bind fun t451 => (patchbaylaw02_FrameWrites.j0 k t442 t449 (!t451) a0_0 a0_1 a0_2 a0_3 a0_4 M_)) else (patchbaylaw02_FrameWrites.j0 k t442 t449 true a0_0 a0_1 a0_2 a0_3 a0_4 M_)) else (patchbaylaw02_FrameWrites.j0 k t442 t449 true a0_0 a0_1 a0_2 a0_3 a0_4 M_)) = some r := H
        have A17 := Aside0.mk A170
        clear A170
        by_cases c18 : t450 = true
        · subst c18
          have H1 : (if t445 = t449 then ((patchbayref01_Same.f k t442 t446).bind fun t451 => (patchbaylaw02_FrameWrites.j0 k t442 t449 (!t451) a0_0 a0_1 a0_2 a0_3 a0_4 M_)) else (patchbaylaw02_FrameWrites.j0 k t442 t449 true a0_0 a0_1 a0_2 a0_3 a0_4 M_)) = some r := by rw [if_pos rfl] at H; exact H
          clear H
          have H := H1
          clear H1
          by_cases c19 : t445 = t449
          · rw [if_pos c19] at H
            have c19b0 : (t445 == t449) = true := beq_iff_eq.mpr c19
            have c19b1 : (t445 != t449) = false := bne_eq_false_iff_eq.mpr c19
            clear c19
            (first | rw [c19b0] | (simp only [i64_w, i32_w]; rw [c19b0]) | skip)
            replace H := Option.bind_eq_some_iff.mp H
            obtain ⟨t451, A200, H⟩ := H
            replace H : (patchbaylaw02_FrameWrites.j0 k t442 t449 (!t451) a0_0 a0_1 a0_2 a0_3 a0_4 M_) = some r := H
            have A20 := Aside0.mk A200
            clear A200
            have H' := Aside0.mk H
            clear H
            go_wp2_with (first | ((with_reducible refine gate_callee (f := 18) rfl ?_); refine goesL_ (some 28) rfl rfl Try.func18 (by kernel_rfl) rfl #[] rfl (by (try simp only [List.map_toArray, List.map_cons, List.map_nil]); first | done | rfl | (simp only [List.length_drop, List.length_take]; rfl)) ?_; (with_reducible refine (patchbaylaw02_told.calls k  true _ A17.out).mono ?_); rintro e w21 ⟨rfl, hb⟩; refine ⟨_, rfl, ?_⟩; have n0_ := Aside0.mk (Kd.R_below (by (with_reducible repeat (first | apply Kd.R_alloc | apply Kd.R_drewN | apply Kd.R_drew)); exact HO441.out) hb); have n1_ := Aside0.mk (Kd.R_below (by (with_reducible repeat (first | apply Kd.R_alloc | apply Kd.R_drewN | apply Kd.R_drew)); exact HO444.out) hb); have n2_ := Aside0.mk (Kd.R_below (by (with_reducible repeat (first | apply Kd.R_alloc | apply Kd.R_drewN | apply Kd.R_drew)); exact HO448.out) hb); have n3_ := Aside0.mk (blk_below (g := gb432) (o := .cells #[.int .u64 a0_0, .int .u64 a0_1, .bool a0_2, .int .u16 a0_3, .int .u16 a0_4, .slice A0_5 M_.length c0_5] 34 (0, 0)) (by (with_reducible repeat (first | refine blk_drewN ?_ _ | refine blk_drew ?_ | refine blk_alloc ?_ _)); exact BK432.out) hb); have n4_ := Aside0.mk (below_step (by repeat (first | (with_reducible first | exact HB.out | apply below_alloc | apply pw_below_drewN | apply below_drew1 | refine below_set ?_ GE432.out) | exact HB.out)) hb); clear HO441; clear HO444; clear HO448; clear BK432; clear HB; have HO441 := n0_; have HO444 := n1_; have HO448 := n2_; have BK432 := n3_; have HB := n4_; clear n0_ n1_ n2_ n3_ n4_; (try clear hb); (try clear hb2); (try clear hk); (try clear hi); obtain ⟨Ao22, co22, eo22⟩ := Kd.R_slice HO444.out; subst eo22; obtain ⟨Ao23, co23, eo23⟩ := Kd.R_slice HO448.out; subst eo23) | (go_at_call 19; (with_reducible refine (patchbayref01_Same.calls k _ _ t442 _ _ t446 t451 _ ?side1 ?side2 ?side3 ?side4 A20.out).mono ?_); (case side1 => repeat (first | exact (Kd.R_reads' HO444.out).2.2 | (with_reducible refine Kd.C_alloc ?_ _) | (with_reducible refine Kd.C_drewN ?_ _) | (with_reducible refine Kd.C_drew ?_))); (case side2 => exact (Kd.R_reads' HO444.out).2.1); (case side3 => repeat (first | exact (Kd.R_reads' HO448.out).2.2 | (with_reducible refine Kd.C_alloc ?_ _) | (with_reducible refine Kd.C_drewN ?_ _) | (with_reducible refine Kd.C_drew ?_))); (case side4 => exact (Kd.R_reads' HO448.out).2.1); rintro e w' ⟨rfl, ⟨nd, rfl⟩⟩))
            go_meet
            case rel => exact ⟨_, (!t451), (by first | rfl | (simp; done) | (simp [*]; done)), H', ⟨by first | omega | exact Nat.le_refl _⟩, ⟨by (with_reducible repeat (first | apply Kd.R_alloc | apply Kd.R_drewN | apply Kd.R_drew)); exact Kd.R_mono HO444.out (fun _ hk => trivial)⟩, ⟨by (with_reducible repeat (first | refine blk_drewN ?_ _ | refine blk_drew ?_ | refine blk_alloc ?_ _)); exact BK432.out⟩, ⟨by repeat (first | (with_reducible first | exact HB.out | apply below_alloc | apply pw_below_drewN | apply below_drew1 | refine below_set ?_ GE432.out) | exact HB.out)⟩⟩
          · rw [if_neg c19] at H
            have c19b0 : (t445 == t449) = false := beq_eq_false_iff_ne.mpr c19
            have c19b1 : (t445 != t449) = true := bne_iff_ne.mpr c19
            (first | rw [c19b0] | (simp only [i64_w, i32_w]; rw [c19b0]) | skip)
            have H' := Aside0.mk H
            clear H
            go_wp2_with (first | ((with_reducible refine gate_callee (f := 18) rfl ?_); refine goesL_ (some 28) rfl rfl Try.func18 (by kernel_rfl) rfl #[] rfl (by (try simp only [List.map_toArray, List.map_cons, List.map_nil]); first | done | rfl | (simp only [List.length_drop, List.length_take]; rfl)) ?_; (with_reducible refine (patchbaylaw02_told.calls k  true _ A17.out).mono ?_); rintro e w24 ⟨rfl, hb⟩; refine ⟨_, rfl, ?_⟩; have n0_ := Aside0.mk (Kd.R_below (by (with_reducible repeat (first | apply Kd.R_alloc | apply Kd.R_drewN | apply Kd.R_drew)); exact HO441.out) hb); have n1_ := Aside0.mk (Kd.R_below (by (with_reducible repeat (first | apply Kd.R_alloc | apply Kd.R_drewN | apply Kd.R_drew)); exact HO444.out) hb); have n2_ := Aside0.mk (Kd.R_below (by (with_reducible repeat (first | apply Kd.R_alloc | apply Kd.R_drewN | apply Kd.R_drew)); exact HO448.out) hb); have n3_ := Aside0.mk (blk_below (g := gb432) (o := .cells #[.int .u64 a0_0, .int .u64 a0_1, .bool a0_2, .int .u16 a0_3, .int .u16 a0_4, .slice A0_5 M_.length c0_5] 34 (0, 0)) (by (with_reducible repeat (first | refine blk_drewN ?_ _ | refine blk_drew ?_ | refine blk_alloc ?_ _)); exact BK432.out) hb); have n4_ := Aside0.mk (below_step (by repeat (first | (with_reducible first | exact HB.out | apply below_alloc | apply pw_below_drewN | apply below_drew1 | refine below_set ?_ GE432.out) | exact HB.out)) hb); clear HO441; clear HO444; clear HO448; clear BK432; clear HB; have HO441 := n0_; have HO444 := n1_; have HO448 := n2_; have BK432 := n3_; have HB := n4_; clear n0_ n1_ n2_ n3_ n4_; (try clear hb); (try clear hb2); (try clear hk); (try clear hi)))
            go_meet
            case rel => exact ⟨_, (true), (by first | rfl | (simp; done) | (simp [*]; done)), H', ⟨by first | omega | exact Nat.le_refl _⟩, ⟨by (with_reducible repeat (first | apply Kd.R_alloc | apply Kd.R_drewN | apply Kd.R_drew)); exact Kd.R_mono HO444.out (fun _ hk => trivial)⟩, ⟨by (with_reducible repeat (first | refine blk_drewN ?_ _ | refine blk_drew ?_ | refine blk_alloc ?_ _)); exact BK432.out⟩, ⟨by repeat (first | (with_reducible first | exact HB.out | apply below_alloc | apply pw_below_drewN | apply below_drew1 | refine below_set ?_ GE432.out) | exact HB.out)⟩⟩
        · replace c18 := Bool.eq_false_iff.mpr c18
          subst c18
          have H1 : (patchbaylaw02_FrameWrites.j0 k t442 t449 true a0_0 a0_1 a0_2 a0_3 a0_4 M_) = some r := by rw [if_neg (show ¬ (false = true) by decide)] at H; exact H
          clear H
          have H := H1
          clear H1
          have H' := Aside0.mk H
          clear H
          go_wp2_with (first | ((with_reducible refine gate_callee (f := 18) rfl ?_); refine goesL_ (some 28) rfl rfl Try.func18 (by kernel_rfl) rfl #[] rfl (by (try simp only [List.map_toArray, List.map_cons, List.map_nil]); first | done | rfl | (simp only [List.length_drop, List.length_take]; rfl)) ?_; (with_reducible refine (patchbaylaw02_told.calls k  false _ A17.out).mono ?_); rintro e w25 ⟨rfl, hb⟩; refine ⟨_, rfl, ?_⟩; have n0_ := Aside0.mk (Kd.R_below (by (with_reducible repeat (first | apply Kd.R_alloc | apply Kd.R_drewN | apply Kd.R_drew)); exact HO441.out) hb); have n1_ := Aside0.mk (Kd.R_below (by (with_reducible repeat (first | apply Kd.R_alloc | apply Kd.R_drewN | apply Kd.R_drew)); exact HO444.out) hb); have n2_ := Aside0.mk (Kd.R_below (by (with_reducible repeat (first | apply Kd.R_alloc | apply Kd.R_drewN | apply Kd.R_drew)); exact HO448.out) hb); have n3_ := Aside0.mk (blk_below (g := gb432) (o := .cells #[.int .u64 a0_0, .int .u64 a0_1, .bool a0_2, .int .u16 a0_3, .int .u16 a0_4, .slice A0_5 M_.length c0_5] 34 (0, 0)) (by (with_reducible repeat (first | refine blk_drewN ?_ _ | refine blk_drew ?_ | refine blk_alloc ?_ _)); exact BK432.out) hb); have n4_ := Aside0.mk (below_step (by repeat (first | (with_reducible first | exact HB.out | apply below_alloc | apply pw_below_drewN | apply below_drew1 | refine below_set ?_ GE432.out) | exact HB.out)) hb); clear HO441; clear HO444; clear HO448; clear BK432; clear HB; have HO441 := n0_; have HO444 := n1_; have HO448 := n2_; have BK432 := n3_; have HB := n4_; clear n0_ n1_ n2_ n3_ n4_; (try clear hb); (try clear hb2); (try clear hk); (try clear hi)))
          go_meet
          case rel => exact ⟨_, (true), (by first | rfl | (simp; done) | (simp [*]; done)), H', ⟨by first | omega | exact Nat.le_refl _⟩, ⟨by (with_reducible repeat (first | apply Kd.R_alloc | apply Kd.R_drewN | apply Kd.R_drew)); exact Kd.R_mono HO444.out (fun _ hk => trivial)⟩, ⟨by (with_reducible repeat (first | refine blk_drewN ?_ _ | refine blk_drew ?_ | refine blk_alloc ?_ _)); exact BK432.out⟩, ⟨by repeat (first | (with_reducible first | exact HB.out | apply below_alloc | apply pw_below_drewN | apply below_drew1 | refine below_set ?_ GE432.out) | exact HB.out)⟩⟩
      case rest =>
        clear HC8
        try clear c1
        try clear c2
        try clear p2
        try clear c3
        try clear c3b0
        try clear c3b1
        try clear c4
        try clear c4b0
        try clear c4b1
        try clear c14
        try clear c18
        try clear c19
        try clear c19b0
        try clear c19b1
        try clear c22
        try clear hcz10_0
        try clear hcz10_1
        try clear hcz10_2
        try clear hcz10_3
        try clear hcz10_4
        try clear hcz10_5
        try clear hcz15_0
        try clear hcz15_1
        try clear hcz15_2
        try clear hcz15_3
        try clear hcz15_4
        try clear hcz15_5
        try clear hfz10_0
        try clear hfz10_1
        try clear hfz10_2
        try clear hfz10_3
        try clear hfz10_4
        try clear hfz10_5
        try clear hfz15_0
        try clear hfz15_1
        try clear hfz15_2
        try clear hfz15_3
        try clear hfz15_4
        try clear hfz15_5
        obtain ⟨kq, x40_7, rfl, HA, HJ7, HO_3, BK432, HB⟩ := hcut
        cases kq with
        | zero => exact absurd HA.out (by simp [patchbaylaw02_FrameWrites.j0])
        | succ kj7 =>
          have H := HA.out
          clear HA
          simp only [patchbaylaw02_FrameWrites.j0] at H
          by_cases c26 : x40_7 = true
          · subst c26
            have H1 : (some false) = some r := by rw [if_pos rfl] at H; exact H
            clear H
            have H := H1
            clear H1
            obtain rfl := Option.some.inj H
            go_wp2
            go_ret
            exact ⟨by first | rfl | (simp [errW_none, errW_some] <;> rfl) | (simp only [← hji2]; first | rfl | (simp [errW_none, errW_some] <;> rfl)) | (simp [*, errW_none, errW_some] <;> rfl), by repeat (first | (with_reducible first | exact HB.out | apply below_alloc | apply pw_below_drewN | apply below_drew1 | refine below_set ?_ GE432.out) | exact HB.out)⟩
          · replace c26 := Bool.eq_false_iff.mpr c26
            subst c26
            have H1 : (if t449 = 0 then ((frame_Parse.f kj7 t442).bind fun bt452 => (if bt452.2.2.2.2.2.2 = 0 then ((patchbaylaw02_From.f bt452.1 bt452.2.1 bt452.2.2.1 bt452.2.2.2.1 bt452.2.2.2.2.1 bt452.2.2.2.2.2.1).bind fun bt462 => ((patchbaylaw02_same.f kj7 a0_0 a0_1 a0_2 a0_3 a0_4 M_ bt462.1 bt462.2.1 bt462.2.2.1 bt462.2.2.2.1 bt462.2.2.2.2.1 bt462.2.2.2.2.2 true).bind fun t470 => (some t470))) else (some false))) else (some ((t442.length : Int) == 0))) = some r := by rw [if_neg (show ¬ (false = true) by decide)] at H; exact H
            clear H
            have H := H1
            clear H1
            by_cases c27 : t449 = 0
            · rw [if_pos c27] at H
              have c27b0 : (t449 == 0) = true := beq_iff_eq.mpr c27
              have c27b1 : (t449 != 0) = false := bne_eq_false_iff_eq.mpr c27
              clear c27
              replace H := Option.bind_eq_some_iff.mp H
              obtain ⟨⟨t452, t453, t454, t455, t456, t457, t460⟩, A280, H⟩ := H
              replace H : (if t460 = 0 then ((patchbaylaw02_From.f t452 t453 t454 t455 t456 t457).bind fun bt462 => ((patchbaylaw02_same.f kj7 a0_0 a0_1 a0_2 a0_3 a0_4 M_ bt462.1 bt462.2.1 bt462.2.2.1 bt462.2.2.2.1 bt462.2.2.2.2.1 bt462.2.2.2.2.2 true).bind fun t470 => (some t470))) else (some false)) = some r := H
              have A28 := Aside0.mk A280
              clear A280
              by_cases c29 : t460 = 0
              · rw [if_pos c29] at H
                have c29b0 : (t460 == 0) = true := beq_iff_eq.mpr c29
                have c29b1 : (t460 != 0) = false := bne_eq_false_iff_eq.mpr c29
                clear c29
                replace H := Option.bind_eq_some_iff.mp H
                obtain ⟨⟨t462, t463, t464, t465, t466, t467⟩, A300, H⟩ := H
                replace H : ((patchbaylaw02_same.f kj7 a0_0 a0_1 a0_2 a0_3 a0_4 M_ t462 t463 t464 t465 t466 t467 true).bind fun t470 => (some t470)) = some r := H
                have A30 := Aside0.mk A300
                clear A300
                replace H := Option.bind_eq_some_iff.mp H
                obtain ⟨t470, A310, H⟩ := H
                replace H : (some t470) = some r := H
                have A31 := Aside0.mk A310
                clear A310
                obtain rfl := Option.some.inj H
                obtain ⟨Ao32, co32, eo32⟩ := Kd.R_slice HO_3.out
                subst eo32
                try go_wp2_with (first | ((with_reducible refine gate_callee (f := 21) rfl ?_); refine goesL_ (some 48) rfl rfl Try.func21 (by kernel_rfl) rfl #[.slice Ao32 t442.length co32] rfl (by (try simp only [List.map_toArray, List.map_cons, List.map_nil]); first | done | rfl | (simp only [List.length_drop, List.length_take]; rfl)) ?_; (with_reducible refine (frame_Parse.calls kj7 _ _ t442 t452 t453 t454 t455 t456 t457 t460 _ ?side1 ?side2 A28.out).mono ?_); (case side1 => repeat (first | exact (Kd.R_reads' HO_3.out).2.2 | (with_reducible refine Kd.C_alloc ?_ _) | (with_reducible refine Kd.C_drewN ?_ _) | (with_reducible refine Kd.C_drew ?_))); (case side2 => exact (Kd.R_reads' HO_3.out).2.1); rintro e w33 ⟨v458, rfl, ho0, hb⟩; refine ⟨_, rfl, ?_⟩; have n0_ := Aside0.mk (Kd.R_elder' (by (with_reducible repeat (first | apply Kd.R_alloc | apply Kd.R_drewN | apply Kd.R_drew)); exact HO_3.out) (Kd.R_base ho0) hb); have n1_ := Aside0.mk (Kd.R_lower (Kd.R_new' ho0 (Kd.R_lt (by (with_reducible repeat (first | apply Kd.R_alloc | apply Kd.R_drewN | apply Kd.R_drew)); exact HO_3.out))) (below_size (by repeat (first | (with_reducible first | exact HB.out | apply below_alloc | apply pw_below_drewN | apply below_drew1 | refine below_set ?_ GE432.out) | exact HB.out)))); have n2_ := Aside0.mk (blk_below (g := gb432) (o := .cells #[.int .u64 a0_0, .int .u64 a0_1, .bool a0_2, .int .u16 a0_3, .int .u16 a0_4, .slice A0_5 M_.length c0_5] 34 (0, 0)) (by (with_reducible repeat (first | refine blk_drewN ?_ _ | refine blk_drew ?_ | refine blk_alloc ?_ _)); exact BK432.out) hb); have n3_ := Aside0.mk (below_step (by repeat (first | (with_reducible first | exact HB.out | apply below_alloc | apply pw_below_drewN | apply below_drew1 | refine below_set ?_ GE432.out) | exact HB.out)) hb); clear HO_3; clear BK432; clear HB; have HO_3 := n0_; have HO459 := n1_; have BK432 := n2_; have HB := n3_; clear n0_ n1_ n2_ n3_; (try clear hb); (try clear hb2); (try clear hk); (try clear hi); (try clear ho0)) | ((with_reducible refine gate_dst (N := 7) rfl ?_); refine box_event ?hg (N := 7) ?hd (cs := #[.int .u64 0, .int .u64 0, .bool false, .int .u16 0, .int .u16 0, .slice none 0 0]) (t := 39) ?hr ?_; (case hd => rfl); (case hg => rfl); (case hr => first | (go_simp; done) | (go_simp; rfl)); intro gb461 hg w34 hbox hb; have n0_ := Aside0.mk (Kd.R_below (by (with_reducible repeat (first | apply Kd.R_alloc | apply Kd.R_drewN | apply Kd.R_drew)); exact HO_3.out) hb); have n1_ := Aside0.mk (Kd.R_below (by (with_reducible repeat (first | apply Kd.R_alloc | apply Kd.R_drewN | apply Kd.R_drew)); exact HO459.out) hb); have n2_ := Aside0.mk (blk_below (g := gb432) (o := .cells #[.int .u64 a0_0, .int .u64 a0_1, .bool a0_2, .int .u16 a0_3, .int .u16 a0_4, .slice A0_5 M_.length c0_5] 34 (0, 0)) (by (with_reducible repeat (first | refine blk_drewN ?_ _ | refine blk_drew ?_ | refine blk_alloc ?_ _)); exact BK432.out) hb); have n3_ := Aside0.mk (below_step (by repeat (first | (with_reducible first | exact HB.out | apply below_alloc | apply pw_below_drewN | apply below_drew1 | refine below_set ?_ GE432.out) | exact HB.out)) hb); have n4_ := Aside0.mk (hbox); have n5_ := Aside0.mk ((by rw [hg]; exact (below_size (by repeat (first | (with_reducible first | exact HB.out | apply below_alloc | apply pw_below_drewN | apply below_drew1 | refine below_set ?_ GE432.out) | exact HB.out))) : w.heap.size ≤ gb461)); have n6_ := Aside0.mk ((by rw [hg]; exact (below_size (by repeat (first | (with_reducible first | exact HB.out | apply below_alloc | apply pw_below_drewN | apply below_drew1 | refine below_set ?_ GE432.out) | exact HB.out))) : w.heap.size ≤ gb461)); have n7_ := Aside0.mk ((by rw [hg]; exact Nat.ne_of_lt (blk_lt (g := gb432) (o := .cells #[.int .u64 a0_0, .int .u64 a0_1, .bool a0_2, .int .u16 a0_3, .int .u16 a0_4, .slice A0_5 M_.length c0_5] 34 (0, 0)) (by (with_reducible repeat (first | refine blk_drewN ?_ _ | refine blk_drew ?_ | refine blk_alloc ?_ _)); exact BK432.out)) : gb432 ≠ gb461)); have n8_ := Aside0.mk ((by rw [hg]; exact Nat.ne_of_gt (blk_lt (g := gb432) (o := .cells #[.int .u64 a0_0, .int .u64 a0_1, .bool a0_2, .int .u16 a0_3, .int .u16 a0_4, .slice A0_5 M_.length c0_5] 34 (0, 0)) (by (with_reducible repeat (first | refine blk_drewN ?_ _ | refine blk_drew ?_ | refine blk_alloc ?_ _)); exact BK432.out)) : gb461 ≠ gb432)); clear HO_3; clear HO459; clear BK432; clear HB; have HO_3 := n0_; have HO459 := n1_; have BK432 := n2_; have HB := n3_; have BK461 := n4_; have GW461 := n5_; have GE461 := n6_; have NB432_461 := n7_; have NB461_432 := n8_; clear n0_ n1_ n2_ n3_ n4_ n5_ n6_ n7_ n8_; clear hb hbox hg; have hnb35 := NB461_432.out; have hnc35 := NB432_461.out; have hcz36_0 : w34.cell? ⟨gb461, 0, none⟩ = some (.int .u64 0) := (blk_cell BK461.out 0).trans rfl; have hcz36_1 : w34.cell? ⟨gb461, 1, none⟩ = some (.int .u64 0) := (blk_cell BK461.out 1).trans rfl; have hcz36_2 : w34.cell? ⟨gb461, 2, none⟩ = some (.bool false) := (blk_cell BK461.out 2).trans rfl; have hcz36_3 : w34.cell? ⟨gb461, 3, none⟩ = some (.int .u16 0) := (blk_cell BK461.out 3).trans rfl; have hcz36_4 : w34.cell? ⟨gb461, 4, none⟩ = some (.int .u16 0) := (blk_cell BK461.out 4).trans rfl; have hcz36_5 : w34.cell? ⟨gb461, 5, none⟩ = some (.slice none 0 0) := (blk_cell BK461.out 5).trans rfl; have hfz36_0 := blk_frozen BK461.out 0; have hfz36_1 := blk_frozen BK461.out 1; have hfz36_2 := blk_frozen BK461.out 2; have hfz36_3 := blk_frozen BK461.out 3; have hfz36_4 := blk_frozen BK461.out 4; have hfz36_5 := blk_frozen BK461.out 5; obtain ⟨Ao37, co37, eo37⟩ := Kd.R_slice HO459.out; subst eo37))
                have n0_ : Aside0 (Kd.R (Kd.int .u8) 5 ((((((w34.setCell ⟨gb461, 0, none⟩ (.int .u64 t452)).setCell ⟨gb461, 1, none⟩ (.int .u64 t453)).setCell ⟨gb461, 2, none⟩ (.bool t454)).setCell ⟨gb461, 3, none⟩ (.int .u16 t455)).setCell ⟨gb461, 4, none⟩ (.int .u16 t456)).setCell ⟨gb461, 5, none⟩ (.slice Ao37 t457.length co37)) w.heap.size (fun k_ => some k_ ≠ (.slice Ao37 t457.length co37 : Value).ownBlock) (.slice Ao32 t442.length co32) t442) := ⟨by (with_reducible repeat (first | apply Kd.R_alloc | apply Kd.R_drewN | apply Kd.R_drew)); exact Kd.R_mono (Kd.R_far (p := ⟨gb461, 5, none⟩) (Kd.R_far (p := ⟨gb461, 4, none⟩) (Kd.R_far (p := ⟨gb461, 3, none⟩) (Kd.R_far (p := ⟨gb461, 2, none⟩) (Kd.R_far (p := ⟨gb461, 1, none⟩) (Kd.R_far (p := ⟨gb461, 0, none⟩) (Kd.R_types HO_3.out BK461.out (by decide)) (fun _ hk => hk.2) (.int .u64 t452)) (fun _ hk => hk.2) (.int .u64 t453)) (fun _ hk => hk.2) (.bool t454)) (fun _ hk => hk.2) (.int .u16 t455)) (fun _ hk => hk.2) (.int .u16 t456)) (fun _ hk => hk.2) (.slice Ao37 t457.length co37)) (fun _ hk => hk.1.2)⟩
                have n1_ : Aside0 (Kd.R (Kd.int .u8) 5 ((((((w34.setCell ⟨gb461, 0, none⟩ (.int .u64 t452)).setCell ⟨gb461, 1, none⟩ (.int .u64 t453)).setCell ⟨gb461, 2, none⟩ (.bool t454)).setCell ⟨gb461, 3, none⟩ (.int .u16 t455)).setCell ⟨gb461, 4, none⟩ (.int .u16 t456)).setCell ⟨gb461, 5, none⟩ (.slice Ao37 t457.length co37)) w.heap.size (fun k_ => some k_ ≠ (.slice Ao32 t442.length co32 : Value).ownBlock) (.slice Ao37 t457.length co37) t457) := ⟨by (with_reducible repeat (first | apply Kd.R_alloc | apply Kd.R_drewN | apply Kd.R_drew)); exact Kd.R_mono (Kd.R_far (p := ⟨gb461, 5, none⟩) (Kd.R_far (p := ⟨gb461, 4, none⟩) (Kd.R_far (p := ⟨gb461, 3, none⟩) (Kd.R_far (p := ⟨gb461, 2, none⟩) (Kd.R_far (p := ⟨gb461, 1, none⟩) (Kd.R_far (p := ⟨gb461, 0, none⟩) (Kd.R_types HO459.out BK461.out (by decide)) (fun _ hk => hk.2) (.int .u64 t452)) (fun _ hk => hk.2) (.int .u64 t453)) (fun _ hk => hk.2) (.bool t454)) (fun _ hk => hk.2) (.int .u16 t455)) (fun _ hk => hk.2) (.int .u16 t456)) (fun _ hk => hk.2) (.slice Ao37 t457.length co37)) (fun _ hk => hk.1.2)⟩
                have n2_ : Aside0 (((((((w34.setCell ⟨gb461, 0, none⟩ (.int .u64 t452)).setCell ⟨gb461, 1, none⟩ (.int .u64 t453)).setCell ⟨gb461, 2, none⟩ (.bool t454)).setCell ⟨gb461, 3, none⟩ (.int .u16 t455)).setCell ⟨gb461, 4, none⟩ (.int .u16 t456)).setCell ⟨gb461, 5, none⟩ (.slice Ao37 t457.length co37)).heap[gb432]? = some (.cells #[.int .u64 a0_0, .int .u64 a0_1, .bool a0_2, .int .u16 a0_3, .int .u16 a0_4, .slice A0_5 M_.length c0_5] 34 (0, 0))) := ⟨by (with_reducible repeat (first | refine blk_drewN ?_ _ | refine blk_drew ?_ | refine blk_alloc ?_ _)); refine blk_far ?_ NB432_461.out _; (with_reducible repeat (first | refine blk_drewN ?_ _ | refine blk_drew ?_ | refine blk_alloc ?_ _)); refine blk_far ?_ NB432_461.out _; (with_reducible repeat (first | refine blk_drewN ?_ _ | refine blk_drew ?_ | refine blk_alloc ?_ _)); refine blk_far ?_ NB432_461.out _; (with_reducible repeat (first | refine blk_drewN ?_ _ | refine blk_drew ?_ | refine blk_alloc ?_ _)); refine blk_far ?_ NB432_461.out _; (with_reducible repeat (first | refine blk_drewN ?_ _ | refine blk_drew ?_ | refine blk_alloc ?_ _)); refine blk_far ?_ NB432_461.out _; (with_reducible repeat (first | refine blk_drewN ?_ _ | refine blk_drew ?_ | refine blk_alloc ?_ _)); refine blk_far ?_ NB432_461.out _; (with_reducible repeat (first | refine blk_drewN ?_ _ | refine blk_drew ?_ | refine blk_alloc ?_ _)); exact BK432.out⟩
                have n3_ : Aside0 (((((((w34.setCell ⟨gb461, 0, none⟩ (.int .u64 t452)).setCell ⟨gb461, 1, none⟩ (.int .u64 t453)).setCell ⟨gb461, 2, none⟩ (.bool t454)).setCell ⟨gb461, 3, none⟩ (.int .u16 t455)).setCell ⟨gb461, 4, none⟩ (.int .u16 t456)).setCell ⟨gb461, 5, none⟩ (.slice Ao37 t457.length co37)).heap[gb461]? = some (.cells #[.int .u64 t452, .int .u64 t453, .bool t454, .int .u16 t455, .int .u16 t456, .slice Ao37 t457.length co37] 39 (0, 0))) := ⟨by (with_reducible repeat (first | refine blk_drewN ?_ _ | refine blk_drew ?_ | refine blk_alloc ?_ _)); refine blk_put (cs := #[.int .u64 t452, .int .u64 t453, .bool t454, .int .u16 t455, .int .u16 t456, .slice none 0 0]) ?_ 5 _ rfl; (with_reducible repeat (first | refine blk_drewN ?_ _ | refine blk_drew ?_ | refine blk_alloc ?_ _)); refine blk_put (cs := #[.int .u64 t452, .int .u64 t453, .bool t454, .int .u16 t455, .int .u16 0, .slice none 0 0]) ?_ 4 _ rfl; (with_reducible repeat (first | refine blk_drewN ?_ _ | refine blk_drew ?_ | refine blk_alloc ?_ _)); refine blk_put (cs := #[.int .u64 t452, .int .u64 t453, .bool t454, .int .u16 0, .int .u16 0, .slice none 0 0]) ?_ 3 _ rfl; (with_reducible repeat (first | refine blk_drewN ?_ _ | refine blk_drew ?_ | refine blk_alloc ?_ _)); refine blk_put (cs := #[.int .u64 t452, .int .u64 t453, .bool false, .int .u16 0, .int .u16 0, .slice none 0 0]) ?_ 2 _ rfl; (with_reducible repeat (first | refine blk_drewN ?_ _ | refine blk_drew ?_ | refine blk_alloc ?_ _)); refine blk_put (cs := #[.int .u64 t452, .int .u64 0, .bool false, .int .u16 0, .int .u16 0, .slice none 0 0]) ?_ 1 _ rfl; (with_reducible repeat (first | refine blk_drewN ?_ _ | refine blk_drew ?_ | refine blk_alloc ?_ _)); refine blk_put (cs := #[.int .u64 0, .int .u64 0, .bool false, .int .u16 0, .int .u16 0, .slice none 0 0]) ?_ 0 _ rfl; (with_reducible repeat (first | refine blk_drewN ?_ _ | refine blk_drew ?_ | refine blk_alloc ?_ _)); exact BK461.out⟩
                have n4_ : Aside0 (Below w.heap.size w ((((((w34.setCell ⟨gb461, 0, none⟩ (.int .u64 t452)).setCell ⟨gb461, 1, none⟩ (.int .u64 t453)).setCell ⟨gb461, 2, none⟩ (.bool t454)).setCell ⟨gb461, 3, none⟩ (.int .u16 t455)).setCell ⟨gb461, 4, none⟩ (.int .u16 t456)).setCell ⟨gb461, 5, none⟩ (.slice Ao37 t457.length co37))) := ⟨by repeat (first | (with_reducible first | exact HB.out | apply below_alloc | apply pw_below_drewN | apply below_drew1 | refine below_set ?_ GE432.out | refine below_set ?_ GE461.out) | exact HB.out)⟩
                (try clear HO_3)
                (try clear HO459)
                (try clear BK432)
                (try clear BK461)
                (try clear HB)
                generalize ((((((w34.setCell ⟨gb461, 0, none⟩ (.int .u64 t452)).setCell ⟨gb461, 1, none⟩ (.int .u64 t453)).setCell ⟨gb461, 2, none⟩ (.bool t454)).setCell ⟨gb461, 3, none⟩ (.int .u16 t455)).setCell ⟨gb461, 4, none⟩ (.int .u16 t456)).setCell ⟨gb461, 5, none⟩ (.slice Ao37 t457.length co37)) = w38 at n0_ n1_ n2_ n3_ n4_ ⊢
                have HO_3 := n0_
                have HO459 := n1_
                have BK432 := n2_
                have BK461 := n3_
                have HB := n4_
                clear n0_ n1_ n2_ n3_ n4_
                have n0_ := Aside0.mk (Kd.R_drew HO_3.out)
                have n1_ := Aside0.mk (Kd.R_drew HO459.out)
                have n2_ := Aside0.mk (blk_drew BK432.out)
                have n3_ := Aside0.mk (blk_drew BK461.out)
                have n4_ := Aside0.mk (below_drew1 HB.out)
                clear HO_3
                clear HO459
                clear BK432
                clear BK461
                clear HB
                have HO_3 := n0_
                have HO459 := n1_
                have BK432 := n2_
                have BK461 := n3_
                have HB := n4_
                clear n0_ n1_ n2_ n3_ n4_
                refine start_ (n := 9) (S := fun w' => w'.cell? ⟨gb432, 0, none⟩ = some (.int .u64 a0_0) ∧ w'.cell? ⟨gb432, 1, none⟩ = some (.int .u64 a0_1) ∧ w'.cell? ⟨gb432, 2, none⟩ = some (.bool a0_2) ∧ w'.cell? ⟨gb432, 3, none⟩ = some (.int .u16 a0_3) ∧ w'.cell? ⟨gb432, 4, none⟩ = some (.int .u16 a0_4) ∧ w'.cell? ⟨gb432, 5, none⟩ = some (.slice A0_5 M_.length c0_5) ∧ w'.cell? ⟨gb461, 0, none⟩ = some (.int .u64 t452) ∧ w'.cell? ⟨gb461, 1, none⟩ = some (.int .u64 t453) ∧ w'.cell? ⟨gb461, 2, none⟩ = some (.bool t454) ∧ w'.cell? ⟨gb461, 3, none⟩ = some (.int .u16 t455) ∧ w'.cell? ⟨gb461, 4, none⟩ = some (.int .u16 t456) ∧ w'.cell? ⟨gb461, 5, none⟩ = some (.slice Ao37 t457.length co37)) (ds := []) #[false, false, false, false, false, false, false, false, false] (by kernel_rfl) rfl rfl ⟨(blk_cell BK432.out 0).trans rfl, (blk_cell BK432.out 1).trans rfl, (blk_cell BK432.out 2).trans rfl, (blk_cell BK432.out 3).trans rfl, (blk_cell BK432.out 4).trans rfl, (blk_cell BK432.out 5).trans rfl, (blk_cell BK461.out 0).trans rfl, (blk_cell BK461.out 1).trans rfl, (blk_cell BK461.out 2).trans rfl, (blk_cell BK461.out 3).trans rfl, (blk_cell BK461.out 4).trans rfl, (blk_cell BK461.out 5).trans rfl⟩ (fun hHeld => ?_); refine with_tabW patchbaylaw02_FrameWrites.tab9 patchbaylaw02_FrameWrites.bits9 (fun HT_ HW_ => ?_)
                generalize w38.drew = w39 at HO_3 HO459 BK432 BK461 HB hHeld ⊢
                refine pure_ (i := 0) (N := some 51) (v := ?_) (a' := ?_) #[true, false, false, false, false, false, false, false, false] rfl rfl (any_of HT_.out (by kernel_rfl)) (fun _ _ _ h => h) (Or.inl ⟨by rfl, ?_⟩) ?_ ?_
                rotate_left
                · intro w'
                  go_simp
                  with_reducible rfl
                rotate_left
                · simp only [Act.put, List.setIfInBounds_toArray, List.set_cons_zero, List.set_cons_succ, i64_w, i32_w]
                  rfl
                refine pure_ (i := 1) (N := some 52) (v := ?_) (a' := ?_) #[true, true, false, false, false, false, false, false, false] rfl rfl (any_of HT_.out (by kernel_rfl)) (fun _ _ _ h => h) (Or.inl ⟨by rfl, ?_⟩) ?_ ?_
                rotate_left
                · intro w'
                  go_simp
                  with_reducible rfl
                rotate_left
                · simp only [Act.put, List.setIfInBounds_toArray, List.set_cons_zero, List.set_cons_succ, i64_w, i32_w]
                  rfl
                refine pure_ (i := 2) (N := some 53) (v := ?_) (a' := ?_) #[true, true, true, false, false, false, false, false, false] rfl rfl (any_of HT_.out (by kernel_rfl)) (fun _ _ _ h => h) (Or.inl ⟨by rfl, ?_⟩) ?_ ?_
                rotate_left
                · intro w'
                  go_simp
                  with_reducible rfl
                rotate_left
                · simp only [Act.put, List.setIfInBounds_toArray, List.set_cons_zero, List.set_cons_succ, i64_w, i32_w]
                  rfl
                refine take_ (i := 3) (N := some 54) (v := ?_) (a' := ?_) #[true, true, true, true, false, false, false, false, false] rfl rfl (take_ofW HT_.out HW_.out (by kernel_rfl)) (fun _ _ _ h => h) (Or.inl ⟨by rfl, ?_⟩) hHeld ?_ ?_
                rotate_left
                · rintro w' ⟨s0, s1, s2, s3, s4, s5, s6, s7, s8, s9, s10, s11⟩
                  go_simp
                  with_reducible rfl
                rotate_left
                · simp only [Act.put, List.setIfInBounds_toArray, List.set_cons_zero, List.set_cons_succ, i64_w, i32_w]
                  rfl
                refine take_ (i := 4) (N := some 55) (v := ?_) (a' := ?_) #[true, true, true, true, true, false, false, false, false] rfl rfl (take_ofW HT_.out HW_.out (by kernel_rfl)) (fun _ _ _ h => h) (Or.inl ⟨by rfl, ?_⟩) hHeld ?_ ?_
                rotate_left
                · rintro w' ⟨s0, s1, s2, s3, s4, s5, s6, s7, s8, s9, s10, s11⟩
                  go_simp
                  with_reducible rfl
                rotate_left
                · simp only [Act.put, List.setIfInBounds_toArray, List.set_cons_zero, List.set_cons_succ, i64_w, i32_w]
                  rfl
                refine one_ (i := 5) (N := some 56) #[true, true, true, true, true, true, false, false, false] rfl rfl (one_of HT_.out (by kernel_rfl)) (by decide) (fun K hK => ?_)
                refine goes_ Try.func41 (by kernel_rfl) rfl #[.agg #[.int .u64 t452, .int .u64 t453, .bool t454, .int .u16 t455, .int .u16 t456, .slice Ao37 t457.length co37]] (by rfl) rfl rfl (by (try simp only [List.map_toArray, List.map_cons, List.map_nil]); first | done | rfl | (simp only [List.length_drop, List.length_take]; rfl)) ?_
                with_reducible refine (patchbaylaw02_From.calls t452 t453 t454 t455 t456 _ _ t457 t462 t463 t464 t465 t466 t467 _ ?side1 ?side2 A30.out).mono ?_
                (case side1 => repeat (first | exact (Kd.R_reads' HO459.out).2.2 | (with_reducible refine Kd.C_alloc ?_ _) | (with_reducible refine Kd.C_drewN ?_ _) | (with_reducible refine Kd.C_drew ?_)))
                (case side2 => exact (Kd.R_reads' HO459.out).2.1)
                rintro e w40 ⟨v468, rfl, ho0, hb⟩
                refine ⟨_, rfl, ?_⟩
                have n0_ := Aside0.mk (Kd.R_elder' (by (with_reducible repeat (first | apply Kd.R_alloc | apply Kd.R_drewN | apply Kd.R_drew)); exact HO_3.out) (Kd.R_base ho0) hb)
                have n1_ := Aside0.mk (Kd.R_elder' (by (with_reducible repeat (first | apply Kd.R_alloc | apply Kd.R_drewN | apply Kd.R_drew)); exact HO459.out) (Kd.R_base ho0) hb)
                have n2_ := Aside0.mk (Kd.R_lower (Kd.R_new' (Kd.R_new' ho0 (Kd.R_lt (by (with_reducible repeat (first | apply Kd.R_alloc | apply Kd.R_drewN | apply Kd.R_drew)); exact HO_3.out))) (Kd.R_lt (by (with_reducible repeat (first | apply Kd.R_alloc | apply Kd.R_drewN | apply Kd.R_drew)); exact HO459.out))) (below_size (by repeat (first | (with_reducible first | exact HB.out | apply below_alloc | apply pw_below_drewN | apply below_drew1 | refine below_set ?_ GE432.out | refine below_set ?_ GE461.out) | exact HB.out))))
                have n3_ := Aside0.mk (blk_below (g := gb432) (o := .cells #[.int .u64 a0_0, .int .u64 a0_1, .bool a0_2, .int .u16 a0_3, .int .u16 a0_4, .slice A0_5 M_.length c0_5] 34 (0, 0)) (by (with_reducible repeat (first | refine blk_drewN ?_ _ | refine blk_drew ?_ | refine blk_alloc ?_ _)); exact BK432.out) hb)
                have n4_ := Aside0.mk (blk_below (g := gb461) (o := .cells #[.int .u64 t452, .int .u64 t453, .bool t454, .int .u16 t455, .int .u16 t456, .slice Ao37 t457.length co37] 39 (0, 0)) (by (with_reducible repeat (first | refine blk_drewN ?_ _ | refine blk_drew ?_ | refine blk_alloc ?_ _)); exact BK461.out) hb)
                have n5_ := Aside0.mk (below_step (by repeat (first | (with_reducible first | exact HB.out | apply below_alloc | apply pw_below_drewN | apply below_drew1 | refine below_set ?_ GE432.out | refine below_set ?_ GE461.out) | exact HB.out)) hb)
                clear HO_3
                clear HO459
                clear BK432
                clear BK461
                clear HB
                have HO_3 := n0_
                have HO459 := n1_
                have HO469 := n2_
                have BK432 := n3_
                have BK461 := n4_
                have HB := n5_
                clear n0_ n1_ n2_ n3_ n4_ n5_
                (try clear hb)
                (try clear hb2)
                (try clear hk)
                (try clear hi)
                (try clear ho0)
                obtain ⟨Ao41, co41, eo41⟩ := Kd.R_slice HO469.out
                (first | subst eo41 | (injection eo41 with f1_ f2_ f3_; have f4_ := f1_.symm; have f5_ := f3_.symm; clear f1_ f2_ f3_; subst f4_; subst f5_))
                refine hK.out _ _ ⟨(blk_cell BK432.out 0).trans rfl, (blk_cell BK432.out 1).trans rfl, (blk_cell BK432.out 2).trans rfl, (blk_cell BK432.out 3).trans rfl, (blk_cell BK432.out 4).trans rfl, (blk_cell BK432.out 5).trans rfl, (blk_cell BK461.out 0).trans rfl, (blk_cell BK461.out 1).trans rfl, (blk_cell BK461.out 2).trans rfl, (blk_cell BK461.out 3).trans rfl, (blk_cell BK461.out 4).trans rfl, (blk_cell BK461.out 5).trans rfl⟩ (fun hHeld => ?_)
                clear hK K
                refine norm_ (a' := ?_) ?_ ?_
                rotate_left
                · show Act.put _ (some 56) _ = _
                  simp only [Act.put, List.setIfInBounds_toArray, List.set_cons_zero, List.set_cons_succ, i64_w, i32_w]
                  rfl
                refine one_ (i := 6) (N := some 57) #[true, true, true, true, true, true, true, false, false] rfl rfl (one_of HT_.out (by kernel_rfl)) (by decide) (fun K hK => ?_)
                refine goes_ Try.func40 (by kernel_rfl) rfl #[.agg #[.int .u64 a0_0, .int .u64 a0_1, .bool a0_2, .int .u16 a0_3, .int .u16 a0_4, .slice A0_5 M_.length c0_5], .agg #[.int .u64 t462, .int .u64 t463, .bool t464, .int .u16 t465, .int .u16 t466, .slice Ao41 t467.length co41], .bool true] (by rfl) rfl rfl (by (try simp only [List.map_toArray, List.map_cons, List.map_nil]); first | done | rfl | (simp only [List.length_drop, List.length_take]; rfl)) ?_
                with_reducible refine (patchbaylaw02_same.calls kj7 a0_0 a0_1 a0_2 a0_3 a0_4 _ _ M_ t462 t463 t464 t465 t466 _ _ t467 true t470 _ ?side1 ?side2 ?side3 ?side4 A31.out).mono ?_
                (case side1 => repeat (first | exact (Kd.C_below HR433.out HB.out) | (with_reducible refine Kd.C_alloc ?_ _) | (with_reducible refine Kd.C_drewN ?_ _) | (with_reducible refine Kd.C_drew ?_)))
                (case side2 => exact HC433.out)
                (case side3 => repeat (first | exact (Kd.R_reads' HO469.out).2.2 | (with_reducible refine Kd.C_alloc ?_ _) | (with_reducible refine Kd.C_drewN ?_ _) | (with_reducible refine Kd.C_drew ?_)))
                (case side4 => exact (Kd.R_reads' HO469.out).2.1)
                rintro e w42 ⟨rfl, hb⟩
                refine ⟨_, rfl, ?_⟩
                have n0_ := Aside0.mk (Kd.R_below (by (with_reducible repeat (first | apply Kd.R_alloc | apply Kd.R_drewN | apply Kd.R_drew)); exact HO_3.out) hb)
                have n1_ := Aside0.mk (Kd.R_below (by (with_reducible repeat (first | apply Kd.R_alloc | apply Kd.R_drewN | apply Kd.R_drew)); exact HO459.out) hb)
                have n2_ := Aside0.mk (Kd.R_below (by (with_reducible repeat (first | apply Kd.R_alloc | apply Kd.R_drewN | apply Kd.R_drew)); exact HO469.out) hb)
                have n3_ := Aside0.mk (blk_below (g := gb432) (o := .cells #[.int .u64 a0_0, .int .u64 a0_1, .bool a0_2, .int .u16 a0_3, .int .u16 a0_4, .slice A0_5 M_.length c0_5] 34 (0, 0)) (by (with_reducible repeat (first | refine blk_drewN ?_ _ | refine blk_drew ?_ | refine blk_alloc ?_ _)); exact BK432.out) hb)
                have n4_ := Aside0.mk (blk_below (g := gb461) (o := .cells #[.int .u64 t452, .int .u64 t453, .bool t454, .int .u16 t455, .int .u16 t456, .slice Ao37 t457.length co37] 39 (0, 0)) (by (with_reducible repeat (first | refine blk_drewN ?_ _ | refine blk_drew ?_ | refine blk_alloc ?_ _)); exact BK461.out) hb)
                have n5_ := Aside0.mk (below_step (by repeat (first | (with_reducible first | exact HB.out | apply below_alloc | apply pw_below_drewN | apply below_drew1 | refine below_set ?_ GE432.out | refine below_set ?_ GE461.out) | exact HB.out)) hb)
                clear HO_3
                clear HO459
                clear HO469
                clear BK432
                clear BK461
                clear HB
                have HO_3 := n0_
                have HO459 := n1_
                have HO469 := n2_
                have BK432 := n3_
                have BK461 := n4_
                have HB := n5_
                clear n0_ n1_ n2_ n3_ n4_ n5_
                (try clear hb)
                (try clear hb2)
                (try clear hk)
                (try clear hi)
                refine hK.out _ _ ⟨(blk_cell BK432.out 0).trans rfl, (blk_cell BK432.out 1).trans rfl, (blk_cell BK432.out 2).trans rfl, (blk_cell BK432.out 3).trans rfl, (blk_cell BK432.out 4).trans rfl, (blk_cell BK432.out 5).trans rfl, (blk_cell BK461.out 0).trans rfl, (blk_cell BK461.out 1).trans rfl, (blk_cell BK461.out 2).trans rfl, (blk_cell BK461.out 3).trans rfl, (blk_cell BK461.out 4).trans rfl, (blk_cell BK461.out 5).trans rfl⟩ (fun hHeld => ?_)
                clear hK K
                refine norm_ (a' := ?_) ?_ ?_
                rotate_left
                · show Act.put _ (some 57) _ = _
                  simp only [Act.put, List.setIfInBounds_toArray, List.set_cons_zero, List.set_cons_succ, i64_w, i32_w]
                  rfl
                refine pure_ (i := 7) (N := some 58) (v := ?_) (a' := ?_) #[true, true, true, true, true, true, true, true, false] rfl rfl (any_of HT_.out (by kernel_rfl)) (fun _ _ _ h => h) (Or.inl ⟨by rfl, ?_⟩) ?_ ?_
                rotate_left
                · intro w'
                  go_simp
                  with_reducible rfl
                rotate_left
                · simp only [Act.put, List.setIfInBounds_toArray, List.set_cons_zero, List.set_cons_succ, i64_w, i32_w]
                  rfl
                refine pure_ (i := 8) (N := some 2) (v := ?_) (a' := ?_) #[true, true, true, true, true, true, true, true, true] rfl rfl (any_of HT_.out (by kernel_rfl)) (fun _ _ _ h => h) (Or.inl ⟨by rfl, ?_⟩) ?_ ?_
                rotate_left
                · intro w'
                  go_simp
                  with_reducible rfl
                rotate_left
                · simp only [Act.put, List.setIfInBounds_toArray, List.set_cons_zero, List.set_cons_succ, i64_w, i32_w]
                  rfl
                refine done_ (done_of HT_.out (by kernel_rfl)) ?_
                try go_wp2
                go_ret
                exact ⟨by first | rfl | (simp [errW_none, errW_some] <;> rfl) | (simp only [← hji2]; first | rfl | (simp [errW_none, errW_some] <;> rfl)) | (simp [*, errW_none, errW_some] <;> rfl), by repeat (first | (with_reducible first | exact HB.out | apply below_alloc | apply pw_below_drewN | apply below_drew1 | refine below_set ?_ GE432.out | refine below_set ?_ GE461.out) | exact HB.out)⟩
              · rw [if_neg c29] at H
                have c29b0 : (t460 == 0) = false := beq_eq_false_iff_ne.mpr c29
                have c29b1 : (t460 != 0) = true := bne_iff_ne.mpr c29
                obtain rfl := Option.some.inj H
                obtain ⟨Ao43, co43, eo43⟩ := Kd.R_slice HO_3.out
                subst eo43
                try go_wp2_with (first | ((with_reducible refine gate_callee (f := 21) rfl ?_); refine goesL_ (some 48) rfl rfl Try.func21 (by kernel_rfl) rfl #[.slice Ao43 t442.length co43] rfl (by (try simp only [List.map_toArray, List.map_cons, List.map_nil]); first | done | rfl | (simp only [List.length_drop, List.length_take]; rfl)) ?_; (with_reducible refine (frame_Parse.calls kj7 _ _ t442 t452 t453 t454 t455 t456 t457 t460 _ ?side1 ?side2 A28.out).mono ?_); (case side1 => repeat (first | exact (Kd.R_reads' HO_3.out).2.2 | (with_reducible refine Kd.C_alloc ?_ _) | (with_reducible refine Kd.C_drewN ?_ _) | (with_reducible refine Kd.C_drew ?_))); (case side2 => exact (Kd.R_reads' HO_3.out).2.1); rintro e w44 ⟨v458, rfl, ho0, hb⟩; refine ⟨_, rfl, ?_⟩; have n0_ := Aside0.mk (Kd.R_elder' (by (with_reducible repeat (first | apply Kd.R_alloc | apply Kd.R_drewN | apply Kd.R_drew)); exact HO_3.out) (Kd.R_base ho0) hb); have n1_ := Aside0.mk (Kd.R_lower (Kd.R_new' ho0 (Kd.R_lt (by (with_reducible repeat (first | apply Kd.R_alloc | apply Kd.R_drewN | apply Kd.R_drew)); exact HO_3.out))) (below_size (by repeat (first | (with_reducible first | exact HB.out | apply below_alloc | apply pw_below_drewN | apply below_drew1 | refine below_set ?_ GE432.out) | exact HB.out)))); have n2_ := Aside0.mk (blk_below (g := gb432) (o := .cells #[.int .u64 a0_0, .int .u64 a0_1, .bool a0_2, .int .u16 a0_3, .int .u16 a0_4, .slice A0_5 M_.length c0_5] 34 (0, 0)) (by (with_reducible repeat (first | refine blk_drewN ?_ _ | refine blk_drew ?_ | refine blk_alloc ?_ _)); exact BK432.out) hb); have n3_ := Aside0.mk (below_step (by repeat (first | (with_reducible first | exact HB.out | apply below_alloc | apply pw_below_drewN | apply below_drew1 | refine below_set ?_ GE432.out) | exact HB.out)) hb); clear HO_3; clear BK432; clear HB; have HO_3 := n0_; have HO459 := n1_; have BK432 := n2_; have HB := n3_; clear n0_ n1_ n2_ n3_; (try clear hb); (try clear hb2); (try clear hk); (try clear hi); (try clear ho0)) | ((with_reducible refine gate_dst (N := 7) rfl ?_); refine box_event ?hg (N := 7) ?hd (cs := #[.int .u64 0, .int .u64 0, .bool false, .int .u16 0, .int .u16 0, .slice none 0 0]) (t := 39) ?hr ?_; (case hd => rfl); (case hg => rfl); (case hr => first | (go_simp; done) | (go_simp; rfl)); intro gb461 hg w45 hbox hb; have n0_ := Aside0.mk (Kd.R_below (by (with_reducible repeat (first | apply Kd.R_alloc | apply Kd.R_drewN | apply Kd.R_drew)); exact HO_3.out) hb); have n1_ := Aside0.mk (Kd.R_below (by (with_reducible repeat (first | apply Kd.R_alloc | apply Kd.R_drewN | apply Kd.R_drew)); exact HO459.out) hb); have n2_ := Aside0.mk (blk_below (g := gb432) (o := .cells #[.int .u64 a0_0, .int .u64 a0_1, .bool a0_2, .int .u16 a0_3, .int .u16 a0_4, .slice A0_5 M_.length c0_5] 34 (0, 0)) (by (with_reducible repeat (first | refine blk_drewN ?_ _ | refine blk_drew ?_ | refine blk_alloc ?_ _)); exact BK432.out) hb); have n3_ := Aside0.mk (below_step (by repeat (first | (with_reducible first | exact HB.out | apply below_alloc | apply pw_below_drewN | apply below_drew1 | refine below_set ?_ GE432.out) | exact HB.out)) hb); have n4_ := Aside0.mk (hbox); have n5_ := Aside0.mk ((by rw [hg]; exact (below_size (by repeat (first | (with_reducible first | exact HB.out | apply below_alloc | apply pw_below_drewN | apply below_drew1 | refine below_set ?_ GE432.out) | exact HB.out))) : w.heap.size ≤ gb461)); have n6_ := Aside0.mk ((by rw [hg]; exact (below_size (by repeat (first | (with_reducible first | exact HB.out | apply below_alloc | apply pw_below_drewN | apply below_drew1 | refine below_set ?_ GE432.out) | exact HB.out))) : w.heap.size ≤ gb461)); have n7_ := Aside0.mk ((by rw [hg]; exact Nat.ne_of_lt (blk_lt (g := gb432) (o := .cells #[.int .u64 a0_0, .int .u64 a0_1, .bool a0_2, .int .u16 a0_3, .int .u16 a0_4, .slice A0_5 M_.length c0_5] 34 (0, 0)) (by (with_reducible repeat (first | refine blk_drewN ?_ _ | refine blk_drew ?_ | refine blk_alloc ?_ _)); exact BK432.out)) : gb432 ≠ gb461)); have n8_ := Aside0.mk ((by rw [hg]; exact Nat.ne_of_gt (blk_lt (g := gb432) (o := .cells #[.int .u64 a0_0, .int .u64 a0_1, .bool a0_2, .int .u16 a0_3, .int .u16 a0_4, .slice A0_5 M_.length c0_5] 34 (0, 0)) (by (with_reducible repeat (first | refine blk_drewN ?_ _ | refine blk_drew ?_ | refine blk_alloc ?_ _)); exact BK432.out)) : gb461 ≠ gb432)); clear HO_3; clear HO459; clear BK432; clear HB; have HO_3 := n0_; have HO459 := n1_; have BK432 := n2_; have HB := n3_; have BK461 := n4_; have GW461 := n5_; have GE461 := n6_; have NB432_461 := n7_; have NB461_432 := n8_; clear n0_ n1_ n2_ n3_ n4_ n5_ n6_ n7_ n8_; clear hb hbox hg; have hnb46 := NB461_432.out; have hnc46 := NB432_461.out; have hcz47_0 : w45.cell? ⟨gb461, 0, none⟩ = some (.int .u64 0) := (blk_cell BK461.out 0).trans rfl; have hcz47_1 : w45.cell? ⟨gb461, 1, none⟩ = some (.int .u64 0) := (blk_cell BK461.out 1).trans rfl; have hcz47_2 : w45.cell? ⟨gb461, 2, none⟩ = some (.bool false) := (blk_cell BK461.out 2).trans rfl; have hcz47_3 : w45.cell? ⟨gb461, 3, none⟩ = some (.int .u16 0) := (blk_cell BK461.out 3).trans rfl; have hcz47_4 : w45.cell? ⟨gb461, 4, none⟩ = some (.int .u16 0) := (blk_cell BK461.out 4).trans rfl; have hcz47_5 : w45.cell? ⟨gb461, 5, none⟩ = some (.slice none 0 0) := (blk_cell BK461.out 5).trans rfl; have hfz47_0 := blk_frozen BK461.out 0; have hfz47_1 := blk_frozen BK461.out 1; have hfz47_2 := blk_frozen BK461.out 2; have hfz47_3 := blk_frozen BK461.out 3; have hfz47_4 := blk_frozen BK461.out 4; have hfz47_5 := blk_frozen BK461.out 5; obtain ⟨Ao48, co48, eo48⟩ := Kd.R_slice HO459.out; subst eo48))
                have n0_ : Aside0 (Kd.R (Kd.int .u8) 5 ((((((w45.setCell ⟨gb461, 0, none⟩ (.int .u64 t452)).setCell ⟨gb461, 1, none⟩ (.int .u64 t453)).setCell ⟨gb461, 2, none⟩ (.bool t454)).setCell ⟨gb461, 3, none⟩ (.int .u16 t455)).setCell ⟨gb461, 4, none⟩ (.int .u16 t456)).setCell ⟨gb461, 5, none⟩ (.slice Ao48 t457.length co48)) w.heap.size (fun k_ => some k_ ≠ (.slice Ao48 t457.length co48 : Value).ownBlock) (.slice Ao43 t442.length co43) t442) := ⟨by (with_reducible repeat (first | apply Kd.R_alloc | apply Kd.R_drewN | apply Kd.R_drew)); exact Kd.R_mono (Kd.R_far (p := ⟨gb461, 5, none⟩) (Kd.R_far (p := ⟨gb461, 4, none⟩) (Kd.R_far (p := ⟨gb461, 3, none⟩) (Kd.R_far (p := ⟨gb461, 2, none⟩) (Kd.R_far (p := ⟨gb461, 1, none⟩) (Kd.R_far (p := ⟨gb461, 0, none⟩) (Kd.R_types HO_3.out BK461.out (by decide)) (fun _ hk => hk.2) (.int .u64 t452)) (fun _ hk => hk.2) (.int .u64 t453)) (fun _ hk => hk.2) (.bool t454)) (fun _ hk => hk.2) (.int .u16 t455)) (fun _ hk => hk.2) (.int .u16 t456)) (fun _ hk => hk.2) (.slice Ao48 t457.length co48)) (fun _ hk => hk.1.2)⟩
                have n1_ : Aside0 (Kd.R (Kd.int .u8) 5 ((((((w45.setCell ⟨gb461, 0, none⟩ (.int .u64 t452)).setCell ⟨gb461, 1, none⟩ (.int .u64 t453)).setCell ⟨gb461, 2, none⟩ (.bool t454)).setCell ⟨gb461, 3, none⟩ (.int .u16 t455)).setCell ⟨gb461, 4, none⟩ (.int .u16 t456)).setCell ⟨gb461, 5, none⟩ (.slice Ao48 t457.length co48)) w.heap.size (fun k_ => some k_ ≠ (.slice Ao43 t442.length co43 : Value).ownBlock) (.slice Ao48 t457.length co48) t457) := ⟨by (with_reducible repeat (first | apply Kd.R_alloc | apply Kd.R_drewN | apply Kd.R_drew)); exact Kd.R_mono (Kd.R_far (p := ⟨gb461, 5, none⟩) (Kd.R_far (p := ⟨gb461, 4, none⟩) (Kd.R_far (p := ⟨gb461, 3, none⟩) (Kd.R_far (p := ⟨gb461, 2, none⟩) (Kd.R_far (p := ⟨gb461, 1, none⟩) (Kd.R_far (p := ⟨gb461, 0, none⟩) (Kd.R_types HO459.out BK461.out (by decide)) (fun _ hk => hk.2) (.int .u64 t452)) (fun _ hk => hk.2) (.int .u64 t453)) (fun _ hk => hk.2) (.bool t454)) (fun _ hk => hk.2) (.int .u16 t455)) (fun _ hk => hk.2) (.int .u16 t456)) (fun _ hk => hk.2) (.slice Ao48 t457.length co48)) (fun _ hk => hk.1.2)⟩
                have n2_ : Aside0 (((((((w45.setCell ⟨gb461, 0, none⟩ (.int .u64 t452)).setCell ⟨gb461, 1, none⟩ (.int .u64 t453)).setCell ⟨gb461, 2, none⟩ (.bool t454)).setCell ⟨gb461, 3, none⟩ (.int .u16 t455)).setCell ⟨gb461, 4, none⟩ (.int .u16 t456)).setCell ⟨gb461, 5, none⟩ (.slice Ao48 t457.length co48)).heap[gb432]? = some (.cells #[.int .u64 a0_0, .int .u64 a0_1, .bool a0_2, .int .u16 a0_3, .int .u16 a0_4, .slice A0_5 M_.length c0_5] 34 (0, 0))) := ⟨by (with_reducible repeat (first | refine blk_drewN ?_ _ | refine blk_drew ?_ | refine blk_alloc ?_ _)); refine blk_far ?_ NB432_461.out _; (with_reducible repeat (first | refine blk_drewN ?_ _ | refine blk_drew ?_ | refine blk_alloc ?_ _)); refine blk_far ?_ NB432_461.out _; (with_reducible repeat (first | refine blk_drewN ?_ _ | refine blk_drew ?_ | refine blk_alloc ?_ _)); refine blk_far ?_ NB432_461.out _; (with_reducible repeat (first | refine blk_drewN ?_ _ | refine blk_drew ?_ | refine blk_alloc ?_ _)); refine blk_far ?_ NB432_461.out _; (with_reducible repeat (first | refine blk_drewN ?_ _ | refine blk_drew ?_ | refine blk_alloc ?_ _)); refine blk_far ?_ NB432_461.out _; (with_reducible repeat (first | refine blk_drewN ?_ _ | refine blk_drew ?_ | refine blk_alloc ?_ _)); refine blk_far ?_ NB432_461.out _; (with_reducible repeat (first | refine blk_drewN ?_ _ | refine blk_drew ?_ | refine blk_alloc ?_ _)); exact BK432.out⟩
                have n3_ : Aside0 (((((((w45.setCell ⟨gb461, 0, none⟩ (.int .u64 t452)).setCell ⟨gb461, 1, none⟩ (.int .u64 t453)).setCell ⟨gb461, 2, none⟩ (.bool t454)).setCell ⟨gb461, 3, none⟩ (.int .u16 t455)).setCell ⟨gb461, 4, none⟩ (.int .u16 t456)).setCell ⟨gb461, 5, none⟩ (.slice Ao48 t457.length co48)).heap[gb461]? = some (.cells #[.int .u64 t452, .int .u64 t453, .bool t454, .int .u16 t455, .int .u16 t456, .slice Ao48 t457.length co48] 39 (0, 0))) := ⟨by (with_reducible repeat (first | refine blk_drewN ?_ _ | refine blk_drew ?_ | refine blk_alloc ?_ _)); refine blk_put (cs := #[.int .u64 t452, .int .u64 t453, .bool t454, .int .u16 t455, .int .u16 t456, .slice none 0 0]) ?_ 5 _ rfl; (with_reducible repeat (first | refine blk_drewN ?_ _ | refine blk_drew ?_ | refine blk_alloc ?_ _)); refine blk_put (cs := #[.int .u64 t452, .int .u64 t453, .bool t454, .int .u16 t455, .int .u16 0, .slice none 0 0]) ?_ 4 _ rfl; (with_reducible repeat (first | refine blk_drewN ?_ _ | refine blk_drew ?_ | refine blk_alloc ?_ _)); refine blk_put (cs := #[.int .u64 t452, .int .u64 t453, .bool t454, .int .u16 0, .int .u16 0, .slice none 0 0]) ?_ 3 _ rfl; (with_reducible repeat (first | refine blk_drewN ?_ _ | refine blk_drew ?_ | refine blk_alloc ?_ _)); refine blk_put (cs := #[.int .u64 t452, .int .u64 t453, .bool false, .int .u16 0, .int .u16 0, .slice none 0 0]) ?_ 2 _ rfl; (with_reducible repeat (first | refine blk_drewN ?_ _ | refine blk_drew ?_ | refine blk_alloc ?_ _)); refine blk_put (cs := #[.int .u64 t452, .int .u64 0, .bool false, .int .u16 0, .int .u16 0, .slice none 0 0]) ?_ 1 _ rfl; (with_reducible repeat (first | refine blk_drewN ?_ _ | refine blk_drew ?_ | refine blk_alloc ?_ _)); refine blk_put (cs := #[.int .u64 0, .int .u64 0, .bool false, .int .u16 0, .int .u16 0, .slice none 0 0]) ?_ 0 _ rfl; (with_reducible repeat (first | refine blk_drewN ?_ _ | refine blk_drew ?_ | refine blk_alloc ?_ _)); exact BK461.out⟩
                have n4_ : Aside0 (Below w.heap.size w ((((((w45.setCell ⟨gb461, 0, none⟩ (.int .u64 t452)).setCell ⟨gb461, 1, none⟩ (.int .u64 t453)).setCell ⟨gb461, 2, none⟩ (.bool t454)).setCell ⟨gb461, 3, none⟩ (.int .u16 t455)).setCell ⟨gb461, 4, none⟩ (.int .u16 t456)).setCell ⟨gb461, 5, none⟩ (.slice Ao48 t457.length co48))) := ⟨by repeat (first | (with_reducible first | exact HB.out | apply below_alloc | apply pw_below_drewN | apply below_drew1 | refine below_set ?_ GE432.out | refine below_set ?_ GE461.out) | exact HB.out)⟩
                (try clear HO_3)
                (try clear HO459)
                (try clear BK432)
                (try clear BK461)
                (try clear HB)
                generalize ((((((w45.setCell ⟨gb461, 0, none⟩ (.int .u64 t452)).setCell ⟨gb461, 1, none⟩ (.int .u64 t453)).setCell ⟨gb461, 2, none⟩ (.bool t454)).setCell ⟨gb461, 3, none⟩ (.int .u16 t455)).setCell ⟨gb461, 4, none⟩ (.int .u16 t456)).setCell ⟨gb461, 5, none⟩ (.slice Ao48 t457.length co48)) = w49 at n0_ n1_ n2_ n3_ n4_ ⊢
                have HO_3 := n0_
                have HO459 := n1_
                have BK432 := n2_
                have BK461 := n3_
                have HB := n4_
                clear n0_ n1_ n2_ n3_ n4_
                have n0_ := Aside0.mk (Kd.R_drew HO_3.out)
                have n1_ := Aside0.mk (Kd.R_drew HO459.out)
                have n2_ := Aside0.mk (blk_drew BK432.out)
                have n3_ := Aside0.mk (blk_drew BK461.out)
                have n4_ := Aside0.mk (below_drew1 HB.out)
                clear HO_3
                clear HO459
                clear BK432
                clear BK461
                clear HB
                have HO_3 := n0_
                have HO459 := n1_
                have BK432 := n2_
                have BK461 := n3_
                have HB := n4_
                clear n0_ n1_ n2_ n3_ n4_
                refine start_ (n := 9) (S := fun w' => True) (ds := []) #[false, false, false, false, false, false, false, false, false] (by kernel_rfl) rfl rfl trivial (fun hHeld => ?_); refine with_tabW patchbaylaw02_FrameWrites.tab9 patchbaylaw02_FrameWrites.bits9 (fun HT_ HW_ => ?_)
                generalize w49.drew = w50 at HO_3 HO459 BK432 BK461 HB hHeld ⊢
                refine pure_ (i := 0) (N := some 51) (v := ?_) (a' := ?_) #[true, false, false, false, false, false, false, false, false] rfl rfl (any_of HT_.out (by kernel_rfl)) (fun _ _ _ h => h) (Or.inl ⟨by rfl, ?_⟩) ?_ ?_
                rotate_left
                · intro w'
                  go_simp
                  with_reducible rfl
                rotate_left
                · simp only [Act.put, List.setIfInBounds_toArray, List.set_cons_zero, List.set_cons_succ, i64_w, i32_w]
                  rfl
                refine pure_ (i := 1) (N := some 52) (v := ?_) (a' := ?_) #[true, true, false, false, false, false, false, false, false] rfl rfl (any_of HT_.out (by kernel_rfl)) (fun _ _ _ h => h) (Or.inl ⟨by rfl, ?_⟩) ?_ ?_
                rotate_left
                · intro w'
                  go_simp
                  with_reducible rfl
                rotate_left
                · simp only [Act.put, List.setIfInBounds_toArray, List.set_cons_zero, List.set_cons_succ, i64_w, i32_w]
                  rfl
                refine pure_ (i := 2) (N := some 53) (v := ?_) (a' := ?_) #[true, true, true, false, false, false, false, false, false] rfl rfl (any_of HT_.out (by kernel_rfl)) (fun _ _ _ h => h) (Or.inl ⟨by rfl, ?_⟩) ?_ ?_
                rotate_left
                · intro w'
                  go_simp
                  with_reducible rfl
                rotate_left
                · simp only [Act.put, List.setIfInBounds_toArray, List.set_cons_zero, List.set_cons_succ, i64_w, i32_w]
                  rfl
                refine pure_ (i := 3) (N := some 54) (v := undef) (a' := ?_) #[true, true, true, true, false, false, false, false, false] rfl rfl (any_of HT_.out (by kernel_rfl)) (fun _ _ _ h => h) (Or.inr ⟨by rfl, rfl⟩) ?_ ?_
                rotate_left
                · simp only [Act.put, List.setIfInBounds_toArray, List.set_cons_zero, List.set_cons_succ, i64_w, i32_w]
                  rfl
                refine pure_ (i := 4) (N := some 55) (v := undef) (a' := ?_) #[true, true, true, true, true, false, false, false, false] rfl rfl (any_of HT_.out (by kernel_rfl)) (fun _ _ _ h => h) (Or.inr ⟨by rfl, rfl⟩) ?_ ?_
                rotate_left
                · simp only [Act.put, List.setIfInBounds_toArray, List.set_cons_zero, List.set_cons_succ, i64_w, i32_w]
                  rfl
                refine pure_ (i := 5) (N := some 56) (v := undef) (a' := ?_) #[true, true, true, true, true, true, false, false, false] rfl rfl (any_of HT_.out (by kernel_rfl)) (fun _ _ _ h => h) (Or.inr ⟨by rfl, rfl⟩) ?_ ?_
                rotate_left
                · simp only [Act.put, List.setIfInBounds_toArray, List.set_cons_zero, List.set_cons_succ, i64_w, i32_w]
                  rfl
                refine pure_ (i := 6) (N := some 57) (v := undef) (a' := ?_) #[true, true, true, true, true, true, true, false, false] rfl rfl (any_of HT_.out (by kernel_rfl)) (fun _ _ _ h => h) (Or.inr ⟨by rfl, rfl⟩) ?_ ?_
                rotate_left
                · simp only [Act.put, List.setIfInBounds_toArray, List.set_cons_zero, List.set_cons_succ, i64_w, i32_w]
                  rfl
                refine pure_ (i := 7) (N := some 58) (v := ?_) (a' := ?_) #[true, true, true, true, true, true, true, true, false] rfl rfl (any_of HT_.out (by kernel_rfl)) (fun _ _ _ h => h) (Or.inl ⟨by rfl, ?_⟩) ?_ ?_
                rotate_left
                · intro w'
                  go_simp
                  with_reducible rfl
                rotate_left
                · simp only [Act.put, List.setIfInBounds_toArray, List.set_cons_zero, List.set_cons_succ, i64_w, i32_w]
                  rfl
                refine pure_ (i := 8) (N := some 2) (v := ?_) (a' := ?_) #[true, true, true, true, true, true, true, true, true] rfl rfl (any_of HT_.out (by kernel_rfl)) (fun _ _ _ h => h) (Or.inl ⟨by rfl, ?_⟩) ?_ ?_
                rotate_left
                · intro w'
                  go_simp
                  with_reducible rfl
                rotate_left
                · simp only [Act.put, List.setIfInBounds_toArray, List.set_cons_zero, List.set_cons_succ, i64_w, i32_w]
                  rfl
                refine done_ (done_of HT_.out (by kernel_rfl)) ?_
                try go_wp2
                go_ret
                exact ⟨by first | rfl | (simp [errW_none, errW_some] <;> rfl) | (simp only [← hji2]; first | rfl | (simp [errW_none, errW_some] <;> rfl)) | (simp [*, errW_none, errW_some] <;> rfl), by repeat (first | (with_reducible first | exact HB.out | apply below_alloc | apply pw_below_drewN | apply below_drew1 | refine below_set ?_ GE432.out | refine below_set ?_ GE461.out) | exact HB.out)⟩
            · rw [if_neg c27] at H
              have c27b0 : (t449 == 0) = false := beq_eq_false_iff_ne.mpr c27
              have c27b1 : (t449 != 0) = true := bne_iff_ne.mpr c27
              obtain rfl := Option.some.inj H
              obtain ⟨Ao51, co51, eo51⟩ := Kd.R_slice HO_3.out
              subst eo51
              go_wp2
              go_ret
              exact ⟨by first | rfl | (simp [errW_none, errW_some] <;> rfl) | (simp only [← hji2]; first | rfl | (simp [errW_none, errW_some] <;> rfl)) | (simp [*, errW_none, errW_some] <;> rfl), by repeat (first | (with_reducible first | exact HB.out | apply below_alloc | apply pw_below_drewN | apply below_drew1 | refine below_set ?_ GE432.out) | exact HB.out)⟩
    · rw [if_neg c4] at H
      exact absurd H (by simp)
  · rw [if_neg c3] at H
    exact absurd H (by simp)

end Go.Proofs.Ytdohdjfclnlpmaa.PFrame
