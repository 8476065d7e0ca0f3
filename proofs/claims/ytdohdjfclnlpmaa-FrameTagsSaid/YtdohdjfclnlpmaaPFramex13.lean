/- Plain Lean functions of what a law comes to, and their contracts: the machine's call does what they say; no condition. Written by wip/myprint.sh over the kit's print.py. -/
import Derived.Test.YtdohdjfclnlpmaaPFramex0
import Derived.Test.YtdohdjfclnlpmaaPFramex8
import Derived.Test.YtdohdjfclnlpmaaPFramex12
namespace Go.Proofs.Ytdohdjfclnlpmaa.PFrame
open Go.RowKit Go.Proofs.YtdohdjfclnlpmaaW.PrintWords Go.Proofs.YtdohdjfclnlpmaaW.PrintLast Go.Proofs.YtdohdjfclnlpmaaW.PrintMore
attribute [local go_sem] max2_int min2_int max_two min_two max_three min_three max_four min_four   -- for this text's walks alone
set_option linter.unusedVariables false
set_option linter.unusedSimpArgs false

/-! ### patchbaylaw02_FrameTags: function 7 -/
def patchbaylaw02_FrameTags.f (k : Nat) (a0_0 : Int) (a0_1 : Int) (a0_2 : Bool) (a0_3 : Int) (a0_4 : Int) (l0_5 : List Int) : Option (Bool) := (patchbaylaw02_To.f a0_0 a0_1 a0_2 a0_3 a0_4 l0_5).bind fun bt408 => (if a0_2 = true then ((patchbaylaw02_told.f k).bind fun t417 => (if t417 = true then ((frame_Vid.f bt408.1 bt408.2.1 bt408.2.2.1 bt408.2.2.2.1 bt408.2.2.2.2.1 ([] : List Int)).bind fun t418 => (if t418 = (wrap64 (Int.tmod a0_3 4096)) then ((frame_Prio.f bt408.1 bt408.2.1 bt408.2.2.1 bt408.2.2.2.1 bt408.2.2.2.2.1 ([] : List Int)).bind fun t419 => (some (t419 == (wrap64 (IntKind.u16.wrap (Int.tdiv a0_3 8192)))))) else (some false))) else (some false))) else ((patchbaylaw02_told.f k).bind fun t420 => (if t420 = true then ((frame_Vid.f bt408.1 bt408.2.1 bt408.2.2.1 bt408.2.2.2.1 bt408.2.2.2.2.1 ([] : List Int)).bind fun t421 => (if t421 = (wrap64 (Int.tmod a0_3 4096)) then ((frame_Prio.f bt408.1 bt408.2.1 bt408.2.2.1 bt408.2.2.2.1 bt408.2.2.2.2.1 ([] : List Int)).bind fun t422 => (some (t422 == 0))) else (some false))) else (some false))))
theorem patchbaylaw02_FrameTags.mono : ∀ a0 a1 a2 a3 a4 a5 k, LeO (patchbaylaw02_FrameTags.f k a0 a1 a2 a3 a4 a5) (patchbaylaw02_FrameTags.f (k + 1) a0 a1 a2 a3 a4 a5) := by
  intro a0 a1 a2 a3 a4 a5 k
  unfold patchbaylaw02_FrameTags.f
  repeat' first
      | (with_reducible exact patchbaylaw02_told.mono _)
      | (with_reducible exact LeO.refl _)
      | (with_reducible exact LeO.none _)
      | (with_reducible refine LeO.ite ?_ ?_)
      | (with_reducible refine LeO.bind ?_ (fun _ => ?_))
      | exact patchbaylaw02_told.mono _
      | exact LeO.none _
      | refine LeO.ite ?_ ?_
      | refine LeO.bind ?_ (fun _ => ?_)
def patchbaylaw02_FrameTags.T6 : Bool × List (List Nat × List Nat) := (true, [([], []), ([0, 0], [0]), ([1], [1]), ([2, 1, 1], [1, 2]), ([1], [1]), ([4, 1], [1, 4]), ([5, 1], [1, 5]), ([6, 1], [1, 6]), ([3, 7, 1], [1, 3, 7]), ([1, 8], [1, 8]), ([9, 3], [9]), ([10], [10]), ([11, 10, 10], [10, 11]), ([10], [10]), ([12, 13, 10], [10, 12, 13]), ([10, 14], [10, 14]), ([15, 12, 0, 1, 2, 3, 4, 5, 6, 7, 8, 9, 10, 11, 12, 13, 14, 15], [15])])
def patchbaylaw02_FrameTags.B6 : List Nat := [0, 1, 3, 7, 3, 19, 51, 115, 255, 511, 1023, 2047, 4095, 2047, 16383, 32767, 65535]
theorem patchbaylaw02_FrameTags.tab6 : rtab .any (opsOf Try.f7 6) = patchbaylaw02_FrameTags.T6 := by kernel_rfl
theorem patchbaylaw02_FrameTags.bits6 : waitsOk patchbaylaw02_FrameTags.T6.2 patchbaylaw02_FrameTags.B6 = true := by kernel_rfl
set_option maxHeartbeats 8000000 in
set_option maxRecDepth 100000 in
theorem patchbaylaw02_FrameTags.calls (k : Nat) (a0_0 : Int) (a0_1 : Int) (a0_2 : Bool) (a0_3 : Int) (a0_4 : Int) (A0_5 : Option Addr) (c0_5 : Nat) (l0_5 : List Int) (r : Bool) (w : World) (hr0_5 : Kd.C (Kd.int .u8) w A0_5 l0_5.length l0_5) (hc0_5 : l0_5.length ≤ c0_5) (h : patchbaylaw02_FrameTags.f k a0_0 a0_1 a0_2 a0_3 a0_4 l0_5 = some r) :
    Calls Try.prog 7 #[.agg #[.int .u64 a0_0, .int .u64 a0_1, .bool a0_2, .int .u16 a0_3, .int .u16 a0_4, .slice A0_5 l0_5.length c0_5]] w fun e w' => e = .returned (.bool r) ∧ Below w.heap.size w w' := by
  have hu34 := Try.underlying34
  have hu39 := Try.underlying39
  have HR0_5 := Aside0.mk hr0_5
  have HC0_5 := Aside0.mk hc0_5
  clear hr0_5 hc0_5
  have HB := Aside0.mk (Below.refl w.heap.size w)
  have H : ((patchbaylaw02_To.f a0_0 a0_1 a0_2 a0_3 a0_4 l0_5).bind fun bt408 => (if a0_2 = true then ((patchbaylaw02_told.f k).bind fun t417 => (if t417 = true then ((frame_Vid.f bt408.1 bt408.2.1 bt408.2.2.1 bt408.2.2.2.1 bt408.2.2.2.2.1 ([] : List Int)).bind fun t418 => (if t418 = (wrap64 (Int.tmod a0_3 4096)) then ((frame_Prio.f bt408.1 bt408.2.1 bt408.2.2.1 bt408.2.2.2.1 bt408.2.2.2.2.1 ([] : List Int)).bind fun t419 => (some (t419 == (wrap64 (IntKind.u16.wrap (Int.tdiv a0_3 8192)))))) else (some false))) else (some false))) else ((patchbaylaw02_told.f k).bind fun t420 => (if t420 = true then ((frame_Vid.f bt408.1 bt408.2.1 bt408.2.2.1 bt408.2.2.2.1 bt408.2.2.2.2.1 ([] : List Int)).bind fun t421 => (if t421 = (wrap64 (Int.tmod a0_3 4096)) then ((frame_Prio.f bt408.1 bt408.2.1 bt408.2.2.1 bt408.2.2.2.1 bt408.2.2.2.2.1 ([] : List Int)).bind fun t422 => (some (t422 == 0))) else (some false))) else (some false))))) = some r := h
  clear h
  replace H := Option.bind_eq_some_iff.mp H
  obtain ⟨⟨t408, t409, t410, t411, t412, t413⟩, A20, H⟩ := H
  replace H : (if a0_2 = true then ((patchbaylaw02_told.f k).bind fun t417 => (if t417 = true then ((frame_Vid.f t408 t409 t410 t411 t412 ([] : List Int)).bind fun t418 => (if t418 = (wrap64 (Int.tmod a0_3 4096)) then ((frame_Prio.f t408 t409 t410 t411 t412 ([] : List Int)).bind fun t419 => (some (t419 == (wrap64 (IntKind.u16.wrap (Int.tdiv a0_3 8192)))))) else (some false))) else (some false))) else ((patchbaylaw02_told.f k).bind fun t420 => (if t420 = true then ((frame_Vid.f t408 t409 t410 t411 t412 ([] : List Int)).bind fun t421 => (if t421 = (wrap64 (Int.tmod a0_3 4096)) then ((frame_Prio.f t408 t409 t410 t411 t412 ([] : List Int)).bind fun t422 => (some (t422 == 0))) else (some false))) else (some false)))) = some r := H
  have A2 := Aside0.mk A20
  clear A20
  by_cases c3 : a0_2 = true
  · subst c3
    have H1 : ((patchbaylaw02_told.f k).bind fun t417 => (if t417 = true then ((frame_Vid.f t408 t409 t410 t411 t412 ([] : List Int)).bind fun t418 => (if t418 = (wrap64 (Int.tmod a0_3 4096)) then ((frame_Prio.f t408 t409 t410 t411 t412 ([] : List Int)).bind fun t419 => (some (t419 == (wrap64 (IntKind.u16.wrap (Int.tdiv a0_3 8192)))))) else (some false))) else (some false))) = some r := by rw [if_pos rfl] at H; exact H
    clear H
    have H := H1
    clear H1
    replace H := Option.bind_eq_some_iff.mp H
    obtain ⟨t417, A40, H⟩ := H
    replace H : (if t417 = true then ((frame_Vid.f t408 t409 t410 t411 t412 ([] : List Int)).bind fun t418 => (if t418 = (wrap64 (Int.tmod a0_3 4096)) then ((frame_Prio.f t408 t409 t410 t411 t412 ([] : List Int)).bind fun t419 => (some (t419 == (wrap64 (IntKind.u16.wrap (Int.tdiv a0_3 8192)))))) else (some false))) else (some false)) = some r := H
    have A4 := Aside0.mk A40
    clear A40
    by_cases c5 : t417 = true
    · subst c5
      have H1 : ((frame_Vid.f t408 t409 t410 t411 t412 ([] : List Int)).bind fun t418 => (if t418 = (wrap64 (Int.tmod a0_3 4096)) then ((frame_Prio.f t408 t409 t410 t411 t412 ([] : List Int)).bind fun t419 => (some (t419 == (wrap64 (IntKind.u16.wrap (Int.tdiv a0_3 8192)))))) else (some false))) = some r := by rw [if_pos rfl] at H; exact H
      clear H
      have H := H1
      clear H1
      replace H := Option.bind_eq_some_iff.mp H
      obtain ⟨t418, A60, H⟩ := H
      replace H : (if t418 = (wrap64 (Int.tmod a0_3 4096)) then ((frame_Prio.f t408 t409 t410 t411 t412 ([] : List Int)).bind fun t419 => (some (t419 == (wrap64 (IntKind.u16.wrap (Int.tdiv a0_3 8192)))))) else (some false)) = some r := H
      have A6 := Aside0.mk A60
      clear A60
      by_cases c7 : t418 = (wrap64 (Int.tmod a0_3 4096))
      · rw [if_pos c7] at H
        have c7b0 : (t418 == (wrap64 (Int.tmod a0_3 4096))) = true := beq_iff_eq.mpr c7
        have c7b1 : (t418 != (wrap64 (Int.tmod a0_3 4096))) = false := bne_eq_false_iff_eq.mpr c7
        clear c7
        replace H := Option.bind_eq_some_iff.mp H
        obtain ⟨t419, A80, H⟩ := H
        replace H : (some (t419 == (wrap64 (IntKind.u16.wrap (Int.tdiv a0_3 8192))))) = some r := H
        have A8 := Aside0.mk A80
        clear A80
        obtain rfl := Option.some.inj H
        go_enter Try.func7, Try.ntmps7
        try go_wp2_with (first | ((with_reducible refine gate_dst (N := 1) rfl ?_); refine box_event ?hg (N := 1) ?hd (cs := #[.int .u64 a0_0, .int .u64 a0_1, .bool true, .int .u16 a0_3, .int .u16 a0_4, .slice A0_5 l0_5.length c0_5]) (t := 34) ?hr ?_; (case hd => rfl); (case hg => rfl); (case hr => first | (go_simp; done) | (go_simp; rfl)); intro gb407 hg w9 hbox hb; have n0_ := Aside0.mk (below_step (by repeat (first | (with_reducible first | exact HB.out | apply below_alloc | apply pw_below_drewN | apply below_drew1) | exact HB.out)) hb); have n1_ := Aside0.mk (hbox); have n2_ := Aside0.mk ((by rw [hg]; exact (below_size (by repeat (first | (with_reducible first | exact HB.out | apply below_alloc | apply pw_below_drewN | apply below_drew1) | exact HB.out))) : w.heap.size ≤ gb407)); have n3_ := Aside0.mk ((by rw [hg]; exact (below_size (by repeat (first | (with_reducible first | exact HB.out | apply below_alloc | apply pw_below_drewN | apply below_drew1) | exact HB.out))) : w.heap.size ≤ gb407)); clear HB; have HB := n0_; have BK407 := n1_; have GW407 := n2_; have GE407 := n3_; clear n0_ n1_ n2_ n3_; clear hb hbox hg; have hcz10_0 : w9.cell? ⟨gb407, 0, none⟩ = some (.int .u64 a0_0) := (blk_cell BK407.out 0).trans rfl; have hcz10_1 : w9.cell? ⟨gb407, 1, none⟩ = some (.int .u64 a0_1) := (blk_cell BK407.out 1).trans rfl; have hcz10_2 : w9.cell? ⟨gb407, 2, none⟩ = some (.bool true) := (blk_cell BK407.out 2).trans rfl; have hcz10_3 : w9.cell? ⟨gb407, 3, none⟩ = some (.int .u16 a0_3) := (blk_cell BK407.out 3).trans rfl; have hcz10_4 : w9.cell? ⟨gb407, 4, none⟩ = some (.int .u16 a0_4) := (blk_cell BK407.out 4).trans rfl; have hcz10_5 : w9.cell? ⟨gb407, 5, none⟩ = some (.slice A0_5 l0_5.length c0_5) := (blk_cell BK407.out 5).trans rfl; have hfz10_0 := blk_frozen BK407.out 0; have hfz10_1 := blk_frozen BK407.out 1; have hfz10_2 := blk_frozen BK407.out 2; have hfz10_3 := blk_frozen BK407.out 3; have hfz10_4 := blk_frozen BK407.out 4; have hfz10_5 := blk_frozen BK407.out 5) | ((with_reducible refine gate_callee (f := 22) rfl ?_); refine goesL_ (some 6) rfl rfl Try.func22 (by kernel_rfl) rfl #[.agg #[.int .u64 a0_0, .int .u64 a0_1, .bool true, .int .u16 a0_3, .int .u16 a0_4, .slice A0_5 l0_5.length c0_5]] rfl (by (try simp only [List.map_toArray, List.map_cons, List.map_nil]); first | done | rfl | (simp only [List.length_drop, List.length_take]; rfl)) ?_; (with_reducible refine (patchbaylaw02_To.calls a0_0 a0_1 true a0_3 a0_4 _ _ l0_5 t408 t409 t410 t411 t412 t413 _ ?side1 ?side2 A2.out).mono ?_); (case side1 => repeat (first | exact (Kd.C_below HR0_5.out HB.out) | (with_reducible refine Kd.C_alloc ?_ _) | (with_reducible refine Kd.C_drewN ?_ _) | (with_reducible refine Kd.C_drew ?_))); (case side2 => exact HC0_5.out); rintro e w11 ⟨v414, rfl, ho0, hb⟩; refine ⟨_, rfl, ?_⟩; have n0_ := Aside0.mk (Kd.R_lower ho0 (below_size (by repeat (first | (with_reducible first | exact HB.out | apply below_alloc | apply pw_below_drewN | apply below_drew1 | refine below_set ?_ GE407.out) | exact HB.out)))); have n1_ := Aside0.mk (blk_below (g := gb407) (o := .cells #[.int .u64 a0_0, .int .u64 a0_1, .bool true, .int .u16 a0_3, .int .u16 a0_4, .slice A0_5 l0_5.length c0_5] 34 (0, 0)) (by (with_reducible repeat (first | refine blk_drewN ?_ _ | refine blk_drew ?_ | refine blk_alloc ?_ _)); exact BK407.out) hb); have n2_ := Aside0.mk (below_step (by repeat (first | (with_reducible first | exact HB.out | apply below_alloc | apply pw_below_drewN | apply below_drew1 | refine below_set ?_ GE407.out) | exact HB.out)) hb); clear BK407; clear HB; have HO415 := n0_; have BK407 := n1_; have HB := n2_; clear n0_ n1_ n2_; (try clear hb); (try clear hb2); (try clear hk); (try clear hi); (try clear ho0)) | ((with_reducible refine gate_dst (N := 3) rfl ?_); refine box_event ?hg (N := 3) ?hd (cs := #[.int .u64 0, .int .u64 0, .bool false, .int .u16 0, .int .u16 0, .slice none 0 0]) (t := 39) ?hr ?_; (case hd => rfl); (case hg => rfl); (case hr => first | (go_simp; done) | (go_simp; rfl)); intro gb416 hg w12 hbox hb; have n0_ := Aside0.mk (Kd.R_below (by (with_reducible repeat (first | apply Kd.R_alloc | apply Kd.R_drewN | apply Kd.R_drew)); exact HO415.out) hb); have n1_ := Aside0.mk (blk_below (g := gb407) (o := .cells #[.int .u64 a0_0, .int .u64 a0_1, .bool true, .int .u16 a0_3, .int .u16 a0_4, .slice A0_5 l0_5.length c0_5] 34 (0, 0)) (by (with_reducible repeat (first | refine blk_drewN ?_ _ | refine blk_drew ?_ | refine blk_alloc ?_ _)); exact BK407.out) hb); have n2_ := Aside0.mk (below_step (by repeat (first | (with_reducible first | exact HB.out | apply below_alloc | apply pw_below_drewN | apply below_drew1 | refine below_set ?_ GE407.out) | exact HB.out)) hb); have n3_ := Aside0.mk (hbox); have n4_ := Aside0.mk ((by rw [hg]; exact (below_size (by repeat (first | (with_reducible first | exact HB.out | apply below_alloc | apply pw_below_drewN | apply below_drew1 | refine below_set ?_ GE407.out) | exact HB.out))) : w.heap.size ≤ gb416)); have n5_ := Aside0.mk ((by rw [hg]; exact (below_size (by repeat (first | (with_reducible first | exact HB.out | apply below_alloc | apply pw_below_drewN | apply below_drew1 | refine below_set ?_ GE407.out) | exact HB.out))) : w.heap.size ≤ gb416)); have n6_ := Aside0.mk ((by rw [hg]; exact Nat.ne_of_lt (blk_lt (g := gb407) (o := .cells #[.int .u64 a0_0, .int .u64 a0_1, .bool true, .int .u16 a0_3, .int .u16 a0_4, .slice A0_5 l0_5.length c0_5] 34 (0, 0)) (by (with_reducible repeat (first | refine blk_drewN ?_ _ | refine blk_drew ?_ | refine blk_alloc ?_ _)); exact BK407.out)) : gb407 ≠ gb416)); have n7_ := Aside0.mk ((by rw [hg]; exact Nat.ne_of_gt (blk_lt (g := gb407) (o := .cells #[.int .u64 a0_0, .int .u64 a0_1, .bool true, .int .u16 a0_3, .int .u16 a0_4, .slice A0_5 l0_5.length c0_5] 34 (0, 0)) (by (with_reducible repeat (first | refine blk_drewN ?_ _ | refine blk_drew ?_ | refine blk_alloc ?_ _)); exact BK407.out)) : gb416 ≠ gb407)); clear HO415; clear BK407; clear HB; have HO415 := n0_; have BK407 := n1_; have HB := n2_; have BK416 := n3_; have GW416 := n4_; have GE416 := n5_; have NB407_416 := n6_; have NB416_407 := n7_; clear n0_ n1_ n2_ n3_ n4_ n5_ n6_ n7_; clear hb hbox hg; have hnb13 := NB416_407.out; have hnc13 := NB407_416.out; have hcz14_0 : w12.cell? ⟨gb416, 0, none⟩ = some (.int .u64 0) := (blk_cell BK416.out 0).trans rfl; have hcz14_1 : w12.cell? ⟨gb416, 1, none⟩ = some (.int .u64 0) := (blk_cell BK416.out 1).trans rfl; have hcz14_2 : w12.cell? ⟨gb416, 2, none⟩ = some (.bool false) := (blk_cell BK416.out 2).trans rfl; have hcz14_3 : w12.cell? ⟨gb416, 3, none⟩ = some (.int .u16 0) := (blk_cell BK416.out 3).trans rfl; have hcz14_4 : w12.cell? ⟨gb416, 4, none⟩ = some (.int .u16 0) := (blk_cell BK416.out 4).trans rfl; have hcz14_5 : w12.cell? ⟨gb416, 5, none⟩ = some (.slice none 0 0) := (blk_cell BK416.out 5).trans rfl; have hfz14_0 := blk_frozen BK416.out 0; have hfz14_1 := blk_frozen BK416.out 1; have hfz14_2 := blk_frozen BK416.out 2; have hfz14_3 := blk_frozen BK416.out 3; have hfz14_4 := blk_frozen BK416.out 4; have hfz14_5 := blk_frozen BK416.out 5; obtain ⟨Ao15, co15, eo15⟩ := Kd.R_slice HO415.out; subst eo15; have hcz16_0 : w12.cell? ⟨gb407, 0, none⟩ = some (.int .u64 a0_0) := (blk_cell BK407.out 0).trans rfl; have hcz16_1 : w12.cell? ⟨gb407, 1, none⟩ = some (.int .u64 a0_1) := (blk_cell BK407.out 1).trans rfl; have hcz16_2 : w12.cell? ⟨gb407, 2, none⟩ = some (.bool true) := (blk_cell BK407.out 2).trans rfl; have hcz16_3 : w12.cell? ⟨gb407, 3, none⟩ = some (.int .u16 a0_3) := (blk_cell BK407.out 3).trans rfl; have hcz16_4 : w12.cell? ⟨gb407, 4, none⟩ = some (.int .u16 a0_4) := (blk_cell BK407.out 4).trans rfl; have hcz16_5 : w12.cell? ⟨gb407, 5, none⟩ = some (.slice A0_5 l0_5.length c0_5) := (blk_cell BK407.out 5).trans rfl; have hfz16_0 := blk_frozen BK407.out 0; have hfz16_1 := blk_frozen BK407.out 1; have hfz16_2 := blk_frozen BK407.out 2; have hfz16_3 := blk_frozen BK407.out 3; have hfz16_4 := blk_frozen BK407.out 4; have hfz16_5 := blk_frozen BK407.out 5))
        have n0_ : Aside0 (Kd.R (Kd.int .u8) 5 (((((((w12.setCell ⟨gb416, 0, none⟩ (.int .u64 t408)).setCell ⟨gb416, 1, none⟩ (.int .u64 t409)).setCell ⟨gb416, 2, none⟩ (.bool t410)).setCell ⟨gb416, 3, none⟩ (.int .u16 t411)).setCell ⟨gb416, 4, none⟩ (.int .u16 t412)).setCell ⟨gb416, 5, none⟩ (.slice Ao15 t413.length co15)).setCell ⟨gb416, 5, none⟩ (.slice none 0 0)) w.heap.size (fun _ => True) (.slice Ao15 t413.length co15) t413) := ⟨by (with_reducible repeat (first | apply Kd.R_alloc | apply Kd.R_drewN | apply Kd.R_drew)); exact Kd.R_mono (Kd.R_far (p := ⟨gb416, 5, none⟩) (Kd.R_far (p := ⟨gb416, 5, none⟩) (Kd.R_far (p := ⟨gb416, 4, none⟩) (Kd.R_far (p := ⟨gb416, 3, none⟩) (Kd.R_far (p := ⟨gb416, 2, none⟩) (Kd.R_far (p := ⟨gb416, 1, none⟩) (Kd.R_far (p := ⟨gb416, 0, none⟩) (Kd.R_types HO415.out BK416.out (by decide)) (fun _ hk => hk.2) (.int .u64 t408)) (fun _ hk => hk.2) (.int .u64 t409)) (fun _ hk => hk.2) (.bool t410)) (fun _ hk => hk.2) (.int .u16 t411)) (fun _ hk => hk.2) (.int .u16 t412)) (fun _ hk => hk.2) (.slice Ao15 t413.length co15)) (fun _ hk => hk.2) (.slice none 0 0)) (fun _ hk => trivial)⟩
        have n1_ : Aside0 ((((((((w12.setCell ⟨gb416, 0, none⟩ (.int .u64 t408)).setCell ⟨gb416, 1, none⟩ (.int .u64 t409)).setCell ⟨gb416, 2, none⟩ (.bool t410)).setCell ⟨gb416, 3, none⟩ (.int .u16 t411)).setCell ⟨gb416, 4, none⟩ (.int .u16 t412)).setCell ⟨gb416, 5, none⟩ (.slice Ao15 t413.length co15)).setCell ⟨gb416, 5, none⟩ (.slice none 0 0)).heap[gb407]? = some (.cells #[.int .u64 a0_0, .int .u64 a0_1, .bool true, .int .u16 a0_3, .int .u16 a0_4, .slice A0_5 l0_5.length c0_5] 34 (0, 0))) := ⟨by (with_reducible repeat (first | refine blk_drewN ?_ _ | refine blk_drew ?_ | refine blk_alloc ?_ _)); refine blk_far ?_ NB407_416.out _; (with_reducible repeat (first | refine blk_drewN ?_ _ | refine blk_drew ?_ | refine blk_alloc ?_ _)); refine blk_far ?_ NB407_416.out _; (with_reducible repeat (first | refine blk_drewN ?_ _ | refine blk_drew ?_ | refine blk_alloc ?_ _)); refine blk_far ?_ NB407_416.out _; (with_reducible repeat (first | refine blk_drewN ?_ _ | refine blk_drew ?_ | refine blk_alloc ?_ _)); refine blk_far ?_ NB407_416.out _; (with_reducible repeat (first | refine blk_drewN ?_ _ | refine blk_drew ?_ | refine blk_alloc ?_ _)); refine blk_far ?_ NB407_416.out _; (with_reducible repeat (first | refine blk_drewN ?_ _ | refine blk_drew ?_ | refine blk_alloc ?_ _)); refine blk_far ?_ NB407_416.out _; (with_reducible repeat (first | refine blk_drewN ?_ _ | refine blk_drew ?_ | refine blk_alloc ?_ _)); refine blk_far ?_ NB407_416.out _; (with_reducible repeat (first | refine blk_drewN ?_ _ | refine blk_drew ?_ | refine blk_alloc ?_ _)); exact BK407.out⟩
        have n2_ : Aside0 ((((((((w12.setCell ⟨gb416, 0, none⟩ (.int .u64 t408)).setCell ⟨gb416, 1, none⟩ (.int .u64 t409)).setCell ⟨gb416, 2, none⟩ (.bool t410)).setCell ⟨gb416, 3, none⟩ (.int .u16 t411)).setCell ⟨gb416, 4, none⟩ (.int .u16 t412)).setCell ⟨gb416, 5, none⟩ (.slice Ao15 t413.length co15)).setCell ⟨gb416, 5, none⟩ (.slice none 0 0)).heap[gb416]? = some (.cells #[.int .u64 t408, .int .u64 t409, .bool t410, .int .u16 t411, .int .u16 t412, .slice none 0 0] 39 (0, 0))) := ⟨by (with_reducible repeat (first | refine blk_drewN ?_ _ | refine blk_drew ?_ | refine blk_alloc ?_ _)); refine blk_put (cs := #[.int .u64 t408, .int .u64 t409, .bool t410, .int .u16 t411, .int .u16 t412, .slice Ao15 t413.length co15]) ?_ 5 _ rfl; (with_reducible repeat (first | refine blk_drewN ?_ _ | refine blk_drew ?_ | refine blk_alloc ?_ _)); refine blk_put (cs := #[.int .u64 t408, .int .u64 t409, .bool t410, .int .u16 t411, .int .u16 t412, .slice none 0 0]) ?_ 5 _ rfl; (with_reducible repeat (first | refine blk_drewN ?_ _ | refine blk_drew ?_ | refine blk_alloc ?_ _)); refine blk_put (cs := #[.int .u64 t408, .int .u64 t409, .bool t410, .int .u16 t411, .int .u16 0, .slice none 0 0]) ?_ 4 _ rfl; (with_reducible repeat (first | refine blk_drewN ?_ _ | refine blk_drew ?_ | refine blk_alloc ?_ _)); refine blk_put (cs := #[.int .u64 t408, .int .u64 t409, .bool t410, .int .u16 0, .int .u16 0, .slice none 0 0]) ?_ 3 _ rfl; (with_reducible repeat (first | refine blk_drewN ?_ _ | refine blk_drew ?_ | refine blk_alloc ?_ _)); refine blk_put (cs := #[.int .u64 t408, .int .u64 t409, .bool false, .int .u16 0, .int .u16 0, .slice none 0 0]) ?_ 2 _ rfl; (with_reducible repeat (first | refine blk_drewN ?_ _ | refine blk_drew ?_ | refine blk_alloc ?_ _)); refine blk_put (cs := #[.int .u64 t408, .int .u64 0, .bool false, .int .u16 0, .int .u16 0, .slice none 0 0]) ?_ 1 _ rfl; (with_reducible repeat (first | refine blk_drewN ?_ _ | refine blk_drew ?_ | refine blk_alloc ?_ _)); refine blk_put (cs := #[.int .u64 0, .int .u64 0, .bool false, .int .u16 0, .int .u16 0, .slice none 0 0]) ?_ 0 _ rfl; (with_reducible repeat (first | refine blk_drewN ?_ _ | refine blk_drew ?_ | refine blk_alloc ?_ _)); exact BK416.out⟩
        have n3_ : Aside0 (Below w.heap.size w (((((((w12.setCell ⟨gb416, 0, none⟩ (.int .u64 t408)).setCell ⟨gb416, 1, none⟩ (.int .u64 t409)).setCell ⟨gb416, 2, none⟩ (.bool t410)).setCell ⟨gb416, 3, none⟩ (.int .u16 t411)).setCell ⟨gb416, 4, none⟩ (.int .u16 t412)).setCell ⟨gb416, 5, none⟩ (.slice Ao15 t413.length co15)).setCell ⟨gb416, 5, none⟩ (.slice none 0 0))) := ⟨by repeat (first | (with_reducible first | exact HB.out | apply below_alloc | apply pw_below_drewN | apply below_drew1 | refine below_set ?_ GE407.out | refine below_set ?_ GE416.out) | exact HB.out)⟩
        (try clear HO415)
        (try clear BK407)
        (try clear BK416)
        (try clear HB)
        generalize (((((((w12.setCell ⟨gb416, 0, none⟩ (.int .u64 t408)).setCell ⟨gb416, 1, none⟩ (.int .u64 t409)).setCell ⟨gb416, 2, none⟩ (.bool t410)).setCell ⟨gb416, 3, none⟩ (.int .u16 t411)).setCell ⟨gb416, 4, none⟩ (.int .u16 t412)).setCell ⟨gb416, 5, none⟩ (.slice Ao15 t413.length co15)).setCell ⟨gb416, 5, none⟩ (.slice none 0 0)) = w17 at n0_ n1_ n2_ n3_ ⊢
        have HO415 := n0_
        have BK407 := n1_
        have BK416 := n2_
        have HB := n3_
        clear n0_ n1_ n2_ n3_
        have n0_ := Aside0.mk (Kd.R_drew HO415.out)
        have n1_ := Aside0.mk (blk_drew BK407.out)
        have n2_ := Aside0.mk (blk_drew BK416.out)
        have n3_ := Aside0.mk (below_drew1 HB.out)
        clear HO415
        clear BK407
        clear BK416
        clear HB
        have HO415 := n0_
        have BK407 := n1_
        have BK416 := n2_
        have HB := n3_
        clear n0_ n1_ n2_ n3_
        refine start_ (n := 17) (S := fun w' => w'.cell? ⟨gb416, 0, none⟩ = some (.int .u64 t408) ∧ w'.cell? ⟨gb416, 1, none⟩ = some (.int .u64 t409) ∧ w'.cell? ⟨gb416, 2, none⟩ = some (.bool t410) ∧ w'.cell? ⟨gb416, 3, none⟩ = some (.int .u16 t411) ∧ w'.cell? ⟨gb416, 4, none⟩ = some (.int .u16 t412) ∧ w'.cell? ⟨gb416, 5, none⟩ = some (.slice none 0 0) ∧ w'.cell? ⟨gb407, 0, none⟩ = some (.int .u64 a0_0) ∧ w'.cell? ⟨gb407, 1, none⟩ = some (.int .u64 a0_1) ∧ w'.cell? ⟨gb407, 2, none⟩ = some (.bool true) ∧ w'.cell? ⟨gb407, 3, none⟩ = some (.int .u16 a0_3) ∧ w'.cell? ⟨gb407, 4, none⟩ = some (.int .u16 a0_4) ∧ w'.cell? ⟨gb407, 5, none⟩ = some (.slice A0_5 l0_5.length c0_5)) (ds := []) #[false, false, false, false, false, false, false, false, false, false, false, false, false, false, false, false, false] (by kernel_rfl) rfl rfl ⟨(blk_cell BK416.out 0).trans rfl, (blk_cell BK416.out 1).trans rfl, (blk_cell BK416.out 2).trans rfl, (blk_cell BK416.out 3).trans rfl, (blk_cell BK416.out 4).trans rfl, (blk_cell BK416.out 5).trans rfl, (blk_cell BK407.out 0).trans rfl, (blk_cell BK407.out 1).trans rfl, (blk_cell BK407.out 2).trans rfl, (blk_cell BK407.out 3).trans rfl, (blk_cell BK407.out 4).trans rfl, (blk_cell BK407.out 5).trans rfl⟩ (fun hHeld => ?_); refine with_tabW patchbaylaw02_FrameTags.tab6 patchbaylaw02_FrameTags.bits6 (fun HT_ HW_ => ?_)
        generalize w17.drew = w18 at HO415 BK407 BK416 HB hHeld ⊢
        refine one_ (i := 0) (N := some 14) #[true, false, false, false, false, false, false, false, false, false, false, false, false, false, false, false, false] rfl rfl (one_of HT_.out (by kernel_rfl)) (by decide) (fun K hK => ?_)
        refine goes_ Try.func18 (by kernel_rfl) rfl #[] (by rfl) rfl rfl (by (try simp only [List.map_toArray, List.map_cons, List.map_nil]); first | done | rfl | (simp only [List.length_drop, List.length_take]; rfl)) ?_
        with_reducible refine (patchbaylaw02_told.calls k  true _ A4.out).mono ?_
        rintro e w19 ⟨rfl, hb⟩
        refine ⟨_, rfl, ?_⟩
        have n0_ := Aside0.mk (Kd.R_below (by (with_reducible repeat (first | apply Kd.R_alloc | apply Kd.R_drewN | apply Kd.R_drew)); exact HO415.out) hb)
        have n1_ := Aside0.mk (blk_below (g := gb407) (o := .cells #[.int .u64 a0_0, .int .u64 a0_1, .bool true, .int .u16 a0_3, .int .u16 a0_4, .slice A0_5 l0_5.length c0_5] 34 (0, 0)) (by (with_reducible repeat (first | refine blk_drewN ?_ _ | refine blk_drew ?_ | refine blk_alloc ?_ _)); exact BK407.out) hb)
        have n2_ := Aside0.mk (blk_below (g := gb416) (o := .cells #[.int .u64 t408, .int .u64 t409, .bool t410, .int .u16 t411, .int .u16 t412, .slice none 0 0] 39 (0, 0)) (by (with_reducible repeat (first | refine blk_drewN ?_ _ | refine blk_drew ?_ | refine blk_alloc ?_ _)); exact BK416.out) hb)
        have n3_ := Aside0.mk (below_step (by repeat (first | (with_reducible first | exact HB.out | apply below_alloc | apply pw_below_drewN | apply below_drew1 | refine below_set ?_ GE407.out | refine below_set ?_ GE416.out) | exact HB.out)) hb)
        clear HO415
        clear BK407
        clear BK416
        clear HB
        have HO415 := n0_
        have BK407 := n1_
        have BK416 := n2_
        have HB := n3_
        clear n0_ n1_ n2_ n3_
        (try clear hb)
        (try clear hb2)
        (try clear hk)
        (try clear hi)
        refine hK.out _ _ ⟨(blk_cell BK416.out 0).trans rfl, (blk_cell BK416.out 1).trans rfl, (blk_cell BK416.out 2).trans rfl, (blk_cell BK416.out 3).trans rfl, (blk_cell BK416.out 4).trans rfl, (blk_cell BK416.out 5).trans rfl, (blk_cell BK407.out 0).trans rfl, (blk_cell BK407.out 1).trans rfl, (blk_cell BK407.out 2).trans rfl, (blk_cell BK407.out 3).trans rfl, (blk_cell BK407.out 4).trans rfl, (blk_cell BK407.out 5).trans rfl⟩ (fun hHeld => ?_)
        clear hK K
        refine norm_ (a' := ?_) ?_ ?_
        rotate_left
        · show Act.put _ (some 14) _ = _
          simp only [Act.put, List.setIfInBounds_toArray, List.set_cons_zero, List.set_cons_succ, i64_w, i32_w]
          rfl
        refine pure_ (i := 1) (N := some 15) (v := ?_) (a' := ?_) #[true, true, false, false, false, false, false, false, false, false, false, false, false, false, false, false, false] rfl rfl (any_of HT_.out (by kernel_rfl)) (fun _ _ _ h => h) (Or.inl ⟨by rfl, ?_⟩) ?_ ?_
        rotate_left
        · intro w'
          go_simp
          with_reducible rfl
        rotate_left
        · simp only [Act.put, List.setIfInBounds_toArray, List.set_cons_zero, List.set_cons_succ, i64_w, i32_w]
          rfl
        refine pure_ (i := 4) (N := some 18) (v := ?_) (a' := ?_) #[true, true, false, false, true, false, false, false, false, false, false, false, false, false, false, false, false] rfl rfl (any_of HT_.out (by kernel_rfl)) (fun _ _ _ h => h) (Or.inl ⟨by rfl, ?_⟩) ?_ ?_
        rotate_left
        · intro w'
          go_simp
          with_reducible rfl
        rotate_left
        · simp only [Act.put, List.setIfInBounds_toArray, List.set_cons_zero, List.set_cons_succ, i64_w, i32_w]
          rfl
        refine take_ (i := 2) (N := some 16) (v := ?_) (a' := ?_) #[true, true, true, false, true, false, false, false, false, false, false, false, false, false, false, false, false] rfl rfl (take_ofW HT_.out HW_.out (by kernel_rfl)) (fun _ _ _ h => h) (Or.inl ⟨by rfl, ?_⟩) hHeld ?_ ?_
        rotate_left
        · rintro w' ⟨s0, s1, s2, s3, s4, s5, s6, s7, s8, s9, s10, s11⟩
          go_simp
          with_reducible rfl
        rotate_left
        · simp only [Act.put, List.setIfInBounds_toArray, List.set_cons_zero, List.set_cons_succ, i64_w, i32_w]
          rfl
        refine take_ (i := 5) (N := some 19) (v := ?_) (a' := ?_) #[true, true, true, false, true, true, false, false, false, false, false, false, false, false, false, false, false] rfl rfl (take_ofW HT_.out HW_.out (by kernel_rfl)) (fun _ _ _ h => h) (Or.inl ⟨by rfl, ?_⟩) hHeld ?_ ?_
        rotate_left
        · rintro w' ⟨s0, s1, s2, s3, s4, s5, s6, s7, s8, s9, s10, s11⟩
          go_simp
          with_reducible rfl
        rotate_left
        · simp only [Act.put, List.setIfInBounds_toArray, List.set_cons_zero, List.set_cons_succ, i64_w, i32_w]
          rfl
        refine pure_ (i := 6) (N := some 20) (v := ?_) (a' := ?_) #[true, true, true, false, true, true, true, false, false, false, false, false, false, false, false, false, false] rfl rfl (any_of HT_.out (by kernel_rfl)) (fun _ _ _ h => h) (Or.inl ⟨by rfl, ?_⟩) ?_ ?_
        rotate_left
        · intro w'
          go_simp
          with_reducible rfl
        rotate_left
        · simp only [Act.put, List.setIfInBounds_toArray, List.set_cons_zero, List.set_cons_succ, i64_w, i32_w]
          rfl
        refine pure_ (i := 7) (N := some 21) (v := ?_) (a' := ?_) #[true, true, true, false, true, true, true, true, false, false, false, false, false, false, false, false, false] rfl rfl (any_of HT_.out (by kernel_rfl)) (fun _ _ _ h => h) (Or.inl ⟨by rfl, ?_⟩) ?_ ?_
        rotate_left
        · intro w'
          go_simp
          with_reducible rfl
        rotate_left
        · simp only [Act.put, List.setIfInBounds_toArray, List.set_cons_zero, List.set_cons_succ, i64_w, i32_w]
          rfl
        refine one_ (i := 3) (N := some 17) #[true, true, true, true, true, true, true, true, false, false, false, false, false, false, false, false, false] rfl rfl (one_of HT_.out (by kernel_rfl)) (by decide) (fun K hK => ?_)
        refine goes_ Try.func23 (by kernel_rfl) rfl #[.agg #[.int .u64 t408, .int .u64 t409, .bool t410, .int .u16 t411, .int .u16 t412, .slice none 0 0]] (by rfl) rfl rfl (by (try simp only [List.map_toArray, List.map_cons, List.map_nil]); first | done | rfl | (simp only [List.length_drop, List.length_take]; rfl)) ?_
        refine (frame_Vid.calls t408 t409 t410 t411 t412 _ _ ([] : List Int) t418 _ ?side1 ?side2 A6.out).mono ?_
        (case side1 => exact Kd.C_nil _ _)
        (case side2 => exact Nat.le_refl _)
        rintro e w20 ⟨rfl, hb⟩
        refine ⟨_, rfl, ?_⟩
        have n0_ := Aside0.mk (Kd.R_below (by (with_reducible repeat (first | apply Kd.R_alloc | apply Kd.R_drewN | apply Kd.R_drew)); exact HO415.out) hb)
        have n1_ := Aside0.mk (blk_below (g := gb407) (o := .cells #[.int .u64 a0_0, .int .u64 a0_1, .bool true, .int .u16 a0_3, .int .u16 a0_4, .slice A0_5 l0_5.length c0_5] 34 (0, 0)) (by (with_reducible repeat (first | refine blk_drewN ?_ _ | refine blk_drew ?_ | refine blk_alloc ?_ _)); exact BK407.out) hb)
        have n2_ := Aside0.mk (blk_below (g := gb416) (o := .cells #[.int .u64 t408, .int .u64 t409, .bool t410, .int .u16 t411, .int .u16 t412, .slice none 0 0] 39 (0, 0)) (by (with_reducible repeat (first | refine blk_drewN ?_ _ | refine blk_drew ?_ | refine blk_alloc ?_ _)); exact BK416.out) hb)
        have n3_ := Aside0.mk (below_step (by repeat (first | (with_reducible first | exact HB.out | apply below_alloc | apply pw_below_drewN | apply below_drew1 | refine below_set ?_ GE407.out | refine below_set ?_ GE416.out) | exact HB.out)) hb)
        clear HO415
        clear BK407
        clear BK416
        clear HB
        have HO415 := n0_
        have BK407 := n1_
        have BK416 := n2_
        have HB := n3_
        clear n0_ n1_ n2_ n3_
        (try clear hb)
        (try clear hb2)
        (try clear hk)
        (try clear hi)
        refine hK.out _ _ ⟨(blk_cell BK416.out 0).trans rfl, (blk_cell BK416.out 1).trans rfl, (blk_cell BK416.out 2).trans rfl, (blk_cell BK416.out 3).trans rfl, (blk_cell BK416.out 4).trans rfl, (blk_cell BK416.out 5).trans rfl, (blk_cell BK407.out 0).trans rfl, (blk_cell BK407.out 1).trans rfl, (blk_cell BK407.out 2).trans rfl, (blk_cell BK407.out 3).trans rfl, (blk_cell BK407.out 4).trans rfl, (blk_cell BK407.out 5).trans rfl⟩ (fun hHeld => ?_)
        clear hK K
        refine norm_ (a' := ?_) ?_ ?_
        rotate_left
        · show Act.put _ (some 17) _ = _
          simp only [Act.put, List.setIfInBounds_toArray, List.set_cons_zero, List.set_cons_succ, i64_w, i32_w]
          rfl
        refine pure_ (i := 8) (N := some 22) (v := ?_) (a' := ?_) #[true, true, true, true, true, true, true, true, true, false, false, false, false, false, false, false, false] rfl rfl (any_of HT_.out (by kernel_rfl)) (fun _ _ _ h => h) (Or.inl ⟨by rfl, ?_⟩) ?_ ?_
        rotate_left
        · intro w'
          go_simp
          with_reducible rfl
        rotate_left
        · simp only [Act.put, List.setIfInBounds_toArray, List.set_cons_zero, List.set_cons_succ, i64_w, i32_w]
          rfl
        refine pure_ (i := 9) (N := some 23) (v := ?_) (a' := ?_) #[true, true, true, true, true, true, true, true, true, true, false, false, false, false, false, false, false] rfl rfl (any_of HT_.out (by kernel_rfl)) (fun _ _ _ h => h) (Or.inl ⟨by rfl, ?_⟩) ?_ ?_
        rotate_left
        · intro w'
          go_simp
          with_reducible rfl
        rotate_left
        · simp only [Act.put, List.setIfInBounds_toArray, List.set_cons_zero, List.set_cons_succ, i64_w, i32_w]
          rfl
        refine pure_ (i := 10) (N := some 24) (v := ?_) (a' := ?_) #[true, true, true, true, true, true, true, true, true, true, true, false, false, false, false, false, false] rfl rfl (any_of HT_.out (by kernel_rfl)) (fun _ _ _ h => h) (Or.inl ⟨by rfl, ?_⟩) ?_ ?_
        rotate_left
        · intro w'
          go_simp
          with_reducible rfl
        rotate_left
        · simp only [Act.put, List.setIfInBounds_toArray, List.set_cons_zero, List.set_cons_succ, i64_w, i32_w]
          rfl
        refine pure_ (i := 13) (N := some 27) (v := ?_) (a' := ?_) #[true, true, true, true, true, true, true, true, true, true, true, false, false, true, false, false, false] rfl rfl (any_of HT_.out (by kernel_rfl)) (fun _ _ _ h => h) (Or.inl ⟨by rfl, ?_⟩) ?_ ?_
        rotate_left
        · intro w'
          go_simp
          with_reducible rfl
        rotate_left
        · simp only [Act.put, List.setIfInBounds_toArray, List.set_cons_zero, List.set_cons_succ, i64_w, i32_w]
          rfl
        refine take_ (i := 11) (N := some 25) (v := ?_) (a' := ?_) #[true, true, true, true, true, true, true, true, true, true, true, true, false, true, false, false, false] rfl rfl (take_ofW HT_.out HW_.out (by kernel_rfl)) (fun _ _ _ h => h) (Or.inl ⟨by rfl, ?_⟩) hHeld ?_ ?_
        rotate_left
        · rintro w' ⟨s0, s1, s2, s3, s4, s5, s6, s7, s8, s9, s10, s11⟩
          go_simp
          with_reducible rfl
        rotate_left
        · simp only [Act.put, List.setIfInBounds_toArray, List.set_cons_zero, List.set_cons_succ, i64_w, i32_w]
          rfl
        refine one_ (i := 12) (N := some 26) #[true, true, true, true, true, true, true, true, true, true, true, true, true, true, false, false, false] rfl rfl (one_of HT_.out (by kernel_rfl)) (by decide) (fun K hK => ?_)
        refine goes_ Try.func24 (by kernel_rfl) rfl #[.agg #[.int .u64 t408, .int .u64 t409, .bool t410, .int .u16 t411, .int .u16 t412, .slice none 0 0]] (by rfl) rfl rfl (by (try simp only [List.map_toArray, List.map_cons, List.map_nil]); first | done | rfl | (simp only [List.length_drop, List.length_take]; rfl)) ?_
        refine (frame_Prio.calls t408 t409 t410 t411 t412 _ _ ([] : List Int) t419 _ ?side1 ?side2 A8.out).mono ?_
        (case side1 => exact Kd.C_nil _ _)
        (case side2 => exact Nat.le_refl _)
        rintro e w21 ⟨rfl, hb⟩
        refine ⟨_, rfl, ?_⟩
        have n0_ := Aside0.mk (Kd.R_below (by (with_reducible repeat (first | apply Kd.R_alloc | apply Kd.R_drewN | apply Kd.R_drew)); exact HO415.out) hb)
        have n1_ := Aside0.mk (blk_below (g := gb407) (o := .cells #[.int .u64 a0_0, .int .u64 a0_1, .bool true, .int .u16 a0_3, .int .u16 a0_4, .slice A0_5 l0_5.length c0_5] 34 (0, 0)) (by (with_reducible repeat (first | refine blk_drewN ?_ _ | refine blk_drew ?_ | refine blk_alloc ?_ _)); exact BK407.out) hb)
        have n2_ := Aside0.mk (blk_below (g := gb416) (o := .cells #[.int .u64 t408, .int .u64 t409, .bool t410, .int .u16 t411, .int .u16 t412, .slice none 0 0] 39 (0, 0)) (by (with_reducible repeat (first | refine blk_drewN ?_ _ | refine blk_drew ?_ | refine blk_alloc ?_ _)); exact BK416.out) hb)
        have n3_ := Aside0.mk (below_step (by repeat (first | (with_reducible first | exact HB.out | apply below_alloc | apply pw_below_drewN | apply below_drew1 | refine below_set ?_ GE407.out | refine below_set ?_ GE416.out) | exact HB.out)) hb)
        clear HO415
        clear BK407
        clear BK416
        clear HB
        have HO415 := n0_
        have BK407 := n1_
        have BK416 := n2_
        have HB := n3_
        clear n0_ n1_ n2_ n3_
        (try clear hb)
        (try clear hb2)
        (try clear hk)
        (try clear hi)
        refine hK.out _ _ ⟨(blk_cell BK416.out 0).trans rfl, (blk_cell BK416.out 1).trans rfl, (blk_cell BK416.out 2).trans rfl, (blk_cell BK416.out 3).trans rfl, (blk_cell BK416.out 4).trans rfl, (blk_cell BK416.out 5).trans rfl, (blk_cell BK407.out 0).trans rfl, (blk_cell BK407.out 1).trans rfl, (blk_cell BK407.out 2).trans rfl, (blk_cell BK407.out 3).trans rfl, (blk_cell BK407.out 4).trans rfl, (blk_cell BK407.out 5).trans rfl⟩ (fun hHeld => ?_)
        clear hK K
        refine norm_ (a' := ?_) ?_ ?_
        rotate_left
        · show Act.put _ (some 26) _ = _
          simp only [Act.put, List.setIfInBounds_toArray, List.set_cons_zero, List.set_cons_succ, i64_w, i32_w]
          rfl
        refine pure_ (i := 14) (N := some 28) (v := ?_) (a' := ?_) #[true, true, true, true, true, true, true, true, true, true, true, true, true, true, true, false, false] rfl rfl (any_of HT_.out (by kernel_rfl)) (fun _ _ _ h => h) (Or.inl ⟨by rfl, ?_⟩) ?_ ?_
        rotate_left
        · intro w'
          go_simp
          with_reducible rfl
        rotate_left
        · simp only [Act.put, List.setIfInBounds_toArray, List.set_cons_zero, List.set_cons_succ, i64_w, i32_w]
          rfl
        refine pure_ (i := 15) (N := some 29) (v := ?_) (a' := ?_) #[true, true, true, true, true, true, true, true, true, true, true, true, true, true, true, true, false] rfl rfl (any_of HT_.out (by kernel_rfl)) (fun _ _ _ h => h) (Or.inl ⟨by rfl, ?_⟩) ?_ ?_
        rotate_left
        · intro w'
          go_simp
          with_reducible rfl
        rotate_left
        · simp only [Act.put, List.setIfInBounds_toArray, List.set_cons_zero, List.set_cons_succ, i64_w, i32_w]
          rfl
        refine pure_ (i := 16) (N := some 2) (v := ?_) (a' := ?_) #[true, true, true, true, true, true, true, true, true, true, true, true, true, true, true, true, true] rfl rfl (any_of HT_.out (by kernel_rfl)) (fun _ _ _ h => h) (Or.inl ⟨by rfl, ?_⟩) ?_ ?_
        rotate_left
        · intro w'
          go_simp
          with_reducible rfl
        rotate_left
        · simp only [Act.put, List.setIfInBounds_toArray, List.set_cons_zero, List.set_cons_succ, i64_w, i32_w]
          rfl
        refine done_ (done_of HT_.out (by kernel_rfl)) ?_
        try go_wp2
        go_ret
        exact ⟨by first | rfl | (simp [errW_none, errW_some] <;> rfl) | (simp [*, errW_none, errW_some] <;> rfl), by repeat (first | (with_reducible first | exact HB.out | apply below_alloc | apply pw_below_drewN | apply below_drew1 | refine below_set ?_ GE407.out | refine below_set ?_ GE416.out) | exact HB.out)⟩
      · rw [if_neg c7] at H
        have c7b0 : (t418 == (wrap64 (Int.tmod a0_3 4096))) = false := beq_eq_false_iff_ne.mpr c7
        have c7b1 : (t418 != (wrap64 (Int.tmod a0_3 4096))) = true := bne_iff_ne.mpr c7
        obtain rfl := Option.some.inj H
        go_enter Try.func7, Try.ntmps7
        try go_wp2_with (first | ((with_reducible refine gate_dst (N := 1) rfl ?_); refine box_event ?hg (N := 1) ?hd (cs := #[.int .u64 a0_0, .int .u64 a0_1, .bool true, .int .u16 a0_3, .int .u16 a0_4, .slice A0_5 l0_5.length c0_5]) (t := 34) ?hr ?_; (case hd => rfl); (case hg => rfl); (case hr => first | (go_simp; done) | (go_simp; rfl)); intro gb407 hg w22 hbox hb; have n0_ := Aside0.mk (below_step (by repeat (first | (with_reducible first | exact HB.out | apply below_alloc | apply pw_below_drewN | apply below_drew1) | exact HB.out)) hb); have n1_ := Aside0.mk (hbox); have n2_ := Aside0.mk ((by rw [hg]; exact (below_size (by repeat (first | (with_reducible first | exact HB.out | apply below_alloc | apply pw_below_drewN | apply below_drew1) | exact HB.out))) : w.heap.size ≤ gb407)); have n3_ := Aside0.mk ((by rw [hg]; exact (below_size (by repeat (first | (with_reducible first | exact HB.out | apply below_alloc | apply pw_below_drewN | apply below_drew1) | exact HB.out))) : w.heap.size ≤ gb407)); clear HB; have HB := n0_; have BK407 := n1_; have GW407 := n2_; have GE407 := n3_; clear n0_ n1_ n2_ n3_; clear hb hbox hg; have hcz23_0 : w22.cell? ⟨gb407, 0, none⟩ = some (.int .u64 a0_0) := (blk_cell BK407.out 0).trans rfl; have hcz23_1 : w22.cell? ⟨gb407, 1, none⟩ = some (.int .u64 a0_1) := (blk_cell BK407.out 1).trans rfl; have hcz23_2 : w22.cell? ⟨gb407, 2, none⟩ = some (.bool true) := (blk_cell BK407.out 2).trans rfl; have hcz23_3 : w22.cell? ⟨gb407, 3, none⟩ = some (.int .u16 a0_3) := (blk_cell BK407.out 3).trans rfl; have hcz23_4 : w22.cell? ⟨gb407, 4, none⟩ = some (.int .u16 a0_4) := (blk_cell BK407.out 4).trans rfl; have hcz23_5 : w22.cell? ⟨gb407, 5, none⟩ = some (.slice A0_5 l0_5.length c0_5) := (blk_cell BK407.out 5).trans rfl; have hfz23_0 := blk_frozen BK407.out 0; have hfz23_1 := blk_frozen BK407.out 1; have hfz23_2 := blk_frozen BK407.out 2; have hfz23_3 := blk_frozen BK407.out 3; have hfz23_4 := blk_frozen BK407.out 4; have hfz23_5 := blk_frozen BK407.out 5) | ((with_reducible refine gate_callee (f := 22) rfl ?_); refine goesL_ (some 6) rfl rfl Try.func22 (by kernel_rfl) rfl #[.agg #[.int .u64 a0_0, .int .u64 a0_1, .bool true, .int .u16 a0_3, .int .u16 a0_4, .slice A0_5 l0_5.length c0_5]] rfl (by (try simp only [List.map_toArray, List.map_cons, List.map_nil]); first | done | rfl | (simp only [List.length_drop, List.length_take]; rfl)) ?_; (with_reducible refine (patchbaylaw02_To.calls a0_0 a0_1 true a0_3 a0_4 _ _ l0_5 t408 t409 t410 t411 t412 t413 _ ?side1 ?side2 A2.out).mono ?_); (case side1 => repeat (first | exact (Kd.C_below HR0_5.out HB.out) | (with_reducible refine Kd.C_alloc ?_ _) | (with_reducible refine Kd.C_drewN ?_ _) | (with_reducible refine Kd.C_drew ?_))); (case side2 => exact HC0_5.out); rintro e w24 ⟨v414, rfl, ho0, hb⟩; refine ⟨_, rfl, ?_⟩; have n0_ := Aside0.mk (Kd.R_lower ho0 (below_size (by repeat (first | (with_reducible first | exact HB.out | apply below_alloc | apply pw_below_drewN | apply below_drew1 | refine below_set ?_ GE407.out) | exact HB.out)))); have n1_ := Aside0.mk (blk_below (g := gb407) (o := .cells #[.int .u64 a0_0, .int .u64 a0_1, .bool true, .int .u16 a0_3, .int .u16 a0_4, .slice A0_5 l0_5.length c0_5] 34 (0, 0)) (by (with_reducible repeat (first | refine blk_drewN ?_ _ | refine blk_drew ?_ | refine blk_alloc ?_ _)); exact BK407.out) hb); have n2_ := Aside0.mk (below_step (by repeat (first | (with_reducible first | exact HB.out | apply below_alloc | apply pw_below_drewN | apply below_drew1 | refine below_set ?_ GE407.out) | exact HB.out)) hb); clear BK407; clear HB; have HO415 := n0_; have BK407 := n1_; have HB := n2_; clear n0_ n1_ n2_; (try clear hb); (try clear hb2); (try clear hk); (try clear hi); (try clear ho0)) | ((with_reducible refine gate_dst (N := 3) rfl ?_); refine box_event ?hg (N := 3) ?hd (cs := #[.int .u64 0, .int .u64 0, .bool false, .int .u16 0, .int .u16 0, .slice none 0 0]) (t := 39) ?hr ?_; (case hd => rfl); (case hg => rfl); (case hr => first | (go_simp; done) | (go_simp; rfl)); intro gb416 hg w25 hbox hb; have n0_ := Aside0.mk (Kd.R_below (by (with_reducible repeat (first | apply Kd.R_alloc | apply Kd.R_drewN | apply Kd.R_drew)); exact HO415.out) hb); have n1_ := Aside0.mk (blk_below (g := gb407) (o := .cells #[.int .u64 a0_0, .int .u64 a0_1, .bool true, .int .u16 a0_3, .int .u16 a0_4, .slice A0_5 l0_5.length c0_5] 34 (0, 0)) (by (with_reducible repeat (first | refine blk_drewN ?_ _ | refine blk_drew ?_ | refine blk_alloc ?_ _)); exact BK407.out) hb); have n2_ := Aside0.mk (below_step (by repeat (first | (with_reducible first | exact HB.out | apply below_alloc | apply pw_below_drewN | apply below_drew1 | refine below_set ?_ GE407.out) | exact HB.out)) hb); have n3_ := Aside0.mk (hbox); have n4_ := Aside0.mk ((by rw [hg]; exact (below_size (by repeat (first | (with_reducible first | exact HB.out | apply below_alloc | apply pw_below_drewN | apply below_drew1 | refine below_set ?_ GE407.out) | exact HB.out))) : w.heap.size ≤ gb416)); have n5_ := Aside0.mk ((by rw [hg]; exact (below_size (by repeat (first | (with_reducible first | exact HB.out | apply below_alloc | apply pw_below_drewN | apply below_drew1 | refine below_set ?_ GE407.out) | exact HB.out))) : w.heap.size ≤ gb416)); have n6_ := Aside0.mk ((by rw [hg]; exact Nat.ne_of_lt (blk_lt (g := gb407) (o := .cells #[.int .u64 a0_0, .int .u64 a0_1, .bool true, .int .u16 a0_3, .int .u16 a0_4, .slice A0_5 l0_5.length c0_5] 34 (0, 0)) (by (with_reducible repeat (first | refine blk_drewN ?_ _ | refine blk_drew ?_ | refine blk_alloc ?_ _)); exact BK407.out)) : gb407 ≠ gb416)); have n7_ := Aside0.mk ((by rw [hg]; exact Nat.ne_of_gt (blk_lt (g := gb407) (o := .cells #[.int .u64 a0_0, .int .u64 a0_1, .bool true, .int .u16 a0_3, .int .u16 a0_4, .slice A0_5 l0_5.length c0_5] 34 (0, 0)) (by (with_reducible repeat (first | refine blk_drewN ?_ _ | refine blk_drew ?_ | refine blk_alloc ?_ _)); exact BK407.out)) : gb416 ≠ gb407)); clear HO415; clear BK407; clear HB; have HO415 := n0_; have BK407 := n1_; have HB := n2_; have BK416 := n3_; have GW416 := n4_; have GE416 := n5_; have NB407_416 := n6_; have NB416_407 := n7_; clear n0_ n1_ n2_ n3_ n4_ n5_ n6_ n7_; clear hb hbox hg; have hnb26 := NB416_407.out; have hnc26 := NB407_416.out; have hcz27_0 : w25.cell? ⟨gb416, 0, none⟩ = some (.int .u64 0) := (blk_cell BK416.out 0).trans rfl; have hcz27_1 : w25.cell? ⟨gb416, 1, none⟩ = some (.int .u64 0) := (blk_cell BK416.out 1).trans rfl; have hcz27_2 : w25.cell? ⟨gb416, 2, none⟩ = some (.bool false) := (blk_cell BK416.out 2).trans rfl; have hcz27_3 : w25.cell? ⟨gb416, 3, none⟩ = some (.int .u16 0) := (blk_cell BK416.out 3).trans rfl; have hcz27_4 : w25.cell? ⟨gb416, 4, none⟩ = some (.int .u16 0) := (blk_cell BK416.out 4).trans rfl; have hcz27_5 : w25.cell? ⟨gb416, 5, none⟩ = some (.slice none 0 0) := (blk_cell BK416.out 5).trans rfl; have hfz27_0 := blk_frozen BK416.out 0; have hfz27_1 := blk_frozen BK416.out 1; have hfz27_2 := blk_frozen BK416.out 2; have hfz27_3 := blk_frozen BK416.out 3; have hfz27_4 := blk_frozen BK416.out 4; have hfz27_5 := blk_frozen BK416.out 5; obtain ⟨Ao28, co28, eo28⟩ := Kd.R_slice HO415.out; subst eo28; have hcz29_0 : w25.cell? ⟨gb407, 0, none⟩ = some (.int .u64 a0_0) := (blk_cell BK407.out 0).trans rfl; have hcz29_1 : w25.cell? ⟨gb407, 1, none⟩ = some (.int .u64 a0_1) := (blk_cell BK407.out 1).trans rfl; have hcz29_2 : w25.cell? ⟨gb407, 2, none⟩ = some (.bool true) := (blk_cell BK407.out 2).trans rfl; have hcz29_3 : w25.cell? ⟨gb407, 3, none⟩ = some (.int .u16 a0_3) := (blk_cell BK407.out 3).trans rfl; have hcz29_4 : w25.cell? ⟨gb407, 4, none⟩ = some (.int .u16 a0_4) := (blk_cell BK407.out 4).trans rfl; have hcz29_5 : w25.cell? ⟨gb407, 5, none⟩ = some (.slice A0_5 l0_5.length c0_5) := (blk_cell BK407.out 5).trans rfl; have hfz29_0 := blk_frozen BK407.out 0; have hfz29_1 := blk_frozen BK407.out 1; have hfz29_2 := blk_frozen BK407.out 2; have hfz29_3 := blk_frozen BK407.out 3; have hfz29_4 := blk_frozen BK407.out 4; have hfz29_5 := blk_frozen BK407.out 5))
        have n0_ : Aside0 (Kd.R (Kd.int .u8) 5 (((((((w25.setCell ⟨gb416, 0, none⟩ (.int .u64 t408)).setCell ⟨gb416, 1, none⟩ (.int .u64 t409)).setCell ⟨gb416, 2, none⟩ (.bool t410)).setCell ⟨gb416, 3, none⟩ (.int .u16 t411)).setCell ⟨gb416, 4, none⟩ (.int .u16 t412)).setCell ⟨gb416, 5, none⟩ (.slice Ao28 t413.length co28)).setCell ⟨gb416, 5, none⟩ (.slice none 0 0)) w.heap.size (fun _ => True) (.slice Ao28 t413.length co28) t413) := ⟨by (with_reducible repeat (first | apply Kd.R_alloc | apply Kd.R_drewN | apply Kd.R_drew)); exact Kd.R_mono (Kd.R_far (p := ⟨gb416, 5, none⟩) (Kd.R_far (p := ⟨gb416, 5, none⟩) (Kd.R_far (p := ⟨gb416, 4, none⟩) (Kd.R_far (p := ⟨gb416, 3, none⟩) (Kd.R_far (p := ⟨gb416, 2, none⟩) (Kd.R_far (p := ⟨gb416, 1, none⟩) (Kd.R_far (p := ⟨gb416, 0, none⟩) (Kd.R_types HO415.out BK416.out (by decide)) (fun _ hk => hk.2) (.int .u64 t408)) (fun _ hk => hk.2) (.int .u64 t409)) (fun _ hk => hk.2) (.bool t410)) (fun _ hk => hk.2) (.int .u16 t411)) (fun _ hk => hk.2) (.int .u16 t412)) (fun _ hk => hk.2) (.slice Ao28 t413.length co28)) (fun _ hk => hk.2) (.slice none 0 0)) (fun _ hk => trivial)⟩
        have n1_ : Aside0 ((((((((w25.setCell ⟨gb416, 0, none⟩ (.int .u64 t408)).setCell ⟨gb416, 1, none⟩ (.int .u64 t409)).setCell ⟨gb416, 2, none⟩ (.bool t410)).setCell ⟨gb416, 3, none⟩ (.int .u16 t411)).setCell ⟨gb416, 4, none⟩ (.int .u16 t412)).setCell ⟨gb416, 5, none⟩ (.slice Ao28 t413.length co28)).setCell ⟨gb416, 5, none⟩ (.slice none 0 0)).heap[gb407]? = some (.cells #[.int .u64 a0_0, .int .u64 a0_1, .bool true, .int .u16 a0_3, .int .u16 a0_4, .slice A0_5 l0_5.length c0_5] 34 (0, 0))) := ⟨by (with_reducible repeat (first | refine blk_drewN ?_ _ | refine blk_drew ?_ | refine blk_alloc ?_ _)); refine blk_far ?_ NB407_416.out _; (with_reducible repeat (first | refine blk_drewN ?_ _ | refine blk_drew ?_ | refine blk_alloc ?_ _)); refine blk_far ?_ NB407_416.out _; (with_reducible repeat (first | refine blk_drewN ?_ _ | refine blk_drew ?_ | refine blk_alloc ?_ _)); refine blk_far ?_ NB407_416.out _; (with_reducible repeat (first | refine blk_drewN ?_ _ | refine blk_drew ?_ | refine blk_alloc ?_ _)); refine blk_far ?_ NB407_416.out _; (with_reducible repeat (first | refine blk_drewN ?_ _ | refine blk_drew ?_ | refine blk_alloc ?_ _)); refine blk_far ?_ NB407_416.out _; (with_reducible repeat (first | refine blk_drewN ?_ _ | refine blk_drew ?_ | refine blk_alloc ?_ _)); refine blk_far ?_ NB407_416.out _; (with_reducible repeat (first | refine blk_drewN ?_ _ | refine blk_drew ?_ | refine blk_alloc ?_ _)); refine blk_far ?_ NB407_416.out _; (with_reducible repeat (first | refine blk_drewN ?_ _ | refine blk_drew ?_ | refine blk_alloc ?_ _)); exact BK407.out⟩
        have n2_ : Aside0 ((((((((w25.setCell ⟨gb416, 0, none⟩ (.int .u64 t408)).setCell ⟨gb416, 1, none⟩ (.int .u64 t409)).setCell ⟨gb416, 2, none⟩ (.bool t410)).setCell ⟨gb416, 3, none⟩ (.int .u16 t411)).setCell ⟨gb416, 4, none⟩ (.int .u16 t412)).setCell ⟨gb416, 5, none⟩ (.slice Ao28 t413.length co28)).setCell ⟨gb416, 5, none⟩ (.slice none 0 0)).heap[gb416]? = some (.cells #[.int .u64 t408, .int .u64 t409, .bool t410, .int .u16 t411, .int .u16 t412, .slice none 0 0] 39 (0, 0))) := ⟨by (with_reducible repeat (first | refine blk_drewN ?_ _ | refine blk_drew ?_ | refine blk_alloc ?_ _)); refine blk_put (cs := #[.int .u64 t408, .int .u64 t409, .bool t410, .int .u16 t411, .int .u16 t412, .slice Ao28 t413.length co28]) ?_ 5 _ rfl; (with_reducible repeat (first | refine blk_drewN ?_ _ | refine blk_drew ?_ | refine blk_alloc ?_ _)); refine blk_put (cs := #[.int .u64 t408, .int .u64 t409, .bool t410, .int .u16 t411, .int .u16 t412, .slice none 0 0]) ?_ 5 _ rfl; (with_reducible repeat (first | refine blk_drewN ?_ _ | refine blk_drew ?_ | refine blk_alloc ?_ _)); refine blk_put (cs := #[.int .u64 t408, .int .u64 t409, .bool t410, .int .u16 t411, .int .u16 0, .slice none 0 0]) ?_ 4 _ rfl; (with_reducible repeat (first | refine blk_drewN ?_ _ | refine blk_drew ?_ | refine blk_alloc ?_ _)); refine blk_put (cs := #[.int .u64 t408, .int .u64 t409, .bool t410, .int .u16 0, .int .u16 0, .slice none 0 0]) ?_ 3 _ rfl; (with_reducible repeat (first | refine blk_drewN ?_ _ | refine blk_drew ?_ | refine blk_alloc ?_ _)); refine blk_put (cs := #[.int .u64 t408, .int .u64 t409, .bool false, .int .u16 0, .int .u16 0, .slice none 0 0]) ?_ 2 _ rfl; (with_reducible repeat (first | refine blk_drewN ?_ _ | refine blk_drew ?_ | refine blk_alloc ?_ _)); refine blk_put (cs := #[.int .u64 t408, .int .u64 0, .bool false, .int .u16 0, .int .u16 0, .slice none 0 0]) ?_ 1 _ rfl; (with_reducible repeat (first | refine blk_drewN ?_ _ | refine blk_drew ?_ | refine blk_alloc ?_ _)); refine blk_put (cs := #[.int .u64 0, .int .u64 0, .bool false, .int .u16 0, .int .u16 0, .slice none 0 0]) ?_ 0 _ rfl; (with_reducible repeat (first | refine blk_drewN ?_ _ | refine blk_drew ?_ | refine blk_alloc ?_ _)); exact BK416.out⟩
        have n3_ : Aside0 (Below w.heap.size w (((((((w25.setCell ⟨gb416, 0, none⟩ (.int .u64 t408)).setCell ⟨gb416, 1, none⟩ (.int .u64 t409)).setCell ⟨gb416, 2, none⟩ (.bool t410)).setCell ⟨gb416, 3, none⟩ (.int .u16 t411)).setCell ⟨gb416, 4, none⟩ (.int .u16 t412)).setCell ⟨gb416, 5, none⟩ (.slice Ao28 t413.length co28)).setCell ⟨gb416, 5, none⟩ (.slice none 0 0))) := ⟨by repeat (first | (with_reducible first | exact HB.out | apply below_alloc | apply pw_below_drewN | apply below_drew1 | refine below_set ?_ GE407.out | refine below_set ?_ GE416.out) | exact HB.out)⟩
        (try clear HO415)
        (try clear BK407)
        (try clear BK416)
        (try clear HB)
        generalize (((((((w25.setCell ⟨gb416, 0, none⟩ (.int .u64 t408)).setCell ⟨gb416, 1, none⟩ (.int .u64 t409)).setCell ⟨gb416, 2, none⟩ (.bool t410)).setCell ⟨gb416, 3, none⟩ (.int .u16 t411)).setCell ⟨gb416, 4, none⟩ (.int .u16 t412)).setCell ⟨gb416, 5, none⟩ (.slice Ao28 t413.length co28)).setCell ⟨gb416, 5, none⟩ (.slice none 0 0)) = w30 at n0_ n1_ n2_ n3_ ⊢
        have HO415 := n0_
        have BK407 := n1_
        have BK416 := n2_
        have HB := n3_
        clear n0_ n1_ n2_ n3_
        have n0_ := Aside0.mk (Kd.R_drew HO415.out)
        have n1_ := Aside0.mk (blk_drew BK407.out)
        have n2_ := Aside0.mk (blk_drew BK416.out)
        have n3_ := Aside0.mk (below_drew1 HB.out)
        clear HO415
        clear BK407
        clear BK416
        clear HB
        have HO415 := n0_
        have BK407 := n1_
        have BK416 := n2_
        have HB := n3_
        clear n0_ n1_ n2_ n3_
        refine start_ (n := 17) (S := fun w' => w'.cell? ⟨gb416, 0, none⟩ = some (.int .u64 t408) ∧ w'.cell? ⟨gb416, 1, none⟩ = some (.int .u64 t409) ∧ w'.cell? ⟨gb416, 2, none⟩ = some (.bool t410) ∧ w'.cell? ⟨gb416, 3, none⟩ = some (.int .u16 t411) ∧ w'.cell? ⟨gb416, 4, none⟩ = some (.int .u16 t412) ∧ w'.cell? ⟨gb416, 5, none⟩ = some (.slice none 0 0) ∧ w'.cell? ⟨gb407, 0, none⟩ = some (.int .u64 a0_0) ∧ w'.cell? ⟨gb407, 1, none⟩ = some (.int .u64 a0_1) ∧ w'.cell? ⟨gb407, 2, none⟩ = some (.bool true) ∧ w'.cell? ⟨gb407, 3, none⟩ = some (.int .u16 a0_3) ∧ w'.cell? ⟨gb407, 4, none⟩ = some (.int .u16 a0_4) ∧ w'.cell? ⟨gb407, 5, none⟩ = some (.slice A0_5 l0_5.length c0_5)) (ds := []) #[false, false, false, false, false, false, false, false, false, false, false, false, false, false, false, false, false] (by kernel_rfl) rfl rfl ⟨(blk_cell BK416.out 0).trans rfl, (blk_cell BK416.out 1).trans rfl, (blk_cell BK416.out 2).trans rfl, (blk_cell BK416.out 3).trans rfl, (blk_cell BK416.out 4).trans rfl, (blk_cell BK416.out 5).trans rfl, (blk_cell BK407.out 0).trans rfl, (blk_cell BK407.out 1).trans rfl, (blk_cell BK407.out 2).trans rfl, (blk_cell BK407.out 3).trans rfl, (blk_cell BK407.out 4).trans rfl, (blk_cell BK407.out 5).trans rfl⟩ (fun hHeld => ?_); refine with_tabW patchbaylaw02_FrameTags.tab6 patchbaylaw02_FrameTags.bits6 (fun HT_ HW_ => ?_)
        generalize w30.drew = w31 at HO415 BK407 BK416 HB hHeld ⊢
        refine one_ (i := 0) (N := some 14) #[true, false, false, false, false, false, false, false, false, false, false, false, false, false, false, false, false] rfl rfl (one_of HT_.out (by kernel_rfl)) (by decide) (fun K hK => ?_)
        refine goes_ Try.func18 (by kernel_rfl) rfl #[] (by rfl) rfl rfl (by (try simp only [List.map_toArray, List.map_cons, List.map_nil]); first | done | rfl | (simp only [List.length_drop, List.length_take]; rfl)) ?_
        with_reducible refine (patchbaylaw02_told.calls k  true _ A4.out).mono ?_
        rintro e w32 ⟨rfl, hb⟩
        refine ⟨_, rfl, ?_⟩
        have n0_ := Aside0.mk (Kd.R_below (by (with_reducible repeat (first | apply Kd.R_alloc | apply Kd.R_drewN | apply Kd.R_drew)); exact HO415.out) hb)
        have n1_ := Aside0.mk (blk_below (g := gb407) (o := .cells #[.int .u64 a0_0, .int .u64 a0_1, .bool true, .int .u16 a0_3, .int .u16 a0_4, .slice A0_5 l0_5.length c0_5] 34 (0, 0)) (by (with_reducible repeat (first | refine blk_drewN ?_ _ | refine blk_drew ?_ | refine blk_alloc ?_ _)); exact BK407.out) hb)
        have n2_ := Aside0.mk (blk_below (g := gb416) (o := .cells #[.int .u64 t408, .int .u64 t409, .bool t410, .int .u16 t411, .int .u16 t412, .slice none 0 0] 39 (0, 0)) (by (with_reducible repeat (first | refine blk_drewN ?_ _ | refine blk_drew ?_ | refine blk_alloc ?_ _)); exact BK416.out) hb)
        have n3_ := Aside0.mk (below_step (by repeat (first | (with_reducible first | exact HB.out | apply below_alloc | apply pw_below_drewN | apply below_drew1 | refine below_set ?_ GE407.out | refine below_set ?_ GE416.out) | exact HB.out)) hb)
        clear HO415
        clear BK407
        clear BK416
        clear HB
        have HO415 := n0_
        have BK407 := n1_
        have BK416 := n2_
        have HB := n3_
        clear n0_ n1_ n2_ n3_
        (try clear hb)
        (try clear hb2)
        (try clear hk)
        (try clear hi)
        refine hK.out _ _ ⟨(blk_cell BK416.out 0).trans rfl, (blk_cell BK416.out 1).trans rfl, (blk_cell BK416.out 2).trans rfl, (blk_cell BK416.out 3).trans rfl, (blk_cell BK416.out 4).trans rfl, (blk_cell BK416.out 5).trans rfl, (blk_cell BK407.out 0).trans rfl, (blk_cell BK407.out 1).trans rfl, (blk_cell BK407.out 2).trans rfl, (blk_cell BK407.out 3).trans rfl, (blk_cell BK407.out 4).trans rfl, (blk_cell BK407.out 5).trans rfl⟩ (fun hHeld => ?_)
        clear hK K
        refine norm_ (a' := ?_) ?_ ?_
        rotate_left
        · show Act.put _ (some 14) _ = _
          simp only [Act.put, List.setIfInBounds_toArray, List.set_cons_zero, List.set_cons_succ, i64_w, i32_w]
          rfl
        refine pure_ (i := 1) (N := some 15) (v := ?_) (a' := ?_) #[true, true, false, false, false, false, false, false, false, false, false, false, false, false, false, false, false] rfl rfl (any_of HT_.out (by kernel_rfl)) (fun _ _ _ h => h) (Or.inl ⟨by rfl, ?_⟩) ?_ ?_
        rotate_left
        · intro w'
          go_simp
          with_reducible rfl
        rotate_left
        · simp only [Act.put, List.setIfInBounds_toArray, List.set_cons_zero, List.set_cons_succ, i64_w, i32_w]
          rfl
        refine pure_ (i := 4) (N := some 18) (v := ?_) (a' := ?_) #[true, true, false, false, true, false, false, false, false, false, false, false, false, false, false, false, false] rfl rfl (any_of HT_.out (by kernel_rfl)) (fun _ _ _ h => h) (Or.inl ⟨by rfl, ?_⟩) ?_ ?_
        rotate_left
        · intro w'
          go_simp
          with_reducible rfl
        rotate_left
        · simp only [Act.put, List.setIfInBounds_toArray, List.set_cons_zero, List.set_cons_succ, i64_w, i32_w]
          rfl
        refine take_ (i := 2) (N := some 16) (v := ?_) (a' := ?_) #[true, true, true, false, true, false, false, false, false, false, false, false, false, false, false, false, false] rfl rfl (take_ofW HT_.out HW_.out (by kernel_rfl)) (fun _ _ _ h => h) (Or.inl ⟨by rfl, ?_⟩) hHeld ?_ ?_
        rotate_left
        · rintro w' ⟨s0, s1, s2, s3, s4, s5, s6, s7, s8, s9, s10, s11⟩
          go_simp
          with_reducible rfl
        rotate_left
        · simp only [Act.put, List.setIfInBounds_toArray, List.set_cons_zero, List.set_cons_succ, i64_w, i32_w]
          rfl
        refine take_ (i := 5) (N := some 19) (v := ?_) (a' := ?_) #[true, true, true, false, true, true, false, false, false, false, false, false, false, false, false, false, false] rfl rfl (take_ofW HT_.out HW_.out (by kernel_rfl)) (fun _ _ _ h => h) (Or.inl ⟨by rfl, ?_⟩) hHeld ?_ ?_
        rotate_left
        · rintro w' ⟨s0, s1, s2, s3, s4, s5, s6, s7, s8, s9, s10, s11⟩
          go_simp
          with_reducible rfl
        rotate_left
        · simp only [Act.put, List.setIfInBounds_toArray, List.set_cons_zero, List.set_cons_succ, i64_w, i32_w]
          rfl
        refine pure_ (i := 6) (N := some 20) (v := ?_) (a' := ?_) #[true, true, true, false, true, true, true, false, false, false, false, false, false, false, false, false, false] rfl rfl (any_of HT_.out (by kernel_rfl)) (fun _ _ _ h => h) (Or.inl ⟨by rfl, ?_⟩) ?_ ?_
        rotate_left
        · intro w'
          go_simp
          with_reducible rfl
        rotate_left
        · simp only [Act.put, List.setIfInBounds_toArray, List.set_cons_zero, List.set_cons_succ, i64_w, i32_w]
          rfl
        refine pure_ (i := 7) (N := some 21) (v := ?_) (a' := ?_) #[true, true, true, false, true, true, true, true, false, false, false, false, false, false, false, false, false] rfl rfl (any_of HT_.out (by kernel_rfl)) (fun _ _ _ h => h) (Or.inl ⟨by rfl, ?_⟩) ?_ ?_
        rotate_left
        · intro w'
          go_simp
          with_reducible rfl
        rotate_left
        · simp only [Act.put, List.setIfInBounds_toArray, List.set_cons_zero, List.set_cons_succ, i64_w, i32_w]
          rfl
        refine one_ (i := 3) (N := some 17) #[true, true, true, true, true, true, true, true, false, false, false, false, false, false, false, false, false] rfl rfl (one_of HT_.out (by kernel_rfl)) (by decide) (fun K hK => ?_)
        refine goes_ Try.func23 (by kernel_rfl) rfl #[.agg #[.int .u64 t408, .int .u64 t409, .bool t410, .int .u16 t411, .int .u16 t412, .slice none 0 0]] (by rfl) rfl rfl (by (try simp only [List.map_toArray, List.map_cons, List.map_nil]); first | done | rfl | (simp only [List.length_drop, List.length_take]; rfl)) ?_
        refine (frame_Vid.calls t408 t409 t410 t411 t412 _ _ ([] : List Int) t418 _ ?side1 ?side2 A6.out).mono ?_
        (case side1 => exact Kd.C_nil _ _)
        (case side2 => exact Nat.le_refl _)
        rintro e w33 ⟨rfl, hb⟩
        refine ⟨_, rfl, ?_⟩
        have n0_ := Aside0.mk (Kd.R_below (by (with_reducible repeat (first | apply Kd.R_alloc | apply Kd.R_drewN | apply Kd.R_drew)); exact HO415.out) hb)
        have n1_ := Aside0.mk (blk_below (g := gb407) (o := .cells #[.int .u64 a0_0, .int .u64 a0_1, .bool true, .int .u16 a0_3, .int .u16 a0_4, .slice A0_5 l0_5.length c0_5] 34 (0, 0)) (by (with_reducible repeat (first | refine blk_drewN ?_ _ | refine blk_drew ?_ | refine blk_alloc ?_ _)); exact BK407.out) hb)
        have n2_ := Aside0.mk (blk_below (g := gb416) (o := .cells #[.int .u64 t408, .int .u64 t409, .bool t410, .int .u16 t411, .int .u16 t412, .slice none 0 0] 39 (0, 0)) (by (with_reducible repeat (first | refine blk_drewN ?_ _ | refine blk_drew ?_ | refine blk_alloc ?_ _)); exact BK416.out) hb)
        have n3_ := Aside0.mk (below_step (by repeat (first | (with_reducible first | exact HB.out | apply below_alloc | apply pw_below_drewN | apply below_drew1 | refine below_set ?_ GE407.out | refine below_set ?_ GE416.out) | exact HB.out)) hb)
        clear HO415
        clear BK407
        clear BK416
        clear HB
        have HO415 := n0_
        have BK407 := n1_
        have BK416 := n2_
        have HB := n3_
        clear n0_ n1_ n2_ n3_
        (try clear hb)
        (try clear hb2)
        (try clear hk)
        (try clear hi)
        refine hK.out _ _ ⟨(blk_cell BK416.out 0).trans rfl, (blk_cell BK416.out 1).trans rfl, (blk_cell BK416.out 2).trans rfl, (blk_cell BK416.out 3).trans rfl, (blk_cell BK416.out 4).trans rfl, (blk_cell BK416.out 5).trans rfl, (blk_cell BK407.out 0).trans rfl, (blk_cell BK407.out 1).trans rfl, (blk_cell BK407.out 2).trans rfl, (blk_cell BK407.out 3).trans rfl, (blk_cell BK407.out 4).trans rfl, (blk_cell BK407.out 5).trans rfl⟩ (fun hHeld => ?_)
        clear hK K
        refine norm_ (a' := ?_) ?_ ?_
        rotate_left
        · show Act.put _ (some 17) _ = _
          simp only [Act.put, List.setIfInBounds_toArray, List.set_cons_zero, List.set_cons_succ, i64_w, i32_w]
          rfl
        refine pure_ (i := 8) (N := some 22) (v := ?_) (a' := ?_) #[true, true, true, true, true, true, true, true, true, false, false, false, false, false, false, false, false] rfl rfl (any_of HT_.out (by kernel_rfl)) (fun _ _ _ h => h) (Or.inl ⟨by rfl, ?_⟩) ?_ ?_
        rotate_left
        · intro w'
          go_simp
          with_reducible rfl
        rotate_left
        · simp only [Act.put, List.setIfInBounds_toArray, List.set_cons_zero, List.set_cons_succ, i64_w, i32_w]
          rfl
        refine pure_ (i := 9) (N := some 23) (v := ?_) (a' := ?_) #[true, true, true, true, true, true, true, true, true, true, false, false, false, false, false, false, false] rfl rfl (any_of HT_.out (by kernel_rfl)) (fun _ _ _ h => h) (Or.inl ⟨by rfl, ?_⟩) ?_ ?_
        rotate_left
        · intro w'
          go_simp
          with_reducible rfl
        rotate_left
        · simp only [Act.put, List.setIfInBounds_toArray, List.set_cons_zero, List.set_cons_succ, i64_w, i32_w]
          rfl
        refine pure_ (i := 10) (N := some 24) (v := ?_) (a' := ?_) #[true, true, true, true, true, true, true, true, true, true, true, false, false, false, false, false, false] rfl rfl (any_of HT_.out (by kernel_rfl)) (fun _ _ _ h => h) (Or.inl ⟨by rfl, ?_⟩) ?_ ?_
        rotate_left
        · intro w'
          go_simp
          with_reducible rfl
        rotate_left
        · simp only [Act.put, List.setIfInBounds_toArray, List.set_cons_zero, List.set_cons_succ, i64_w, i32_w]
          rfl
        refine pure_ (i := 11) (N := some 25) (v := undef) (a' := ?_) #[true, true, true, true, true, true, true, true, true, true, true, true, false, false, false, false, false] rfl rfl (any_of HT_.out (by kernel_rfl)) (fun _ _ _ h => h) (Or.inr ⟨by rfl, rfl⟩) ?_ ?_
        rotate_left
        · simp only [Act.put, List.setIfInBounds_toArray, List.set_cons_zero, List.set_cons_succ, i64_w, i32_w]
          rfl
        refine pure_ (i := 12) (N := some 26) (v := undef) (a' := ?_) #[true, true, true, true, true, true, true, true, true, true, true, true, true, false, false, false, false] rfl rfl (any_of HT_.out (by kernel_rfl)) (fun _ _ _ h => h) (Or.inr ⟨by rfl, rfl⟩) ?_ ?_
        rotate_left
        · simp only [Act.put, List.setIfInBounds_toArray, List.set_cons_zero, List.set_cons_succ, i64_w, i32_w]
          rfl
        refine pure_ (i := 13) (N := some 27) (v := undef) (a' := ?_) #[true, true, true, true, true, true, true, true, true, true, true, true, true, true, false, false, false] rfl rfl (any_of HT_.out (by kernel_rfl)) (fun _ _ _ h => h) (Or.inr ⟨by rfl, rfl⟩) ?_ ?_
        rotate_left
        · simp only [Act.put, List.setIfInBounds_toArray, List.set_cons_zero, List.set_cons_succ, i64_w, i32_w]
          rfl
        refine pure_ (i := 14) (N := some 28) (v := undef) (a' := ?_) #[true, true, true, true, true, true, true, true, true, true, true, true, true, true, true, false, false] rfl rfl (any_of HT_.out (by kernel_rfl)) (fun _ _ _ h => h) (Or.inr ⟨by rfl, rfl⟩) ?_ ?_
        rotate_left
        · simp only [Act.put, List.setIfInBounds_toArray, List.set_cons_zero, List.set_cons_succ, i64_w, i32_w]
          rfl
        refine pure_ (i := 15) (N := some 29) (v := ?_) (a' := ?_) #[true, true, true, true, true, true, true, true, true, true, true, true, true, true, true, true, false] rfl rfl (any_of HT_.out (by kernel_rfl)) (fun _ _ _ h => h) (Or.inl ⟨by rfl, ?_⟩) ?_ ?_
        rotate_left
        · intro w'
          go_simp
          with_reducible rfl
        rotate_left
        · simp only [Act.put, List.setIfInBounds_toArray, List.set_cons_zero, List.set_cons_succ, i64_w, i32_w]
          rfl
        refine pure_ (i := 16) (N := some 2) (v := ?_) (a' := ?_) #[true, true, true, true, true, true, true, true, true, true, true, true, true, true, true, true, true] rfl rfl (any_of HT_.out (by kernel_rfl)) (fun _ _ _ h => h) (Or.inl ⟨by rfl, ?_⟩) ?_ ?_
        rotate_left
        · intro w'
          go_simp
          with_reducible rfl
        rotate_left
        · simp only [Act.put, List.setIfInBounds_toArray, List.set_cons_zero, List.set_cons_succ, i64_w, i32_w]
          rfl
        refine done_ (done_of HT_.out (by kernel_rfl)) ?_
        try go_wp2
        go_ret
        exact ⟨by first | rfl | (simp [errW_none, errW_some] <;> rfl) | (simp [*, errW_none, errW_some] <;> rfl), by repeat (first | (with_reducible first | exact HB.out | apply below_alloc | apply pw_below_drewN | apply below_drew1 | refine below_set ?_ GE407.out | refine below_set ?_ GE416.out) | exact HB.out)⟩
    · replace c5 := Bool.eq_false_iff.mpr c5
      subst c5
      have H1 : (some false) = some r := by rw [if_neg (show ¬ (false = true) by decide)] at H; exact H
      clear H
      have H := H1
      clear H1
      obtain rfl := Option.some.inj H
      go_enter Try.func7, Try.ntmps7
      try go_wp2_with (first | ((with_reducible refine gate_dst (N := 1) rfl ?_); refine box_event ?hg (N := 1) ?hd (cs := #[.int .u64 a0_0, .int .u64 a0_1, .bool true, .int .u16 a0_3, .int .u16 a0_4, .slice A0_5 l0_5.length c0_5]) (t := 34) ?hr ?_; (case hd => rfl); (case hg => rfl); (case hr => first | (go_simp; done) | (go_simp; rfl)); intro gb407 hg w34 hbox hb; have n0_ := Aside0.mk (below_step (by repeat (first | (with_reducible first | exact HB.out | apply below_alloc | apply pw_below_drewN | apply below_drew1) | exact HB.out)) hb); have n1_ := Aside0.mk (hbox); have n2_ := Aside0.mk ((by rw [hg]; exact (below_size (by repeat (first | (with_reducible first | exact HB.out | apply below_alloc | apply pw_below_drewN | apply below_drew1) | exact HB.out))) : w.heap.size ≤ gb407)); have n3_ := Aside0.mk ((by rw [hg]; exact (below_size (by repeat (first | (with_reducible first | exact HB.out | apply below_alloc | apply pw_below_drewN | apply below_drew1) | exact HB.out))) : w.heap.size ≤ gb407)); clear HB; have HB := n0_; have BK407 := n1_; have GW407 := n2_; have GE407 := n3_; clear n0_ n1_ n2_ n3_; clear hb hbox hg; have hcz35_0 : w34.cell? ⟨gb407, 0, none⟩ = some (.int .u64 a0_0) := (blk_cell BK407.out 0).trans rfl; have hcz35_1 : w34.cell? ⟨gb407, 1, none⟩ = some (.int .u64 a0_1) := (blk_cell BK407.out 1).trans rfl; have hcz35_2 : w34.cell? ⟨gb407, 2, none⟩ = some (.bool true) := (blk_cell BK407.out 2).trans rfl; have hcz35_3 : w34.cell? ⟨gb407, 3, none⟩ = some (.int .u16 a0_3) := (blk_cell BK407.out 3).trans rfl; have hcz35_4 : w34.cell? ⟨gb407, 4, none⟩ = some (.int .u16 a0_4) := (blk_cell BK407.out 4).trans rfl; have hcz35_5 : w34.cell? ⟨gb407, 5, none⟩ = some (.slice A0_5 l0_5.length c0_5) := (blk_cell BK407.out 5).trans rfl; have hfz35_0 := blk_frozen BK407.out 0; have hfz35_1 := blk_frozen BK407.out 1; have hfz35_2 := blk_frozen BK407.out 2; have hfz35_3 := blk_frozen BK407.out 3; have hfz35_4 := blk_frozen BK407.out 4; have hfz35_5 := blk_frozen BK407.out 5) | ((with_reducible refine gate_callee (f := 22) rfl ?_); refine goesL_ (some 6) rfl rfl Try.func22 (by kernel_rfl) rfl #[.agg #[.int .u64 a0_0, .int .u64 a0_1, .bool true, .int .u16 a0_3, .int .u16 a0_4, .slice A0_5 l0_5.length c0_5]] rfl (by (try simp only [List.map_toArray, List.map_cons, List.map_nil]); first | done | rfl | (simp only [List.length_drop, List.length_take]; rfl)) ?_; (with_reducible refine (patchbaylaw02_To.calls a0_0 a0_1 true a0_3 a0_4 _ _ l0_5 t408 t409 t410 t411 t412 t413 _ ?side1 ?side2 A2.out).mono ?_); (case side1 => repeat (first | exact (Kd.C_below HR0_5.out HB.out) | (with_reducible refine Kd.C_alloc ?_ _) | (with_reducible refine Kd.C_drewN ?_ _) | (with_reducible refine Kd.C_drew ?_))); (case side2 => exact HC0_5.out); rintro e w36 ⟨v414, rfl, ho0, hb⟩; refine ⟨_, rfl, ?_⟩; have n0_ := Aside0.mk (Kd.R_lower ho0 (below_size (by repeat (first | (with_reducible first | exact HB.out | apply below_alloc | apply pw_below_drewN | apply below_drew1 | refine below_set ?_ GE407.out) | exact HB.out)))); have n1_ := Aside0.mk (blk_below (g := gb407) (o := .cells #[.int .u64 a0_0, .int .u64 a0_1, .bool true, .int .u16 a0_3, .int .u16 a0_4, .slice A0_5 l0_5.length c0_5] 34 (0, 0)) (by (with_reducible repeat (first | refine blk_drewN ?_ _ | refine blk_drew ?_ | refine blk_alloc ?_ _)); exact BK407.out) hb); have n2_ := Aside0.mk (below_step (by repeat (first | (with_reducible first | exact HB.out | apply below_alloc | apply pw_below_drewN | apply below_drew1 | refine below_set ?_ GE407.out) | exact HB.out)) hb); clear BK407; clear HB; have HO415 := n0_; have BK407 := n1_; have HB := n2_; clear n0_ n1_ n2_; (try clear hb); (try clear hb2); (try clear hk); (try clear hi); (try clear ho0)) | ((with_reducible refine gate_dst (N := 3) rfl ?_); refine box_event ?hg (N := 3) ?hd (cs := #[.int .u64 0, .int .u64 0, .bool false, .int .u16 0, .int .u16 0, .slice none 0 0]) (t := 39) ?hr ?_; (case hd => rfl); (case hg => rfl); (case hr => first | (go_simp; done) | (go_simp; rfl)); intro gb416 hg w37 hbox hb; have n0_ := Aside0.mk (Kd.R_below (by (with_reducible repeat (first | apply Kd.R_alloc | apply Kd.R_drewN | apply Kd.R_drew)); exact HO415.out) hb); have n1_ := Aside0.mk (blk_below (g := gb407) (o := .cells #[.int .u64 a0_0, .int .u64 a0_1, .bool true, .int .u16 a0_3, .int .u16 a0_4, .slice A0_5 l0_5.length c0_5] 34 (0, 0)) (by (with_reducible repeat (first | refine blk_drewN ?_ _ | refine blk_drew ?_ | refine blk_alloc ?_ _)); exact BK407.out) hb); have n2_ := Aside0.mk (below_step (by repeat (first | (with_reducible first | exact HB.out | apply below_alloc | apply pw_below_drewN | apply below_drew1 | refine below_set ?_ GE407.out) | exact HB.out)) hb); have n3_ := Aside0.mk (hbox); have n4_ := Aside0.mk ((by rw [hg]; exact (below_size (by repeat (first | (with_reducible first | exact HB.out | apply below_alloc | apply pw_below_drewN | apply below_drew1 | refine below_set ?_ GE407.out) | exact HB.out))) : w.heap.size ≤ gb416)); have n5_ := Aside0.mk ((by rw [hg]; exact (below_size (by repeat (first | (with_reducible first | exact HB.out | apply below_alloc | apply pw_below_drewN | apply below_drew1 | refine below_set ?_ GE407.out) | exact HB.out))) : w.heap.size ≤ gb416)); have n6_ := Aside0.mk ((by rw [hg]; exact Nat.ne_of_lt (blk_lt (g := gb407) (o := .cells #[.int .u64 a0_0, .int .u64 a0_1, .bool true, .int .u16 a0_3, .int .u16 a0_4, .slice A0_5 l0_5.length c0_5] 34 (0, 0)) (by (with_reducible repeat (first | refine blk_drewN ?_ _ | refine blk_drew ?_ | refine blk_alloc ?_ _)); exact BK407.out)) : gb407 ≠ gb416)); have n7_ := Aside0.mk ((by rw [hg]; exact Nat.ne_of_gt (blk_lt (g := gb407) (o := .cells #[.int .u64 a0_0, .int .u64 a0_1, .bool true, .int .u16 a0_3, .int .u16 a0_4, .slice A0_5 l0_5.length c0_5] 34 (0, 0)) (by (with_reducible repeat (first | refine blk_drewN ?_ _ | refine blk_drew ?_ | refine blk_alloc ?_ _)); exact BK407.out)) : gb416 ≠ gb407)); clear HO415; clear BK407; clear HB; have HO415 := n0_; have BK407 := n1_; have HB := n2_; have BK416 := n3_; have GW416 := n4_; have GE416 := n5_; have NB407_416 := n6_; have NB416_407 := n7_; clear n0_ n1_ n2_ n3_ n4_ n5_ n6_ n7_; clear hb hbox hg; have hnb38 := NB416_407.out; have hnc38 := NB407_416.out; have hcz39_0 : w37.cell? ⟨gb416, 0, none⟩ = some (.int .u64 0) := (blk_cell BK416.out 0).trans rfl; have hcz39_1 : w37.cell? ⟨gb416, 1, none⟩ = some (.int .u64 0) := (blk_cell BK416.out 1).trans rfl; have hcz39_2 : w37.cell? ⟨gb416, 2, none⟩ = some (.bool false) := (blk_cell BK416.out 2).trans rfl; have hcz39_3 : w37.cell? ⟨gb416, 3, none⟩ = some (.int .u16 0) := (blk_cell BK416.out 3).trans rfl; have hcz39_4 : w37.cell? ⟨gb416, 4, none⟩ = some (.int .u16 0) := (blk_cell BK416.out 4).trans rfl; have hcz39_5 : w37.cell? ⟨gb416, 5, none⟩ = some (.slice none 0 0) := (blk_cell BK416.out 5).trans rfl; have hfz39_0 := blk_frozen BK416.out 0; have hfz39_1 := blk_frozen BK416.out 1; have hfz39_2 := blk_frozen BK416.out 2; have hfz39_3 := blk_frozen BK416.out 3; have hfz39_4 := blk_frozen BK416.out 4; have hfz39_5 := blk_frozen BK416.out 5; obtain ⟨Ao40, co40, eo40⟩ := Kd.R_slice HO415.out; subst eo40; have hcz41_0 : w37.cell? ⟨gb407, 0, none⟩ = some (.int .u64 a0_0) := (blk_cell BK407.out 0).trans rfl; have hcz41_1 : w37.cell? ⟨gb407, 1, none⟩ = some (.int .u64 a0_1) := (blk_cell BK407.out 1).trans rfl; have hcz41_2 : w37.cell? ⟨gb407, 2, none⟩ = some (.bool true) := (blk_cell BK407.out 2).trans rfl; have hcz41_3 : w37.cell? ⟨gb407, 3, none⟩ = some (.int .u16 a0_3) := (blk_cell BK407.out 3).trans rfl; have hcz41_4 : w37.cell? ⟨gb407, 4, none⟩ = some (.int .u16 a0_4) := (blk_cell BK407.out 4).trans rfl; have hcz41_5 : w37.cell? ⟨gb407, 5, none⟩ = some (.slice A0_5 l0_5.length c0_5) := (blk_cell BK407.out 5).trans rfl; have hfz41_0 := blk_frozen BK407.out 0; have hfz41_1 := blk_frozen BK407.out 1; have hfz41_2 := blk_frozen BK407.out 2; have hfz41_3 := blk_frozen BK407.out 3; have hfz41_4 := blk_frozen BK407.out 4; have hfz41_5 := blk_frozen BK407.out 5))
      have n0_ : Aside0 (Kd.R (Kd.int .u8) 5 (((((((w37.setCell ⟨gb416, 0, none⟩ (.int .u64 t408)).setCell ⟨gb416, 1, none⟩ (.int .u64 t409)).setCell ⟨gb416, 2, none⟩ (.bool t410)).setCell ⟨gb416, 3, none⟩ (.int .u16 t411)).setCell ⟨gb416, 4, none⟩ (.int .u16 t412)).setCell ⟨gb416, 5, none⟩ (.slice Ao40 t413.length co40)).setCell ⟨gb416, 5, none⟩ (.slice none 0 0)) w.heap.size (fun _ => True) (.slice Ao40 t413.length co40) t413) := ⟨by (with_reducible repeat (first | apply Kd.R_alloc | apply Kd.R_drewN | apply Kd.R_drew)); exact Kd.R_mono (Kd.R_far (p := ⟨gb416, 5, none⟩) (Kd.R_far (p := ⟨gb416, 5, none⟩) (Kd.R_far (p := ⟨gb416, 4, none⟩) (Kd.R_far (p := ⟨gb416, 3, none⟩) (Kd.R_far (p := ⟨gb416, 2, none⟩) (Kd.R_far (p := ⟨gb416, 1, none⟩) (Kd.R_far (p := ⟨gb416, 0, none⟩) (Kd.R_types HO415.out BK416.out (by decide)) (fun _ hk => hk.2) (.int .u64 t408)) (fun _ hk => hk.2) (.int .u64 t409)) (fun _ hk => hk.2) (.bool t410)) (fun _ hk => hk.2) (.int .u16 t411)) (fun _ hk => hk.2) (.int .u16 t412)) (fun _ hk => hk.2) (.slice Ao40 t413.length co40)) (fun _ hk => hk.2) (.slice none 0 0)) (fun _ hk => trivial)⟩
      have n1_ : Aside0 ((((((((w37.setCell ⟨gb416, 0, none⟩ (.int .u64 t408)).setCell ⟨gb416, 1, none⟩ (.int .u64 t409)).setCell ⟨gb416, 2, none⟩ (.bool t410)).setCell ⟨gb416, 3, none⟩ (.int .u16 t411)).setCell ⟨gb416, 4, none⟩ (.int .u16 t412)).setCell ⟨gb416, 5, none⟩ (.slice Ao40 t413.length co40)).setCell ⟨gb416, 5, none⟩ (.slice none 0 0)).heap[gb407]? = some (.cells #[.int .u64 a0_0, .int .u64 a0_1, .bool true, .int .u16 a0_3, .int .u16 a0_4, .slice A0_5 l0_5.length c0_5] 34 (0, 0))) := ⟨by (with_reducible repeat (first | refine blk_drewN ?_ _ | refine blk_drew ?_ | refine blk_alloc ?_ _)); refine blk_far ?_ NB407_416.out _; (with_reducible repeat (first | refine blk_drewN ?_ _ | refine blk_drew ?_ | refine blk_alloc ?_ _)); refine blk_far ?_ NB407_416.out _; (with_reducible repeat (first | refine blk_drewN ?_ _ | refine blk_drew ?_ | refine blk_alloc ?_ _)); refine blk_far ?_ NB407_416.out _; (with_reducible repeat (first | refine blk_drewN ?_ _ | refine blk_drew ?_ | refine blk_alloc ?_ _)); refine blk_far ?_ NB407_416.out _; (with_reducible repeat (first | refine blk_drewN ?_ _ | refine blk_drew ?_ | refine blk_alloc ?_ _)); refine blk_far ?_ NB407_416.out _; (with_reducible repeat (first | refine blk_drewN ?_ _ | refine blk_drew ?_ | refine blk_alloc ?_ _)); refine blk_far ?_ NB407_416.out _; (with_reducible repeat (first | refine blk_drewN ?_ _ | refine blk_drew ?_ | refine blk_alloc ?_ _)); refine blk_far ?_ NB407_416.out _; (with_reducible repeat (first | refine blk_drewN ?_ _ | refine blk_drew ?_ | refine blk_alloc ?_ _)); exact BK407.out⟩
      have n2_ : Aside0 ((((((((w37.setCell ⟨gb416, 0, none⟩ (.int .u64 t408)).setCell ⟨gb416, 1, none⟩ (.int .u64 t409)).setCell ⟨gb416, 2, none⟩ (.bool t410)).setCell ⟨gb416, 3, none⟩ (.int .u16 t411)).setCell ⟨gb416, 4, none⟩ (.int .u16 t412)).setCell ⟨gb416, 5, none⟩ (.slice Ao40 t413.length co40)).setCell ⟨gb416, 5, none⟩ (.slice none 0 0)).heap[gb416]? = some (.cells #[.int .u64 t408, .int .u64 t409, .bool t410, .int .u16 t411, .int .u16 t412, .slice none 0 0] 39 (0, 0))) := ⟨by (with_reducible repeat (first | refine blk_drewN ?_ _ | refine blk_drew ?_ | refine blk_alloc ?_ _)); refine blk_put (cs := #[.int .u64 t408, .int .u64 t409, .bool t410, .int .u16 t411, .int .u16 t412, .slice Ao40 t413.length co40]) ?_ 5 _ rfl; (with_reducible repeat (first | refine blk_drewN ?_ _ | refine blk_drew ?_ | refine blk_alloc ?_ _)); refine blk_put (cs := #[.int .u64 t408, .int .u64 t409, .bool t410, .int .u16 t411, .int .u16 t412, .slice none 0 0]) ?_ 5 _ rfl; (with_reducible repeat (first | refine blk_drewN ?_ _ | refine blk_drew ?_ | refine blk_alloc ?_ _)); refine blk_put (cs := #[.int .u64 t408, .int .u64 t409, .bool t410, .int .u16 t411, .int .u16 0, .slice none 0 0]) ?_ 4 _ rfl; (with_reducible repeat (first | refine blk_drewN ?_ _ | refine blk_drew ?_ | refine blk_alloc ?_ _)); refine blk_put (cs := #[.int .u64 t408, .int .u64 t409, .bool t410, .int .u16 0, .int .u16 0, .slice none 0 0]) ?_ 3 _ rfl; (with_reducible repeat (first | refine blk_drewN ?_ _ | refine blk_drew ?_ | refine blk_alloc ?_ _)); refine blk_put (cs := #[.int .u64 t408, .int .u64 t409, .bool false, .int .u16 0, .int .u16 0, .slice none 0 0]) ?_ 2 _ rfl; (with_reducible repeat (first | refine blk_drewN ?_ _ | refine blk_drew ?_ | refine blk_alloc ?_ _)); refine blk_put (cs := #[.int .u64 t408, .int .u64 0, .bool false, .int .u16 0, .int .u16 0, .slice none 0 0]) ?_ 1 _ rfl; (with_reducible repeat (first | refine blk_drewN ?_ _ | refine blk_drew ?_ | refine blk_alloc ?_ _)); refine blk_put (cs := #[.int .u64 0, .int .u64 0, .bool false, .int .u16 0, .int .u16 0, .slice none 0 0]) ?_ 0 _ rfl; (with_reducible repeat (first | refine blk_drewN ?_ _ | refine blk_drew ?_ | refine blk_alloc ?_ _)); exact BK416.out⟩
      have n3_ : Aside0 (Below w.heap.size w (((((((w37.setCell ⟨gb416, 0, none⟩ (.int .u64 t408)).setCell ⟨gb416, 1, none⟩ (.int .u64 t409)).setCell ⟨gb416, 2, none⟩ (.bool t410)).setCell ⟨gb416, 3, none⟩ (.int .u16 t411)).setCell ⟨gb416, 4, none⟩ (.int .u16 t412)).setCell ⟨gb416, 5, none⟩ (.slice Ao40 t413.length co40)).setCell ⟨gb416, 5, none⟩ (.slice none 0 0))) := ⟨by repeat (first | (with_reducible first | exact HB.out | apply below_alloc | apply pw_below_drewN | apply below_drew1 | refine below_set ?_ GE407.out | refine below_set ?_ GE416.out) | exact HB.out)⟩
      (try clear HO415)
      (try clear BK407)
      (try clear BK416)
      (try clear HB)
      generalize (((((((w37.setCell ⟨gb416, 0, none⟩ (.int .u64 t408)).setCell ⟨gb416, 1, none⟩ (.int .u64 t409)).setCell ⟨gb416, 2, none⟩ (.bool t410)).setCell ⟨gb416, 3, none⟩ (.int .u16 t411)).setCell ⟨gb416, 4, none⟩ (.int .u16 t412)).setCell ⟨gb416, 5, none⟩ (.slice Ao40 t413.length co40)).setCell ⟨gb416, 5, none⟩ (.slice none 0 0)) = w42 at n0_ n1_ n2_ n3_ ⊢
      have HO415 := n0_
      have BK407 := n1_
      have BK416 := n2_
      have HB := n3_
      clear n0_ n1_ n2_ n3_
      have n0_ := Aside0.mk (Kd.R_drew HO415.out)
      have n1_ := Aside0.mk (blk_drew BK407.out)
      have n2_ := Aside0.mk (blk_drew BK416.out)
      have n3_ := Aside0.mk (below_drew1 HB.out)
      clear HO415
      clear BK407
      clear BK416
      clear HB
      have HO415 := n0_
      have BK407 := n1_
      have BK416 := n2_
      have HB := n3_
      clear n0_ n1_ n2_ n3_
      refine start_ (n := 17) (S := fun w' => True) (ds := []) #[false, false, false, false, false, false, false, false, false, false, false, false, false, false, false, false, false] (by kernel_rfl) rfl rfl trivial (fun hHeld => ?_); refine with_tabW patchbaylaw02_FrameTags.tab6 patchbaylaw02_FrameTags.bits6 (fun HT_ HW_ => ?_)
      generalize w42.drew = w43 at HO415 BK407 BK416 HB hHeld ⊢
      refine one_ (i := 0) (N := some 14) #[true, false, false, false, false, false, false, false, false, false, false, false, false, false, false, false, false] rfl rfl (one_of HT_.out (by kernel_rfl)) (by decide) (fun K hK => ?_)
      refine goes_ Try.func18 (by kernel_rfl) rfl #[] (by rfl) rfl rfl (by (try simp only [List.map_toArray, List.map_cons, List.map_nil]); first | done | rfl | (simp only [List.length_drop, List.length_take]; rfl)) ?_
      with_reducible refine (patchbaylaw02_told.calls k  false _ A4.out).mono ?_
      rintro e w44 ⟨rfl, hb⟩
      refine ⟨_, rfl, ?_⟩
      have n0_ := Aside0.mk (Kd.R_below (by (with_reducible repeat (first | apply Kd.R_alloc | apply Kd.R_drewN | apply Kd.R_drew)); exact HO415.out) hb)
      have n1_ := Aside0.mk (blk_below (g := gb407) (o := .cells #[.int .u64 a0_0, .int .u64 a0_1, .bool true, .int .u16 a0_3, .int .u16 a0_4, .slice A0_5 l0_5.length c0_5] 34 (0, 0)) (by (with_reducible repeat (first | refine blk_drewN ?_ _ | refine blk_drew ?_ | refine blk_alloc ?_ _)); exact BK407.out) hb)
      have n2_ := Aside0.mk (blk_below (g := gb416) (o := .cells #[.int .u64 t408, .int .u64 t409, .bool t410, .int .u16 t411, .int .u16 t412, .slice none 0 0] 39 (0, 0)) (by (with_reducible repeat (first | refine blk_drewN ?_ _ | refine blk_drew ?_ | refine blk_alloc ?_ _)); exact BK416.out) hb)
      have n3_ := Aside0.mk (below_step (by repeat (first | (with_reducible first | exact HB.out | apply below_alloc | apply pw_below_drewN | apply below_drew1 | refine below_set ?_ GE407.out | refine below_set ?_ GE416.out) | exact HB.out)) hb)
      clear HO415
      clear BK407
      clear BK416
      clear HB
      have HO415 := n0_
      have BK407 := n1_
      have BK416 := n2_
      have HB := n3_
      clear n0_ n1_ n2_ n3_
      (try clear hb)
      (try clear hb2)
      (try clear hk)
      (try clear hi)
      refine hK.out _ _ trivial (fun hHeld => ?_)
      clear hK K
      refine norm_ (a' := ?_) ?_ ?_
      rotate_left
      · show Act.put _ (some 14) _ = _
        simp only [Act.put, List.setIfInBounds_toArray, List.set_cons_zero, List.set_cons_succ, i64_w, i32_w]
        rfl
      refine pure_ (i := 1) (N := some 15) (v := ?_) (a' := ?_) #[true, true, false, false, false, false, false, false, false, false, false, false, false, false, false, false, false] rfl rfl (any_of HT_.out (by kernel_rfl)) (fun _ _ _ h => h) (Or.inl ⟨by rfl, ?_⟩) ?_ ?_
      rotate_left
      · intro w'
        go_simp
        with_reducible rfl
      rotate_left
      · simp only [Act.put, List.setIfInBounds_toArray, List.set_cons_zero, List.set_cons_succ, i64_w, i32_w]
        rfl
      refine pure_ (i := 2) (N := some 16) (v := undef) (a' := ?_) #[true, true, true, false, false, false, false, false, false, false, false, false, false, false, false, false, false] rfl rfl (any_of HT_.out (by kernel_rfl)) (fun _ _ _ h => h) (Or.inr ⟨by rfl, rfl⟩) ?_ ?_
      rotate_left
      · simp only [Act.put, List.setIfInBounds_toArray, List.set_cons_zero, List.set_cons_succ, i64_w, i32_w]
        rfl
      refine pure_ (i := 3) (N := some 17) (v := undef) (a' := ?_) #[true, true, true, true, false, false, false, false, false, false, false, false, false, false, false, false, false] rfl rfl (any_of HT_.out (by kernel_rfl)) (fun _ _ _ h => h) (Or.inr ⟨by rfl, rfl⟩) ?_ ?_
      rotate_left
      · simp only [Act.put, List.setIfInBounds_toArray, List.set_cons_zero, List.set_cons_succ, i64_w, i32_w]
        rfl
      refine pure_ (i := 4) (N := some 18) (v := undef) (a' := ?_) #[true, true, true, true, true, false, false, false, false, false, false, false, false, false, false, false, false] rfl rfl (any_of HT_.out (by kernel_rfl)) (fun _ _ _ h => h) (Or.inr ⟨by rfl, rfl⟩) ?_ ?_
      rotate_left
      · simp only [Act.put, List.setIfInBounds_toArray, List.set_cons_zero, List.set_cons_succ, i64_w, i32_w]
        rfl
      refine pure_ (i := 5) (N := some 19) (v := undef) (a' := ?_) #[true, true, true, true, true, true, false, false, false, false, false, false, false, false, false, false, false] rfl rfl (any_of HT_.out (by kernel_rfl)) (fun _ _ _ h => h) (Or.inr ⟨by rfl, rfl⟩) ?_ ?_
      rotate_left
      · simp only [Act.put, List.setIfInBounds_toArray, List.set_cons_zero, List.set_cons_succ, i64_w, i32_w]
        rfl
      refine pure_ (i := 6) (N := some 20) (v := undef) (a' := ?_) #[true, true, true, true, true, true, true, false, false, false, false, false, false, false, false, false, false] rfl rfl (any_of HT_.out (by kernel_rfl)) (fun _ _ _ h => h) (Or.inr ⟨by rfl, rfl⟩) ?_ ?_
      rotate_left
      · simp only [Act.put, List.setIfInBounds_toArray, List.set_cons_zero, List.set_cons_succ, i64_w, i32_w]
        rfl
      refine pure_ (i := 7) (N := some 21) (v := undef) (a' := ?_) #[true, true, true, true, true, true, true, true, false, false, false, false, false, false, false, false, false] rfl rfl (any_of HT_.out (by kernel_rfl)) (fun _ _ _ h => h) (Or.inr ⟨by rfl, rfl⟩) ?_ ?_
      rotate_left
      · simp only [Act.put, List.setIfInBounds_toArray, List.set_cons_zero, List.set_cons_succ, i64_w, i32_w]
        rfl
      refine pure_ (i := 8) (N := some 22) (v := undef) (a' := ?_) #[true, true, true, true, true, true, true, true, true, false, false, false, false, false, false, false, false] rfl rfl (any_of HT_.out (by kernel_rfl)) (fun _ _ _ h => h) (Or.inr ⟨by rfl, rfl⟩) ?_ ?_
      rotate_left
      · simp only [Act.put, List.setIfInBounds_toArray, List.set_cons_zero, List.set_cons_succ, i64_w, i32_w]
        rfl
      refine pure_ (i := 9) (N := some 23) (v := ?_) (a' := ?_) #[true, true, true, true, true, true, true, true, true, true, false, false, false, false, false, false, false] rfl rfl (any_of HT_.out (by kernel_rfl)) (fun _ _ _ h => h) (Or.inl ⟨by rfl, ?_⟩) ?_ ?_
      rotate_left
      · intro w'
        go_simp
        with_reducible rfl
      rotate_left
      · simp only [Act.put, List.setIfInBounds_toArray, List.set_cons_zero, List.set_cons_succ, i64_w, i32_w]
        rfl
      refine pure_ (i := 10) (N := some 24) (v := ?_) (a' := ?_) #[true, true, true, true, true, true, true, true, true, true, true, false, false, false, false, false, false] rfl rfl (any_of HT_.out (by kernel_rfl)) (fun _ _ _ h => h) (Or.inl ⟨by rfl, ?_⟩) ?_ ?_
      rotate_left
      · intro w'
        go_simp
        with_reducible rfl
      rotate_left
      · simp only [Act.put, List.setIfInBounds_toArray, List.set_cons_zero, List.set_cons_succ, i64_w, i32_w]
        rfl
      refine pure_ (i := 11) (N := some 25) (v := undef) (a' := ?_) #[true, true, true, true, true, true, true, true, true, true, true, true, false, false, false, false, false] rfl rfl (any_of HT_.out (by kernel_rfl)) (fun _ _ _ h => h) (Or.inr ⟨by rfl, rfl⟩) ?_ ?_
      rotate_left
      · simp only [Act.put, List.setIfInBounds_toArray, List.set_cons_zero, List.set_cons_succ, i64_w, i32_w]
        rfl
      refine pure_ (i := 12) (N := some 26) (v := undef) (a' := ?_) #[true, true, true, true, true, true, true, true, true, true, true, true, true, false, false, false, false] rfl rfl (any_of HT_.out (by kernel_rfl)) (fun _ _ _ h => h) (Or.inr ⟨by rfl, rfl⟩) ?_ ?_
      rotate_left
      · simp only [Act.put, List.setIfInBounds_toArray, List.set_cons_zero, List.set_cons_succ, i64_w, i32_w]
        rfl
      refine pure_ (i := 13) (N := some 27) (v := undef) (a' := ?_) #[true, true, true, true, true, true, true, true, true, true, true, true, true, true, false, false, false] rfl rfl (any_of HT_.out (by kernel_rfl)) (fun _ _ _ h => h) (Or.inr ⟨by rfl, rfl⟩) ?_ ?_
      rotate_left
      · simp only [Act.put, List.setIfInBounds_toArray, List.set_cons_zero, List.set_cons_succ, i64_w, i32_w]
        rfl
      refine pure_ (i := 14) (N := some 28) (v := undef) (a' := ?_) #[true, true, true, true, true, true, true, true, true, true, true, true, true, true, true, false, false] rfl rfl (any_of HT_.out (by kernel_rfl)) (fun _ _ _ h => h) (Or.inr ⟨by rfl, rfl⟩) ?_ ?_
      rotate_left
      · simp only [Act.put, List.setIfInBounds_toArray, List.set_cons_zero, List.set_cons_succ, i64_w, i32_w]
        rfl
      refine pure_ (i := 15) (N := some 29) (v := ?_) (a' := ?_) #[true, true, true, true, true, true, true, true, true, true, true, true, true, true, true, true, false] rfl rfl (any_of HT_.out (by kernel_rfl)) (fun _ _ _ h => h) (Or.inl ⟨by rfl, ?_⟩) ?_ ?_
      rotate_left
      · intro w'
        go_simp
        with_reducible rfl
      rotate_left
      · simp only [Act.put, List.setIfInBounds_toArray, List.set_cons_zero, List.set_cons_succ, i64_w, i32_w]
        rfl
      refine pure_ (i := 16) (N := some 2) (v := ?_) (a' := ?_) #[true, true, true, true, true, true, true, true, true, true, true, true, true, true, true, true, true] rfl rfl (any_of HT_.out (by kernel_rfl)) (fun _ _ _ h => h) (Or.inl ⟨by rfl, ?_⟩) ?_ ?_
      rotate_left
      · intro w'
        go_simp
        with_reducible rfl
      rotate_left
      · simp only [Act.put, List.setIfInBounds_toArray, List.set_cons_zero, List.set_cons_succ, i64_w, i32_w]
        rfl
      refine done_ (done_of HT_.out (by kernel_rfl)) ?_
      try go_wp2
      go_ret
      exact ⟨by first | rfl | (simp [errW_none, errW_some] <;> rfl) | (simp [*, errW_none, errW_some] <;> rfl), by repeat (first | (with_reducible first | exact HB.out | apply below_alloc | apply pw_below_drewN | apply below_drew1 | refine below_set ?_ GE407.out | refine below_set ?_ GE416.out) | exact HB.out)⟩
  · replace c3 := Bool.eq_false_iff.mpr c3
    subst c3
    have H1 : ((patchbaylaw02_told.f k).bind fun t420 => (if t420 = true then ((frame_Vid.f t408 t409 t410 t411 t412 ([] : List Int)).bind fun t421 => (if t421 = (wrap64 (Int.tmod a0_3 4096)) then ((frame_Prio.f t408 t409 t410 t411 t412 ([] : List Int)).bind fun t422 => (some (t422 == 0))) else (some false))) else (some false))) = some r := by rw [if_neg (show ¬ (false = true) by decide)] at H; exact H
    clear H
    have H := H1
    clear H1
    replace H := Option.bind_eq_some_iff.mp H
    obtain ⟨t420, A450, H⟩ := H
    replace H : (if t420 = true then ((frame_Vid.f t408 t409 t410 t411 t412 ([] : List Int)).bind fun t421 => (if t421 = (wrap64 (Int.tmod a0_3 4096)) then ((frame_Prio.f t408 t409 t410 t411 t412 ([] : List Int)).bind fun t422 => (some (t422 == 0))) else (some false))) else (some false)) = some r := H
    have A45 := Aside0.mk A450
    clear A450
    by_cases c46 : t420 = true
    · subst c46
      have H1 : ((frame_Vid.f t408 t409 t410 t411 t412 ([] : List Int)).bind fun t421 => (if t421 = (wrap64 (Int.tmod a0_3 4096)) then ((frame_Prio.f t408 t409 t410 t411 t412 ([] : List Int)).bind fun t422 => (some (t422 == 0))) else (some false))) = some r := by rw [if_pos rfl] at H; exact H
      clear H
      have H := H1
      clear H1
      replace H := Option.bind_eq_some_iff.mp H
      obtain ⟨t421, A470, H⟩ := H
      replace H : (if t421 = (wrap64 (Int.tmod a0_3 4096)) then ((frame_Prio.f t408 t409 t410 t411 t412 ([] : List Int)).bind fun t422 => (some (t422 == 0))) else (some false)) = some r := H
      have A47 := Aside0.mk A470
      clear A470
      by_cases c48 : t421 = (wrap64 (Int.tmod a0_3 4096))
      · rw [if_pos c48] at H
        have c48b0 : (t421 == (wrap64 (Int.tmod a0_3 4096))) = true := beq_iff_eq.mpr c48
        have c48b1 : (t421 != (wrap64 (Int.tmod a0_3 4096))) = false := bne_eq_false_iff_eq.mpr c48
        clear c48
        replace H := Option.bind_eq_some_iff.mp H
        obtain ⟨t422, A490, H⟩ := H
        replace H : (some (t422 == 0)) = some r := H
        have A49 := Aside0.mk A490
        clear A490
        obtain rfl := Option.some.inj H
        go_enter Try.func7, Try.ntmps7
        try go_wp2_with (first | ((with_reducible refine gate_dst (N := 1) rfl ?_); refine box_event ?hg (N := 1) ?hd (cs := #[.int .u64 a0_0, .int .u64 a0_1, .bool false, .int .u16 a0_3, .int .u16 a0_4, .slice A0_5 l0_5.length c0_5]) (t := 34) ?hr ?_; (case hd => rfl); (case hg => rfl); (case hr => first | (go_simp; done) | (go_simp; rfl)); intro gb407 hg w50 hbox hb; have n0_ := Aside0.mk (below_step (by repeat (first | (with_reducible first | exact HB.out | apply below_alloc | apply pw_below_drewN | apply below_drew1) | exact HB.out)) hb); have n1_ := Aside0.mk (hbox); have n2_ := Aside0.mk ((by rw [hg]; exact (below_size (by repeat (first | (with_reducible first | exact HB.out | apply below_alloc | apply pw_below_drewN | apply below_drew1) | exact HB.out))) : w.heap.size ≤ gb407)); have n3_ := Aside0.mk ((by rw [hg]; exact (below_size (by repeat (first | (with_reducible first | exact HB.out | apply below_alloc | apply pw_below_drewN | apply below_drew1) | exact HB.out))) : w.heap.size ≤ gb407)); clear HB; have HB := n0_; have BK407 := n1_; have GW407 := n2_; have GE407 := n3_; clear n0_ n1_ n2_ n3_; clear hb hbox hg; have hcz51_0 : w50.cell? ⟨gb407, 0, none⟩ = some (.int .u64 a0_0) := (blk_cell BK407.out 0).trans rfl; have hcz51_1 : w50.cell? ⟨gb407, 1, none⟩ = some (.int .u64 a0_1) := (blk_cell BK407.out 1).trans rfl; have hcz51_2 : w50.cell? ⟨gb407, 2, none⟩ = some (.bool false) := (blk_cell BK407.out 2).trans rfl; have hcz51_3 : w50.cell? ⟨gb407, 3, none⟩ = some (.int .u16 a0_3) := (blk_cell BK407.out 3).trans rfl; have hcz51_4 : w50.cell? ⟨gb407, 4, none⟩ = some (.int .u16 a0_4) := (blk_cell BK407.out 4).trans rfl; have hcz51_5 : w50.cell? ⟨gb407, 5, none⟩ = some (.slice A0_5 l0_5.length c0_5) := (blk_cell BK407.out 5).trans rfl; have hfz51_0 := blk_frozen BK407.out 0; have hfz51_1 := blk_frozen BK407.out 1; have hfz51_2 := blk_frozen BK407.out 2; have hfz51_3 := blk_frozen BK407.out 3; have hfz51_4 := blk_frozen BK407.out 4; have hfz51_5 := blk_frozen BK407.out 5) | ((with_reducible refine gate_callee (f := 22) rfl ?_); refine goesL_ (some 6) rfl rfl Try.func22 (by kernel_rfl) rfl #[.agg #[.int .u64 a0_0, .int .u64 a0_1, .bool false, .int .u16 a0_3, .int .u16 a0_4, .slice A0_5 l0_5.length c0_5]] rfl (by (try simp only [List.map_toArray, List.map_cons, List.map_nil]); first | done | rfl | (simp only [List.length_drop, List.length_take]; rfl)) ?_; (with_reducible refine (patchbaylaw02_To.calls a0_0 a0_1 false a0_3 a0_4 _ _ l0_5 t408 t409 t410 t411 t412 t413 _ ?side1 ?side2 A2.out).mono ?_); (case side1 => repeat (first | exact (Kd.C_below HR0_5.out HB.out) | (with_reducible refine Kd.C_alloc ?_ _) | (with_reducible refine Kd.C_drewN ?_ _) | (with_reducible refine Kd.C_drew ?_))); (case side2 => exact HC0_5.out); rintro e w52 ⟨v414, rfl, ho0, hb⟩; refine ⟨_, rfl, ?_⟩; have n0_ := Aside0.mk (Kd.R_lower ho0 (below_size (by repeat (first | (with_reducible first | exact HB.out | apply below_alloc | apply pw_below_drewN | apply below_drew1 | refine below_set ?_ GE407.out) | exact HB.out)))); have n1_ := Aside0.mk (blk_below (g := gb407) (o := .cells #[.int .u64 a0_0, .int .u64 a0_1, .bool false, .int .u16 a0_3, .int .u16 a0_4, .slice A0_5 l0_5.length c0_5] 34 (0, 0)) (by (with_reducible repeat (first | refine blk_drewN ?_ _ | refine blk_drew ?_ | refine blk_alloc ?_ _)); exact BK407.out) hb); have n2_ := Aside0.mk (below_step (by repeat (first | (with_reducible first | exact HB.out | apply below_alloc | apply pw_below_drewN | apply below_drew1 | refine below_set ?_ GE407.out) | exact HB.out)) hb); clear BK407; clear HB; have HO415 := n0_; have BK407 := n1_; have HB := n2_; clear n0_ n1_ n2_; (try clear hb); (try clear hb2); (try clear hk); (try clear hi); (try clear ho0)) | ((with_reducible refine gate_dst (N := 3) rfl ?_); refine box_event ?hg (N := 3) ?hd (cs := #[.int .u64 0, .int .u64 0, .bool false, .int .u16 0, .int .u16 0, .slice none 0 0]) (t := 39) ?hr ?_; (case hd => rfl); (case hg => rfl); (case hr => first | (go_simp; done) | (go_simp; rfl)); intro gb416 hg w53 hbox hb; have n0_ := Aside0.mk (Kd.R_below (by (with_reducible repeat (first | apply Kd.R_alloc | apply Kd.R_drewN | apply Kd.R_drew)); exact HO415.out) hb); have n1_ := Aside0.mk (blk_below (g := gb407) (o := .cells #[.int .u64 a0_0, .int .u64 a0_1, .bool false, .int .u16 a0_3, .int .u16 a0_4, .slice A0_5 l0_5.length c0_5] 34 (0, 0)) (by (with_reducible repeat (first | refine blk_drewN ?_ _ | refine blk_drew ?_ | refine blk_alloc ?_ _)); exact BK407.out) hb); have n2_ := Aside0.mk (below_step (by repeat (first | (with_reducible first | exact HB.out | apply below_alloc | apply pw_below_drewN | apply below_drew1 | refine below_set ?_ GE407.out) | exact HB.out)) hb); have n3_ := Aside0.mk (hbox); have n4_ := Aside0.mk ((by rw [hg]; exact (below_size (by repeat (first | (with_reducible first | exact HB.out | apply below_alloc | apply pw_below_drewN | apply below_drew1 | refine below_set ?_ GE407.out) | exact HB.out))) : w.heap.size ≤ gb416)); have n5_ := Aside0.mk ((by rw [hg]; exact (below_size (by repeat (first | (with_reducible first | exact HB.out | apply below_alloc | apply pw_below_drewN | apply below_drew1 | refine below_set ?_ GE407.out) | exact HB.out))) : w.heap.size ≤ gb416)); have n6_ := Aside0.mk ((by rw [hg]; exact Nat.ne_of_lt (blk_lt (g := gb407) (o := .cells #[.int .u64 a0_0, .int .u64 a0_1, .bool false, .int .u16 a0_3, .int .u16 a0_4, .slice A0_5 l0_5.length c0_5] 34 (0, 0)) (by (with_reducible repeat (first | refine blk_drewN ?_ _ | refine blk_drew ?_ | refine blk_alloc ?_ _)); exact BK407.out)) : gb407 ≠ gb416)); have n7_ := Aside0.mk ((by rw [hg]; exact Nat.ne_of_gt (blk_lt (g := gb407) (o := .cells #[.int .u64 a0_0, .int .u64 a0_1, .bool false, .int .u16 a0_3, .int .u16 a0_4, .slice A0_5 l0_5.length c0_5] 34 (0, 0)) (by (with_reducible repeat (first | refine blk_drewN ?_ _ | refine blk_drew ?_ | refine blk_alloc ?_ _)); exact BK407.out)) : gb416 ≠ gb407)); clear HO415; clear BK407; clear HB; have HO415 := n0_; have BK407 := n1_; have HB := n2_; have BK416 := n3_; have GW416 := n4_; have GE416 := n5_; have NB407_416 := n6_; have NB416_407 := n7_; clear n0_ n1_ n2_ n3_ n4_ n5_ n6_ n7_; clear hb hbox hg; have hnb54 := NB416_407.out; have hnc54 := NB407_416.out; have hcz55_0 : w53.cell? ⟨gb416, 0, none⟩ = some (.int .u64 0) := (blk_cell BK416.out 0).trans rfl; have hcz55_1 : w53.cell? ⟨gb416, 1, none⟩ = some (.int .u64 0) := (blk_cell BK416.out 1).trans rfl; have hcz55_2 : w53.cell? ⟨gb416, 2, none⟩ = some (.bool false) := (blk_cell BK416.out 2).trans rfl; have hcz55_3 : w53.cell? ⟨gb416, 3, none⟩ = some (.int .u16 0) := (blk_cell BK416.out 3).trans rfl; have hcz55_4 : w53.cell? ⟨gb416, 4, none⟩ = some (.int .u16 0) := (blk_cell BK416.out 4).trans rfl; have hcz55_5 : w53.cell? ⟨gb416, 5, none⟩ = some (.slice none 0 0) := (blk_cell BK416.out 5).trans rfl; have hfz55_0 := blk_frozen BK416.out 0; have hfz55_1 := blk_frozen BK416.out 1; have hfz55_2 := blk_frozen BK416.out 2; have hfz55_3 := blk_frozen BK416.out 3; have hfz55_4 := blk_frozen BK416.out 4; have hfz55_5 := blk_frozen BK416.out 5; obtain ⟨Ao56, co56, eo56⟩ := Kd.R_slice HO415.out; subst eo56; have hcz57_0 : w53.cell? ⟨gb407, 0, none⟩ = some (.int .u64 a0_0) := (blk_cell BK407.out 0).trans rfl; have hcz57_1 : w53.cell? ⟨gb407, 1, none⟩ = some (.int .u64 a0_1) := (blk_cell BK407.out 1).trans rfl; have hcz57_2 : w53.cell? ⟨gb407, 2, none⟩ = some (.bool false) := (blk_cell BK407.out 2).trans rfl; have hcz57_3 : w53.cell? ⟨gb407, 3, none⟩ = some (.int .u16 a0_3) := (blk_cell BK407.out 3).trans rfl; have hcz57_4 : w53.cell? ⟨gb407, 4, none⟩ = some (.int .u16 a0_4) := (blk_cell BK407.out 4).trans rfl; have hcz57_5 : w53.cell? ⟨gb407, 5, none⟩ = some (.slice A0_5 l0_5.length c0_5) := (blk_cell BK407.out 5).trans rfl; have hfz57_0 := blk_frozen BK407.out 0; have hfz57_1 := blk_frozen BK407.out 1; have hfz57_2 := blk_frozen BK407.out 2; have hfz57_3 := blk_frozen BK407.out 3; have hfz57_4 := blk_frozen BK407.out 4; have hfz57_5 := blk_frozen BK407.out 5))
        have n0_ : Aside0 (Kd.R (Kd.int .u8) 5 (((((((w53.setCell ⟨gb416, 0, none⟩ (.int .u64 t408)).setCell ⟨gb416, 1, none⟩ (.int .u64 t409)).setCell ⟨gb416, 2, none⟩ (.bool t410)).setCell ⟨gb416, 3, none⟩ (.int .u16 t411)).setCell ⟨gb416, 4, none⟩ (.int .u16 t412)).setCell ⟨gb416, 5, none⟩ (.slice Ao56 t413.length co56)).setCell ⟨gb416, 5, none⟩ (.slice none 0 0)) w.heap.size (fun _ => True) (.slice Ao56 t413.length co56) t413) := ⟨by (with_reducible repeat (first | apply Kd.R_alloc | apply Kd.R_drewN | apply Kd.R_drew)); exact Kd.R_mono (Kd.R_far (p := ⟨gb416, 5, none⟩) (Kd.R_far (p := ⟨gb416, 5, none⟩) (Kd.R_far (p := ⟨gb416, 4, none⟩) (Kd.R_far (p := ⟨gb416, 3, none⟩) (Kd.R_far (p := ⟨gb416, 2, none⟩) (Kd.R_far (p := ⟨gb416, 1, none⟩) (Kd.R_far (p := ⟨gb416, 0, none⟩) (Kd.R_types HO415.out BK416.out (by decide)) (fun _ hk => hk.2) (.int .u64 t408)) (fun _ hk => hk.2) (.int .u64 t409)) (fun _ hk => hk.2) (.bool t410)) (fun _ hk => hk.2) (.int .u16 t411)) (fun _ hk => hk.2) (.int .u16 t412)) (fun _ hk => hk.2) (.slice Ao56 t413.length co56)) (fun _ hk => hk.2) (.slice none 0 0)) (fun _ hk => trivial)⟩
        have n1_ : Aside0 ((((((((w53.setCell ⟨gb416, 0, none⟩ (.int .u64 t408)).setCell ⟨gb416, 1, none⟩ (.int .u64 t409)).setCell ⟨gb416, 2, none⟩ (.bool t410)).setCell ⟨gb416, 3, none⟩ (.int .u16 t411)).setCell ⟨gb416, 4, none⟩ (.int .u16 t412)).setCell ⟨gb416, 5, none⟩ (.slice Ao56 t413.length co56)).setCell ⟨gb416, 5, none⟩ (.slice none 0 0)).heap[gb407]? = some (.cells #[.int .u64 a0_0, .int .u64 a0_1, .bool false, .int .u16 a0_3, .int .u16 a0_4, .slice A0_5 l0_5.length c0_5] 34 (0, 0))) := ⟨by (with_reducible repeat (first | refine blk_drewN ?_ _ | refine blk_drew ?_ | refine blk_alloc ?_ _)); refine blk_far ?_ NB407_416.out _; (with_reducible repeat (first | refine blk_drewN ?_ _ | refine blk_drew ?_ | refine blk_alloc ?_ _)); refine blk_far ?_ NB407_416.out _; (with_reducible repeat (first | refine blk_drewN ?_ _ | refine blk_drew ?_ | refine blk_alloc ?_ _)); refine blk_far ?_ NB407_416.out _; (with_reducible repeat (first | refine blk_drewN ?_ _ | refine blk_drew ?_ | refine blk_alloc ?_ _)); refine blk_far ?_ NB407_416.out _; (with_reducible repeat (first | refine blk_drewN ?_ _ | refine blk_drew ?_ | refine blk_alloc ?_ _)); refine blk_far ?_ NB407_416.out _; (with_reducible repeat (first | refine blk_drewN ?_ _ | refine blk_drew ?_ | refine blk_alloc ?_ _)); refine blk_far ?_ NB407_416.out _; (with_reducible repeat (first | refine blk_drewN ?_ _ | refine blk_drew ?_ | refine blk_alloc ?_ _)); refine blk_far ?_ NB407_416.out _; (with_reducible repeat (first | refine blk_drewN ?_ _ | refine blk_drew ?_ | refine blk_alloc ?_ _)); exact BK407.out⟩
        have n2_ : Aside0 ((((((((w53.setCell ⟨gb416, 0, none⟩ (.int .u64 t408)).setCell ⟨gb416, 1, none⟩ (.int .u64 t409)).setCell ⟨gb416, 2, none⟩ (.bool t410)).setCell ⟨gb416, 3, none⟩ (.int .u16 t411)).setCell ⟨gb416, 4, none⟩ (.int .u16 t412)).setCell ⟨gb416, 5, none⟩ (.slice Ao56 t413.length co56)).setCell ⟨gb416, 5, none⟩ (.slice none 0 0)).heap[gb416]? = some (.cells #[.int .u64 t408, .int .u64 t409, .bool t410, .int .u16 t411, .int .u16 t412, .slice none 0 0] 39 (0, 0))) := ⟨by (with_reducible repeat (first | refine blk_drewN ?_ _ | refine blk_drew ?_ | refine blk_alloc ?_ _)); refine blk_put (cs := #[.int .u64 t408, .int .u64 t409, .bool t410, .int .u16 t411, .int .u16 t412, .slice Ao56 t413.length co56]) ?_ 5 _ rfl; (with_reducible repeat (first | refine blk_drewN ?_ _ | refine blk_drew ?_ | refine blk_alloc ?_ _)); refine blk_put (cs := #[.int .u64 t408, .int .u64 t409, .bool t410, .int .u16 t411, .int .u16 t412, .slice none 0 0]) ?_ 5 _ rfl; (with_reducible repeat (first | refine blk_drewN ?_ _ | refine blk_drew ?_ | refine blk_alloc ?_ _)); refine blk_put (cs := #[.int .u64 t408, .int .u64 t409, .bool t410, .int .u16 t411, .int .u16 0, .slice none 0 0]) ?_ 4 _ rfl; (with_reducible repeat (first | refine blk_drewN ?_ _ | refine blk_drew ?_ | refine blk_alloc ?_ _)); refine blk_put (cs := #[.int .u64 t408, .int .u64 t409, .bool t410, .int .u16 0, .int .u16 0, .slice none 0 0]) ?_ 3 _ rfl; (with_reducible repeat (first | refine blk_drewN ?_ _ | refine blk_drew ?_ | refine blk_alloc ?_ _)); refine blk_put (cs := #[.int .u64 t408, .int .u64 t409, .bool false, .int .u16 0, .int .u16 0, .slice none 0 0]) ?_ 2 _ rfl; (with_reducible repeat (first | refine blk_drewN ?_ _ | refine blk_drew ?_ | refine blk_alloc ?_ _)); refine blk_put (cs := #[.int .u64 t408, .int .u64 0, .bool false, .int .u16 0, .int .u16 0, .slice none 0 0]) ?_ 1 _ rfl; (with_reducible repeat (first | refine blk_drewN ?_ _ | refine blk_drew ?_ | refine blk_alloc ?_ _)); refine blk_put (cs := #[.int .u64 0, .int .u64 0, .bool false, .int .u16 0, .int .u16 0, .slice none 0 0]) ?_ 0 _ rfl; (with_reducible repeat (first | refine blk_drewN ?_ _ | refine blk_drew ?_ | refine blk_alloc ?_ _)); exact BK416.out⟩
        have n3_ : Aside0 (Below w.heap.size w (((((((w53.setCell ⟨gb416, 0, none⟩ (.int .u64 t408)).setCell ⟨gb416, 1, none⟩ (.int .u64 t409)).setCell ⟨gb416, 2, none⟩ (.bool t410)).setCell ⟨gb416, 3, none⟩ (.int .u16 t411)).setCell ⟨gb416, 4, none⟩ (.int .u16 t412)).setCell ⟨gb416, 5, none⟩ (.slice Ao56 t413.length co56)).setCell ⟨gb416, 5, none⟩ (.slice none 0 0))) := ⟨by repeat (first | (with_reducible first | exact HB.out | apply below_alloc | apply pw_below_drewN | apply below_drew1 | refine below_set ?_ GE407.out | refine below_set ?_ GE416.out) | exact HB.out)⟩
        (try clear HO415)
        (try clear BK407)
        (try clear BK416)
        (try clear HB)
        generalize (((((((w53.setCell ⟨gb416, 0, none⟩ (.int .u64 t408)).setCell ⟨gb416, 1, none⟩ (.int .u64 t409)).setCell ⟨gb416, 2, none⟩ (.bool t410)).setCell ⟨gb416, 3, none⟩ (.int .u16 t411)).setCell ⟨gb416, 4, none⟩ (.int .u16 t412)).setCell ⟨gb416, 5, none⟩ (.slice Ao56 t413.length co56)).setCell ⟨gb416, 5, none⟩ (.slice none 0 0)) = w58 at n0_ n1_ n2_ n3_ ⊢
        have HO415 := n0_
        have BK407 := n1_
        have BK416 := n2_
        have HB := n3_
        clear n0_ n1_ n2_ n3_
        have n0_ := Aside0.mk (Kd.R_drew HO415.out)
        have n1_ := Aside0.mk (blk_drew BK407.out)
        have n2_ := Aside0.mk (blk_drew BK416.out)
        have n3_ := Aside0.mk (below_drew1 HB.out)
        clear HO415
        clear BK407
        clear BK416
        clear HB
        have HO415 := n0_
        have BK407 := n1_
        have BK416 := n2_
        have HB := n3_
        clear n0_ n1_ n2_ n3_
        refine start_ (n := 17) (S := fun w' => w'.cell? ⟨gb416, 0, none⟩ = some (.int .u64 t408) ∧ w'.cell? ⟨gb416, 1, none⟩ = some (.int .u64 t409) ∧ w'.cell? ⟨gb416, 2, none⟩ = some (.bool t410) ∧ w'.cell? ⟨gb416, 3, none⟩ = some (.int .u16 t411) ∧ w'.cell? ⟨gb416, 4, none⟩ = some (.int .u16 t412) ∧ w'.cell? ⟨gb416, 5, none⟩ = some (.slice none 0 0) ∧ w'.cell? ⟨gb407, 0, none⟩ = some (.int .u64 a0_0) ∧ w'.cell? ⟨gb407, 1, none⟩ = some (.int .u64 a0_1) ∧ w'.cell? ⟨gb407, 2, none⟩ = some (.bool false) ∧ w'.cell? ⟨gb407, 3, none⟩ = some (.int .u16 a0_3) ∧ w'.cell? ⟨gb407, 4, none⟩ = some (.int .u16 a0_4) ∧ w'.cell? ⟨gb407, 5, none⟩ = some (.slice A0_5 l0_5.length c0_5)) (ds := []) #[false, false, false, false, false, false, false, false, false, false, false, false, false, false, false, false, false] (by kernel_rfl) rfl rfl ⟨(blk_cell BK416.out 0).trans rfl, (blk_cell BK416.out 1).trans rfl, (blk_cell BK416.out 2).trans rfl, (blk_cell BK416.out 3).trans rfl, (blk_cell BK416.out 4).trans rfl, (blk_cell BK416.out 5).trans rfl, (blk_cell BK407.out 0).trans rfl, (blk_cell BK407.out 1).trans rfl, (blk_cell BK407.out 2).trans rfl, (blk_cell BK407.out 3).trans rfl, (blk_cell BK407.out 4).trans rfl, (blk_cell BK407.out 5).trans rfl⟩ (fun hHeld => ?_); refine with_tabW patchbaylaw02_FrameTags.tab6 patchbaylaw02_FrameTags.bits6 (fun HT_ HW_ => ?_)
        generalize w58.drew = w59 at HO415 BK407 BK416 HB hHeld ⊢
        refine one_ (i := 0) (N := some 14) #[true, false, false, false, false, false, false, false, false, false, false, false, false, false, false, false, false] rfl rfl (one_of HT_.out (by kernel_rfl)) (by decide) (fun K hK => ?_)
        refine goes_ Try.func18 (by kernel_rfl) rfl #[] (by rfl) rfl rfl (by (try simp only [List.map_toArray, List.map_cons, List.map_nil]); first | done | rfl | (simp only [List.length_drop, List.length_take]; rfl)) ?_
        with_reducible refine (patchbaylaw02_told.calls k  true _ A45.out).mono ?_
        rintro e w60 ⟨rfl, hb⟩
        refine ⟨_, rfl, ?_⟩
        have n0_ := Aside0.mk (Kd.R_below (by (with_reducible repeat (first | apply Kd.R_alloc | apply Kd.R_drewN | apply Kd.R_drew)); exact HO415.out) hb)
        have n1_ := Aside0.mk (blk_below (g := gb407) (o := .cells #[.int .u64 a0_0, .int .u64 a0_1, .bool false, .int .u16 a0_3, .int .u16 a0_4, .slice A0_5 l0_5.length c0_5] 34 (0, 0)) (by (with_reducible repeat (first | refine blk_drewN ?_ _ | refine blk_drew ?_ | refine blk_alloc ?_ _)); exact BK407.out) hb)
        have n2_ := Aside0.mk (blk_below (g := gb416) (o := .cells #[.int .u64 t408, .int .u64 t409, .bool t410, .int .u16 t411, .int .u16 t412, .slice none 0 0] 39 (0, 0)) (by (with_reducible repeat (first | refine blk_drewN ?_ _ | refine blk_drew ?_ | refine blk_alloc ?_ _)); exact BK416.out) hb)
        have n3_ := Aside0.mk (below_step (by repeat (first | (with_reducible first | exact HB.out | apply below_alloc | apply pw_below_drewN | apply below_drew1 | refine below_set ?_ GE407.out | refine below_set ?_ GE416.out) | exact HB.out)) hb)
        clear HO415
        clear BK407
        clear BK416
        clear HB
        have HO415 := n0_
        have BK407 := n1_
        have BK416 := n2_
        have HB := n3_
        clear n0_ n1_ n2_ n3_
        (try clear hb)
        (try clear hb2)
        (try clear hk)
        (try clear hi)
        refine hK.out _ _ ⟨(blk_cell BK416.out 0).trans rfl, (blk_cell BK416.out 1).trans rfl, (blk_cell BK416.out 2).trans rfl, (blk_cell BK416.out 3).trans rfl, (blk_cell BK416.out 4).trans rfl, (blk_cell BK416.out 5).trans rfl, (blk_cell BK407.out 0).trans rfl, (blk_cell BK407.out 1).trans rfl, (blk_cell BK407.out 2).trans rfl, (blk_cell BK407.out 3).trans rfl, (blk_cell BK407.out 4).trans rfl, (blk_cell BK407.out 5).trans rfl⟩ (fun hHeld => ?_)
        clear hK K
        refine norm_ (a' := ?_) ?_ ?_
        rotate_left
        · show Act.put _ (some 14) _ = _
          simp only [Act.put, List.setIfInBounds_toArray, List.set_cons_zero, List.set_cons_succ, i64_w, i32_w]
          rfl
        refine pure_ (i := 1) (N := some 15) (v := ?_) (a' := ?_) #[true, true, false, false, false, false, false, false, false, false, false, false, false, false, false, false, false] rfl rfl (any_of HT_.out (by kernel_rfl)) (fun _ _ _ h => h) (Or.inl ⟨by rfl, ?_⟩) ?_ ?_
        rotate_left
        · intro w'
          go_simp
          with_reducible rfl
        rotate_left
        · simp only [Act.put, List.setIfInBounds_toArray, List.set_cons_zero, List.set_cons_succ, i64_w, i32_w]
          rfl
        refine pure_ (i := 4) (N := some 18) (v := ?_) (a' := ?_) #[true, true, false, false, true, false, false, false, false, false, false, false, false, false, false, false, false] rfl rfl (any_of HT_.out (by kernel_rfl)) (fun _ _ _ h => h) (Or.inl ⟨by rfl, ?_⟩) ?_ ?_
        rotate_left
        · intro w'
          go_simp
          with_reducible rfl
        rotate_left
        · simp only [Act.put, List.setIfInBounds_toArray, List.set_cons_zero, List.set_cons_succ, i64_w, i32_w]
          rfl
        refine take_ (i := 2) (N := some 16) (v := ?_) (a' := ?_) #[true, true, true, false, true, false, false, false, false, false, false, false, false, false, false, false, false] rfl rfl (take_ofW HT_.out HW_.out (by kernel_rfl)) (fun _ _ _ h => h) (Or.inl ⟨by rfl, ?_⟩) hHeld ?_ ?_
        rotate_left
        · rintro w' ⟨s0, s1, s2, s3, s4, s5, s6, s7, s8, s9, s10, s11⟩
          go_simp
          with_reducible rfl
        rotate_left
        · simp only [Act.put, List.setIfInBounds_toArray, List.set_cons_zero, List.set_cons_succ, i64_w, i32_w]
          rfl
        refine take_ (i := 5) (N := some 19) (v := ?_) (a' := ?_) #[true, true, true, false, true, true, false, false, false, false, false, false, false, false, false, false, false] rfl rfl (take_ofW HT_.out HW_.out (by kernel_rfl)) (fun _ _ _ h => h) (Or.inl ⟨by rfl, ?_⟩) hHeld ?_ ?_
        rotate_left
        · rintro w' ⟨s0, s1, s2, s3, s4, s5, s6, s7, s8, s9, s10, s11⟩
          go_simp
          with_reducible rfl
        rotate_left
        · simp only [Act.put, List.setIfInBounds_toArray, List.set_cons_zero, List.set_cons_succ, i64_w, i32_w]
          rfl
        refine pure_ (i := 6) (N := some 20) (v := ?_) (a' := ?_) #[true, true, true, false, true, true, true, false, false, false, false, false, false, false, false, false, false] rfl rfl (any_of HT_.out (by kernel_rfl)) (fun _ _ _ h => h) (Or.inl ⟨by rfl, ?_⟩) ?_ ?_
        rotate_left
        · intro w'
          go_simp
          with_reducible rfl
        rotate_left
        · simp only [Act.put, List.setIfInBounds_toArray, List.set_cons_zero, List.set_cons_succ, i64_w, i32_w]
          rfl
        refine pure_ (i := 7) (N := some 21) (v := ?_) (a' := ?_) #[true, true, true, false, true, true, true, true, false, false, false, false, false, false, false, false, false] rfl rfl (any_of HT_.out (by kernel_rfl)) (fun _ _ _ h => h) (Or.inl ⟨by rfl, ?_⟩) ?_ ?_
        rotate_left
        · intro w'
          go_simp
          with_reducible rfl
        rotate_left
        · simp only [Act.put, List.setIfInBounds_toArray, List.set_cons_zero, List.set_cons_succ, i64_w, i32_w]
          rfl
        refine one_ (i := 3) (N := some 17) #[true, true, true, true, true, true, true, true, false, false, false, false, false, false, false, false, false] rfl rfl (one_of HT_.out (by kernel_rfl)) (by decide) (fun K hK => ?_)
        refine goes_ Try.func23 (by kernel_rfl) rfl #[.agg #[.int .u64 t408, .int .u64 t409, .bool t410, .int .u16 t411, .int .u16 t412, .slice none 0 0]] (by rfl) rfl rfl (by (try simp only [List.map_toArray, List.map_cons, List.map_nil]); first | done | rfl | (simp only [List.length_drop, List.length_take]; rfl)) ?_
        refine (frame_Vid.calls t408 t409 t410 t411 t412 _ _ ([] : List Int) t421 _ ?side1 ?side2 A47.out).mono ?_
        (case side1 => exact Kd.C_nil _ _)
        (case side2 => exact Nat.le_refl _)
        rintro e w61 ⟨rfl, hb⟩
        refine ⟨_, rfl, ?_⟩
        have n0_ := Aside0.mk (Kd.R_below (by (with_reducible repeat (first | apply Kd.R_alloc | apply Kd.R_drewN | apply Kd.R_drew)); exact HO415.out) hb)
        have n1_ := Aside0.mk (blk_below (g := gb407) (o := .cells #[.int .u64 a0_0, .int .u64 a0_1, .bool false, .int .u16 a0_3, .int .u16 a0_4, .slice A0_5 l0_5.length c0_5] 34 (0, 0)) (by (with_reducible repeat (first | refine blk_drewN ?_ _ | refine blk_drew ?_ | refine blk_alloc ?_ _)); exact BK407.out) hb)
        have n2_ := Aside0.mk (blk_below (g := gb416) (o := .cells #[.int .u64 t408, .int .u64 t409, .bool t410, .int .u16 t411, .int .u16 t412, .slice none 0 0] 39 (0, 0)) (by (with_reducible repeat (first | refine blk_drewN ?_ _ | refine blk_drew ?_ | refine blk_alloc ?_ _)); exact BK416.out) hb)
        have n3_ := Aside0.mk (below_step (by repeat (first | (with_reducible first | exact HB.out | apply below_alloc | apply pw_below_drewN | apply below_drew1 | refine below_set ?_ GE407.out | refine below_set ?_ GE416.out) | exact HB.out)) hb)
        clear HO415
        clear BK407
        clear BK416
        clear HB
        have HO415 := n0_
        have BK407 := n1_
        have BK416 := n2_
        have HB := n3_
        clear n0_ n1_ n2_ n3_
        (try clear hb)
        (try clear hb2)
        (try clear hk)
        (try clear hi)
        refine hK.out _ _ ⟨(blk_cell BK416.out 0).trans rfl, (blk_cell BK416.out 1).trans rfl, (blk_cell BK416.out 2).trans rfl, (blk_cell BK416.out 3).trans rfl, (blk_cell BK416.out 4).trans rfl, (blk_cell BK416.out 5).trans rfl, (blk_cell BK407.out 0).trans rfl, (blk_cell BK407.out 1).trans rfl, (blk_cell BK407.out 2).trans rfl, (blk_cell BK407.out 3).trans rfl, (blk_cell BK407.out 4).trans rfl, (blk_cell BK407.out 5).trans rfl⟩ (fun hHeld => ?_)
        clear hK K
        refine norm_ (a' := ?_) ?_ ?_
        rotate_left
        · show Act.put _ (some 17) _ = _
          simp only [Act.put, List.setIfInBounds_toArray, List.set_cons_zero, List.set_cons_succ, i64_w, i32_w]
          rfl
        refine pure_ (i := 8) (N := some 22) (v := ?_) (a' := ?_) #[true, true, true, true, true, true, true, true, true, false, false, false, false, false, false, false, false] rfl rfl (any_of HT_.out (by kernel_rfl)) (fun _ _ _ h => h) (Or.inl ⟨by rfl, ?_⟩) ?_ ?_
        rotate_left
        · intro w'
          go_simp
          with_reducible rfl
        rotate_left
        · simp only [Act.put, List.setIfInBounds_toArray, List.set_cons_zero, List.set_cons_succ, i64_w, i32_w]
          rfl
        refine pure_ (i := 9) (N := some 23) (v := ?_) (a' := ?_) #[true, true, true, true, true, true, true, true, true, true, false, false, false, false, false, false, false] rfl rfl (any_of HT_.out (by kernel_rfl)) (fun _ _ _ h => h) (Or.inl ⟨by rfl, ?_⟩) ?_ ?_
        rotate_left
        · intro w'
          go_simp
          with_reducible rfl
        rotate_left
        · simp only [Act.put, List.setIfInBounds_toArray, List.set_cons_zero, List.set_cons_succ, i64_w, i32_w]
          rfl
        refine pure_ (i := 10) (N := some 24) (v := ?_) (a' := ?_) #[true, true, true, true, true, true, true, true, true, true, true, false, false, false, false, false, false] rfl rfl (any_of HT_.out (by kernel_rfl)) (fun _ _ _ h => h) (Or.inl ⟨by rfl, ?_⟩) ?_ ?_
        rotate_left
        · intro w'
          go_simp
          with_reducible rfl
        rotate_left
        · simp only [Act.put, List.setIfInBounds_toArray, List.set_cons_zero, List.set_cons_succ, i64_w, i32_w]
          rfl
        refine pure_ (i := 13) (N := some 27) (v := ?_) (a' := ?_) #[true, true, true, true, true, true, true, true, true, true, true, false, false, true, false, false, false] rfl rfl (any_of HT_.out (by kernel_rfl)) (fun _ _ _ h => h) (Or.inl ⟨by rfl, ?_⟩) ?_ ?_
        rotate_left
        · intro w'
          go_simp
          with_reducible rfl
        rotate_left
        · simp only [Act.put, List.setIfInBounds_toArray, List.set_cons_zero, List.set_cons_succ, i64_w, i32_w]
          rfl
        refine take_ (i := 11) (N := some 25) (v := ?_) (a' := ?_) #[true, true, true, true, true, true, true, true, true, true, true, true, false, true, false, false, false] rfl rfl (take_ofW HT_.out HW_.out (by kernel_rfl)) (fun _ _ _ h => h) (Or.inl ⟨by rfl, ?_⟩) hHeld ?_ ?_
        rotate_left
        · rintro w' ⟨s0, s1, s2, s3, s4, s5, s6, s7, s8, s9, s10, s11⟩
          go_simp
          with_reducible rfl
        rotate_left
        · simp only [Act.put, List.setIfInBounds_toArray, List.set_cons_zero, List.set_cons_succ, i64_w, i32_w]
          rfl
        refine one_ (i := 12) (N := some 26) #[true, true, true, true, true, true, true, true, true, true, true, true, true, true, false, false, false] rfl rfl (one_of HT_.out (by kernel_rfl)) (by decide) (fun K hK => ?_)
        refine goes_ Try.func24 (by kernel_rfl) rfl #[.agg #[.int .u64 t408, .int .u64 t409, .bool t410, .int .u16 t411, .int .u16 t412, .slice none 0 0]] (by rfl) rfl rfl (by (try simp only [List.map_toArray, List.map_cons, List.map_nil]); first | done | rfl | (simp only [List.length_drop, List.length_take]; rfl)) ?_
        refine (frame_Prio.calls t408 t409 t410 t411 t412 _ _ ([] : List Int) t422 _ ?side1 ?side2 A49.out).mono ?_
        (case side1 => exact Kd.C_nil _ _)
        (case side2 => exact Nat.le_refl _)
        rintro e w62 ⟨rfl, hb⟩
        refine ⟨_, rfl, ?_⟩
        have n0_ := Aside0.mk (Kd.R_below (by (with_reducible repeat (first | apply Kd.R_alloc | apply Kd.R_drewN | apply Kd.R_drew)); exact HO415.out) hb)
        have n1_ := Aside0.mk (blk_below (g := gb407) (o := .cells #[.int .u64 a0_0, .int .u64 a0_1, .bool false, .int .u16 a0_3, .int .u16 a0_4, .slice A0_5 l0_5.length c0_5] 34 (0, 0)) (by (with_reducible repeat (first | refine blk_drewN ?_ _ | refine blk_drew ?_ | refine blk_alloc ?_ _)); exact BK407.out) hb)
        have n2_ := Aside0.mk (blk_below (g := gb416) (o := .cells #[.int .u64 t408, .int .u64 t409, .bool t410, .int .u16 t411, .int .u16 t412, .slice none 0 0] 39 (0, 0)) (by (with_reducible repeat (first | refine blk_drewN ?_ _ | refine blk_drew ?_ | refine blk_alloc ?_ _)); exact BK416.out) hb)
        have n3_ := Aside0.mk (below_step (by repeat (first | (with_reducible first | exact HB.out | apply below_alloc | apply pw_below_drewN | apply below_drew1 | refine below_set ?_ GE407.out | refine below_set ?_ GE416.out) | exact HB.out)) hb)
        clear HO415
        clear BK407
        clear BK416
        clear HB
        have HO415 := n0_
        have BK407 := n1_
        have BK416 := n2_
        have HB := n3_
        clear n0_ n1_ n2_ n3_
        (try clear hb)
        (try clear hb2)
        (try clear hk)
        (try clear hi)
        refine hK.out _ _ ⟨(blk_cell BK416.out 0).trans rfl, (blk_cell BK416.out 1).trans rfl, (blk_cell BK416.out 2).trans rfl, (blk_cell BK416.out 3).trans rfl, (blk_cell BK416.out 4).trans rfl, (blk_cell BK416.out 5).trans rfl, (blk_cell BK407.out 0).trans rfl, (blk_cell BK407.out 1).trans rfl, (blk_cell BK407.out 2).trans rfl, (blk_cell BK407.out 3).trans rfl, (blk_cell BK407.out 4).trans rfl, (blk_cell BK407.out 5).trans rfl⟩ (fun hHeld => ?_)
        clear hK K
        refine norm_ (a' := ?_) ?_ ?_
        rotate_left
        · show Act.put _ (some 26) _ = _
          simp only [Act.put, List.setIfInBounds_toArray, List.set_cons_zero, List.set_cons_succ, i64_w, i32_w]
          rfl
        refine pure_ (i := 14) (N := some 28) (v := ?_) (a' := ?_) #[true, true, true, true, true, true, true, true, true, true, true, true, true, true, true, false, false] rfl rfl (any_of HT_.out (by kernel_rfl)) (fun _ _ _ h => h) (Or.inl ⟨by rfl, ?_⟩) ?_ ?_
        rotate_left
        · intro w'
          go_simp
          with_reducible rfl
        rotate_left
        · simp only [Act.put, List.setIfInBounds_toArray, List.set_cons_zero, List.set_cons_succ, i64_w, i32_w]
          rfl
        refine pure_ (i := 15) (N := some 29) (v := ?_) (a' := ?_) #[true, true, true, true, true, true, true, true, true, true, true, true, true, true, true, true, false] rfl rfl (any_of HT_.out (by kernel_rfl)) (fun _ _ _ h => h) (Or.inl ⟨by rfl, ?_⟩) ?_ ?_
        rotate_left
        · intro w'
          go_simp
          with_reducible rfl
        rotate_left
        · simp only [Act.put, List.setIfInBounds_toArray, List.set_cons_zero, List.set_cons_succ, i64_w, i32_w]
          rfl
        refine pure_ (i := 16) (N := some 2) (v := ?_) (a' := ?_) #[true, true, true, true, true, true, true, true, true, true, true, true, true, true, true, true, true] rfl rfl (any_of HT_.out (by kernel_rfl)) (fun _ _ _ h => h) (Or.inl ⟨by rfl, ?_⟩) ?_ ?_
        rotate_left
        · intro w'
          go_simp
          with_reducible rfl
        rotate_left
        · simp only [Act.put, List.setIfInBounds_toArray, List.set_cons_zero, List.set_cons_succ, i64_w, i32_w]
          rfl
        refine done_ (done_of HT_.out (by kernel_rfl)) ?_
        try go_wp2
        go_ret
        exact ⟨by first | rfl | (simp [errW_none, errW_some] <;> rfl) | (simp [*, errW_none, errW_some] <;> rfl), by repeat (first | (with_reducible first | exact HB.out | apply below_alloc | apply pw_below_drewN | apply below_drew1 | refine below_set ?_ GE407.out | refine below_set ?_ GE416.out) | exact HB.out)⟩
      · rw [if_neg c48] at H
        have c48b0 : (t421 == (wrap64 (Int.tmod a0_3 4096))) = false := beq_eq_false_iff_ne.mpr c48
        have c48b1 : (t421 != (wrap64 (Int.tmod a0_3 4096))) = true := bne_iff_ne.mpr c48
        obtain rfl := Option.some.inj H
        go_enter Try.func7, Try.ntmps7
        try go_wp2_with (first | ((with_reducible refine gate_dst (N := 1) rfl ?_); refine box_event ?hg (N := 1) ?hd (cs := #[.int .u64 a0_0, .int .u64 a0_1, .bool false, .int .u16 a0_3, .int .u16 a0_4, .slice A0_5 l0_5.length c0_5]) (t := 34) ?hr ?_; (case hd => rfl); (case hg => rfl); (case hr => first | (go_simp; done) | (go_simp; rfl)); intro gb407 hg w63 hbox hb; have n0_ := Aside0.mk (below_step (by repeat (first | (with_reducible first | exact HB.out | apply below_alloc | apply pw_below_drewN | apply below_drew1) | exact HB.out)) hb); have n1_ := Aside0.mk (hbox); have n2_ := Aside0.mk ((by rw [hg]; exact (below_size (by repeat (first | (with_reducible first | exact HB.out | apply below_alloc | apply pw_below_drewN | apply below_drew1) | exact HB.out))) : w.heap.size ≤ gb407)); have n3_ := Aside0.mk ((by rw [hg]; exact (below_size (by repeat (first | (with_reducible first | exact HB.out | apply below_alloc | apply pw_below_drewN | apply below_drew1) | exact HB.out))) : w.heap.size ≤ gb407)); clear HB; have HB := n0_; have BK407 := n1_; have GW407 := n2_; have GE407 := n3_; clear n0_ n1_ n2_ n3_; clear hb hbox hg; have hcz64_0 : w63.cell? ⟨gb407, 0, none⟩ = some (.int .u64 a0_0) := (blk_cell BK407.out 0).trans rfl; have hcz64_1 : w63.cell? ⟨gb407, 1, none⟩ = some (.int .u64 a0_1) := (blk_cell BK407.out 1).trans rfl; have hcz64_2 : w63.cell? ⟨gb407, 2, none⟩ = some (.bool false) := (blk_cell BK407.out 2).trans rfl; have hcz64_3 : w63.cell? ⟨gb407, 3, none⟩ = some (.int .u16 a0_3) := (blk_cell BK407.out 3).trans rfl; have hcz64_4 : w63.cell? ⟨gb407, 4, none⟩ = some (.int .u16 a0_4) := (blk_cell BK407.out 4).trans rfl; have hcz64_5 : w63.cell? ⟨gb407, 5, none⟩ = some (.slice A0_5 l0_5.length c0_5) := (blk_cell BK407.out 5).trans rfl; have hfz64_0 := blk_frozen BK407.out 0; have hfz64_1 := blk_frozen BK407.out 1; have hfz64_2 := blk_frozen BK407.out 2; have hfz64_3 := blk_frozen BK407.out 3; have hfz64_4 := blk_frozen BK407.out 4; have hfz64_5 := blk_frozen BK407.out 5) | ((with_reducible refine gate_callee (f := 22) rfl ?_); refine goesL_ (some 6) rfl rfl Try.func22 (by kernel_rfl) rfl #[.agg #[.int .u64 a0_0, .int .u64 a0_1, .bool false, .int .u16 a0_3, .int .u16 a0_4, .slice A0_5 l0_5.length c0_5]] rfl (by (try simp only [List.map_toArray, List.map_cons, List.map_nil]); first | done | rfl | (simp only [List.length_drop, List.length_take]; rfl)) ?_; (with_reducible refine (patchbaylaw02_To.calls a0_0 a0_1 false a0_3 a0_4 _ _ l0_5 t408 t409 t410 t411 t412 t413 _ ?side1 ?side2 A2.out).mono ?_); (case side1 => repeat (first | exact (Kd.C_below HR0_5.out HB.out) | (with_reducible refine Kd.C_alloc ?_ _) | (with_reducible refine Kd.C_drewN ?_ _) | (with_reducible refine Kd.C_drew ?_))); (case side2 => exact HC0_5.out); rintro e w65 ⟨v414, rfl, ho0, hb⟩; refine ⟨_, rfl, ?_⟩; have n0_ := Aside0.mk (Kd.R_lower ho0 (below_size (by repeat (first | (with_reducible first | exact HB.out | apply below_alloc | apply pw_below_drewN | apply below_drew1 | refine below_set ?_ GE407.out) | exact HB.out)))); have n1_ := Aside0.mk (blk_below (g := gb407) (o := .cells #[.int .u64 a0_0, .int .u64 a0_1, .bool false, .int .u16 a0_3, .int .u16 a0_4, .slice A0_5 l0_5.length c0_5] 34 (0, 0)) (by (with_reducible repeat (first | refine blk_drewN ?_ _ | refine blk_drew ?_ | refine blk_alloc ?_ _)); exact BK407.out) hb); have n2_ := Aside0.mk (below_step (by repeat (first | (with_reducible first | exact HB.out | apply below_alloc | apply pw_below_drewN | apply below_drew1 | refine below_set ?_ GE407.out) | exact HB.out)) hb); clear BK407; clear HB; have HO415 := n0_; have BK407 := n1_; have HB := n2_; clear n0_ n1_ n2_; (try clear hb); (try clear hb2); (try clear hk); (try clear hi); (try clear ho0)) | ((with_reducible refine gate_dst (N := 3) rfl ?_); refine box_event ?hg (N := 3) ?hd (cs := #[.int .u64 0, .int .u64 0, .bool false, .int .u16 0, .int .u16 0, .slice none 0 0]) (t := 39) ?hr ?_; (case hd => rfl); (case hg => rfl); (case hr => first | (go_simp; done) | (go_simp; rfl)); intro gb416 hg w66 hbox hb; have n0_ := Aside0.mk (Kd.R_below (by (with_reducible repeat (first | apply Kd.R_alloc | apply Kd.R_drewN | apply Kd.R_drew)); exact HO415.out) hb); have n1_ := Aside0.mk (blk_below (g := gb407) (o := .cells #[.int .u64 a0_0, .int .u64 a0_1, .bool false, .int .u16 a0_3, .int .u16 a0_4, .slice A0_5 l0_5.length c0_5] 34 (0, 0)) (by (with_reducible repeat (first | refine blk_drewN ?_ _ | refine blk_drew ?_ | refine blk_alloc ?_ _)); exact BK407.out) hb); have n2_ := Aside0.mk (below_step (by repeat (first | (with_reducible first | exact HB.out | apply below_alloc | apply pw_below_drewN | apply below_drew1 | refine below_set ?_ GE407.out) | exact HB.out)) hb); have n3_ := Aside0.mk (hbox); have n4_ := Aside0.mk ((by rw [hg]; exact (below_size (by repeat (first | (with_reducible first | exact HB.out | apply below_alloc | apply pw_below_drewN | apply below_drew1 | refine below_set ?_ GE407.out) | exact HB.out))) : w.heap.size ≤ gb416)); have n5_ := Aside0.mk ((by rw [hg]; exact (below_size (by repeat (first | (with_reducible first | exact HB.out | apply below_alloc | apply pw_below_drewN | apply below_drew1 | refine below_set ?_ GE407.out) | exact HB.out))) : w.heap.size ≤ gb416)); have n6_ := Aside0.mk ((by rw [hg]; exact Nat.ne_of_lt (blk_lt (g := gb407) (o := .cells #[.int .u64 a0_0, .int .u64 a0_1, .bool false, .int .u16 a0_3, .int .u16 a0_4, .slice A0_5 l0_5.length c0_5] 34 (0, 0)) (by (with_reducible repeat (first | refine blk_drewN ?_ _ | refine blk_drew ?_ | refine blk_alloc ?_ _)); exact BK407.out)) : gb407 ≠ gb416)); have n7_ := Aside0.mk ((by rw [hg]; exact Nat.ne_of_gt (blk_lt (g := gb407) (o := .cells #[.int .u64 a0_0, .int .u64 a0_1, .bool false, .int .u16 a0_3, .int .u16 a0_4, .slice A0_5 l0_5.length c0_5] 34 (0, 0)) (by (with_reducible repeat (first | refine blk_drewN ?_ _ | refine blk_drew ?_ | refine blk_alloc ?_ _)); exact BK407.out)) : gb416 ≠ gb407)); clear HO415; clear BK407; clear HB; have HO415 := n0_; have BK407 := n1_; have HB := n2_; have BK416 := n3_; have GW416 := n4_; have GE416 := n5_; have NB407_416 := n6_; have NB416_407 := n7_; clear n0_ n1_ n2_ n3_ n4_ n5_ n6_ n7_; clear hb hbox hg; have hnb67 := NB416_407.out; have hnc67 := NB407_416.out; have hcz68_0 : w66.cell? ⟨gb416, 0, none⟩ = some (.int .u64 0) := (blk_cell BK416.out 0).trans rfl; have hcz68_1 : w66.cell? ⟨gb416, 1, none⟩ = some (.int .u64 0) := (blk_cell BK416.out 1).trans rfl; have hcz68_2 : w66.cell? ⟨gb416, 2, none⟩ = some (.bool false) := (blk_cell BK416.out 2).trans rfl; have hcz68_3 : w66.cell? ⟨gb416, 3, none⟩ = some (.int .u16 0) := (blk_cell BK416.out 3).trans rfl; have hcz68_4 : w66.cell? ⟨gb416, 4, none⟩ = some (.int .u16 0) := (blk_cell BK416.out 4).trans rfl; have hcz68_5 : w66.cell? ⟨gb416, 5, none⟩ = some (.slice none 0 0) := (blk_cell BK416.out 5).trans rfl; have hfz68_0 := blk_frozen BK416.out 0; have hfz68_1 := blk_frozen BK416.out 1; have hfz68_2 := blk_frozen BK416.out 2; have hfz68_3 := blk_frozen BK416.out 3; have hfz68_4 := blk_frozen BK416.out 4; have hfz68_5 := blk_frozen BK416.out 5; obtain ⟨Ao69, co69, eo69⟩ := Kd.R_slice HO415.out; subst eo69; have hcz70_0 : w66.cell? ⟨gb407, 0, none⟩ = some (.int .u64 a0_0) := (blk_cell BK407.out 0).trans rfl; have hcz70_1 : w66.cell? ⟨gb407, 1, none⟩ = some (.int .u64 a0_1) := (blk_cell BK407.out 1).trans rfl; have hcz70_2 : w66.cell? ⟨gb407, 2, none⟩ = some (.bool false) := (blk_cell BK407.out 2).trans rfl; have hcz70_3 : w66.cell? ⟨gb407, 3, none⟩ = some (.int .u16 a0_3) := (blk_cell BK407.out 3).trans rfl; have hcz70_4 : w66.cell? ⟨gb407, 4, none⟩ = some (.int .u16 a0_4) := (blk_cell BK407.out 4).trans rfl; have hcz70_5 : w66.cell? ⟨gb407, 5, none⟩ = some (.slice A0_5 l0_5.length c0_5) := (blk_cell BK407.out 5).trans rfl; have hfz70_0 := blk_frozen BK407.out 0; have hfz70_1 := blk_frozen BK407.out 1; have hfz70_2 := blk_frozen BK407.out 2; have hfz70_3 := blk_frozen BK407.out 3; have hfz70_4 := blk_frozen BK407.out 4; have hfz70_5 := blk_frozen BK407.out 5))
        have n0_ : Aside0 (Kd.R (Kd.int .u8) 5 (((((((w66.setCell ⟨gb416, 0, none⟩ (.int .u64 t408)).setCell ⟨gb416, 1, none⟩ (.int .u64 t409)).setCell ⟨gb416, 2, none⟩ (.bool t410)).setCell ⟨gb416, 3, none⟩ (.int .u16 t411)).setCell ⟨gb416, 4, none⟩ (.int .u16 t412)).setCell ⟨gb416, 5, none⟩ (.slice Ao69 t413.length co69)).setCell ⟨gb416, 5, none⟩ (.slice none 0 0)) w.heap.size (fun _ => True) (.slice Ao69 t413.length co69) t413) := ⟨by (with_reducible repeat (first | apply Kd.R_alloc | apply Kd.R_drewN | apply Kd.R_drew)); exact Kd.R_mono (Kd.R_far (p := ⟨gb416, 5, none⟩) (Kd.R_far (p := ⟨gb416, 5, none⟩) (Kd.R_far (p := ⟨gb416, 4, none⟩) (Kd.R_far (p := ⟨gb416, 3, none⟩) (Kd.R_far (p := ⟨gb416, 2, none⟩) (Kd.R_far (p := ⟨gb416, 1, none⟩) (Kd.R_far (p := ⟨gb416, 0, none⟩) (Kd.R_types HO415.out BK416.out (by decide)) (fun _ hk => hk.2) (.int .u64 t408)) (fun _ hk => hk.2) (.int .u64 t409)) (fun _ hk => hk.2) (.bool t410)) (fun _ hk => hk.2) (.int .u16 t411)) (fun _ hk => hk.2) (.int .u16 t412)) (fun _ hk => hk.2) (.slice Ao69 t413.length co69)) (fun _ hk => hk.2) (.slice none 0 0)) (fun _ hk => trivial)⟩
        have n1_ : Aside0 ((((((((w66.setCell ⟨gb416, 0, none⟩ (.int .u64 t408)).setCell ⟨gb416, 1, none⟩ (.int .u64 t409)).setCell ⟨gb416, 2, none⟩ (.bool t410)).setCell ⟨gb416, 3, none⟩ (.int .u16 t411)).setCell ⟨gb416, 4, none⟩ (.int .u16 t412)).setCell ⟨gb416, 5, none⟩ (.slice Ao69 t413.length co69)).setCell ⟨gb416, 5, none⟩ (.slice none 0 0)).heap[gb407]? = some (.cells #[.int .u64 a0_0, .int .u64 a0_1, .bool false, .int .u16 a0_3, .int .u16 a0_4, .slice A0_5 l0_5.length c0_5] 34 (0, 0))) := ⟨by (with_reducible repeat (first | refine blk_drewN ?_ _ | refine blk_drew ?_ | refine blk_alloc ?_ _)); refine blk_far ?_ NB407_416.out _; (with_reducible repeat (first | refine blk_drewN ?_ _ | refine blk_drew ?_ | refine blk_alloc ?_ _)); refine blk_far ?_ NB407_416.out _; (with_reducible repeat (first | refine blk_drewN ?_ _ | refine blk_drew ?_ | refine blk_alloc ?_ _)); refine blk_far ?_ NB407_416.out _; (with_reducible repeat (first | refine blk_drewN ?_ _ | refine blk_drew ?_ | refine blk_alloc ?_ _)); refine blk_far ?_ NB407_416.out _; (with_reducible repeat (first | refine blk_drewN ?_ _ | refine blk_drew ?_ | refine blk_alloc ?_ _)); refine blk_far ?_ NB407_416.out _; (with_reducible repeat (first | refine blk_drewN ?_ _ | refine blk_drew ?_ | refine blk_alloc ?_ _)); refine blk_far ?_ NB407_416.out _; (with_reducible repeat (first | refine blk_drewN ?_ _ | refine blk_drew ?_ | refine blk_alloc ?_ _)); refine blk_far ?_ NB407_416.out _; (with_reducible repeat (first | refine blk_drewN ?_ _ | refine blk_drew ?_ | refine blk_alloc ?_ _)); exact BK407.out⟩
        have n2_ : Aside0 ((((((((w66.setCell ⟨gb416, 0, none⟩ (.int .u64 t408)).setCell ⟨gb416, 1, none⟩ (.int .u64 t409)).setCell ⟨gb416, 2, none⟩ (.bool t410)).setCell ⟨gb416, 3, none⟩ (.int .u16 t411)).setCell ⟨gb416, 4, none⟩ (.int .u16 t412)).setCell ⟨gb416, 5, none⟩ (.slice Ao69 t413.length co69)).setCell ⟨gb416, 5, none⟩ (.slice none 0 0)).heap[gb416]? = some (.cells #[.int .u64 t408, .int .u64 t409, .bool t410, .int .u16 t411, .int .u16 t412, .slice none 0 0] 39 (0, 0))) := ⟨by (with_reducible repeat (first | refine blk_drewN ?_ _ | refine blk_drew ?_ | refine blk_alloc ?_ _)); refine blk_put (cs := #[.int .u64 t408, .int .u64 t409, .bool t410, .int .u16 t411, .int .u16 t412, .slice Ao69 t413.length co69]) ?_ 5 _ rfl; (with_reducible repeat (first | refine blk_drewN ?_ _ | refine blk_drew ?_ | refine blk_alloc ?_ _)); refine blk_put (cs := #[.int .u64 t408, .int .u64 t409, .bool t410, .int .u16 t411, .int .u16 t412, .slice none 0 0]) ?_ 5 _ rfl; (with_reducible repeat (first | refine blk_drewN ?_ _ | refine blk_drew ?_ | refine blk_alloc ?_ _)); refine blk_put (cs := #[.int .u64 t408, .int .u64 t409, .bool t410, .int .u16 t411, .int .u16 0, .slice none 0 0]) ?_ 4 _ rfl; (with_reducible repeat (first | refine blk_drewN ?_ _ | refine blk_drew ?_ | refine blk_alloc ?_ _)); refine blk_put (cs := #[.int .u64 t408, .int .u64 t409, .bool t410, .int .u16 0, .int .u16 0, .slice none 0 0]) ?_ 3 _ rfl; (with_reducible repeat (first | refine blk_drewN ?_ _ | refine blk_drew ?_ | refine blk_alloc ?_ _)); refine blk_put (cs := #[.int .u64 t408, .int .u64 t409, .bool false, .int .u16 0, .int .u16 0, .slice none 0 0]) ?_ 2 _ rfl; (with_reducible repeat (first | refine blk_drewN ?_ _ | refine blk_drew ?_ | refine blk_alloc ?_ _)); refine blk_put (cs := #[.int .u64 t408, .int .u64 0, .bool false, .int .u16 0, .int .u16 0, .slice none 0 0]) ?_ 1 _ rfl; (with_reducible repeat (first | refine blk_drewN ?_ _ | refine blk_drew ?_ | refine blk_alloc ?_ _)); refine blk_put (cs := #[.int .u64 0, .int .u64 0, .bool false, .int .u16 0, .int .u16 0, .slice none 0 0]) ?_ 0 _ rfl; (with_reducible repeat (first | refine blk_drewN ?_ _ | refine blk_drew ?_ | refine blk_alloc ?_ _)); exact BK416.out⟩
        have n3_ : Aside0 (Below w.heap.size w (((((((w66.setCell ⟨gb416, 0, none⟩ (.int .u64 t408)).setCell ⟨gb416, 1, none⟩ (.int .u64 t409)).setCell ⟨gb416, 2, none⟩ (.bool t410)).setCell ⟨gb416, 3, none⟩ (.int .u16 t411)).setCell ⟨gb416, 4, none⟩ (.int .u16 t412)).setCell ⟨gb416, 5, none⟩ (.slice Ao69 t413.length co69)).setCell ⟨gb416, 5, none⟩ (.slice none 0 0))) := ⟨by repeat (first | (with_reducible first | exact HB.out | apply below_alloc | apply pw_below_drewN | apply below_drew1 | refine below_set ?_ GE407.out | refine below_set ?_ GE416.out) | exact HB.out)⟩
        (try clear HO415)
        (try clear BK407)
        (try clear BK416)
        (try clear HB)
        generalize (((((((w66.setCell ⟨gb416, 0, none⟩ (.int .u64 t408)).setCell ⟨gb416, 1, none⟩ (.int .u64 t409)).setCell ⟨gb416, 2, none⟩ (.bool t410)).setCell ⟨gb416, 3, none⟩ (.int .u16 t411)).setCell ⟨gb416, 4, none⟩ (.int .u16 t412)).setCell ⟨gb416, 5, none⟩ (.slice Ao69 t413.length co69)).setCell ⟨gb416, 5, none⟩ (.slice none 0 0)) = w71 at n0_ n1_ n2_ n3_ ⊢
        have HO415 := n0_
        have BK407 := n1_
        have BK416 := n2_
        have HB := n3_
        clear n0_ n1_ n2_ n3_
        have n0_ := Aside0.mk (Kd.R_drew HO415.out)
        have n1_ := Aside0.mk (blk_drew BK407.out)
        have n2_ := Aside0.mk (blk_drew BK416.out)
        have n3_ := Aside0.mk (below_drew1 HB.out)
        clear HO415
        clear BK407
        clear BK416
        clear HB
        have HO415 := n0_
        have BK407 := n1_
        have BK416 := n2_
        have HB := n3_
        clear n0_ n1_ n2_ n3_
        refine start_ (n := 17) (S := fun w' => w'.cell? ⟨gb416, 0, none⟩ = some (.int .u64 t408) ∧ w'.cell? ⟨gb416, 1, none⟩ = some (.int .u64 t409) ∧ w'.cell? ⟨gb416, 2, none⟩ = some (.bool t410) ∧ w'.cell? ⟨gb416, 3, none⟩ = some (.int .u16 t411) ∧ w'.cell? ⟨gb416, 4, none⟩ = some (.int .u16 t412) ∧ w'.cell? ⟨gb416, 5, none⟩ = some (.slice none 0 0) ∧ w'.cell? ⟨gb407, 0, none⟩ = some (.int .u64 a0_0) ∧ w'.cell? ⟨gb407, 1, none⟩ = some (.int .u64 a0_1) ∧ w'.cell? ⟨gb407, 2, none⟩ = some (.bool false) ∧ w'.cell? ⟨gb407, 3, none⟩ = some (.int .u16 a0_3) ∧ w'.cell? ⟨gb407, 4, none⟩ = some (.int .u16 a0_4) ∧ w'.cell? ⟨gb407, 5, none⟩ = some (.slice A0_5 l0_5.length c0_5)) (ds := []) #[false, false, false, false, false, false, false, false, false, false, false, false, false, false, false, false, false] (by kernel_rfl) rfl rfl ⟨(blk_cell BK416.out 0).trans rfl, (blk_cell BK416.out 1).trans rfl, (blk_cell BK416.out 2).trans rfl, (blk_cell BK416.out 3).trans rfl, (blk_cell BK416.out 4).trans rfl, (blk_cell BK416.out 5).trans rfl, (blk_cell BK407.out 0).trans rfl, (blk_cell BK407.out 1).trans rfl, (blk_cell BK407.out 2).trans rfl, (blk_cell BK407.out 3).trans rfl, (blk_cell BK407.out 4).trans rfl, (blk_cell BK407.out 5).trans rfl⟩ (fun hHeld => ?_); refine with_tabW patchbaylaw02_FrameTags.tab6 patchbaylaw02_FrameTags.bits6 (fun HT_ HW_ => ?_)
        generalize w71.drew = w72 at HO415 BK407 BK416 HB hHeld ⊢
        refine one_ (i := 0) (N := some 14) #[true, false, false, false, false, false, false, false, false, false, false, false, false, false, false, false, false] rfl rfl (one_of HT_.out (by kernel_rfl)) (by decide) (fun K hK => ?_)
        refine goes_ Try.func18 (by kernel_rfl) rfl #[] (by rfl) rfl rfl (by (try simp only [List.map_toArray, List.map_cons, List.map_nil]); first | done | rfl | (simp only [List.length_drop, List.length_take]; rfl)) ?_
        with_reducible refine (patchbaylaw02_told.calls k  true _ A45.out).mono ?_
        rintro e w73 ⟨rfl, hb⟩
        refine ⟨_, rfl, ?_⟩
        have n0_ := Aside0.mk (Kd.R_below (by (with_reducible repeat (first | apply Kd.R_alloc | apply Kd.R_drewN | apply Kd.R_drew)); exact HO415.out) hb)
        have n1_ := Aside0.mk (blk_below (g := gb407) (o := .cells #[.int .u64 a0_0, .int .u64 a0_1, .bool false, .int .u16 a0_3, .int .u16 a0_4, .slice A0_5 l0_5.length c0_5] 34 (0, 0)) (by (with_reducible repeat (first | refine blk_drewN ?_ _ | refine blk_drew ?_ | refine blk_alloc ?_ _)); exact BK407.out) hb)
        have n2_ := Aside0.mk (blk_below (g := gb416) (o := .cells #[.int .u64 t408, .int .u64 t409, .bool t410, .int .u16 t411, .int .u16 t412, .slice none 0 0] 39 (0, 0)) (by (with_reducible repeat (first | refine blk_drewN ?_ _ | refine blk_drew ?_ | refine blk_alloc ?_ _)); exact BK416.out) hb)
        have n3_ := Aside0.mk (below_step (by repeat (first | (with_reducible first | exact HB.out | apply below_alloc | apply pw_below_drewN | apply below_drew1 | refine below_set ?_ GE407.out | refine below_set ?_ GE416.out) | exact HB.out)) hb)
        clear HO415
        clear BK407
        clear BK416
        clear HB
        have HO415 := n0_
        have BK407 := n1_
        have BK416 := n2_
        have HB := n3_
        clear n0_ n1_ n2_ n3_
        (try clear hb)
        (try clear hb2)
        (try clear hk)
        (try clear hi)
        refine hK.out _ _ ⟨(blk_cell BK416.out 0).trans rfl, (blk_cell BK416.out 1).trans rfl, (blk_cell BK416.out 2).trans rfl, (blk_cell BK416.out 3).trans rfl, (blk_cell BK416.out 4).trans rfl, (blk_cell BK416.out 5).trans rfl, (blk_cell BK407.out 0).trans rfl, (blk_cell BK407.out 1).trans rfl, (blk_cell BK407.out 2).trans rfl, (blk_cell BK407.out 3).trans rfl, (blk_cell BK407.out 4).trans rfl, (blk_cell BK407.out 5).trans rfl⟩ (fun hHeld => ?_)
        clear hK K
        refine norm_ (a' := ?_) ?_ ?_
        rotate_left
        · show Act.put _ (some 14) _ = _
          simp only [Act.put, List.setIfInBounds_toArray, List.set_cons_zero, List.set_cons_succ, i64_w, i32_w]
          rfl
        refine pure_ (i := 1) (N := some 15) (v := ?_) (a' := ?_) #[true, true, false, false, false, false, false, false, false, false, false, false, false, false, false, false, false] rfl rfl (any_of HT_.out (by kernel_rfl)) (fun _ _ _ h => h) (Or.inl ⟨by rfl, ?_⟩) ?_ ?_
        rotate_left
        · intro w'
          go_simp
          with_reducible rfl
        rotate_left
        · simp only [Act.put, List.setIfInBounds_toArray, List.set_cons_zero, List.set_cons_succ, i64_w, i32_w]
          rfl
        refine pure_ (i := 4) (N := some 18) (v := ?_) (a' := ?_) #[true, true, false, false, true, false, false, false, false, false, false, false, false, false, false, false, false] rfl rfl (any_of HT_.out (by kernel_rfl)) (fun _ _ _ h => h) (Or.inl ⟨by rfl, ?_⟩) ?_ ?_
        rotate_left
        · intro w'
          go_simp
          with_reducible rfl
        rotate_left
        · simp only [Act.put, List.setIfInBounds_toArray, List.set_cons_zero, List.set_cons_succ, i64_w, i32_w]
          rfl
        refine take_ (i := 2) (N := some 16) (v := ?_) (a' := ?_) #[true, true, true, false, true, false, false, false, false, false, false, false, false, false, false, false, false] rfl rfl (take_ofW HT_.out HW_.out (by kernel_rfl)) (fun _ _ _ h => h) (Or.inl ⟨by rfl, ?_⟩) hHeld ?_ ?_
        rotate_left
        · rintro w' ⟨s0, s1, s2, s3, s4, s5, s6, s7, s8, s9, s10, s11⟩
          go_simp
          with_reducible rfl
        rotate_left
        · simp only [Act.put, List.setIfInBounds_toArray, List.set_cons_zero, List.set_cons_succ, i64_w, i32_w]
          rfl
        refine take_ (i := 5) (N := some 19) (v := ?_) (a' := ?_) #[true, true, true, false, true, true, false, false, false, false, false, false, false, false, false, false, false] rfl rfl (take_ofW HT_.out HW_.out (by kernel_rfl)) (fun _ _ _ h => h) (Or.inl ⟨by rfl, ?_⟩) hHeld ?_ ?_
        rotate_left
        · rintro w' ⟨s0, s1, s2, s3, s4, s5, s6, s7, s8, s9, s10, s11⟩
          go_simp
          with_reducible rfl
        rotate_left
        · simp only [Act.put, List.setIfInBounds_toArray, List.set_cons_zero, List.set_cons_succ, i64_w, i32_w]
          rfl
        refine pure_ (i := 6) (N := some 20) (v := ?_) (a' := ?_) #[true, true, true, false, true, true, true, false, false, false, false, false, false, false, false, false, false] rfl rfl (any_of HT_.out (by kernel_rfl)) (fun _ _ _ h => h) (Or.inl ⟨by rfl, ?_⟩) ?_ ?_
        rotate_left
        · intro w'
          go_simp
          with_reducible rfl
        rotate_left
        · simp only [Act.put, List.setIfInBounds_toArray, List.set_cons_zero, List.set_cons_succ, i64_w, i32_w]
          rfl
        refine pure_ (i := 7) (N := some 21) (v := ?_) (a' := ?_) #[true, true, true, false, true, true, true, true, false, false, false, false, false, false, false, false, false] rfl rfl (any_of HT_.out (by kernel_rfl)) (fun _ _ _ h => h) (Or.inl ⟨by rfl, ?_⟩) ?_ ?_
        rotate_left
        · intro w'
          go_simp
          with_reducible rfl
        rotate_left
        · simp only [Act.put, List.setIfInBounds_toArray, List.set_cons_zero, List.set_cons_succ, i64_w, i32_w]
          rfl
        refine one_ (i := 3) (N := some 17) #[true, true, true, true, true, true, true, true, false, false, false, false, false, false, false, false, false] rfl rfl (one_of HT_.out (by kernel_rfl)) (by decide) (fun K hK => ?_)
        refine goes_ Try.func23 (by kernel_rfl) rfl #[.agg #[.int .u64 t408, .int .u64 t409, .bool t410, .int .u16 t411, .int .u16 t412, .slice none 0 0]] (by rfl) rfl rfl (by (try simp only [List.map_toArray, List.map_cons, List.map_nil]); first | done | rfl | (simp only [List.length_drop, List.length_take]; rfl)) ?_
        refine (frame_Vid.calls t408 t409 t410 t411 t412 _ _ ([] : List Int) t421 _ ?side1 ?side2 A47.out).mono ?_
        (case side1 => exact Kd.C_nil _ _)
        (case side2 => exact Nat.le_refl _)
        rintro e w74 ⟨rfl, hb⟩
        refine ⟨_, rfl, ?_⟩
        have n0_ := Aside0.mk (Kd.R_below (by (with_reducible repeat (first | apply Kd.R_alloc | apply Kd.R_drewN | apply Kd.R_drew)); exact HO415.out) hb)
        have n1_ := Aside0.mk (blk_below (g := gb407) (o := .cells #[.int .u64 a0_0, .int .u64 a0_1, .bool false, .int .u16 a0_3, .int .u16 a0_4, .slice A0_5 l0_5.length c0_5] 34 (0, 0)) (by (with_reducible repeat (first | refine blk_drewN ?_ _ | refine blk_drew ?_ | refine blk_alloc ?_ _)); exact BK407.out) hb)
        have n2_ := Aside0.mk (blk_below (g := gb416) (o := .cells #[.int .u64 t408, .int .u64 t409, .bool t410, .int .u16 t411, .int .u16 t412, .slice none 0 0] 39 (0, 0)) (by (with_reducible repeat (first | refine blk_drewN ?_ _ | refine blk_drew ?_ | refine blk_alloc ?_ _)); exact BK416.out) hb)
        have n3_ := Aside0.mk (below_step (by repeat (first | (with_reducible first | exact HB.out | apply below_alloc | apply pw_below_drewN | apply below_drew1 | refine below_set ?_ GE407.out | refine below_set ?_ GE416.out) | exact HB.out)) hb)
        clear HO415
        clear BK407
        clear BK416
        clear HB
        have HO415 := n0_
        have BK407 := n1_
        have BK416 := n2_
        have HB := n3_
        clear n0_ n1_ n2_ n3_
        (try clear hb)
        (try clear hb2)
        (try clear hk)
        (try clear hi)
        refine hK.out _ _ ⟨(blk_cell BK416.out 0).trans rfl, (blk_cell BK416.out 1).trans rfl, (blk_cell BK416.out 2).trans rfl, (blk_cell BK416.out 3).trans rfl, (blk_cell BK416.out 4).trans rfl, (blk_cell BK416.out 5).trans rfl, (blk_cell BK407.out 0).trans rfl, (blk_cell BK407.out 1).trans rfl, (blk_cell BK407.out 2).trans rfl, (blk_cell BK407.out 3).trans rfl, (blk_cell BK407.out 4).trans rfl, (blk_cell BK407.out 5).trans rfl⟩ (fun hHeld => ?_)
        clear hK K
        refine norm_ (a' := ?_) ?_ ?_
        rotate_left
        · show Act.put _ (some 17) _ = _
          simp only [Act.put, List.setIfInBounds_toArray, List.set_cons_zero, List.set_cons_succ, i64_w, i32_w]
          rfl
        refine pure_ (i := 8) (N := some 22) (v := ?_) (a' := ?_) #[true, true, true, true, true, true, true, true, true, false, false, false, false, false, false, false, false] rfl rfl (any_of HT_.out (by kernel_rfl)) (fun _ _ _ h => h) (Or.inl ⟨by rfl, ?_⟩) ?_ ?_
        rotate_left
        · intro w'
          go_simp
          with_reducible rfl
        rotate_left
        · simp only [Act.put, List.setIfInBounds_toArray, List.set_cons_zero, List.set_cons_succ, i64_w, i32_w]
          rfl
        refine pure_ (i := 9) (N := some 23) (v := ?_) (a' := ?_) #[true, true, true, true, true, true, true, true, true, true, false, false, false, false, false, false, false] rfl rfl (any_of HT_.out (by kernel_rfl)) (fun _ _ _ h => h) (Or.inl ⟨by rfl, ?_⟩) ?_ ?_
        rotate_left
        · intro w'
          go_simp
          with_reducible rfl
        rotate_left
        · simp only [Act.put, List.setIfInBounds_toArray, List.set_cons_zero, List.set_cons_succ, i64_w, i32_w]
          rfl
        refine pure_ (i := 10) (N := some 24) (v := ?_) (a' := ?_) #[true, true, true, true, true, true, true, true, true, true, true, false, false, false, false, false, false] rfl rfl (any_of HT_.out (by kernel_rfl)) (fun _ _ _ h => h) (Or.inl ⟨by rfl, ?_⟩) ?_ ?_
        rotate_left
        · intro w'
          go_simp
          with_reducible rfl
        rotate_left
        · simp only [Act.put, List.setIfInBounds_toArray, List.set_cons_zero, List.set_cons_succ, i64_w, i32_w]
          rfl
        refine pure_ (i := 11) (N := some 25) (v := undef) (a' := ?_) #[true, true, true, true, true, true, true, true, true, true, true, true, false, false, false, false, false] rfl rfl (any_of HT_.out (by kernel_rfl)) (fun _ _ _ h => h) (Or.inr ⟨by rfl, rfl⟩) ?_ ?_
        rotate_left
        · simp only [Act.put, List.setIfInBounds_toArray, List.set_cons_zero, List.set_cons_succ, i64_w, i32_w]
          rfl
        refine pure_ (i := 12) (N := some 26) (v := undef) (a' := ?_) #[true, true, true, true, true, true, true, true, true, true, true, true, true, false, false, false, false] rfl rfl (any_of HT_.out (by kernel_rfl)) (fun _ _ _ h => h) (Or.inr ⟨by rfl, rfl⟩) ?_ ?_
        rotate_left
        · simp only [Act.put, List.setIfInBounds_toArray, List.set_cons_zero, List.set_cons_succ, i64_w, i32_w]
          rfl
        refine pure_ (i := 13) (N := some 27) (v := undef) (a' := ?_) #[true, true, true, true, true, true, true, true, true, true, true, true, true, true, false, false, false] rfl rfl (any_of HT_.out (by kernel_rfl)) (fun _ _ _ h => h) (Or.inr ⟨by rfl, rfl⟩) ?_ ?_
        rotate_left
        · simp only [Act.put, List.setIfInBounds_toArray, List.set_cons_zero, List.set_cons_succ, i64_w, i32_w]
          rfl
        refine pure_ (i := 14) (N := some 28) (v := undef) (a' := ?_) #[true, true, true, true, true, true, true, true, true, true, true, true, true, true, true, false, false] rfl rfl (any_of HT_.out (by kernel_rfl)) (fun _ _ _ h => h) (Or.inr ⟨by rfl, rfl⟩) ?_ ?_
        rotate_left
        · simp only [Act.put, List.setIfInBounds_toArray, List.set_cons_zero, List.set_cons_succ, i64_w, i32_w]
          rfl
        refine pure_ (i := 15) (N := some 29) (v := ?_) (a' := ?_) #[true, true, true, true, true, true, true, true, true, true, true, true, true, true, true, true, false] rfl rfl (any_of HT_.out (by kernel_rfl)) (fun _ _ _ h => h) (Or.inl ⟨by rfl, ?_⟩) ?_ ?_
        rotate_left
        · intro w'
          go_simp
          with_reducible rfl
        rotate_left
        · simp only [Act.put, List.setIfInBounds_toArray, List.set_cons_zero, List.set_cons_succ, i64_w, i32_w]
          rfl
        refine pure_ (i := 16) (N := some 2) (v := ?_) (a' := ?_) #[true, true, true, true, true, true, true, true, true, true, true, true, true, true, true, true, true] rfl rfl (any_of HT_.out (by kernel_rfl)) (fun _ _ _ h => h) (Or.inl ⟨by rfl, ?_⟩) ?_ ?_
        rotate_left
        · intro w'
          go_simp
          with_reducible rfl
        rotate_left
        · simp only [Act.put, List.setIfInBounds_toArray, List.set_cons_zero, List.set_cons_succ, i64_w, i32_w]
          rfl
        refine done_ (done_of HT_.out (by kernel_rfl)) ?_
        try go_wp2
        go_ret
        exact ⟨by first | rfl | (simp [errW_none, errW_some] <;> rfl) | (simp [*, errW_none, errW_some] <;> rfl), by repeat (first | (with_reducible first | exact HB.out | apply below_alloc | apply pw_below_drewN | apply below_drew1 | refine below_set ?_ GE407.out | refine below_set ?_ GE416.out) | exact HB.out)⟩
    · replace c46 := Bool.eq_false_iff.mpr c46
      subst c46
      have H1 : (some false) = some r := by rw [if_neg (show ¬ (false = true) by decide)] at H; exact H
      clear H
      have H := H1
      clear H1
      obtain rfl := Option.some.inj H
      go_enter Try.func7, Try.ntmps7
      try go_wp2_with (first | ((with_reducible refine gate_dst (N := 1) rfl ?_); refine box_event ?hg (N := 1) ?hd (cs := #[.int .u64 a0_0, .int .u64 a0_1, .bool false, .int .u16 a0_3, .int .u16 a0_4, .slice A0_5 l0_5.length c0_5]) (t := 34) ?hr ?_; (case hd => rfl); (case hg => rfl); (case hr => first | (go_simp; done) | (go_simp; rfl)); intro gb407 hg w75 hbox hb; have n0_ := Aside0.mk (below_step (by repeat (first | (with_reducible first | exact HB.out | apply below_alloc | apply pw_below_drewN | apply below_drew1) | exact HB.out)) hb); have n1_ := Aside0.mk (hbox); have n2_ := Aside0.mk ((by rw [hg]; exact (below_size (by repeat (first | (with_reducible first | exact HB.out | apply below_alloc | apply pw_below_drewN | apply below_drew1) | exact HB.out))) : w.heap.size ≤ gb407)); have n3_ := Aside0.mk ((by rw [hg]; exact (below_size (by repeat (first | (with_reducible first | exact HB.out | apply below_alloc | apply pw_below_drewN | apply below_drew1) | exact HB.out))) : w.heap.size ≤ gb407)); clear HB; have HB := n0_; have BK407 := n1_; have GW407 := n2_; have GE407 := n3_; clear n0_ n1_ n2_ n3_; clear hb hbox hg; have hcz76_0 : w75.cell? ⟨gb407, 0, none⟩ = some (.int .u64 a0_0) := (blk_cell BK407.out 0).trans rfl; have hcz76_1 : w75.cell? ⟨gb407, 1, none⟩ = some (.int .u64 a0_1) := (blk_cell BK407.out 1).trans rfl; have hcz76_2 : w75.cell? ⟨gb407, 2, none⟩ = some (.bool false) := (blk_cell BK407.out 2).trans rfl; have hcz76_3 : w75.cell? ⟨gb407, 3, none⟩ = some (.int .u16 a0_3) := (blk_cell BK407.out 3).trans rfl; have hcz76_4 : w75.cell? ⟨gb407, 4, none⟩ = some (.int .u16 a0_4) := (blk_cell BK407.out 4).trans rfl; have hcz76_5 : w75.cell? ⟨gb407, 5, none⟩ = some (.slice A0_5 l0_5.length c0_5) := (blk_cell BK407.out 5).trans rfl; have hfz76_0 := blk_frozen BK407.out 0; have hfz76_1 := blk_frozen BK407.out 1; have hfz76_2 := blk_frozen BK407.out 2; have hfz76_3 := blk_frozen BK407.out 3; have hfz76_4 := blk_frozen BK407.out 4; have hfz76_5 := blk_frozen BK407.out 5) | ((with_reducible refine gate_callee (f := 22) rfl ?_); refine goesL_ (some 6) rfl rfl Try.func22 (by kernel_rfl) rfl #[.agg #[.int .u64 a0_0, .int .u64 a0_1, .bool false, .int .u16 a0_3, .int .u16 a0_4, .slice A0_5 l0_5.length c0_5]] rfl (by (try simp only [List.map_toArray, List.map_cons, List.map_nil]); first | done | rfl | (simp only [List.length_drop, List.length_take]; rfl)) ?_; (with_reducible refine (patchbaylaw02_To.calls a0_0 a0_1 false a0_3 a0_4 _ _ l0_5 t408 t409 t410 t411 t412 t413 _ ?side1 ?side2 A2.out).mono ?_); (case side1 => repeat (first | exact (Kd.C_below HR0_5.out HB.out) | (with_reducible refine Kd.C_alloc ?_ _) | (with_reducible refine Kd.C_drewN ?_ _) | (with_reducible refine Kd.C_drew ?_))); (case side2 => exact HC0_5.out); rintro e w77 ⟨v414, rfl, ho0, hb⟩; refine ⟨_, rfl, ?_⟩; have n0_ := Aside0.mk (Kd.R_lower ho0 (below_size (by repeat (first | (with_reducible first | exact HB.out | apply below_alloc | apply pw_below_drewN | apply below_drew1 | refine below_set ?_ GE407.out) | exact HB.out)))); have n1_ := Aside0.mk (blk_below (g := gb407) (o := .cells #[.int .u64 a0_0, .int .u64 a0_1, .bool false, .int .u16 a0_3, .int .u16 a0_4, .slice A0_5 l0_5.length c0_5] 34 (0, 0)) (by (with_reducible repeat (first | refine blk_drewN ?_ _ | refine blk_drew ?_ | refine blk_alloc ?_ _)); exact BK407.out) hb); have n2_ := Aside0.mk (below_step (by repeat (first | (with_reducible first | exact HB.out | apply below_alloc | apply pw_below_drewN | apply below_drew1 | refine below_set ?_ GE407.out) | exact HB.out)) hb); clear BK407; clear HB; have HO415 := n0_; have BK407 := n1_; have HB := n2_; clear n0_ n1_ n2_; (try clear hb); (try clear hb2); (try clear hk); (try clear hi); (try clear ho0)) | ((with_reducible refine gate_dst (N := 3) rfl ?_); refine box_event ?hg (N := 3) ?hd (cs := #[.int .u64 0, .int .u64 0, .bool false, .int .u16 0, .int .u16 0, .slice none 0 0]) (t := 39) ?hr ?_; (case hd => rfl); (case hg => rfl); (case hr => first | (go_simp; done) | (go_simp; rfl)); intro gb416 hg w78 hbox hb; have n0_ := Aside0.mk (Kd.R_below (by (with_reducible repeat (first | apply Kd.R_alloc | apply Kd.R_drewN | apply Kd.R_drew)); exact HO415.out) hb); have n1_ := Aside0.mk (blk_below (g := gb407) (o := .cells #[.int .u64 a0_0, .int .u64 a0_1, .bool false, .int .u16 a0_3, .int .u16 a0_4, .slice A0_5 l0_5.length c0_5] 34 (0, 0)) (by (with_reducible repeat (first | refine blk_drewN ?_ _ | refine blk_drew ?_ | refine blk_alloc ?_ _)); exact BK407.out) hb); have n2_ := Aside0.mk (below_step (by repeat (first | (with_reducible first | exact HB.out | apply below_alloc | apply pw_below_drewN | apply below_drew1 | refine below_set ?_ GE407.out) | exact HB.out)) hb); have n3_ := Aside0.mk (hbox); have n4_ := Aside0.mk ((by rw [hg]; exact (below_size (by repeat (first | (with_reducible first | exact HB.out | apply below_alloc | apply pw_below_drewN | apply below_drew1 | refine below_set ?_ GE407.out) | exact HB.out))) : w.heap.size ≤ gb416)); have n5_ := Aside0.mk ((by rw [hg]; exact (below_size (by repeat (first | (with_reducible first | exact HB.out | apply below_alloc | apply pw_below_drewN | apply below_drew1 | refine below_set ?_ GE407.out) | exact HB.out))) : w.heap.size ≤ gb416)); have n6_ := Aside0.mk ((by rw [hg]; exact Nat.ne_of_lt (blk_lt (g := gb407) (o := .cells #[.int .u64 a0_0, .int .u64 a0_1, .bool false, .int .u16 a0_3, .int .u16 a0_4, .slice A0_5 l0_5.length c0_5] 34 (0, 0)) (by (with_reducible repeat (first | refine blk_drewN ?_ _ | refine blk_drew ?_ | refine blk_alloc ?_ _)); exact BK407.out)) : gb407 ≠ gb416)); have n7_ := Aside0.mk ((by rw [hg]; exact Nat.ne_of_gt (blk_lt (g := gb407) (o := .cells #[.int .u64 a0_0, .int .u64 a0_1, .bool false, .int .u16 a0_3, .int .u16 a0_4, .slice A0_5 l0_5.length c0_5] 34 (0, 0)) (by (with_reducible repeat (first | refine blk_drewN ?_ _ | refine blk_drew ?_ | refine blk_alloc ?_ _)); exact BK407.out)) : gb416 ≠ gb407)); clear HO415; clear BK407; clear HB; have HO415 := n0_; have BK407 := n1_; have HB := n2_; have BK416 := n3_; have GW416 := n4_; have GE416 := n5_; have NB407_416 := n6_; have NB416_407 := n7_; clear n0_ n1_ n2_ n3_ n4_ n5_ n6_ n7_; clear hb hbox hg; have hnb79 := NB416_407.out; have hnc79 := NB407_416.out; have hcz80_0 : w78.cell? ⟨gb416, 0, none⟩ = some (.int .u64 0) := (blk_cell BK416.out 0).trans rfl; have hcz80_1 : w78.cell? ⟨gb416, 1, none⟩ = some (.int .u64 0) := (blk_cell BK416.out 1).trans rfl; have hcz80_2 : w78.cell? ⟨gb416, 2, none⟩ = some (.bool false) := (blk_cell BK416.out 2).trans rfl; have hcz80_3 : w78.cell? ⟨gb416, 3, none⟩ = some (.int .u16 0) := (blk_cell BK416.out 3).trans rfl; have hcz80_4 : w78.cell? ⟨gb416, 4, none⟩ = some (.int .u16 0) := (blk_cell BK416.out 4).trans rfl; have hcz80_5 : w78.cell? ⟨gb416, 5, none⟩ = some (.slice none 0 0) := (blk_cell BK416.out 5).trans rfl; have hfz80_0 := blk_frozen BK416.out 0; have hfz80_1 := blk_frozen BK416.out 1; have hfz80_2 := blk_frozen BK416.out 2; have hfz80_3 := blk_frozen BK416.out 3; have hfz80_4 := blk_frozen BK416.out 4; have hfz80_5 := blk_frozen BK416.out 5; obtain ⟨Ao81, co81, eo81⟩ := Kd.R_slice HO415.out; subst eo81; have hcz82_0 : w78.cell? ⟨gb407, 0, none⟩ = some (.int .u64 a0_0) := (blk_cell BK407.out 0).trans rfl; have hcz82_1 : w78.cell? ⟨gb407, 1, none⟩ = some (.int .u64 a0_1) := (blk_cell BK407.out 1).trans rfl; have hcz82_2 : w78.cell? ⟨gb407, 2, none⟩ = some (.bool false) := (blk_cell BK407.out 2).trans rfl; have hcz82_3 : w78.cell? ⟨gb407, 3, none⟩ = some (.int .u16 a0_3) := (blk_cell BK407.out 3).trans rfl; have hcz82_4 : w78.cell? ⟨gb407, 4, none⟩ = some (.int .u16 a0_4) := (blk_cell BK407.out 4).trans rfl; have hcz82_5 : w78.cell? ⟨gb407, 5, none⟩ = some (.slice A0_5 l0_5.length c0_5) := (blk_cell BK407.out 5).trans rfl; have hfz82_0 := blk_frozen BK407.out 0; have hfz82_1 := blk_frozen BK407.out 1; have hfz82_2 := blk_frozen BK407.out 2; have hfz82_3 := blk_frozen BK407.out 3; have hfz82_4 := blk_frozen BK407.out 4; have hfz82_5 := blk_frozen BK407.out 5))
      have n0_ : Aside0 (Kd.R (Kd.int .u8) 5 (((((((w78.setCell ⟨gb416, 0, none⟩ (.int .u64 t408)).setCell ⟨gb416, 1, none⟩ (.int .u64 t409)).setCell ⟨gb416, 2, none⟩ (.bool t410)).setCell ⟨gb416, 3, none⟩ (.int .u16 t411)).setCell ⟨gb416, 4, none⟩ (.int .u16 t412)).setCell ⟨gb416, 5, none⟩ (.slice Ao81 t413.length co81)).setCell ⟨gb416, 5, none⟩ (.slice none 0 0)) w.heap.size (fun _ => True) (.slice Ao81 t413.length co81) t413) := ⟨by (with_reducible repeat (first | apply Kd.R_alloc | apply Kd.R_drewN | apply Kd.R_drew)); exact Kd.R_mono (Kd.R_far (p := ⟨gb416, 5, none⟩) (Kd.R_far (p := ⟨gb416, 5, none⟩) (Kd.R_far (p := ⟨gb416, 4, none⟩) (Kd.R_far (p := ⟨gb416, 3, none⟩) (Kd.R_far (p := ⟨gb416, 2, none⟩) (Kd.R_far (p := ⟨gb416, 1, none⟩) (Kd.R_far (p := ⟨gb416, 0, none⟩) (Kd.R_types HO415.out BK416.out (by decide)) (fun _ hk => hk.2) (.int .u64 t408)) (fun _ hk => hk.2) (.int .u64 t409)) (fun _ hk => hk.2) (.bool t410)) (fun _ hk => hk.2) (.int .u16 t411)) (fun _ hk => hk.2) (.int .u16 t412)) (fun _ hk => hk.2) (.slice Ao81 t413.length co81)) (fun _ hk => hk.2) (.slice none 0 0)) (fun _ hk => trivial)⟩
      have n1_ : Aside0 ((((((((w78.setCell ⟨gb416, 0, none⟩ (.int .u64 t408)).setCell ⟨gb416, 1, none⟩ (.int .u64 t409)).setCell ⟨gb416, 2, none⟩ (.bool t410)).setCell ⟨gb416, 3, none⟩ (.int .u16 t411)).setCell ⟨gb416, 4, none⟩ (.int .u16 t412)).setCell ⟨gb416, 5, none⟩ (.slice Ao81 t413.length co81)).setCell ⟨gb416, 5, none⟩ (.slice none 0 0)).heap[gb407]? = some (.cells #[.int .u64 a0_0, .int .u64 a0_1, .bool false, .int .u16 a0_3, .int .u16 a0_4, .slice A0_5 l0_5.length c0_5] 34 (0, 0))) := ⟨by (with_reducible repeat (first | refine blk_drewN ?_ _ | refine blk_drew ?_ | refine blk_alloc ?_ _)); refine blk_far ?_ NB407_416.out _; (with_reducible repeat (first | refine blk_drewN ?_ _ | refine blk_drew ?_ | refine blk_alloc ?_ _)); refine blk_far ?_ NB407_416.out _; (with_reducible repeat (first | refine blk_drewN ?_ _ | refine blk_drew ?_ | refine blk_alloc ?_ _)); refine blk_far ?_ NB407_416.out _; (with_reducible repeat (first | refine blk_drewN ?_ _ | refine blk_drew ?_ | refine blk_alloc ?_ _)); refine blk_far ?_ NB407_416.out _; (with_reducible repeat (first | refine blk_drewN ?_ _ | refine blk_drew ?_ | refine blk_alloc ?_ _)); refine blk_far ?_ NB407_416.out _; (with_reducible repeat (first | refine blk_drewN ?_ _ | refine blk_drew ?_ | refine blk_alloc ?_ _)); refine blk_far ?_ NB407_416.out _; (with_reducible repeat (first | refine blk_drewN ?_ _ | refine blk_drew ?_ | refine blk_alloc ?_ _)); refine blk_far ?_ NB407_416.out _; (with_reducible repeat (first | refine blk_drewN ?_ _ | refine blk_drew ?_ | refine blk_alloc ?_ _)); exact BK407.out⟩
      have n2_ : Aside0 ((((((((w78.setCell ⟨gb416, 0, none⟩ (.int .u64 t408)).setCell ⟨gb416, 1, none⟩ (.int .u64 t409)).setCell ⟨gb416, 2, none⟩ (.bool t410)).setCell ⟨gb416, 3, none⟩ (.int .u16 t411)).setCell ⟨gb416, 4, none⟩ (.int .u16 t412)).setCell ⟨gb416, 5, none⟩ (.slice Ao81 t413.length co81)).setCell ⟨gb416, 5, none⟩ (.slice none 0 0)).heap[gb416]? = some (.cells #[.int .u64 t408, .int .u64 t409, .bool t410, .int .u16 t411, .int .u16 t412, .slice none 0 0] 39 (0, 0))) := ⟨by (with_reducible repeat (first | refine blk_drewN ?_ _ | refine blk_drew ?_ | refine blk_alloc ?_ _)); refine blk_put (cs := #[.int .u64 t408, .int .u64 t409, .bool t410, .int .u16 t411, .int .u16 t412, .slice Ao81 t413.length co81]) ?_ 5 _ rfl; (with_reducible repeat (first | refine blk_drewN ?_ _ | refine blk_drew ?_ | refine blk_alloc ?_ _)); refine blk_put (cs := #[.int .u64 t408, .int .u64 t409, .bool t410, .int .u16 t411, .int .u16 t412, .slice none 0 0]) ?_ 5 _ rfl; (with_reducible repeat (first | refine blk_drewN ?_ _ | refine blk_drew ?_ | refine blk_alloc ?_ _)); refine blk_put (cs := #[.int .u64 t408, .int .u64 t409, .bool t410, .int .u16 t411, .int .u16 0, .slice none 0 0]) ?_ 4 _ rfl; (with_reducible repeat (first | refine blk_drewN ?_ _ | refine blk_drew ?_ | refine blk_alloc ?_ _)); refine blk_put (cs := #[.int .u64 t408, .int .u64 t409, .bool t410, .int .u16 0, .int .u16 0, .slice none 0 0]) ?_ 3 _ rfl; (with_reducible repeat (first | refine blk_drewN ?_ _ | refine blk_drew ?_ | refine blk_alloc ?_ _)); refine blk_put (cs := #[.int .u64 t408, .int .u64 t409, .bool false, .int .u16 0, .int .u16 0, .slice none 0 0]) ?_ 2 _ rfl; (with_reducible repeat (first | refine blk_drewN ?_ _ | refine blk_drew ?_ | refine blk_alloc ?_ _)); refine blk_put (cs := #[.int .u64 t408, .int .u64 0, .bool false, .int .u16 0, .int .u16 0, .slice none 0 0]) ?_ 1 _ rfl; (with_reducible repeat (first | refine blk_drewN ?_ _ | refine blk_drew ?_ | refine blk_alloc ?_ _)); refine blk_put (cs := #[.int .u64 0, .int .u64 0, .bool false, .int .u16 0, .int .u16 0, .slice none 0 0]) ?_ 0 _ rfl; (with_reducible repeat (first | refine blk_drewN ?_ _ | refine blk_drew ?_ | refine blk_alloc ?_ _)); exact BK416.out⟩
      have n3_ : Aside0 (Below w.heap.size w (((((((w78.setCell ⟨gb416, 0, none⟩ (.int .u64 t408)).setCell ⟨gb416, 1, none⟩ (.int .u64 t409)).setCell ⟨gb416, 2, none⟩ (.bool t410)).setCell ⟨gb416, 3, none⟩ (.int .u16 t411)).setCell ⟨gb416, 4, none⟩ (.int .u16 t412)).setCell ⟨gb416, 5, none⟩ (.slice Ao81 t413.length co81)).setCell ⟨gb416, 5, none⟩ (.slice none 0 0))) := ⟨by repeat (first | (with_reducible first | exact HB.out | apply below_alloc | apply pw_below_drewN | apply below_drew1 | refine below_set ?_ GE407.out | refine below_set ?_ GE416.out) | exact HB.out)⟩
      (try clear HO415)
      (try clear BK407)
      (try clear BK416)
      (try clear HB)
      generalize (((((((w78.setCell ⟨gb416, 0, none⟩ (.int .u64 t408)).setCell ⟨gb416, 1, none⟩ (.int .u64 t409)).setCell ⟨gb416, 2, none⟩ (.bool t410)).setCell ⟨gb416, 3, none⟩ (.int .u16 t411)).setCell ⟨gb416, 4, none⟩ (.int .u16 t412)).setCell ⟨gb416, 5, none⟩ (.slice Ao81 t413.length co81)).setCell ⟨gb416, 5, none⟩ (.slice none 0 0)) = w83 at n0_ n1_ n2_ n3_ ⊢
      have HO415 := n0_
      have BK407 := n1_
      have BK416 := n2_
      have HB := n3_
      clear n0_ n1_ n2_ n3_
      have n0_ := Aside0.mk (Kd.R_drew HO415.out)
      have n1_ := Aside0.mk (blk_drew BK407.out)
      have n2_ := Aside0.mk (blk_drew BK416.out)
      have n3_ := Aside0.mk (below_drew1 HB.out)
      clear HO415
      clear BK407
      clear BK416
      clear HB
      have HO415 := n0_
      have BK407 := n1_
      have BK416 := n2_
      have HB := n3_
      clear n0_ n1_ n2_ n3_
      refine start_ (n := 17) (S := fun w' => True) (ds := []) #[false, false, false, false, false, false, false, false, false, false, false, false, false, false, false, false, false] (by kernel_rfl) rfl rfl trivial (fun hHeld => ?_); refine with_tabW patchbaylaw02_FrameTags.tab6 patchbaylaw02_FrameTags.bits6 (fun HT_ HW_ => ?_)
      generalize w83.drew = w84 at HO415 BK407 BK416 HB hHeld ⊢
      refine one_ (i := 0) (N := some 14) #[true, false, false, false, false, false, false, false, false, false, false, false, false, false, false, false, false] rfl rfl (one_of HT_.out (by kernel_rfl)) (by decide) (fun K hK => ?_)
      refine goes_ Try.func18 (by kernel_rfl) rfl #[] (by rfl) rfl rfl (by (try simp only [List.map_toArray, List.map_cons, List.map_nil]); first | done | rfl | (simp only [List.length_drop, List.length_take]; rfl)) ?_
      with_reducible refine (patchbaylaw02_told.calls k  false _ A45.out).mono ?_
      rintro e w85 ⟨rfl, hb⟩
      refine ⟨_, rfl, ?_⟩
      have n0_ := Aside0.mk (Kd.R_below (by (with_reducible repeat (first | apply Kd.R_alloc | apply Kd.R_drewN | apply Kd.R_drew)); exact HO415.out) hb)
      have n1_ := Aside0.mk (blk_below (g := gb407) (o := .cells #[.int .u64 a0_0, .int .u64 a0_1, .bool false, .int .u16 a0_3, .int .u16 a0_4, .slice A0_5 l0_5.length c0_5] 34 (0, 0)) (by (with_reducible repeat (first | refine blk_drewN ?_ _ | refine blk_drew ?_ | refine blk_alloc ?_ _)); exact BK407.out) hb)
      have n2_ := Aside0.mk (blk_below (g := gb416) (o := .cells #[.int .u64 t408, .int .u64 t409, .bool t410, .int .u16 t411, .int .u16 t412, .slice none 0 0] 39 (0, 0)) (by (with_reducible repeat (first | refine blk_drewN ?_ _ | refine blk_drew ?_ | refine blk_alloc ?_ _)); exact BK416.out) hb)
      have n3_ := Aside0.mk (below_step (by repeat (first | (with_reducible first | exact HB.out | apply below_alloc | apply pw_below_drewN | apply below_drew1 | refine below_set ?_ GE407.out | refine below_set ?_ GE416.out) | exact HB.out)) hb)
      clear HO415
      clear BK407
      clear BK416
      clear HB
      have HO415 := n0_
      have BK407 := n1_
      have BK416 := n2_
      have HB := n3_
      clear n0_ n1_ n2_ n3_
      (try clear hb)
      (try clear hb2)
      (try clear hk)
      (try clear hi)
      refine hK.out _ _ trivial (fun hHeld => ?_)
      clear hK K
      refine norm_ (a' := ?_) ?_ ?_
      rotate_left
      · show Act.put _ (some 14) _ = _
        simp only [Act.put, List.setIfInBounds_toArray, List.set_cons_zero, List.set_cons_succ, i64_w, i32_w]
        rfl
      refine pure_ (i := 1) (N := some 15) (v := ?_) (a' := ?_) #[true, true, false, false, false, false, false, false, false, false, false, false, false, false, false, false, false] rfl rfl (any_of HT_.out (by kernel_rfl)) (fun _ _ _ h => h) (Or.inl ⟨by rfl, ?_⟩) ?_ ?_
      rotate_left
      · intro w'
        go_simp
        with_reducible rfl
      rotate_left
      · simp only [Act.put, List.setIfInBounds_toArray, List.set_cons_zero, List.set_cons_succ, i64_w, i32_w]
        rfl
      refine pure_ (i := 2) (N := some 16) (v := undef) (a' := ?_) #[true, true, true, false, false, false, false, false, false, false, false, false, false, false, false, false, false] rfl rfl (any_of HT_.out (by kernel_rfl)) (fun _ _ _ h => h) (Or.inr ⟨by rfl, rfl⟩) ?_ ?_
      rotate_left
      · simp only [Act.put, List.setIfInBounds_toArray, List.set_cons_zero, List.set_cons_succ, i64_w, i32_w]
        rfl
      refine pure_ (i := 3) (N := some 17) (v := undef) (a' := ?_) #[true, true, true, true, false, false, false, false, false, false, false, false, false, false, false, false, false] rfl rfl (any_of HT_.out (by kernel_rfl)) (fun _ _ _ h => h) (Or.inr ⟨by rfl, rfl⟩) ?_ ?_
      rotate_left
      · simp only [Act.put, List.setIfInBounds_toArray, List.set_cons_zero, List.set_cons_succ, i64_w, i32_w]
        rfl
      refine pure_ (i := 4) (N := some 18) (v := undef) (a' := ?_) #[true, true, true, true, true, false, false, false, false, false, false, false, false, false, false, false, false] rfl rfl (any_of HT_.out (by kernel_rfl)) (fun _ _ _ h => h) (Or.inr ⟨by rfl, rfl⟩) ?_ ?_
      rotate_left
      · simp only [Act.put, List.setIfInBounds_toArray, List.set_cons_zero, List.set_cons_succ, i64_w, i32_w]
        rfl
      refine pure_ (i := 5) (N := some 19) (v := undef) (a' := ?_) #[true, true, true, true, true, true, false, false, false, false, false, false, false, false, false, false, false] rfl rfl (any_of HT_.out (by kernel_rfl)) (fun _ _ _ h => h) (Or.inr ⟨by rfl, rfl⟩) ?_ ?_
      rotate_left
      · simp only [Act.put, List.setIfInBounds_toArray, List.set_cons_zero, List.set_cons_succ, i64_w, i32_w]
        rfl
      refine pure_ (i := 6) (N := some 20) (v := undef) (a' := ?_) #[true, true, true, true, true, true, true, false, false, false, false, false, false, false, false, false, false] rfl rfl (any_of HT_.out (by kernel_rfl)) (fun _ _ _ h => h) (Or.inr ⟨by rfl, rfl⟩) ?_ ?_
      rotate_left
      · simp only [Act.put, List.setIfInBounds_toArray, List.set_cons_zero, List.set_cons_succ, i64_w, i32_w]
        rfl
      refine pure_ (i := 7) (N := some 21) (v := undef) (a' := ?_) #[true, true, true, true, true, true, true, true, false, false, false, false, false, false, false, false, false] rfl rfl (any_of HT_.out (by kernel_rfl)) (fun _ _ _ h => h) (Or.inr ⟨by rfl, rfl⟩) ?_ ?_
      rotate_left
      · simp only [Act.put, List.setIfInBounds_toArray, List.set_cons_zero, List.set_cons_succ, i64_w, i32_w]
        rfl
      refine pure_ (i := 8) (N := some 22) (v := undef) (a' := ?_) #[true, true, true, true, true, true, true, true, true, false, false, false, false, false, false, false, false] rfl rfl (any_of HT_.out (by kernel_rfl)) (fun _ _ _ h => h) (Or.inr ⟨by rfl, rfl⟩) ?_ ?_
      rotate_left
      · simp only [Act.put, List.setIfInBounds_toArray, List.set_cons_zero, List.set_cons_succ, i64_w, i32_w]
        rfl
      refine pure_ (i := 9) (N := some 23) (v := ?_) (a' := ?_) #[true, true, true, true, true, true, true, true, true, true, false, false, false, false, false, false, false] rfl rfl (any_of HT_.out (by kernel_rfl)) (fun _ _ _ h => h) (Or.inl ⟨by rfl, ?_⟩) ?_ ?_
      rotate_left
      · intro w'
        go_simp
        with_reducible rfl
      rotate_left
      · simp only [Act.put, List.setIfInBounds_toArray, List.set_cons_zero, List.set_cons_succ, i64_w, i32_w]
        rfl
      refine pure_ (i := 10) (N := some 24) (v := ?_) (a' := ?_) #[true, true, true, true, true, true, true, true, true, true, true, false, false, false, false, false, false] rfl rfl (any_of HT_.out (by kernel_rfl)) (fun _ _ _ h => h) (Or.inl ⟨by rfl, ?_⟩) ?_ ?_
      rotate_left
      · intro w'
        go_simp
        with_reducible rfl
      rotate_left
      · simp only [Act.put, List.setIfInBounds_toArray, List.set_cons_zero, List.set_cons_succ, i64_w, i32_w]
        rfl
      refine pure_ (i := 11) (N := some 25) (v := undef) (a' := ?_) #[true, true, true, true, true, true, true, true, true, true, true, true, false, false, false, false, false] rfl rfl (any_of HT_.out (by kernel_rfl)) (fun _ _ _ h => h) (Or.inr ⟨by rfl, rfl⟩) ?_ ?_
      rotate_left
      · simp only [Act.put, List.setIfInBounds_toArray, List.set_cons_zero, List.set_cons_succ, i64_w, i32_w]
        rfl
      refine pure_ (i := 12) (N := some 26) (v := undef) (a' := ?_) #[true, true, true, true, true, true, true, true, true, true, true, true, true, false, false, false, false] rfl rfl (any_of HT_.out (by kernel_rfl)) (fun _ _ _ h => h) (Or.inr ⟨by rfl, rfl⟩) ?_ ?_
      rotate_left
      · simp only [Act.put, List.setIfInBounds_toArray, List.set_cons_zero, List.set_cons_succ, i64_w, i32_w]
        rfl
      refine pure_ (i := 13) (N := some 27) (v := undef) (a' := ?_) #[true, true, true, true, true, true, true, true, true, true, true, true, true, true, false, false, false] rfl rfl (any_of HT_.out (by kernel_rfl)) (fun _ _ _ h => h) (Or.inr ⟨by rfl, rfl⟩) ?_ ?_
      rotate_left
      · simp only [Act.put, List.setIfInBounds_toArray, List.set_cons_zero, List.set_cons_succ, i64_w, i32_w]
        rfl
      refine pure_ (i := 14) (N := some 28) (v := undef) (a' := ?_) #[true, true, true, true, true, true, true, true, true, true, true, true, true, true, true, false, false] rfl rfl (any_of HT_.out (by kernel_rfl)) (fun _ _ _ h => h) (Or.inr ⟨by rfl, rfl⟩) ?_ ?_
      rotate_left
      · simp only [Act.put, List.setIfInBounds_toArray, List.set_cons_zero, List.set_cons_succ, i64_w, i32_w]
        rfl
      refine pure_ (i := 15) (N := some 29) (v := ?_) (a' := ?_) #[true, true, true, true, true, true, true, true, true, true, true, true, true, true, true, true, false] rfl rfl (any_of HT_.out (by kernel_rfl)) (fun _ _ _ h => h) (Or.inl ⟨by rfl, ?_⟩) ?_ ?_
      rotate_left
      · intro w'
        go_simp
        with_reducible rfl
      rotate_left
      · simp only [Act.put, List.setIfInBounds_toArray, List.set_cons_zero, List.set_cons_succ, i64_w, i32_w]
        rfl
      refine pure_ (i := 16) (N := some 2) (v := ?_) (a' := ?_) #[true, true, true, true, true, true, true, true, true, true, true, true, true, true, true, true, true] rfl rfl (any_of HT_.out (by kernel_rfl)) (fun _ _ _ h => h) (Or.inl ⟨by rfl, ?_⟩) ?_ ?_
      rotate_left
      · intro w'
        go_simp
        with_reducible rfl
      rotate_left
      · simp only [Act.put, List.setIfInBounds_toArray, List.set_cons_zero, List.set_cons_succ, i64_w, i32_w]
        rfl
      refine done_ (done_of HT_.out (by kernel_rfl)) ?_
      try go_wp2
      go_ret
      exact ⟨by first | rfl | (simp [errW_none, errW_some] <;> rfl) | (simp [*, errW_none, errW_some] <;> rfl), by repeat (first | (with_reducible first | exact HB.out | apply below_alloc | apply pw_below_drewN | apply below_drew1 | refine below_set ?_ GE407.out | refine below_set ?_ GE416.out) | exact HB.out)⟩

end Go.Proofs.Ytdohdjfclnlpmaa.PFrame
