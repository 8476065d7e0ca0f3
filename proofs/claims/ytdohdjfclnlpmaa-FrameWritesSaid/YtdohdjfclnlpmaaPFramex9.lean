/- Plain Lean functions of what a law comes to, and their contracts: the machine's call does what they say; no condition. Written by wip/myprint.sh over the kit's print.py. -/
import Derived.Test.YtdohdjfclnlpmaaPFramex0
import Derived.Test.YtdohdjfclnlpmaaFW
import Derived.Test.YtdohdjfclnlpmaaPFramex1
import Derived.Test.YtdohdjfclnlpmaaPFramex3
import Derived.Test.YtdohdjfclnlpmaaPFramex8
namespace Go.Proofs.Ytdohdjfclnlpmaa.PFrame
open Go.RowKit Go.Proofs.YtdohdjfclnlpmaaW.PrintWords Go.Proofs.YtdohdjfclnlpmaaW.PrintLast Go.Proofs.YtdohdjfclnlpmaaW.PrintMore
attribute [local go_sem] max2_int min2_int max_two min_two max_three min_three max_four min_four   -- for this text's walks alone
set_option linter.unusedVariables false
set_option linter.unusedSimpArgs false

/-! ### frame_Write: function 42 -/
def frame_Write.j0 : Nat → Bool → Int → Int → Bool → Int → Int → List Int → Option (List Int × Int)
  | 0, _, _, _, _, _, _, _ => none
  | k + 1, x5, x254000, x254001, x254002, x254003, x254004, x254005 => if x5 = true then (some (([] : List Int), 1)) else (if (x254005.length : Int) > 1500 then (some (([] : List Int), 3)) else ((frame_form.f x254004 (x254005.length : Int)).bind fun t256 => (if t256 = true then ((mac_Bytes.f k x254000).bind fun t257 => ((mac_Bytes.f k x254001).bind fun t260 => (if t257.length + t260.length < 140737488355328 then ((some (t257 ++ t260 : List Int)).bind fun y263 => (if x254002 = true then ((frame_put.f y263 33024).bind fun t266 => ((frame_put.f t266 x254003).bind fun t269 => ((frame_put.f t269 x254004).bind fun t272 => (if t272.length + x254005.length < 140737488355328 then ((frame_padded.f (t272 ++ x254005)).bind fun t278 => (some (t278, 0))) else (none))))) else ((frame_put.f y263 x254004).bind fun t281 => (if t281.length + x254005.length < 140737488355328 then ((frame_padded.f (t281 ++ x254005)).bind fun t287 => (some (t287, 0))) else (none))))) else (none)))) else (some (([] : List Int), 4)))))
def frame_Write.f (k : Nat) (a0_0 : Int) (a0_1 : Int) (a0_2 : Bool) (a0_3 : Int) (a0_4 : Int) (l0_5 : List Int) : Option (List Int × Int) := (mac_Right.f a0_0).bind fun t254 => (if t254 = true then ((mac_Right.f a0_1).bind fun t255 => (if t255 = true then (if a0_2 = true then (frame_Write.j0 k false a0_0 a0_1 a0_2 a0_3 a0_4 l0_5) else (if a0_3 = 0 then (frame_Write.j0 k (a0_4 == 33024) a0_0 a0_1 a0_2 a0_3 a0_4 l0_5) else (frame_Write.j0 k true a0_0 a0_1 a0_2 a0_3 a0_4 l0_5))) else (frame_Write.j0 k (!t255) a0_0 a0_1 a0_2 a0_3 a0_4 l0_5))) else (frame_Write.j0 k (!t254) a0_0 a0_1 a0_2 a0_3 a0_4 l0_5))
theorem frame_Write.mono_l : ∀ k, (∀ y0 y1 y2 y3 y4 y5 y6, LeO (frame_Write.j0 k y0 y1 y2 y3 y4 y5 y6) (frame_Write.j0 (k + 1) y0 y1 y2 y3 y4 y5 y6))
  | 0 => fun _ _ _ _ _ _ _ r h => by simp [frame_Write.j0] at h
  | k + 1 => by
    have ih0 := frame_Write.mono_l k
    · intro y0 y1 y2 y3 y4 y5 y6
      unfold frame_Write.j0
      repeat' first
      | (with_reducible exact ih0 _ _ _ _ _ _ _)
      | (with_reducible exact mac_Bytes.mono _ _)
      | (with_reducible exact LeO.refl _)
      | (with_reducible exact LeO.none _)
      | (with_reducible refine LeO.ite ?_ ?_)
      | (with_reducible refine LeO.bind ?_ (fun _ => ?_))
      | exact ih0 _ _ _ _ _ _ _
      | exact mac_Bytes.mono _ _
      | exact LeO.none _
      | refine LeO.ite ?_ ?_
      | refine LeO.bind ?_ (fun _ => ?_)
theorem frame_Write.mono : ∀ a0 a1 a2 a3 a4 a5 k, LeO (frame_Write.f k a0 a1 a2 a3 a4 a5) (frame_Write.f (k + 1) a0 a1 a2 a3 a4 a5) := by
  intro a0 a1 a2 a3 a4 a5 k
  have ih0 := frame_Write.mono_l k
  unfold frame_Write.f
  repeat' first
      | (with_reducible exact ih0 _ _ _ _ _ _ _)
      | (with_reducible exact mac_Bytes.mono _ _)
      | (with_reducible exact LeO.refl _)
      | (with_reducible exact LeO.none _)
      | (with_reducible refine LeO.ite ?_ ?_)
      | (with_reducible refine LeO.bind ?_ (fun _ => ?_))
      | exact ih0 _ _ _ _ _ _ _
      | exact mac_Bytes.mono _ _
      | exact LeO.none _
      | refine LeO.ite ?_ ?_
      | refine LeO.bind ?_ (fun _ => ?_)
def frame_Write.T9 : Bool × List (List Nat × List Nat) := (true, [([], []), ([0], [0]), ([1], [1]), ([], []), ([3], [3]), ([4, 2], [4]), ([2, 5], [2, 5]), ([6, 5], [6]), ([7, 7, 0, 1, 2, 3, 4, 5, 6, 7], [7])])
def frame_Write.B9 : List Nat := [0, 1, 3, 0, 8, 31, 63, 127, 255]
theorem frame_Write.tab9 : rtab .any (opsOf Try.f42 9) = frame_Write.T9 := by kernel_rfl
theorem frame_Write.bits9 : waitsOk frame_Write.T9.2 frame_Write.B9 = true := by kernel_rfl
def frame_Write.T12 : Bool × List (List Nat × List Nat) := (true, [([], []), ([], []), ([1], [1]), ([0, 2], [0, 2]), ([], []), ([4], [4]), ([3, 5, 3], [3, 5]), ([6, 6], [6]), ([7, 7, 0, 1, 2, 3, 4, 5, 6, 7], [7]), ([8, 0, 1, 2, 3, 4, 5, 6, 7, 8], [])])
def frame_Write.B12 : List Nat := [0, 0, 2, 7, 0, 16, 63, 127, 255, 511]
theorem frame_Write.tab12 : rtab .any (opsOf Try.f42 12) = frame_Write.T12 := by kernel_rfl
theorem frame_Write.bits12 : waitsOk frame_Write.T12.2 frame_Write.B12 = true := by kernel_rfl
set_option maxHeartbeats 8000000 in
set_option maxRecDepth 100000 in
theorem frame_Write.calls (k : Nat) (a0_0 : Int) (a0_1 : Int) (a0_2 : Bool) (a0_3 : Int) (a0_4 : Int) (A0_5 : Option Addr) (c0_5 : Nat) (l0_5 : List Int) (r1 : List Int) (r2 : Int) (w : World) (hr0_5 : Kd.C (Kd.int .u8) w A0_5 l0_5.length l0_5) (hc0_5 : l0_5.length ≤ c0_5) (h : frame_Write.f k a0_0 a0_1 a0_2 a0_3 a0_4 l0_5 = some (r1, r2)) :
    Calls Try.prog 42 #[.agg #[.int .u64 a0_0, .int .u64 a0_1, .bool a0_2, .int .u16 a0_3, .int .u16 a0_4, .slice A0_5 l0_5.length c0_5]] w fun e w' => ∃ v0_ : Value, e = .returned (.tuple #[v0_, .int .i64 r2]) ∧ Kd.R (Kd.int .u8) 5 w' w.heap.size (fun _ => True) v0_ r1 ∧ Below w.heap.size w w' := by
  have hu39 := Try.underlying39
  have HR0_5 := Aside0.mk hr0_5
  have HC0_5 := Aside0.mk hc0_5
  clear hr0_5 hc0_5
  have HB := Aside0.mk (Below.refl w.heap.size w)
  have H : ((mac_Right.f a0_0).bind fun t254 => (if t254 = true then ((mac_Right.f a0_1).bind fun t255 => (if t255 = true then (if a0_2 = true then (frame_Write.j0 k false a0_0 a0_1 a0_2 a0_3 a0_4 l0_5) else (if a0_3 = 0 then (frame_Write.j0 k (a0_4 == 33024) a0_0 a0_1 a0_2 a0_3 a0_4 l0_5) else (frame_Write.j0 k true a0_0 a0_1 a0_2 a0_3 a0_4 l0_5))) else (frame_Write.j0 k (!t255) a0_0 a0_1 a0_2 a0_3 a0_4 l0_5))) else (frame_Write.j0 k (!t254) a0_0 a0_1 a0_2 a0_3 a0_4 l0_5))) = some (r1, r2) := h
  clear h
  replace H := Option.bind_eq_some_iff.mp H
  obtain ⟨t254, A20, H⟩ := H
  replace H : (if t254 = true then ((mac_Right.f a0_1).bind fun t255 => (if t255 = true then (if a0_2 = true then (frame_Write.j0 k false a0_0 a0_1 a0_2 a0_3 a0_4 l0_5) else (if a0_3 = 0 then (frame_Write.j0 k (a0_4 == 33024) a0_0 a0_1 a0_2 a0_3 a0_4 l0_5) else (frame_Write.j0 k true a0_0 a0_1 a0_2 a0_3 a0_4 l0_5))) else (frame_Write.j0 k (!t255) a0_0 a0_1 a0_2 a0_3 a0_4 l0_5))) else (frame_Write.j0 k (!t254) a0_0 a0_1 a0_2 a0_3 a0_4 l0_5)) = some (r1, r2) := H
  have A2 := Aside0.mk A20
  clear A20
  have HC3 := Aside0.mk H
  clear H
  go_enter Try.func42, Try.ntmps42
  go_upto_if 5 with (first | ((with_reducible refine gate_dst (N := 1) rfl ?_); refine box_event ?hg (N := 1) ?hd (cs := #[.int .u64 a0_0, .int .u64 a0_1, .bool a0_2, .int .u16 a0_3, .int .u16 a0_4, .slice A0_5 l0_5.length c0_5]) (t := 39) ?hr ?_; (case hd => rfl); (case hg => rfl); (case hr => first | (go_simp; done) | (go_simp; rfl)); intro gb253 hg w4 hbox hb; have n0_ := Aside0.mk (below_step (by repeat (first | (with_reducible first | exact HB.out | apply below_alloc | apply pw_below_drewN | apply below_drew1) | exact HB.out)) hb); have n1_ := Aside0.mk (hbox); have n2_ := Aside0.mk ((by rw [hg]; exact (below_size (by repeat (first | (with_reducible first | exact HB.out | apply below_alloc | apply pw_below_drewN | apply below_drew1) | exact HB.out))) : w.heap.size ≤ gb253)); have n3_ := Aside0.mk ((by rw [hg]; exact (below_size (by repeat (first | (with_reducible first | exact HB.out | apply below_alloc | apply pw_below_drewN | apply below_drew1) | exact HB.out))) : w.heap.size ≤ gb253)); clear HB; have HB := n0_; have BK253 := n1_; have GW253 := n2_; have GE253 := n3_; clear n0_ n1_ n2_ n3_; clear hb hbox hg; have hcz5_0 : w4.cell? ⟨gb253, 0, none⟩ = some (.int .u64 a0_0) := (blk_cell BK253.out 0).trans rfl; have hcz5_1 : w4.cell? ⟨gb253, 1, none⟩ = some (.int .u64 a0_1) := (blk_cell BK253.out 1).trans rfl; have hcz5_2 : w4.cell? ⟨gb253, 2, none⟩ = some (.bool a0_2) := (blk_cell BK253.out 2).trans rfl; have hcz5_3 : w4.cell? ⟨gb253, 3, none⟩ = some (.int .u16 a0_3) := (blk_cell BK253.out 3).trans rfl; have hcz5_4 : w4.cell? ⟨gb253, 4, none⟩ = some (.int .u16 a0_4) := (blk_cell BK253.out 4).trans rfl; have hcz5_5 : w4.cell? ⟨gb253, 5, none⟩ = some (.slice A0_5 l0_5.length c0_5) := (blk_cell BK253.out 5).trans rfl; have hfz5_0 := blk_frozen BK253.out 0; have hfz5_1 := blk_frozen BK253.out 1; have hfz5_2 := blk_frozen BK253.out 2; have hfz5_3 := blk_frozen BK253.out 3; have hfz5_4 := blk_frozen BK253.out 4; have hfz5_5 := blk_frozen BK253.out 5) | ((with_reducible refine gate_callee (f := 38) rfl ?_); refine goesL_ (some 8) rfl rfl Try.func38 (by kernel_rfl) rfl #[.int .u64 a0_0] rfl (by (try simp only [List.map_toArray, List.map_cons, List.map_nil]); first | done | rfl | (simp only [List.length_drop, List.length_take]; rfl)) ?_; (with_reducible refine (mac_Right.calls a0_0 t254 _ A2.out).mono ?_); rintro e w' ⟨rfl, ⟨nd, rfl⟩⟩; refine ⟨_, rfl, ?_⟩))
  (try simp only [Act.put, List.setIfInBounds_toArray, List.set_cons_zero, List.set_cons_succ])
  go_cut [5] (fun v5 wc => ∃ (kq : Nat) (x5_2 : Bool), v5 = .bool x5_2 ∧ Aside0 (frame_Write.j0 kq x5_2 a0_0 a0_1 a0_2 a0_3 a0_4 l0_5 = some (r1, r2)) ∧ Aside0 (kq ≤ k) ∧ Aside0 (wc.heap[gb253]? = some (.cells #[.int .u64 a0_0, .int .u64 a0_1, .bool a0_2, .int .u16 a0_3, .int .u16 a0_4, (.slice A0_5 l0_5.length c0_5)] 39 (0, 0))) ∧ Aside0 (Below w.heap.size w wc))
  case first =>
    have H := HC3.out
    clear HC3
    by_cases c6 : t254 = true
    · subst c6
      have H1 : ((mac_Right.f a0_1).bind fun t255 => (if t255 = true then (if a0_2 = true then (frame_Write.j0 k false a0_0 a0_1 a0_2 a0_3 a0_4 l0_5) else (if a0_3 = 0 then (frame_Write.j0 k (a0_4 == 33024) a0_0 a0_1 a0_2 a0_3 a0_4 l0_5) else (frame_Write.j0 k true a0_0 a0_1 a0_2 a0_3 a0_4 l0_5))) else (frame_Write.j0 k (!t255) a0_0 a0_1 a0_2 a0_3 a0_4 l0_5))) = some (r1, r2) := by rw [if_pos rfl] at H; exact H
      clear H
      have H := H1
      clear H1
      replace H := Option.bind_eq_some_iff.mp H
      obtain ⟨t255, A70, H⟩ := H
      replace H : (if t255 = true then (if a0_2 = true then (frame_Write.j0 k false a0_0 a0_1 a0_2 a0_3 a0_4 l0_5) else (if a0_3 = 0 then (frame_Write.j0 k (a0_4 == 33024) a0_0 a0_1 a0_2 a0_3 a0_4 l0_5) else (frame_Write.j0 k true a0_0 a0_1 a0_2 a0_3 a0_4 l0_5))) else (frame_Write.j0 k (!t255) a0_0 a0_1 a0_2 a0_3 a0_4 l0_5)) = some (r1, r2) := H
      have A7 := Aside0.mk A70
      clear A70
      by_cases c8 : t255 = true
      · subst c8
        have H1 : (if a0_2 = true then (frame_Write.j0 k false a0_0 a0_1 a0_2 a0_3 a0_4 l0_5) else (if a0_3 = 0 then (frame_Write.j0 k (a0_4 == 33024) a0_0 a0_1 a0_2 a0_3 a0_4 l0_5) else (frame_Write.j0 k true a0_0 a0_1 a0_2 a0_3 a0_4 l0_5))) = some (r1, r2) := by rw [if_pos rfl] at H; exact H
        clear H
        have H := H1
        clear H1
        by_cases c9 : a0_2 = true
        · subst c9
          have H1 : (frame_Write.j0 k false a0_0 a0_1 true a0_3 a0_4 l0_5) = some (r1, r2) := by rw [if_pos rfl] at H; exact H
          clear H
          have H := H1
          clear H1
          have H' := Aside0.mk H
          clear H
          have hcz10_0 : w4.cell? ⟨gb253, 0, none⟩ = some (.int .u64 a0_0) := (blk_cell BK253.out 0).trans rfl
          have hcz10_1 : w4.cell? ⟨gb253, 1, none⟩ = some (.int .u64 a0_1) := (blk_cell BK253.out 1).trans rfl
          have hcz10_2 : w4.cell? ⟨gb253, 2, none⟩ = some (.bool true) := (blk_cell BK253.out 2).trans rfl
          have hcz10_3 : w4.cell? ⟨gb253, 3, none⟩ = some (.int .u16 a0_3) := (blk_cell BK253.out 3).trans rfl
          have hcz10_4 : w4.cell? ⟨gb253, 4, none⟩ = some (.int .u16 a0_4) := (blk_cell BK253.out 4).trans rfl
          have hcz10_5 : w4.cell? ⟨gb253, 5, none⟩ = some (.slice A0_5 l0_5.length c0_5) := (blk_cell BK253.out 5).trans rfl
          have hfz10_0 := blk_frozen BK253.out 0
          have hfz10_1 := blk_frozen BK253.out 1
          have hfz10_2 := blk_frozen BK253.out 2
          have hfz10_3 := blk_frozen BK253.out 3
          have hfz10_4 := blk_frozen BK253.out 4
          have hfz10_5 := blk_frozen BK253.out 5
          go_wp2_with (first | ((with_reducible refine gate_callee (f := 38) rfl ?_); refine goesL_ (some 12) rfl rfl Try.func38 (by kernel_rfl) rfl #[.int .u64 a0_1] rfl (by (try simp only [List.map_toArray, List.map_cons, List.map_nil]); first | done | rfl | (simp only [List.length_drop, List.length_take]; rfl)) ?_; (with_reducible refine (mac_Right.calls a0_1 true _ A7.out).mono ?_); rintro e w' ⟨rfl, ⟨nd, rfl⟩⟩; refine ⟨_, rfl, ?_⟩))
          go_meet
          case rel => exact ⟨_, (false), (by first | rfl | (simp; done) | (simp [*]; done)), H', ⟨by first | omega | exact Nat.le_refl _⟩, ⟨by (with_reducible repeat (first | refine blk_drewN ?_ _ | refine blk_drew ?_ | refine blk_alloc ?_ _)); exact BK253.out⟩, ⟨by repeat (first | (with_reducible first | exact HB.out | apply below_alloc | apply pw_below_drewN | apply below_drew1 | refine below_set ?_ GE253.out) | exact HB.out)⟩⟩
        · replace c9 := Bool.eq_false_iff.mpr c9
          subst c9
          have H1 : (if a0_3 = 0 then (frame_Write.j0 k (a0_4 == 33024) a0_0 a0_1 false a0_3 a0_4 l0_5) else (frame_Write.j0 k true a0_0 a0_1 false a0_3 a0_4 l0_5)) = some (r1, r2) := by rw [if_neg (show ¬ (false = true) by decide)] at H; exact H
          clear H
          have H := H1
          clear H1
          by_cases c11 : a0_3 = 0
          · rw [if_pos c11] at H
            have c11b0 : (a0_3 == 0) = true := beq_iff_eq.mpr c11
            have c11b1 : (a0_3 != 0) = false := bne_eq_false_iff_eq.mpr c11
            clear c11
            (first | rw [c11b0] | (simp only [i64_w, i32_w]; rw [c11b0]) | skip)
            have H' := Aside0.mk H
            clear H
            have hcz12_0 : w4.cell? ⟨gb253, 0, none⟩ = some (.int .u64 a0_0) := (blk_cell BK253.out 0).trans rfl
            have hcz12_1 : w4.cell? ⟨gb253, 1, none⟩ = some (.int .u64 a0_1) := (blk_cell BK253.out 1).trans rfl
            have hcz12_2 : w4.cell? ⟨gb253, 2, none⟩ = some (.bool false) := (blk_cell BK253.out 2).trans rfl
            have hcz12_3 : w4.cell? ⟨gb253, 3, none⟩ = some (.int .u16 a0_3) := (blk_cell BK253.out 3).trans rfl
            have hcz12_4 : w4.cell? ⟨gb253, 4, none⟩ = some (.int .u16 a0_4) := (blk_cell BK253.out 4).trans rfl
            have hcz12_5 : w4.cell? ⟨gb253, 5, none⟩ = some (.slice A0_5 l0_5.length c0_5) := (blk_cell BK253.out 5).trans rfl
            have hfz12_0 := blk_frozen BK253.out 0
            have hfz12_1 := blk_frozen BK253.out 1
            have hfz12_2 := blk_frozen BK253.out 2
            have hfz12_3 := blk_frozen BK253.out 3
            have hfz12_4 := blk_frozen BK253.out 4
            have hfz12_5 := blk_frozen BK253.out 5
            go_wp2_with (first | ((with_reducible refine gate_callee (f := 38) rfl ?_); refine goesL_ (some 12) rfl rfl Try.func38 (by kernel_rfl) rfl #[.int .u64 a0_1] rfl (by (try simp only [List.map_toArray, List.map_cons, List.map_nil]); first | done | rfl | (simp only [List.length_drop, List.length_take]; rfl)) ?_; (with_reducible refine (mac_Right.calls a0_1 true _ A7.out).mono ?_); rintro e w' ⟨rfl, ⟨nd, rfl⟩⟩; refine ⟨_, rfl, ?_⟩))
            go_meet
            case rel => exact ⟨_, ((a0_4 == 33024)), (by first | rfl | (simp; done) | (simp [*]; done)), H', ⟨by first | omega | exact Nat.le_refl _⟩, ⟨by (with_reducible repeat (first | refine blk_drewN ?_ _ | refine blk_drew ?_ | refine blk_alloc ?_ _)); exact BK253.out⟩, ⟨by repeat (first | (with_reducible first | exact HB.out | apply below_alloc | apply pw_below_drewN | apply below_drew1 | refine below_set ?_ GE253.out) | exact HB.out)⟩⟩
          · rw [if_neg c11] at H
            have c11b0 : (a0_3 == 0) = false := beq_eq_false_iff_ne.mpr c11
            have c11b1 : (a0_3 != 0) = true := bne_iff_ne.mpr c11
            (first | rw [c11b0] | (simp only [i64_w, i32_w]; rw [c11b0]) | skip)
            have H' := Aside0.mk H
            clear H
            have hcz13_0 : w4.cell? ⟨gb253, 0, none⟩ = some (.int .u64 a0_0) := (blk_cell BK253.out 0).trans rfl
            have hcz13_1 : w4.cell? ⟨gb253, 1, none⟩ = some (.int .u64 a0_1) := (blk_cell BK253.out 1).trans rfl
            have hcz13_2 : w4.cell? ⟨gb253, 2, none⟩ = some (.bool false) := (blk_cell BK253.out 2).trans rfl
            have hcz13_3 : w4.cell? ⟨gb253, 3, none⟩ = some (.int .u16 a0_3) := (blk_cell BK253.out 3).trans rfl
            have hcz13_4 : w4.cell? ⟨gb253, 4, none⟩ = some (.int .u16 a0_4) := (blk_cell BK253.out 4).trans rfl
            have hcz13_5 : w4.cell? ⟨gb253, 5, none⟩ = some (.slice A0_5 l0_5.length c0_5) := (blk_cell BK253.out 5).trans rfl
            have hfz13_0 := blk_frozen BK253.out 0
            have hfz13_1 := blk_frozen BK253.out 1
            have hfz13_2 := blk_frozen BK253.out 2
            have hfz13_3 := blk_frozen BK253.out 3
            have hfz13_4 := blk_frozen BK253.out 4
            have hfz13_5 := blk_frozen BK253.out 5
            go_wp2_with (first | ((with_reducible refine gate_callee (f := 38) rfl ?_); refine goesL_ (some 12) rfl rfl Try.func38 (by kernel_rfl) rfl #[.int .u64 a0_1] rfl (by (try simp only [List.map_toArray, List.map_cons, List.map_nil]); first | done | rfl | (simp only [List.length_drop, List.length_take]; rfl)) ?_; (with_reducible refine (mac_Right.calls a0_1 true _ A7.out).mono ?_); rintro e w' ⟨rfl, ⟨nd, rfl⟩⟩; refine ⟨_, rfl, ?_⟩))
            go_meet
            case rel => exact ⟨_, (true), (by first | rfl | (simp; done) | (simp [*]; done)), H', ⟨by first | omega | exact Nat.le_refl _⟩, ⟨by (with_reducible repeat (first | refine blk_drewN ?_ _ | refine blk_drew ?_ | refine blk_alloc ?_ _)); exact BK253.out⟩, ⟨by repeat (first | (with_reducible first | exact HB.out | apply below_alloc | apply pw_below_drewN | apply below_drew1 | refine below_set ?_ GE253.out) | exact HB.out)⟩⟩
      · replace c8 := Bool.eq_false_iff.mpr c8
        subst c8
        have H1 : (frame_Write.j0 k (!false) a0_0 a0_1 a0_2 a0_3 a0_4 l0_5) = some (r1, r2) := by rw [if_neg (show ¬ (false = true) by decide)] at H; exact H
        clear H
        have H := H1
        clear H1
        have H' := Aside0.mk H
        clear H
        have hcz14_0 : w4.cell? ⟨gb253, 0, none⟩ = some (.int .u64 a0_0) := (blk_cell BK253.out 0).trans rfl
        have hcz14_1 : w4.cell? ⟨gb253, 1, none⟩ = some (.int .u64 a0_1) := (blk_cell BK253.out 1).trans rfl
        have hcz14_2 : w4.cell? ⟨gb253, 2, none⟩ = some (.bool a0_2) := (blk_cell BK253.out 2).trans rfl
        have hcz14_3 : w4.cell? ⟨gb253, 3, none⟩ = some (.int .u16 a0_3) := (blk_cell BK253.out 3).trans rfl
        have hcz14_4 : w4.cell? ⟨gb253, 4, none⟩ = some (.int .u16 a0_4) := (blk_cell BK253.out 4).trans rfl
        have hcz14_5 : w4.cell? ⟨gb253, 5, none⟩ = some (.slice A0_5 l0_5.length c0_5) := (blk_cell BK253.out 5).trans rfl
        have hfz14_0 := blk_frozen BK253.out 0
        have hfz14_1 := blk_frozen BK253.out 1
        have hfz14_2 := blk_frozen BK253.out 2
        have hfz14_3 := blk_frozen BK253.out 3
        have hfz14_4 := blk_frozen BK253.out 4
        have hfz14_5 := blk_frozen BK253.out 5
        go_wp2_with (first | ((with_reducible refine gate_callee (f := 38) rfl ?_); refine goesL_ (some 12) rfl rfl Try.func38 (by kernel_rfl) rfl #[.int .u64 a0_1] rfl (by (try simp only [List.map_toArray, List.map_cons, List.map_nil]); first | done | rfl | (simp only [List.length_drop, List.length_take]; rfl)) ?_; (with_reducible refine (mac_Right.calls a0_1 false _ A7.out).mono ?_); rintro e w' ⟨rfl, ⟨nd, rfl⟩⟩; refine ⟨_, rfl, ?_⟩))
        go_meet
        case rel => exact ⟨_, (!false), (by first | rfl | (simp; done) | (simp [*]; done)), H', ⟨by first | omega | exact Nat.le_refl _⟩, ⟨by (with_reducible repeat (first | refine blk_drewN ?_ _ | refine blk_drew ?_ | refine blk_alloc ?_ _)); exact BK253.out⟩, ⟨by repeat (first | (with_reducible first | exact HB.out | apply below_alloc | apply pw_below_drewN | apply below_drew1 | refine below_set ?_ GE253.out) | exact HB.out)⟩⟩
    · replace c6 := Bool.eq_false_iff.mpr c6
      subst c6
      have H1 : (frame_Write.j0 k (!false) a0_0 a0_1 a0_2 a0_3 a0_4 l0_5) = some (r1, r2) := by rw [if_neg (show ¬ (false = true) by decide)] at H; exact H
      clear H
      have H := H1
      clear H1
      have H' := Aside0.mk H
      clear H
      go_wp2
      go_meet
      case rel => exact ⟨_, (!false), (by first | rfl | (simp; done) | (simp [*]; done)), H', ⟨by first | omega | exact Nat.le_refl _⟩, ⟨by (with_reducible repeat (first | refine blk_drewN ?_ _ | refine blk_drew ?_ | refine blk_alloc ?_ _)); exact BK253.out⟩, ⟨by repeat (first | (with_reducible first | exact HB.out | apply below_alloc | apply pw_below_drewN | apply below_drew1 | refine below_set ?_ GE253.out) | exact HB.out)⟩⟩
  case rest =>
    clear HC3
    try clear c1
    try clear p2
    try clear c3
    try clear c4
    try clear c6
    try clear c8
    try clear c9
    try clear c11
    try clear c11b0
    try clear c11b1
    try clear hcz10_0
    try clear hcz10_1
    try clear hcz10_2
    try clear hcz10_3
    try clear hcz10_4
    try clear hcz10_5
    try clear hcz12_0
    try clear hcz12_1
    try clear hcz12_2
    try clear hcz12_3
    try clear hcz12_4
    try clear hcz12_5
    try clear hcz13_0
    try clear hcz13_1
    try clear hcz13_2
    try clear hcz13_3
    try clear hcz13_4
    try clear hcz13_5
    try clear hcz14_0
    try clear hcz14_1
    try clear hcz14_2
    try clear hcz14_3
    try clear hcz14_4
    try clear hcz14_5
    try clear hcz5_0
    try clear hcz5_1
    try clear hcz5_2
    try clear hcz5_3
    try clear hcz5_4
    try clear hcz5_5
    try clear hfz10_0
    try clear hfz10_1
    try clear hfz10_2
    try clear hfz10_3
    try clear hfz10_4
    try clear hfz10_5
    try clear hfz12_0
    try clear hfz12_1
    try clear hfz12_2
    try clear hfz12_3
    try clear hfz12_4
    try clear hfz12_5
    try clear hfz13_0
    try clear hfz13_1
    try clear hfz13_2
    try clear hfz13_3
    try clear hfz13_4
    try clear hfz13_5
    try clear hfz14_0
    try clear hfz14_1
    try clear hfz14_2
    try clear hfz14_3
    try clear hfz14_4
    try clear hfz14_5
    try clear hfz5_0
    try clear hfz5_1
    try clear hfz5_2
    try clear hfz5_3
    try clear hfz5_4
    try clear hfz5_5
    obtain ⟨kq, x5_2, rfl, HA, HJ2, BK253, HB⟩ := hcut
    cases kq with
    | zero => exact absurd HA.out (by simp [frame_Write.j0])
    | succ kj2 =>
      have H := HA.out
      clear HA
      simp only [frame_Write.j0] at H
      by_cases c15 : x5_2 = true
      · subst c15
        have H1 : (some (([] : List Int), 1)) = some (r1, r2) := by rw [if_pos rfl] at H; exact H
        clear H
        have H := H1
        clear H1
        simp only [Option.some.injEq, Prod.mk.injEq] at H
        obtain ⟨rfl, rfl⟩ := H
        go_wp2
        go_ret2
        exact ⟨_, by first | rfl | (simp [errW_none, errW_some] <;> rfl) | (simp [*, errW_none, errW_some] <;> rfl), by first | exact Kd.R_nil _ _ _ _ _ | exact Kd.N_nil _ _ _ _ _ | exact Kd.V_nil _ _ _ _ _ | exact Kd.Q_nil _ _ _ _ _ | exact Kd.S_nil _ _ _ _ _, by repeat (first | (with_reducible first | exact HB.out | apply below_alloc | apply pw_below_drewN | apply below_drew1 | refine below_set ?_ GE253.out) | exact HB.out)⟩
      · replace c15 := Bool.eq_false_iff.mpr c15
        subst c15
        have H1 : (if (l0_5.length : Int) > 1500 then (some (([] : List Int), 3)) else ((frame_form.f a0_4 (l0_5.length : Int)).bind fun t256 => (if t256 = true then ((mac_Bytes.f kj2 a0_0).bind fun t257 => ((mac_Bytes.f kj2 a0_1).bind fun t260 => (if t257.length + t260.length < 140737488355328 then ((some (t257 ++ t260 : List Int)).bind fun y263 => (if a0_2 = true then ((frame_put.f y263 33024).bind fun t266 => ((frame_put.f t266 a0_3).bind fun t269 => ((frame_put.f t269 a0_4).bind fun t272 => (if t272.length + l0_5.length < 140737488355328 then ((frame_padded.f (t272 ++ l0_5)).bind fun t278 => (some (t278, 0))) else (none))))) else ((frame_put.f y263 a0_4).bind fun t281 => (if t281.length + l0_5.length < 140737488355328 then ((frame_padded.f (t281 ++ l0_5)).bind fun t287 => (some (t287, 0))) else (none))))) else (none)))) else (some (([] : List Int), 4))))) = some (r1, r2) := by rw [if_neg (show ¬ (false = true) by decide)] at H; exact H
        clear H
        have H := H1
        clear H1
        by_cases c16 : (l0_5.length : Int) > 1500
        · rw [if_pos c16] at H
          have c16b0 : decide (1500 < (l0_5.length : Int)) = true := decide_eq_true c16
          have c16b1 : decide (1500 < l0_5.length) = true := decide_eq_true (by omega)
          clear c16
          simp only [Option.some.injEq, Prod.mk.injEq] at H
          obtain ⟨rfl, rfl⟩ := H
          have hcz17_0 : wc.cell? ⟨gb253, 0, none⟩ = some (.int .u64 a0_0) := (blk_cell BK253.out 0).trans rfl
          have hcz17_1 : wc.cell? ⟨gb253, 1, none⟩ = some (.int .u64 a0_1) := (blk_cell BK253.out 1).trans rfl
          have hcz17_2 : wc.cell? ⟨gb253, 2, none⟩ = some (.bool a0_2) := (blk_cell BK253.out 2).trans rfl
          have hcz17_3 : wc.cell? ⟨gb253, 3, none⟩ = some (.int .u16 a0_3) := (blk_cell BK253.out 3).trans rfl
          have hcz17_4 : wc.cell? ⟨gb253, 4, none⟩ = some (.int .u16 a0_4) := (blk_cell BK253.out 4).trans rfl
          have hcz17_5 : wc.cell? ⟨gb253, 5, none⟩ = some (.slice A0_5 l0_5.length c0_5) := (blk_cell BK253.out 5).trans rfl
          have hfz17_0 := blk_frozen BK253.out 0
          have hfz17_1 := blk_frozen BK253.out 1
          have hfz17_2 := blk_frozen BK253.out 2
          have hfz17_3 := blk_frozen BK253.out 3
          have hfz17_4 := blk_frozen BK253.out 4
          have hfz17_5 := blk_frozen BK253.out 5
          go_wp2
          go_ret2
          exact ⟨_, by first | rfl | (simp [errW_none, errW_some] <;> rfl) | (simp [*, errW_none, errW_some] <;> rfl), by first | exact Kd.R_nil _ _ _ _ _ | exact Kd.N_nil _ _ _ _ _ | exact Kd.V_nil _ _ _ _ _ | exact Kd.Q_nil _ _ _ _ _ | exact Kd.S_nil _ _ _ _ _, by repeat (first | (with_reducible first | exact HB.out | apply below_alloc | apply pw_below_drewN | apply below_drew1 | refine below_set ?_ GE253.out) | exact HB.out)⟩
        · rw [if_neg c16] at H
          have c16b0 : decide (1500 < (l0_5.length : Int)) = false := decide_eq_false c16
          have c16b1 : decide (1500 < l0_5.length) = false := decide_eq_false (by omega)
          clear c16
          replace H := Option.bind_eq_some_iff.mp H
          obtain ⟨t256, A180, H⟩ := H
          replace H : (if t256 = true then ((mac_Bytes.f kj2 a0_0).bind fun t257 => ((mac_Bytes.f kj2 a0_1).bind fun t260 => (if t257.length + t260.length < 140737488355328 then ((some (t257 ++ t260 : List Int)).bind fun y263 => (if a0_2 = true then ((frame_put.f y263 33024).bind fun t266 => ((frame_put.f t266 a0_3).bind fun t269 => ((frame_put.f t269 a0_4).bind fun t272 => (if t272.length + l0_5.length < 140737488355328 then ((frame_padded.f (t272 ++ l0_5)).bind fun t278 => (some (t278, 0))) else (none))))) else ((frame_put.f y263 a0_4).bind fun t281 => (if t281.length + l0_5.length < 140737488355328 then ((frame_padded.f (t281 ++ l0_5)).bind fun t287 => (some (t287, 0))) else (none))))) else (none)))) else (some (([] : List Int), 4))) = some (r1, r2) := H
          have A18 := Aside0.mk A180
          clear A180
          by_cases c19 : t256 = true
          · subst c19
            have H1 : ((mac_Bytes.f kj2 a0_0).bind fun t257 => ((mac_Bytes.f kj2 a0_1).bind fun t260 => (if t257.length + t260.length < 140737488355328 then ((some (t257 ++ t260 : List Int)).bind fun y263 => (if a0_2 = true then ((frame_put.f y263 33024).bind fun t266 => ((frame_put.f t266 a0_3).bind fun t269 => ((frame_put.f t269 a0_4).bind fun t272 => (if t272.length + l0_5.length < 140737488355328 then ((frame_padded.f (t272 ++ l0_5)).bind fun t278 => (some (t278, 0))) else (none))))) else ((frame_put.f y263 a0_4).bind fun t281 => (if t281.length + l0_5.length < 140737488355328 then ((frame_padded.f (t281 ++ l0_5)).bind fun t287 => (some (t287, 0))) else (none))))) else (none)))) = some (r1, r2) := by rw [if_pos rfl] at H; exact H
            clear H
            have H := H1
            clear H1
            replace H := Option.bind_eq_some_iff.mp H
            obtain ⟨t257, A200, H⟩ := H
            replace H : ((mac_Bytes.f kj2 a0_1).bind fun t260 => (if t257.length + t260.length < 140737488355328 then ((some (t257 ++ t260 : List Int)).bind fun y263 => (if a0_2 = true then ((frame_put.f y263 33024).bind fun t266 => ((frame_put.f t266 a0_3).bind fun t269 => ((frame_put.f t269 a0_4).bind fun t272 => (if t272.length + l0_5.length < 140737488355328 then ((frame_padded.f (t272 ++ l0_5)).bind fun t278 => (some (t278, 0))) else (none))))) else ((frame_put.f y263 a0_4).bind fun t281 => (if t281.length + l0_5.length < 140737488355328 then ((frame_padded.f (t281 ++ l0_5)).bind fun t287 => (some (t287, 0))) else (none))))) else (none))) = some (r1, r2) := H
            have A20 := Aside0.mk A200
            clear A200
            replace H := Option.bind_eq_some_iff.mp H
            obtain ⟨t260, A210, H⟩ := H
            replace H : (if t257.length + t260.length < 140737488355328 then ((some (t257 ++ t260 : List Int)).bind fun y263 => (if a0_2 = true then ((frame_put.f y263 33024).bind fun t266 => ((frame_put.f t266 a0_3).bind fun t269 => ((frame_put.f t269 a0_4).bind fun t272 => (if t272.length + l0_5.length < 140737488355328 then ((frame_padded.f (t272 ++ l0_5)).bind fun t278 => (some (t278, 0))) else (none))))) else ((frame_put.f y263 a0_4).bind fun t281 => (if t281.length + l0_5.length < 140737488355328 then ((frame_padded.f (t281 ++ l0_5)).bind fun t287 => (some (t287, 0))) else (none))))) else (none)) = some (r1, r2) := H
            have A21 := Aside0.mk A210
            clear A210
            by_cases c22 : t257.length + t260.length < 140737488355328
            · rw [if_pos c22] at H
              have LMc22 := Aside0.mk c22
              clear c22
              obtain ⟨y263, hy263⟩ : ∃ y_ : List Int, y_ = (t257 ++ t260) := ⟨_, rfl⟩
              replace H : (if a0_2 = true then ((frame_put.f y263 33024).bind fun t266 => ((frame_put.f t266 a0_3).bind fun t269 => ((frame_put.f t269 a0_4).bind fun t272 => (if t272.length + l0_5.length < 140737488355328 then ((frame_padded.f (t272 ++ l0_5)).bind fun t278 => (some (t278, 0))) else (none))))) else ((frame_put.f y263 a0_4).bind fun t281 => (if t281.length + l0_5.length < 140737488355328 then ((frame_padded.f (t281 ++ l0_5)).bind fun t287 => (some (t287, 0))) else (none)))) = some (r1, r2) := by first | (rw [hy263]; with_reducible exact H) | (have H2_ := (Option.bind_some _ _).symm.trans H; rw [hy263]; with_reducible exact H2_) | (have H2_ := (Option.bind_some _ _).symm.trans H; with_reducible exact H2_) | with_reducible exact H | (rw [hy263]; exact H) | exact H
              have Ny263 := Aside0.mk hy263
              clear hy263
              by_cases c23 : a0_2 = true
              · subst c23
                have H1 : ((frame_put.f y263 33024).bind fun t266 => ((frame_put.f t266 a0_3).bind fun t269 => ((frame_put.f t269 a0_4).bind fun t272 => (if t272.length + l0_5.length < 140737488355328 then ((frame_padded.f (t272 ++ l0_5)).bind fun t278 => (some (t278, 0))) else (none))))) = some (r1, r2) := by rw [if_pos rfl] at H; exact H
                clear H
                have H := H1
                clear H1
                replace H := Option.bind_eq_some_iff.mp H
                obtain ⟨t266, A240, H⟩ := H
                replace H : ((frame_put.f t266 a0_3).bind fun t269 => ((frame_put.f t269 a0_4).bind fun t272 => (if t272.length + l0_5.length < 140737488355328 then ((frame_padded.f (t272 ++ l0_5)).bind fun t278 => (some (t278, 0))) else (none)))) = some (r1, r2) := H
                have A24 := Aside0.mk A240
                clear A240
                replace H := Option.bind_eq_some_iff.mp H
                obtain ⟨t269, A250, H⟩ := H
                replace H : ((frame_put.f t269 a0_4).bind fun t272 => (if t272.length + l0_5.length < 140737488355328 then ((frame_padded.f (t272 ++ l0_5)).bind fun t278 => (some (t278, 0))) else (none))) = some (r1, r2) := H
                have A25 := Aside0.mk A250
                clear A250
                replace H := Option.bind_eq_some_iff.mp H
                obtain ⟨t272, A260, H⟩ := H
                replace H : (if t272.length + l0_5.length < 140737488355328 then ((frame_padded.f (t272 ++ l0_5)).bind fun t278 => (some (t278, 0))) else (none)) = some (r1, r2) := H
                have A26 := Aside0.mk A260
                clear A260
                by_cases c27 : t272.length + l0_5.length < 140737488355328
                · rw [if_pos c27] at H
                  have LMc27 := Aside0.mk c27
                  clear c27
                  obtain ⟨y275, hy275⟩ : ∃ y_ : List Int, y_ = (t272 ++ l0_5) := ⟨_, rfl⟩
                  replace H : ((frame_padded.f y275).bind fun t278 => (some (t278, 0))) = some (r1, r2) := by first | (rw [hy275]; with_reducible exact H) | (have H2_ := (Option.bind_some _ _).symm.trans H; rw [hy275]; with_reducible exact H2_) | (have H2_ := (Option.bind_some _ _).symm.trans H; with_reducible exact H2_) | with_reducible exact H | (rw [hy275]; exact H) | exact H
                  have Ny275 := Aside0.mk hy275
                  clear hy275
                  replace H := Option.bind_eq_some_iff.mp H
                  obtain ⟨t278, A280, H⟩ := H
                  replace H : (some (t278, 0)) = some (r1, r2) := H
                  have A28 := Aside0.mk A280
                  clear A280
                  simp only [Option.some.injEq, Prod.mk.injEq] at H
                  obtain ⟨rfl, rfl⟩ := H
                  have hcz29_0 : wc.cell? ⟨gb253, 0, none⟩ = some (.int .u64 a0_0) := (blk_cell BK253.out 0).trans rfl
                  have hcz29_1 : wc.cell? ⟨gb253, 1, none⟩ = some (.int .u64 a0_1) := (blk_cell BK253.out 1).trans rfl
                  have hcz29_2 : wc.cell? ⟨gb253, 2, none⟩ = some (.bool true) := (blk_cell BK253.out 2).trans rfl
                  have hcz29_3 : wc.cell? ⟨gb253, 3, none⟩ = some (.int .u16 a0_3) := (blk_cell BK253.out 3).trans rfl
                  have hcz29_4 : wc.cell? ⟨gb253, 4, none⟩ = some (.int .u16 a0_4) := (blk_cell BK253.out 4).trans rfl
                  have hcz29_5 : wc.cell? ⟨gb253, 5, none⟩ = some (.slice A0_5 l0_5.length c0_5) := (blk_cell BK253.out 5).trans rfl
                  have hfz29_0 := blk_frozen BK253.out 0
                  have hfz29_1 := blk_frozen BK253.out 1
                  have hfz29_2 := blk_frozen BK253.out 2
                  have hfz29_3 := blk_frozen BK253.out 3
                  have hfz29_4 := blk_frozen BK253.out 4
                  have hfz29_5 := blk_frozen BK253.out 5
                  try go_wp2_with (first | ((with_reducible refine gate_callee (f := 54) rfl ?_); refine goesL_ (some 38) rfl rfl Try.func54 (by kernel_rfl) rfl #[.int .u16 a0_4, .int .i64 (l0_5.length : Int)] rfl (by (try simp only [List.map_toArray, List.map_cons, List.map_nil]); first | done | rfl | (simp only [List.length_drop, List.length_take]; rfl)) ?_; (with_reducible refine (frame_form.calls a0_4 (l0_5.length : Int) true _ A18.out).mono ?_); rintro e w' ⟨rfl, ⟨nd, rfl⟩⟩; refine ⟨_, rfl, ?_⟩))
                  (try (rw [drewN_self wc]; generalize hq_ : World.drewN wc _ = wc; have n0_ : Aside0 (wc.heap[gb253]? = some (.cells #[.int .u64 a0_0, .int .u64 a0_1, .bool true, .int .u16 a0_3, .int .u16 a0_4, .slice A0_5 l0_5.length c0_5] 39 (0, 0))) := ⟨by rw [← hq_]; exact (by (with_reducible repeat (first | refine blk_drewN ?_ _ | refine blk_drew ?_ | refine blk_alloc ?_ _)); exact BK253.out)⟩; have n1_ : Aside0 (Below w.heap.size w wc) := ⟨by rw [← hq_]; exact (by repeat (first | (with_reducible first | exact HB.out | apply below_alloc | apply pw_below_drewN | apply below_drew1 | refine below_set ?_ GE253.out) | exact HB.out))⟩; clear BK253 HB hq_; have BK253 := n0_; have HB := n1_; clear n0_ n1_))
                  have n0_ := Aside0.mk (blk_drew BK253.out)
                  have n1_ := Aside0.mk (below_drew1 HB.out)
                  clear BK253
                  clear HB
                  have BK253 := n0_
                  have HB := n1_
                  clear n0_ n1_
                  refine start_ (n := 9) (S := fun w' => w'.cell? ⟨gb253, 0, none⟩ = some (.int .u64 a0_0) ∧ w'.cell? ⟨gb253, 1, none⟩ = some (.int .u64 a0_1) ∧ w'.cell? ⟨gb253, 2, none⟩ = some (.bool true) ∧ w'.cell? ⟨gb253, 3, none⟩ = some (.int .u16 a0_3) ∧ w'.cell? ⟨gb253, 4, none⟩ = some (.int .u16 a0_4) ∧ w'.cell? ⟨gb253, 5, none⟩ = some (.slice A0_5 l0_5.length c0_5)) (ds := []) #[false, false, false, false, false, false, false, false, false] (by kernel_rfl) rfl rfl ⟨(blk_cell BK253.out 0).trans rfl, (blk_cell BK253.out 1).trans rfl, (blk_cell BK253.out 2).trans rfl, (blk_cell BK253.out 3).trans rfl, (blk_cell BK253.out 4).trans rfl, (blk_cell BK253.out 5).trans rfl⟩ (fun hHeld => ?_); refine with_tabW frame_Write.tab9 frame_Write.bits9 (fun HT_ HW_ => ?_)
                  generalize wc.drew = w30 at BK253 HB hHeld ⊢
                  refine pure_ (i := 0) (N := some 40) (v := ?_) (a' := ?_) #[true, false, false, false, false, false, false, false, false] rfl rfl (any_of HT_.out (by kernel_rfl)) (fun _ _ _ h => h) (Or.inl ⟨by rfl, ?_⟩) ?_ ?_
                  rotate_left
                  · intro w'
                    go_simp
                    with_reducible rfl
                  rotate_left
                  · simp only [Act.put, List.setIfInBounds_toArray, List.set_cons_zero, List.set_cons_succ, i64_w, i32_w]
                    rfl
                  refine pure_ (i := 3) (N := some 43) (v := ?_) (a' := ?_) #[true, false, false, true, false, false, false, false, false] rfl rfl (any_of HT_.out (by kernel_rfl)) (fun _ _ _ h => h) (Or.inl ⟨by rfl, ?_⟩) ?_ ?_
                  rotate_left
                  · intro w'
                    go_simp
                    with_reducible rfl
                  rotate_left
                  · simp only [Act.put, List.setIfInBounds_toArray, List.set_cons_zero, List.set_cons_succ, i64_w, i32_w]
                    rfl
                  refine take_ (i := 1) (N := some 41) (v := ?_) (a' := ?_) #[true, true, false, true, false, false, false, false, false] rfl rfl (take_ofW HT_.out HW_.out (by kernel_rfl)) (fun _ _ _ h => h) (Or.inl ⟨by rfl, ?_⟩) hHeld ?_ ?_
                  rotate_left
                  · rintro w' ⟨s0, s1, s2, s3, s4, s5⟩
                    go_simp
                    with_reducible rfl
                  rotate_left
                  · simp only [Act.put, List.setIfInBounds_toArray, List.set_cons_zero, List.set_cons_succ, i64_w, i32_w]
                    rfl
                  refine take_ (i := 4) (N := some 44) (v := ?_) (a' := ?_) #[true, true, false, true, true, false, false, false, false] rfl rfl (take_ofW HT_.out HW_.out (by kernel_rfl)) (fun _ _ _ h => h) (Or.inl ⟨by rfl, ?_⟩) hHeld ?_ ?_
                  rotate_left
                  · rintro w' ⟨s0, s1, s2, s3, s4, s5⟩
                    go_simp
                    with_reducible rfl
                  rotate_left
                  · simp only [Act.put, List.setIfInBounds_toArray, List.set_cons_zero, List.set_cons_succ, i64_w, i32_w]
                    rfl
                  refine one_ (i := 2) (N := some 42) #[true, true, true, true, true, false, false, false, false] rfl rfl (one_of HT_.out (by kernel_rfl)) (by decide) (fun K hK => ?_)
                  refine goes_ Try.func37 (by kernel_rfl) rfl #[.int .u64 a0_0] (by rfl) rfl rfl (by (try simp only [List.map_toArray, List.map_cons, List.map_nil]); first | done | rfl | (simp only [List.length_drop, List.length_take]; rfl)) ?_
                  with_reducible refine (mac_Bytes.calls kj2 a0_0 t257 _ A20.out).mono ?_
                  rintro e w31 ⟨v258, rfl, ho0, hb⟩
                  refine ⟨_, rfl, ?_⟩
                  have n0_ := Aside0.mk (Kd.R_lower ho0 (below_size (by repeat (first | (with_reducible first | exact HB.out | apply below_alloc | apply pw_below_drewN | apply below_drew1 | refine below_set ?_ GE253.out) | exact HB.out))))
                  have n1_ := Aside0.mk (blk_below (g := gb253) (o := .cells #[.int .u64 a0_0, .int .u64 a0_1, .bool true, .int .u16 a0_3, .int .u16 a0_4, .slice A0_5 l0_5.length c0_5] 39 (0, 0)) (by (with_reducible repeat (first | refine blk_drewN ?_ _ | refine blk_drew ?_ | refine blk_alloc ?_ _)); exact BK253.out) hb)
                  have n2_ := Aside0.mk (below_step (by repeat (first | (with_reducible first | exact HB.out | apply below_alloc | apply pw_below_drewN | apply below_drew1 | refine below_set ?_ GE253.out) | exact HB.out)) hb)
                  clear BK253
                  clear HB
                  have HO259 := n0_
                  have BK253 := n1_
                  have HB := n2_
                  clear n0_ n1_ n2_
                  (try clear hb)
                  (try clear hb2)
                  (try clear hk)
                  (try clear hi)
                  (try clear ho0)
                  refine hK.out _ _ ⟨(blk_cell BK253.out 0).trans rfl, (blk_cell BK253.out 1).trans rfl, (blk_cell BK253.out 2).trans rfl, (blk_cell BK253.out 3).trans rfl, (blk_cell BK253.out 4).trans rfl, (blk_cell BK253.out 5).trans rfl⟩ (fun hHeld => ?_)
                  clear hK K
                  refine norm_ (a' := ?_) ?_ ?_
                  rotate_left
                  · show Act.put _ (some 42) _ = _
                    simp only [Act.put, List.setIfInBounds_toArray, List.set_cons_zero, List.set_cons_succ, i64_w, i32_w]
                    rfl
                  refine one_ (i := 5) (N := some 45) #[true, true, true, true, true, true, false, false, false] rfl rfl (one_of HT_.out (by kernel_rfl)) (by decide) (fun K hK => ?_)
                  refine goes_ Try.func37 (by kernel_rfl) rfl #[.int .u64 a0_1] (by rfl) rfl rfl (by (try simp only [List.map_toArray, List.map_cons, List.map_nil]); first | done | rfl | (simp only [List.length_drop, List.length_take]; rfl)) ?_
                  with_reducible refine (mac_Bytes.calls kj2 a0_1 t260 _ A21.out).mono ?_
                  rintro e w32 ⟨v261, rfl, ho0, hb⟩
                  refine ⟨_, rfl, ?_⟩
                  have n0_ := Aside0.mk (Kd.R_elder' (by (with_reducible repeat (first | apply Kd.R_alloc | apply Kd.R_drewN | apply Kd.R_drew)); exact HO259.out) (Kd.R_base ho0) hb)
                  have n1_ := Aside0.mk (Kd.R_lower (Kd.R_new' ho0 (Kd.R_lt (by (with_reducible repeat (first | apply Kd.R_alloc | apply Kd.R_drewN | apply Kd.R_drew)); exact HO259.out))) (below_size (by repeat (first | (with_reducible first | exact HB.out | apply below_alloc | apply pw_below_drewN | apply below_drew1 | refine below_set ?_ GE253.out) | exact HB.out))))
                  have n2_ := Aside0.mk (blk_below (g := gb253) (o := .cells #[.int .u64 a0_0, .int .u64 a0_1, .bool true, .int .u16 a0_3, .int .u16 a0_4, .slice A0_5 l0_5.length c0_5] 39 (0, 0)) (by (with_reducible repeat (first | refine blk_drewN ?_ _ | refine blk_drew ?_ | refine blk_alloc ?_ _)); exact BK253.out) hb)
                  have n3_ := Aside0.mk (below_step (by repeat (first | (with_reducible first | exact HB.out | apply below_alloc | apply pw_below_drewN | apply below_drew1 | refine below_set ?_ GE253.out) | exact HB.out)) hb)
                  clear HO259
                  clear BK253
                  clear HB
                  have HO259 := n0_
                  have HO262 := n1_
                  have BK253 := n2_
                  have HB := n3_
                  clear n0_ n1_ n2_ n3_
                  (try clear hb)
                  (try clear hb2)
                  (try clear hk)
                  (try clear hi)
                  (try clear ho0)
                  obtain ⟨Ao34, co34, eo34⟩ := Kd.R_slice HO262.out
                  (first | subst eo34 | (injection eo34 with f1_ f2_ f3_; have f4_ := f1_.symm; have f5_ := f3_.symm; clear f1_ f2_ f3_; subst f4_; subst f5_))
                  refine hK.out _ _ ⟨(blk_cell BK253.out 0).trans rfl, (blk_cell BK253.out 1).trans rfl, (blk_cell BK253.out 2).trans rfl, (blk_cell BK253.out 3).trans rfl, (blk_cell BK253.out 4).trans rfl, (blk_cell BK253.out 5).trans rfl⟩ (fun hHeld => ?_)
                  clear hK K
                  refine norm_ (a' := ?_) ?_ ?_
                  rotate_left
                  · show Act.put _ (some 45) _ = _
                    simp only [Act.put, List.setIfInBounds_toArray, List.set_cons_zero, List.set_cons_succ, i64_w, i32_w]
                    rfl
                  obtain ⟨Aq1, cq1, eq1⟩ := Kd.R_slice HO259.out
                  subst eq1
                  refine one_ (i := 6) (N := some 46) #[true, true, true, true, true, true, true, false, false] rfl rfl (one_of HT_.out (by kernel_rfl)) (by decide) (fun K hK => ?_)
                  refine event_step (by rfl) (by go_simp; exact ⟨rfl, rfl⟩) ?_
                  refine hK.out _ _ ⟨(Eq.trans (blk_cell (blk_alloc BK253.out _) 0) rfl), (blk_cell (blk_alloc BK253.out _) 1).trans rfl, (blk_cell (blk_alloc BK253.out _) 2).trans rfl, (blk_cell (blk_alloc BK253.out _) 3).trans rfl, (blk_cell (blk_alloc BK253.out _) 4).trans rfl, (blk_cell (blk_alloc BK253.out _) 5).trans rfl⟩ (fun hHeld => ?_)
                  clear hK K
                  refine norm_ (a' := ?_) ?_ ?_
                  rotate_left
                  · show Act.put _ (some 46) _ = _
                    simp only [Act.put, List.setIfInBounds_toArray, List.set_cons_zero, List.set_cons_succ, i64_w, i32_w]
                    rfl
                  refine one_ (i := 7) (N := some 47) #[true, true, true, true, true, true, true, true, false] rfl rfl (one_of HT_.out (by kernel_rfl)) (by decide) (fun K hK => ?_)
                  refine goes_ Try.func59 (by kernel_rfl) rfl #[.slice (some ⟨_, 0, none⟩) 2 2] (by rfl) rfl rfl (by (try simp only [List.map_toArray, List.map_cons, List.map_nil]); first | done | rfl) ?_
                  with_reducible refine (concat_ _ _ _ _ _ t257 t260 _ (blk_new _ _) (Kd.C_alloc (Kd.R_reads' HO259.out).2.2 _) (Kd.C_alloc (Kd.R_reads' HO262.out).2.2 _) LMc22.out).mono ?_
                  rintro e w33 ⟨v264, rfl, ho, hb⟩
                  refine ⟨_, rfl, ?_⟩
                  rw [← Ny263.out] at ho
                  have n0_ := Aside0.mk (blk_below (blk_alloc BK253.out _) hb)
                  have n1_ := Aside0.mk (Kd.R_mono (ok' := fun k_ => (fun _ => True) k_ ∧ some k_ ≠ (v264 : Value).ownBlock) (Kd.R_elder' (Kd.R_alloc HO262.out _) (Kd.R_base ho) hb) (fun _ hk => ⟨trivial, hk.2⟩))
                  have n2_ := Aside0.mk (below_step (below_alloc HB.out _) hb)
                  have n3_ := Aside0.mk (Kd.R_mono (ok' := fun k_ => some k_ ≠ (.slice Ao34 t260.length co34 : Value).ownBlock) (Kd.R_lower (Kd.R_new' ho (Kd.R_lt (Kd.R_alloc HO262.out _))) (below_size (below_alloc HB.out _))) (fun _ hk => hk.2))
                  clear BK253
                  clear HO262
                  clear HB
                  clear HO259
                  have BK253 := n0_
                  have HO262 := n1_
                  have HB := n2_
                  have HO265 := n3_
                  clear n0_ n1_ n2_ n3_
                  clear ho hb
                  refine hK.out _ _ ⟨(blk_cell BK253.out 0).trans rfl, (blk_cell BK253.out 1).trans rfl, (blk_cell BK253.out 2).trans rfl, (blk_cell BK253.out 3).trans rfl, (blk_cell BK253.out 4).trans rfl, (blk_cell BK253.out 5).trans rfl⟩ (fun hHeld => ?_)
                  clear hK K
                  refine norm_ (a' := ?_) ?_ ?_
                  rotate_left
                  · show Act.put _ (some 47) _ = _
                    simp only [Act.put, List.setIfInBounds_toArray, List.set_cons_zero, List.set_cons_succ, i64_w, i32_w]
                    rfl
                  refine pure_ (i := 8) (N := some 4) (v := ?_) (a' := ?_) #[true, true, true, true, true, true, true, true, true] rfl rfl (any_of HT_.out (by kernel_rfl)) (fun _ _ _ h => h) (Or.inl ⟨by rfl, ?_⟩) ?_ ?_
                  rotate_left
                  · intro w'
                    go_simp
                    with_reducible rfl
                  rotate_left
                  · simp only [Act.put, List.setIfInBounds_toArray, List.set_cons_zero, List.set_cons_succ, i64_w, i32_w]
                    rfl
                  refine done_ (done_of HT_.out (by kernel_rfl)) ?_
                  have hcz35_0 : w33.cell? ⟨gb253, 0, none⟩ = some (.int .u64 a0_0) := (blk_cell BK253.out 0).trans rfl
                  have hcz35_1 : w33.cell? ⟨gb253, 1, none⟩ = some (.int .u64 a0_1) := (blk_cell BK253.out 1).trans rfl
                  have hcz35_2 : w33.cell? ⟨gb253, 2, none⟩ = some (.bool true) := (blk_cell BK253.out 2).trans rfl
                  have hcz35_3 : w33.cell? ⟨gb253, 3, none⟩ = some (.int .u16 a0_3) := (blk_cell BK253.out 3).trans rfl
                  have hcz35_4 : w33.cell? ⟨gb253, 4, none⟩ = some (.int .u16 a0_4) := (blk_cell BK253.out 4).trans rfl
                  have hcz35_5 : w33.cell? ⟨gb253, 5, none⟩ = some (.slice A0_5 l0_5.length c0_5) := (blk_cell BK253.out 5).trans rfl
                  have hfz35_0 := blk_frozen BK253.out 0
                  have hfz35_1 := blk_frozen BK253.out 1
                  have hfz35_2 := blk_frozen BK253.out 2
                  have hfz35_3 := blk_frozen BK253.out 3
                  have hfz35_4 := blk_frozen BK253.out 4
                  have hfz35_5 := blk_frozen BK253.out 5
                  try go_wp2
                  have n0_ := Aside0.mk (Kd.R_drew HO262.out)
                  have n1_ := Aside0.mk (Kd.R_drew HO265.out)
                  have n2_ := Aside0.mk (blk_drew BK253.out)
                  have n3_ := Aside0.mk (below_drew1 HB.out)
                  clear HO262
                  clear HO265
                  clear BK253
                  clear HB
                  have HO262 := n0_
                  have HO265 := n1_
                  have BK253 := n2_
                  have HB := n3_
                  clear n0_ n1_ n2_ n3_
                  obtain ⟨Ao37, co37, eo37⟩ := Kd.R_slice HO265.out
                  (first | subst eo37 | (injection eo37 with f1_ f2_ f3_; have f4_ := f1_.symm; have f5_ := f3_.symm; clear f1_ f2_ f3_; subst f4_; subst f5_))
                  refine start_ (n := 6) (S := fun w' => w'.cell? ⟨gb253, 0, none⟩ = some (.int .u64 a0_0) ∧ w'.cell? ⟨gb253, 1, none⟩ = some (.int .u64 a0_1) ∧ w'.cell? ⟨gb253, 2, none⟩ = some (.bool true) ∧ w'.cell? ⟨gb253, 3, none⟩ = some (.int .u16 a0_3) ∧ w'.cell? ⟨gb253, 4, none⟩ = some (.int .u16 a0_4) ∧ w'.cell? ⟨gb253, 5, none⟩ = some (.slice A0_5 l0_5.length c0_5)) (ds := []) #[false, false, false, false, false, false] (by kernel_rfl) rfl rfl ⟨(blk_cell BK253.out 0).trans rfl, (blk_cell BK253.out 1).trans rfl, (blk_cell BK253.out 2).trans rfl, (blk_cell BK253.out 3).trans rfl, (blk_cell BK253.out 4).trans rfl, (blk_cell BK253.out 5).trans rfl⟩ (fun hHeld => ?_)
                  generalize w33.drew = w36 at HO262 HO265 BK253 HB hHeld ⊢
                  refine pure_ (i := 0) (N := some 50) (v := ?_) (a' := ?_) #[true, false, false, false, false, false] rfl rfl (by kernel_rfl) (fun _ _ _ h => h) (Or.inl ⟨by rfl, ?_⟩) ?_ ?_
                  rotate_left
                  · intro w'
                    go_simp
                    with_reducible rfl
                  rotate_left
                  · simp only [Act.put, List.setIfInBounds_toArray, List.set_cons_zero, List.set_cons_succ, i64_w, i32_w]
                    rfl
                  refine pure_ (i := 2) (N := some 52) (v := ?_) (a' := ?_) #[true, false, true, false, false, false] rfl rfl (by kernel_rfl) (fun _ _ _ h => h) (Or.inl ⟨by rfl, ?_⟩) ?_ ?_
                  rotate_left
                  · intro w'
                    go_simp
                    with_reducible rfl
                  rotate_left
                  · simp only [Act.put, List.setIfInBounds_toArray, List.set_cons_zero, List.set_cons_succ, i64_w, i32_w]
                    rfl
                  refine take_ (i := 3) (N := some 53) (v := ?_) (a' := ?_) #[true, false, true, true, false, false] rfl rfl (by kernel_rfl) (fun _ _ _ h => h) (Or.inl ⟨by rfl, ?_⟩) hHeld ?_ ?_
                  rotate_left
                  · rintro w' ⟨s0, s1, s2, s3, s4, s5⟩
                    go_simp
                    with_reducible rfl
                  rotate_left
                  · simp only [Act.put, List.setIfInBounds_toArray, List.set_cons_zero, List.set_cons_succ, i64_w, i32_w]
                    rfl
                  refine one_ (i := 1) (N := some 51) #[true, true, true, true, false, false] rfl rfl (by kernel_rfl) (by decide) (fun K hK => ?_)
                  refine goes_ Try.func46 (by kernel_rfl) rfl #[.slice Ao37 y263.length co37, .int .u16 33024] (by rfl) rfl rfl (by (try simp only [List.map_toArray, List.map_cons, List.map_nil]); first | done | rfl | (simp only [List.length_drop, List.length_take]; rfl)) ?_
                  with_reducible refine (frame_put.calls (fun k_ => some k_ = (.slice Ao37 y263.length co37 : Value).ownBlock) (.slice Ao37 y263.length co37) y263 33024 t266 w _ ?side1 ?side2 A24.out).mono ?_
                  (case side1 => repeat (first | (with_reducible first | exact HB.out | apply below_alloc | apply pw_below_drewN | apply below_drew1 | refine below_set ?_ GE253.out) | exact HB.out))
                  (case side2 => exact Kd.R_tight rfl HO265.out)
                  rintro e w38 ⟨v267, rfl, ho0, hb, hkp⟩
                  refine ⟨_, rfl, ?_⟩
                  have n0_ := Aside0.mk (blk_kept (by (with_reducible repeat (first | refine blk_drewN ?_ _ | refine blk_drew ?_ | refine blk_alloc ?_ _)); exact BK253.out) hkp (fun hs_ => (fun e_ => (Kd.R_ne HO265.out BK253.out (by decide)) e_) hs_))
                  have n1_ := Aside0.mk (Kd.R_mono (ok' := fun k_ => some k_ ≠ (v267 : Value).ownBlock) (Kd.R_keptB (HO262.out) hkp (fun k_ hk_ hs_ => (hk_.2) hs_)) (fun k_ hk_ => fun e_ => Or.elim (ho0.1 k_ e_.symm) (fun hs_ => hk_.2.1 hs_) (fun hn_ => Nat.not_le.2 hk_.2.2 hn_)))
                  have n2_ := Aside0.mk (Kd.R_mono (ok' := fun k_ => some k_ ≠ (.slice Ao34 t260.length co34 : Value).ownBlock) ho0 (fun k_ hk_ => Or.elim hk_ (fun hs_ => fun e_ => (((HO262.out).1 k_ e_.symm).2) hs_) (fun hn_ => (Kd.fresh' (Kd.R_lt (by (with_reducible repeat (first | apply Kd.R_alloc | apply Kd.R_drewN | apply Kd.R_drew)); exact HO262.out)) k_ hn_))))
                  have n3_ := Aside0.mk (hb)
                  clear BK253
                  clear HO262
                  clear HB
                  clear HO265
                  have BK253 := n0_
                  have HO262 := n1_
                  have HO268 := n2_
                  have HB := n3_
                  clear n0_ n1_ n2_ n3_
                  (try clear hb)
                  (try clear hkp)
                  (try clear ho0)
                  obtain ⟨Ao39, co39, eo39⟩ := Kd.R_slice HO268.out
                  (first | subst eo39 | (injection eo39 with f1_ f2_ f3_; have f4_ := f1_.symm; have f5_ := f3_.symm; clear f1_ f2_ f3_; subst f4_; subst f5_))
                  refine hK.out _ _ ⟨(blk_cell BK253.out 0).trans rfl, (blk_cell BK253.out 1).trans rfl, (blk_cell BK253.out 2).trans rfl, (blk_cell BK253.out 3).trans rfl, (blk_cell BK253.out 4).trans rfl, (blk_cell BK253.out 5).trans rfl⟩ (fun hHeld => ?_)
                  clear hK K
                  refine norm_ (a' := ?_) ?_ ?_
                  rotate_left
                  · show Act.put _ (some 51) _ = _
                    simp only [Act.put, List.setIfInBounds_toArray, List.set_cons_zero, List.set_cons_succ, i64_w, i32_w]
                    rfl
                  refine one_ (i := 4) (N := some 54) #[true, true, true, true, true, false] rfl rfl (by kernel_rfl) (by decide) (fun K hK => ?_)
                  refine goes_ Try.func46 (by kernel_rfl) rfl #[.slice Ao39 t266.length co39, .int .u16 a0_3] (by rfl) rfl rfl (by (try simp only [List.map_toArray, List.map_cons, List.map_nil]); first | done | rfl | (simp only [List.length_drop, List.length_take]; rfl)) ?_
                  with_reducible refine (frame_put.calls (fun k_ => some k_ = (.slice Ao39 t266.length co39 : Value).ownBlock) (.slice Ao39 t266.length co39) t266 a0_3 t269 w _ ?side1 ?side2 A25.out).mono ?_
                  (case side1 => repeat (first | (with_reducible first | exact HB.out | apply below_alloc | apply pw_below_drewN | apply below_drew1 | refine below_set ?_ GE253.out) | exact HB.out))
                  (case side2 => exact Kd.R_tight rfl HO268.out)
                  rintro e w40 ⟨v270, rfl, ho0, hb, hkp⟩
                  refine ⟨_, rfl, ?_⟩
                  have n0_ := Aside0.mk (blk_kept (by (with_reducible repeat (first | refine blk_drewN ?_ _ | refine blk_drew ?_ | refine blk_alloc ?_ _)); exact BK253.out) hkp (fun hs_ => (fun e_ => (Kd.R_ne HO268.out BK253.out (by decide)) e_) hs_))
                  have n1_ := Aside0.mk (Kd.R_mono (ok' := fun k_ => some k_ ≠ (v270 : Value).ownBlock) (Kd.R_keptB (HO262.out) hkp (fun k_ hk_ hs_ => (hk_) hs_)) (fun k_ hk_ => fun e_ => Or.elim (ho0.1 k_ e_.symm) (fun hs_ => hk_.2.1 hs_) (fun hn_ => Nat.not_le.2 hk_.2.2 hn_)))
                  have n2_ := Aside0.mk (Kd.R_mono (ok' := fun k_ => some k_ ≠ (.slice Ao34 t260.length co34 : Value).ownBlock) ho0 (fun k_ hk_ => Or.elim hk_ (fun hs_ => fun e_ => (((HO262.out).1 k_ e_.symm)) hs_) (fun hn_ => (Kd.fresh' (Kd.R_lt (by (with_reducible repeat (first | apply Kd.R_alloc | apply Kd.R_drewN | apply Kd.R_drew)); exact HO262.out)) k_ hn_))))
                  have n3_ := Aside0.mk (hb)
                  clear BK253
                  clear HO262
                  clear HB
                  clear HO268
                  have BK253 := n0_
                  have HO262 := n1_
                  have HO271 := n2_
                  have HB := n3_
                  clear n0_ n1_ n2_ n3_
                  (try clear hb)
                  (try clear hkp)
                  (try clear ho0)
                  refine hK.out _ _ ⟨(blk_cell BK253.out 0).trans rfl, (blk_cell BK253.out 1).trans rfl, (blk_cell BK253.out 2).trans rfl, (blk_cell BK253.out 3).trans rfl, (blk_cell BK253.out 4).trans rfl, (blk_cell BK253.out 5).trans rfl⟩ (fun hHeld => ?_)
                  clear hK K
                  refine norm_ (a' := ?_) ?_ ?_
                  rotate_left
                  · show Act.put _ (some 54) _ = _
                    simp only [Act.put, List.setIfInBounds_toArray, List.set_cons_zero, List.set_cons_succ, i64_w, i32_w]
                    rfl
                  refine pure_ (i := 5) (N := some 4) (v := ?_) (a' := ?_) #[true, true, true, true, true, true] rfl rfl (by kernel_rfl) (fun _ _ _ h => h) (Or.inl ⟨by rfl, ?_⟩) ?_ ?_
                  rotate_left
                  · intro w'
                    go_simp
                    with_reducible rfl
                  rotate_left
                  · simp only [Act.put, List.setIfInBounds_toArray, List.set_cons_zero, List.set_cons_succ, i64_w, i32_w]
                    rfl
                  refine done_ (by kernel_rfl) ?_
                  try go_wp2
                  have n0_ := Aside0.mk (Kd.R_drew HO262.out)
                  have n1_ := Aside0.mk (Kd.R_drew HO271.out)
                  have n2_ := Aside0.mk (blk_drew BK253.out)
                  have n3_ := Aside0.mk (below_drew1 HB.out)
                  clear HO262
                  clear HO271
                  clear BK253
                  clear HB
                  have HO262 := n0_
                  have HO271 := n1_
                  have BK253 := n2_
                  have HB := n3_
                  clear n0_ n1_ n2_ n3_
                  obtain ⟨Ao42, co42, eo42⟩ := Kd.R_slice HO271.out
                  (first | subst eo42 | (injection eo42 with f1_ f2_ f3_; have f4_ := f1_.symm; have f5_ := f3_.symm; clear f1_ f2_ f3_; subst f4_; subst f5_))
                  refine start_ (n := 10) (S := fun w' => w'.cell? ⟨gb253, 0, none⟩ = some (.int .u64 a0_0) ∧ w'.cell? ⟨gb253, 1, none⟩ = some (.int .u64 a0_1) ∧ w'.cell? ⟨gb253, 2, none⟩ = some (.bool true) ∧ w'.cell? ⟨gb253, 3, none⟩ = some (.int .u16 a0_3) ∧ w'.cell? ⟨gb253, 4, none⟩ = some (.int .u16 a0_4) ∧ w'.cell? ⟨gb253, 5, none⟩ = some (.slice A0_5 l0_5.length c0_5)) (ds := []) #[false, false, false, false, false, false, false, false, false, false] (by kernel_rfl) rfl rfl ⟨(blk_cell BK253.out 0).trans rfl, (blk_cell BK253.out 1).trans rfl, (blk_cell BK253.out 2).trans rfl, (blk_cell BK253.out 3).trans rfl, (blk_cell BK253.out 4).trans rfl, (blk_cell BK253.out 5).trans rfl⟩ (fun hHeld => ?_); refine with_tabW frame_Write.tab12 frame_Write.bits12 (fun HT_ HW_ => ?_)
                  generalize w40.drew = w41 at HO262 HO271 BK253 HB hHeld ⊢
                  refine pure_ (i := 0) (N := some 55) (v := ?_) (a' := ?_) #[true, false, false, false, false, false, false, false, false, false] rfl rfl (any_of HT_.out (by kernel_rfl)) (fun _ _ _ h => h) (Or.inl ⟨by rfl, ?_⟩) ?_ ?_
                  rotate_left
                  · intro w'
                    go_simp
                    with_reducible rfl
                  rotate_left
                  · simp only [Act.put, List.setIfInBounds_toArray, List.set_cons_zero, List.set_cons_succ, i64_w, i32_w]
                    rfl
                  refine pure_ (i := 1) (N := some 56) (v := ?_) (a' := ?_) #[true, true, false, false, false, false, false, false, false, false] rfl rfl (any_of HT_.out (by kernel_rfl)) (fun _ _ _ h => h) (Or.inl ⟨by rfl, ?_⟩) ?_ ?_
                  rotate_left
                  · intro w'
                    go_simp
                    with_reducible rfl
                  rotate_left
                  · simp only [Act.put, List.setIfInBounds_toArray, List.set_cons_zero, List.set_cons_succ, i64_w, i32_w]
                    rfl
                  refine pure_ (i := 4) (N := some 59) (v := ?_) (a' := ?_) #[true, true, false, false, true, false, false, false, false, false] rfl rfl (any_of HT_.out (by kernel_rfl)) (fun _ _ _ h => h) (Or.inl ⟨by rfl, ?_⟩) ?_ ?_
                  rotate_left
                  · intro w'
                    go_simp
                    with_reducible rfl
                  rotate_left
                  · simp only [Act.put, List.setIfInBounds_toArray, List.set_cons_zero, List.set_cons_succ, i64_w, i32_w]
                    rfl
                  refine take_ (i := 2) (N := some 57) (v := ?_) (a' := ?_) #[true, true, true, false, true, false, false, false, false, false] rfl rfl (take_ofW HT_.out HW_.out (by kernel_rfl)) (fun _ _ _ h => h) (Or.inl ⟨by rfl, ?_⟩) hHeld ?_ ?_
                  rotate_left
                  · rintro w' ⟨s0, s1, s2, s3, s4, s5⟩
                    go_simp
                    with_reducible rfl
                  rotate_left
                  · simp only [Act.put, List.setIfInBounds_toArray, List.set_cons_zero, List.set_cons_succ, i64_w, i32_w]
                    rfl
                  refine take_ (i := 5) (N := some 60) (v := ?_) (a' := ?_) #[true, true, true, false, true, true, false, false, false, false] rfl rfl (take_ofW HT_.out HW_.out (by kernel_rfl)) (fun _ _ _ h => h) (Or.inl ⟨by rfl, ?_⟩) hHeld ?_ ?_
                  rotate_left
                  · rintro w' ⟨s0, s1, s2, s3, s4, s5⟩
                    go_simp
                    with_reducible rfl
                  rotate_left
                  · simp only [Act.put, List.setIfInBounds_toArray, List.set_cons_zero, List.set_cons_succ, i64_w, i32_w]
                    rfl
                  refine one_ (i := 3) (N := some 58) #[true, true, true, true, true, true, false, false, false, false] rfl rfl (one_of HT_.out (by kernel_rfl)) (by decide) (fun K hK => ?_)
                  refine goes_ Try.func46 (by kernel_rfl) rfl #[.slice Ao42 t269.length co42, .int .u16 a0_4] (by rfl) rfl rfl (by (try simp only [List.map_toArray, List.map_cons, List.map_nil]); first | done | rfl | (simp only [List.length_drop, List.length_take]; rfl)) ?_
                  with_reducible refine (frame_put.calls (fun k_ => some k_ = (.slice Ao42 t269.length co42 : Value).ownBlock) (.slice Ao42 t269.length co42) t269 a0_4 t272 w _ ?side1 ?side2 A26.out).mono ?_
                  (case side1 => repeat (first | (with_reducible first | exact HB.out | apply below_alloc | apply pw_below_drewN | apply below_drew1 | refine below_set ?_ GE253.out) | exact HB.out))
                  (case side2 => exact Kd.R_tight rfl HO271.out)
                  rintro e w43 ⟨v273, rfl, ho0, hb, hkp⟩
                  refine ⟨_, rfl, ?_⟩
                  have n0_ := Aside0.mk (blk_kept (by (with_reducible repeat (first | refine blk_drewN ?_ _ | refine blk_drew ?_ | refine blk_alloc ?_ _)); exact BK253.out) hkp (fun hs_ => (fun e_ => (Kd.R_ne HO271.out BK253.out (by decide)) e_) hs_))
                  have n1_ := Aside0.mk (Kd.R_mono (ok' := fun k_ => some k_ ≠ (v273 : Value).ownBlock) (Kd.R_keptB (HO262.out) hkp (fun k_ hk_ hs_ => (hk_) hs_)) (fun k_ hk_ => fun e_ => Or.elim (ho0.1 k_ e_.symm) (fun hs_ => hk_.2.1 hs_) (fun hn_ => Nat.not_le.2 hk_.2.2 hn_)))
                  have n2_ := Aside0.mk (Kd.R_mono (ok' := fun k_ => some k_ ≠ (.slice Ao34 t260.length co34 : Value).ownBlock) ho0 (fun k_ hk_ => Or.elim hk_ (fun hs_ => fun e_ => (((HO262.out).1 k_ e_.symm)) hs_) (fun hn_ => (Kd.fresh' (Kd.R_lt (by (with_reducible repeat (first | apply Kd.R_alloc | apply Kd.R_drewN | apply Kd.R_drew)); exact HO262.out)) k_ hn_))))
                  have n3_ := Aside0.mk (hb)
                  clear BK253
                  clear HO262
                  clear HB
                  clear HO271
                  have BK253 := n0_
                  have HO262 := n1_
                  have HO274 := n2_
                  have HB := n3_
                  clear n0_ n1_ n2_ n3_
                  (try clear hb)
                  (try clear hkp)
                  (try clear ho0)
                  refine hK.out _ _ ⟨(blk_cell BK253.out 0).trans rfl, (blk_cell BK253.out 1).trans rfl, (blk_cell BK253.out 2).trans rfl, (blk_cell BK253.out 3).trans rfl, (blk_cell BK253.out 4).trans rfl, (blk_cell BK253.out 5).trans rfl⟩ (fun hHeld => ?_)
                  clear hK K
                  refine norm_ (a' := ?_) ?_ ?_
                  rotate_left
                  · show Act.put _ (some 58) _ = _
                    simp only [Act.put, List.setIfInBounds_toArray, List.set_cons_zero, List.set_cons_succ, i64_w, i32_w]
                    rfl
                  refine one_ (i := 6) (N := some 61) #[true, true, true, true, true, true, true, false, false, false] rfl rfl (one_of HT_.out (by kernel_rfl)) (by decide) (fun K hK => ?_)
                  refine Kd.R_append_rows_step (Kd.int .u8) (w0 := w) w.heap.size (by rfl) (.tmp 58) (.tmp 60) 22 5 (.int .u8 0) 1 rfl Try.underlying22 info5 rfl (by decide) (by omega) v273 t272 l0_5 _ _ _ (fun k_ => some k_ ≠ (.slice Ao34 t260.length co34 : Value).ownBlock) (fun _ => False) rfl rfl ?aO ?aR (fun _ _ h => h) (fun _ h => h.elim) ?aF ?aB ?aS ?aL ?_
                  (case aR => repeat (first | exact (Kd.C_below HR0_5.out HB.out) | (with_reducible refine Kd.C_alloc ?_ _) | (with_reducible refine Kd.C_drewN ?_ _) | (with_reducible refine Kd.C_drew ?_)))
                  (case aB => exact (by repeat (first | (with_reducible first | exact HB.out | apply below_alloc | apply pw_below_drewN | apply below_drew1 | refine below_set ?_ GE253.out) | exact HB.out)))
                  (case aF => exact (fun k_ hk => Kd.fresh' (Kd.R_lt (by (with_reducible repeat (first | apply Kd.R_alloc | apply Kd.R_drewN | apply Kd.R_drew)); exact HO262.out)) k_ hk))
                  (case aO => exact (by (with_reducible repeat (first | apply Kd.R_alloc | apply Kd.R_drewN | apply Kd.R_drew)); exact HO274.out))
                  (case aS => exact (below_size (by repeat (first | (with_reducible first | exact HB.out | apply below_alloc | apply pw_below_drewN | apply below_drew1 | refine below_set ?_ GE253.out) | exact HB.out))))
                  (case aL => have := LMc27.out; omega)
                  intro v276 w44 ho hb hg hat
                  rw [← Ny275.out] at ho
                  have n0_ := Aside0.mk (blk_grown (g := gb253) (o := .cells #[.int .u64 a0_0, .int .u64 a0_1, .bool true, .int .u16 a0_3, .int .u16 a0_4, .slice A0_5 l0_5.length c0_5] 39 (0, 0)) (by (with_reducible repeat (first | refine blk_drewN ?_ _ | refine blk_drew ?_ | refine blk_alloc ?_ _)); exact BK253.out) hg (Kd.R_ne HO274.out BK253.out (by decide)))
                  have n1_ := Aside0.mk (Kd.R_after (ok := (fun _ => True)) (by (with_reducible repeat (first | apply Kd.R_alloc | apply Kd.R_drewN | apply Kd.R_drew)); exact Kd.R_mono HO262.out (fun _ hk => ⟨trivial, hk⟩)) hg hat)
                  have n2_ := Aside0.mk (hb)
                  have n3_ := Aside0.mk (ho)
                  clear BK253
                  clear HO262
                  clear HB
                  clear HO274
                  have BK253 := n0_
                  have HO262 := n1_
                  have HB := n2_
                  have HO277 := n3_
                  clear n0_ n1_ n2_ n3_
                  clear ho hb hg hat
                  obtain ⟨Ao45, co45, eo45⟩ := Kd.R_slice HO277.out
                  (first | subst eo45 | (injection eo45 with f1_ f2_ f3_; have f4_ := f1_.symm; have f5_ := f3_.symm; clear f1_ f2_ f3_; subst f4_; subst f5_))
                  refine hK.out _ _ ⟨(blk_cell BK253.out 0).trans rfl, (blk_cell BK253.out 1).trans rfl, (blk_cell BK253.out 2).trans rfl, (blk_cell BK253.out 3).trans rfl, (blk_cell BK253.out 4).trans rfl, (blk_cell BK253.out 5).trans rfl⟩ (fun hHeld => ?_)
                  clear hK K
                  refine norm_ (a' := ?_) ?_ ?_
                  rotate_left
                  · show Act.put _ (some 61) _ = _
                    simp only [Act.put, List.setIfInBounds_toArray, List.set_cons_zero, List.set_cons_succ, i64_w, i32_w]
                    rfl
                  refine one_ (i := 7) (N := some 62) #[true, true, true, true, true, true, true, true, false, false] rfl rfl (one_of HT_.out (by kernel_rfl)) (by decide) (fun K hK => ?_)
                  refine goes_ Try.func47 (by kernel_rfl) rfl #[.slice Ao45 y275.length co45] (by rfl) rfl rfl (by (try simp only [List.map_toArray, List.map_cons, List.map_nil]); first | done | rfl | (simp only [List.length_drop, List.length_take]; rfl)) ?_
                  with_reducible refine (frame_padded.calls (fun k_ => some k_ = (.slice Ao45 y275.length co45 : Value).ownBlock) (.slice Ao45 y275.length co45) y275 t278 w _ ?side1 ?side2 A28.out).mono ?_
                  (case side1 => repeat (first | (with_reducible first | exact HB.out | apply below_alloc | apply pw_below_drewN | apply below_drew1 | refine below_set ?_ GE253.out) | exact HB.out))
                  (case side2 => exact Kd.R_tight rfl HO277.out)
                  rintro e w46 ⟨v279, rfl, ho0, hb, hkp⟩
                  refine ⟨_, rfl, ?_⟩
                  have n0_ := Aside0.mk (blk_kept (by (with_reducible repeat (first | refine blk_drewN ?_ _ | refine blk_drew ?_ | refine blk_alloc ?_ _)); exact BK253.out) hkp (fun hs_ => (fun e_ => (Kd.R_ne HO277.out BK253.out (by decide)) e_) hs_))
                  have n1_ := Aside0.mk (Kd.R_mono (ok' := fun k_ => some k_ ≠ (v279 : Value).ownBlock) (Kd.R_keptB (HO262.out) hkp (fun k_ hk_ hs_ => (hk_.2) hs_)) (fun k_ hk_ => fun e_ => Or.elim (ho0.1 k_ e_.symm) (fun hs_ => hk_.2.1 hs_) (fun hn_ => Nat.not_le.2 hk_.2.2 hn_)))
                  have n2_ := Aside0.mk (Kd.R_mono (ok' := fun k_ => some k_ ≠ (.slice Ao34 t260.length co34 : Value).ownBlock) ho0 (fun k_ hk_ => Or.elim hk_ (fun hs_ => fun e_ => (((HO262.out).1 k_ e_.symm).2) hs_) (fun hn_ => (Kd.fresh' (Kd.R_lt (by (with_reducible repeat (first | apply Kd.R_alloc | apply Kd.R_drewN | apply Kd.R_drew)); exact HO262.out)) k_ hn_))))
                  have n3_ := Aside0.mk (hb)
                  clear BK253
                  clear HO262
                  clear HB
                  clear HO277
                  have BK253 := n0_
                  have HO262 := n1_
                  have HO280 := n2_
                  have HB := n3_
                  clear n0_ n1_ n2_ n3_
                  (try clear hb)
                  (try clear hkp)
                  (try clear ho0)
                  refine hK.out _ _ ⟨(blk_cell BK253.out 0).trans rfl, (blk_cell BK253.out 1).trans rfl, (blk_cell BK253.out 2).trans rfl, (blk_cell BK253.out 3).trans rfl, (blk_cell BK253.out 4).trans rfl, (blk_cell BK253.out 5).trans rfl⟩ (fun hHeld => ?_)
                  clear hK K
                  refine norm_ (a' := ?_) ?_ ?_
                  rotate_left
                  · show Act.put _ (some 62) _ = _
                    simp only [Act.put, List.setIfInBounds_toArray, List.set_cons_zero, List.set_cons_succ, i64_w, i32_w]
                    rfl
                  refine pure_ (i := 8) (N := some 2) (v := ?_) (a' := ?_) #[true, true, true, true, true, true, true, true, true, false] rfl rfl (any_of HT_.out (by kernel_rfl)) (fun _ _ _ h => h) (Or.inl ⟨by rfl, ?_⟩) ?_ ?_
                  rotate_left
                  · intro w'
                    go_simp
                    with_reducible rfl
                  rotate_left
                  · simp only [Act.put, List.setIfInBounds_toArray, List.set_cons_zero, List.set_cons_succ, i64_w, i32_w]
                    rfl
                  refine pure_ (i := 9) (N := some 3) (v := ?_) (a' := ?_) #[true, true, true, true, true, true, true, true, true, true] rfl rfl (any_of HT_.out (by kernel_rfl)) (fun _ _ _ h => h) (Or.inl ⟨by rfl, ?_⟩) ?_ ?_
                  rotate_left
                  · intro w'
                    go_simp
                    with_reducible rfl
                  rotate_left
                  · simp only [Act.put, List.setIfInBounds_toArray, List.set_cons_zero, List.set_cons_succ, i64_w, i32_w]
                    rfl
                  refine done_ (done_of HT_.out (by kernel_rfl)) ?_
                  try go_wp2
                  go_ret2
                  exact ⟨_, by first | rfl | (simp [errW_none, errW_some] <;> rfl) | (simp [*, errW_none, errW_some] <;> rfl), by (with_reducible repeat (first | apply Kd.R_alloc | apply Kd.R_drewN | apply Kd.R_drew)); exact Kd.R_mono HO280.out (fun _ hk => trivial), by repeat (first | (with_reducible first | exact HB.out | apply below_alloc | apply pw_below_drewN | apply below_drew1 | refine below_set ?_ GE253.out) | exact HB.out)⟩
                · rw [if_neg c27] at H
                  exact absurd H (by simp)
              · replace c23 := Bool.eq_false_iff.mpr c23
                subst c23
                have H1 : ((frame_put.f y263 a0_4).bind fun t281 => (if t281.length + l0_5.length < 140737488355328 then ((frame_padded.f (t281 ++ l0_5)).bind fun t287 => (some (t287, 0))) else (none))) = some (r1, r2) := by rw [if_neg (show ¬ (false = true) by decide)] at H; exact H
                clear H
                have H := H1
                clear H1
                replace H := Option.bind_eq_some_iff.mp H
                obtain ⟨t281, A470, H⟩ := H
                replace H : (if t281.length + l0_5.length < 140737488355328 then ((frame_padded.f (t281 ++ l0_5)).bind fun t287 => (some (t287, 0))) else (none)) = some (r1, r2) := H
                have A47 := Aside0.mk A470
                clear A470
                by_cases c48 : t281.length + l0_5.length < 140737488355328
                · rw [if_pos c48] at H
                  have LMc48 := Aside0.mk c48
                  clear c48
                  obtain ⟨y284, hy284⟩ : ∃ y_ : List Int, y_ = (t281 ++ l0_5) := ⟨_, rfl⟩
                  replace H : ((frame_padded.f y284).bind fun t287 => (some (t287, 0))) = some (r1, r2) := by first | (rw [hy284]; with_reducible exact H) | (have H2_ := (Option.bind_some _ _).symm.trans H; rw [hy284]; with_reducible exact H2_) | (have H2_ := (Option.bind_some _ _).symm.trans H; with_reducible exact H2_) | with_reducible exact H | (rw [hy284]; exact H) | exact H
                  have Ny284 := Aside0.mk hy284
                  clear hy284
                  replace H := Option.bind_eq_some_iff.mp H
                  obtain ⟨t287, A490, H⟩ := H
                  replace H : (some (t287, 0)) = some (r1, r2) := H
                  have A49 := Aside0.mk A490
                  clear A490
                  simp only [Option.some.injEq, Prod.mk.injEq] at H
                  obtain ⟨rfl, rfl⟩ := H
                  have hcz50_0 : wc.cell? ⟨gb253, 0, none⟩ = some (.int .u64 a0_0) := (blk_cell BK253.out 0).trans rfl
                  have hcz50_1 : wc.cell? ⟨gb253, 1, none⟩ = some (.int .u64 a0_1) := (blk_cell BK253.out 1).trans rfl
                  have hcz50_2 : wc.cell? ⟨gb253, 2, none⟩ = some (.bool false) := (blk_cell BK253.out 2).trans rfl
                  have hcz50_3 : wc.cell? ⟨gb253, 3, none⟩ = some (.int .u16 a0_3) := (blk_cell BK253.out 3).trans rfl
                  have hcz50_4 : wc.cell? ⟨gb253, 4, none⟩ = some (.int .u16 a0_4) := (blk_cell BK253.out 4).trans rfl
                  have hcz50_5 : wc.cell? ⟨gb253, 5, none⟩ = some (.slice A0_5 l0_5.length c0_5) := (blk_cell BK253.out 5).trans rfl
                  have hfz50_0 := blk_frozen BK253.out 0
                  have hfz50_1 := blk_frozen BK253.out 1
                  have hfz50_2 := blk_frozen BK253.out 2
                  have hfz50_3 := blk_frozen BK253.out 3
                  have hfz50_4 := blk_frozen BK253.out 4
                  have hfz50_5 := blk_frozen BK253.out 5
                  try go_wp2_with (first | ((with_reducible refine gate_callee (f := 54) rfl ?_); refine goesL_ (some 38) rfl rfl Try.func54 (by kernel_rfl) rfl #[.int .u16 a0_4, .int .i64 (l0_5.length : Int)] rfl (by (try simp only [List.map_toArray, List.map_cons, List.map_nil]); first | done | rfl | (simp only [List.length_drop, List.length_take]; rfl)) ?_; (with_reducible refine (frame_form.calls a0_4 (l0_5.length : Int) true _ A18.out).mono ?_); rintro e w' ⟨rfl, ⟨nd, rfl⟩⟩; refine ⟨_, rfl, ?_⟩))
                  (try (rw [drewN_self wc]; generalize hq_ : World.drewN wc _ = wc; have n0_ : Aside0 (wc.heap[gb253]? = some (.cells #[.int .u64 a0_0, .int .u64 a0_1, .bool false, .int .u16 a0_3, .int .u16 a0_4, .slice A0_5 l0_5.length c0_5] 39 (0, 0))) := ⟨by rw [← hq_]; exact (by (with_reducible repeat (first | refine blk_drewN ?_ _ | refine blk_drew ?_ | refine blk_alloc ?_ _)); exact BK253.out)⟩; have n1_ : Aside0 (Below w.heap.size w wc) := ⟨by rw [← hq_]; exact (by repeat (first | (with_reducible first | exact HB.out | apply below_alloc | apply pw_below_drewN | apply below_drew1 | refine below_set ?_ GE253.out) | exact HB.out))⟩; clear BK253 HB hq_; have BK253 := n0_; have HB := n1_; clear n0_ n1_))
                  have n0_ := Aside0.mk (blk_drew BK253.out)
                  have n1_ := Aside0.mk (below_drew1 HB.out)
                  clear BK253
                  clear HB
                  have BK253 := n0_
                  have HB := n1_
                  clear n0_ n1_
                  refine start_ (n := 9) (S := fun w' => w'.cell? ⟨gb253, 0, none⟩ = some (.int .u64 a0_0) ∧ w'.cell? ⟨gb253, 1, none⟩ = some (.int .u64 a0_1) ∧ w'.cell? ⟨gb253, 2, none⟩ = some (.bool false) ∧ w'.cell? ⟨gb253, 3, none⟩ = some (.int .u16 a0_3) ∧ w'.cell? ⟨gb253, 4, none⟩ = some (.int .u16 a0_4) ∧ w'.cell? ⟨gb253, 5, none⟩ = some (.slice A0_5 l0_5.length c0_5)) (ds := []) #[false, false, false, false, false, false, false, false, false] (by kernel_rfl) rfl rfl ⟨(blk_cell BK253.out 0).trans rfl, (blk_cell BK253.out 1).trans rfl, (blk_cell BK253.out 2).trans rfl, (blk_cell BK253.out 3).trans rfl, (blk_cell BK253.out 4).trans rfl, (blk_cell BK253.out 5).trans rfl⟩ (fun hHeld => ?_); refine with_tabW frame_Write.tab9 frame_Write.bits9 (fun HT_ HW_ => ?_)
                  generalize wc.drew = w51 at BK253 HB hHeld ⊢
                  refine pure_ (i := 0) (N := some 40) (v := ?_) (a' := ?_) #[true, false, false, false, false, false, false, false, false] rfl rfl (any_of HT_.out (by kernel_rfl)) (fun _ _ _ h => h) (Or.inl ⟨by rfl, ?_⟩) ?_ ?_
                  rotate_left
                  · intro w'
                    go_simp
                    with_reducible rfl
                  rotate_left
                  · simp only [Act.put, List.setIfInBounds_toArray, List.set_cons_zero, List.set_cons_succ, i64_w, i32_w]
                    rfl
                  refine pure_ (i := 3) (N := some 43) (v := ?_) (a' := ?_) #[true, false, false, true, false, false, false, false, false] rfl rfl (any_of HT_.out (by kernel_rfl)) (fun _ _ _ h => h) (Or.inl ⟨by rfl, ?_⟩) ?_ ?_
                  rotate_left
                  · intro w'
                    go_simp
                    with_reducible rfl
                  rotate_left
                  · simp only [Act.put, List.setIfInBounds_toArray, List.set_cons_zero, List.set_cons_succ, i64_w, i32_w]
                    rfl
                  refine take_ (i := 1) (N := some 41) (v := ?_) (a' := ?_) #[true, true, false, true, false, false, false, false, false] rfl rfl (take_ofW HT_.out HW_.out (by kernel_rfl)) (fun _ _ _ h => h) (Or.inl ⟨by rfl, ?_⟩) hHeld ?_ ?_
                  rotate_left
                  · rintro w' ⟨s0, s1, s2, s3, s4, s5⟩
                    go_simp
                    with_reducible rfl
                  rotate_left
                  · simp only [Act.put, List.setIfInBounds_toArray, List.set_cons_zero, List.set_cons_succ, i64_w, i32_w]
                    rfl
                  refine take_ (i := 4) (N := some 44) (v := ?_) (a' := ?_) #[true, true, false, true, true, false, false, false, false] rfl rfl (take_ofW HT_.out HW_.out (by kernel_rfl)) (fun _ _ _ h => h) (Or.inl ⟨by rfl, ?_⟩) hHeld ?_ ?_
                  rotate_left
                  · rintro w' ⟨s0, s1, s2, s3, s4, s5⟩
                    go_simp
                    with_reducible rfl
                  rotate_left
                  · simp only [Act.put, List.setIfInBounds_toArray, List.set_cons_zero, List.set_cons_succ, i64_w, i32_w]
                    rfl
                  refine one_ (i := 2) (N := some 42) #[true, true, true, true, true, false, false, false, false] rfl rfl (one_of HT_.out (by kernel_rfl)) (by decide) (fun K hK => ?_)
                  refine goes_ Try.func37 (by kernel_rfl) rfl #[.int .u64 a0_0] (by rfl) rfl rfl (by (try simp only [List.map_toArray, List.map_cons, List.map_nil]); first | done | rfl | (simp only [List.length_drop, List.length_take]; rfl)) ?_
                  with_reducible refine (mac_Bytes.calls kj2 a0_0 t257 _ A20.out).mono ?_
                  rintro e w52 ⟨v258, rfl, ho0, hb⟩
                  refine ⟨_, rfl, ?_⟩
                  have n0_ := Aside0.mk (Kd.R_lower ho0 (below_size (by repeat (first | (with_reducible first | exact HB.out | apply below_alloc | apply pw_below_drewN | apply below_drew1 | refine below_set ?_ GE253.out) | exact HB.out))))
                  have n1_ := Aside0.mk (blk_below (g := gb253) (o := .cells #[.int .u64 a0_0, .int .u64 a0_1, .bool false, .int .u16 a0_3, .int .u16 a0_4, .slice A0_5 l0_5.length c0_5] 39 (0, 0)) (by (with_reducible repeat (first | refine blk_drewN ?_ _ | refine blk_drew ?_ | refine blk_alloc ?_ _)); exact BK253.out) hb)
                  have n2_ := Aside0.mk (below_step (by repeat (first | (with_reducible first | exact HB.out | apply below_alloc | apply pw_below_drewN | apply below_drew1 | refine below_set ?_ GE253.out) | exact HB.out)) hb)
                  clear BK253
                  clear HB
                  have HO259 := n0_
                  have BK253 := n1_
                  have HB := n2_
                  clear n0_ n1_ n2_
                  (try clear hb)
                  (try clear hb2)
                  (try clear hk)
                  (try clear hi)
                  (try clear ho0)
                  refine hK.out _ _ ⟨(blk_cell BK253.out 0).trans rfl, (blk_cell BK253.out 1).trans rfl, (blk_cell BK253.out 2).trans rfl, (blk_cell BK253.out 3).trans rfl, (blk_cell BK253.out 4).trans rfl, (blk_cell BK253.out 5).trans rfl⟩ (fun hHeld => ?_)
                  clear hK K
                  refine norm_ (a' := ?_) ?_ ?_
                  rotate_left
                  · show Act.put _ (some 42) _ = _
                    simp only [Act.put, List.setIfInBounds_toArray, List.set_cons_zero, List.set_cons_succ, i64_w, i32_w]
                    rfl
                  refine one_ (i := 5) (N := some 45) #[true, true, true, true, true, true, false, false, false] rfl rfl (one_of HT_.out (by kernel_rfl)) (by decide) (fun K hK => ?_)
                  refine goes_ Try.func37 (by kernel_rfl) rfl #[.int .u64 a0_1] (by rfl) rfl rfl (by (try simp only [List.map_toArray, List.map_cons, List.map_nil]); first | done | rfl | (simp only [List.length_drop, List.length_take]; rfl)) ?_
                  with_reducible refine (mac_Bytes.calls kj2 a0_1 t260 _ A21.out).mono ?_
                  rintro e w53 ⟨v261, rfl, ho0, hb⟩
                  refine ⟨_, rfl, ?_⟩
                  have n0_ := Aside0.mk (Kd.R_elder' (by (with_reducible repeat (first | apply Kd.R_alloc | apply Kd.R_drewN | apply Kd.R_drew)); exact HO259.out) (Kd.R_base ho0) hb)
                  have n1_ := Aside0.mk (Kd.R_lower (Kd.R_new' ho0 (Kd.R_lt (by (with_reducible repeat (first | apply Kd.R_alloc | apply Kd.R_drewN | apply Kd.R_drew)); exact HO259.out))) (below_size (by repeat (first | (with_reducible first | exact HB.out | apply below_alloc | apply pw_below_drewN | apply below_drew1 | refine below_set ?_ GE253.out) | exact HB.out))))
                  have n2_ := Aside0.mk (blk_below (g := gb253) (o := .cells #[.int .u64 a0_0, .int .u64 a0_1, .bool false, .int .u16 a0_3, .int .u16 a0_4, .slice A0_5 l0_5.length c0_5] 39 (0, 0)) (by (with_reducible repeat (first | refine blk_drewN ?_ _ | refine blk_drew ?_ | refine blk_alloc ?_ _)); exact BK253.out) hb)
                  have n3_ := Aside0.mk (below_step (by repeat (first | (with_reducible first | exact HB.out | apply below_alloc | apply pw_below_drewN | apply below_drew1 | refine below_set ?_ GE253.out) | exact HB.out)) hb)
                  clear HO259
                  clear BK253
                  clear HB
                  have HO259 := n0_
                  have HO262 := n1_
                  have BK253 := n2_
                  have HB := n3_
                  clear n0_ n1_ n2_ n3_
                  (try clear hb)
                  (try clear hb2)
                  (try clear hk)
                  (try clear hi)
                  (try clear ho0)
                  obtain ⟨Ao55, co55, eo55⟩ := Kd.R_slice HO262.out
                  (first | subst eo55 | (injection eo55 with f1_ f2_ f3_; have f4_ := f1_.symm; have f5_ := f3_.symm; clear f1_ f2_ f3_; subst f4_; subst f5_))
                  refine hK.out _ _ ⟨(blk_cell BK253.out 0).trans rfl, (blk_cell BK253.out 1).trans rfl, (blk_cell BK253.out 2).trans rfl, (blk_cell BK253.out 3).trans rfl, (blk_cell BK253.out 4).trans rfl, (blk_cell BK253.out 5).trans rfl⟩ (fun hHeld => ?_)
                  clear hK K
                  refine norm_ (a' := ?_) ?_ ?_
                  rotate_left
                  · show Act.put _ (some 45) _ = _
                    simp only [Act.put, List.setIfInBounds_toArray, List.set_cons_zero, List.set_cons_succ, i64_w, i32_w]
                    rfl
                  obtain ⟨Aq1, cq1, eq1⟩ := Kd.R_slice HO259.out
                  subst eq1
                  refine one_ (i := 6) (N := some 46) #[true, true, true, true, true, true, true, false, false] rfl rfl (one_of HT_.out (by kernel_rfl)) (by decide) (fun K hK => ?_)
                  refine event_step (by rfl) (by go_simp; exact ⟨rfl, rfl⟩) ?_
                  refine hK.out _ _ ⟨(Eq.trans (blk_cell (blk_alloc BK253.out _) 0) rfl), (blk_cell (blk_alloc BK253.out _) 1).trans rfl, (blk_cell (blk_alloc BK253.out _) 2).trans rfl, (blk_cell (blk_alloc BK253.out _) 3).trans rfl, (blk_cell (blk_alloc BK253.out _) 4).trans rfl, (blk_cell (blk_alloc BK253.out _) 5).trans rfl⟩ (fun hHeld => ?_)
                  clear hK K
                  refine norm_ (a' := ?_) ?_ ?_
                  rotate_left
                  · show Act.put _ (some 46) _ = _
                    simp only [Act.put, List.setIfInBounds_toArray, List.set_cons_zero, List.set_cons_succ, i64_w, i32_w]
                    rfl
                  refine one_ (i := 7) (N := some 47) #[true, true, true, true, true, true, true, true, false] rfl rfl (one_of HT_.out (by kernel_rfl)) (by decide) (fun K hK => ?_)
                  refine goes_ Try.func59 (by kernel_rfl) rfl #[.slice (some ⟨_, 0, none⟩) 2 2] (by rfl) rfl rfl (by (try simp only [List.map_toArray, List.map_cons, List.map_nil]); first | done | rfl) ?_
                  with_reducible refine (concat_ _ _ _ _ _ t257 t260 _ (blk_new _ _) (Kd.C_alloc (Kd.R_reads' HO259.out).2.2 _) (Kd.C_alloc (Kd.R_reads' HO262.out).2.2 _) LMc22.out).mono ?_
                  rintro e w54 ⟨v264, rfl, ho, hb⟩
                  refine ⟨_, rfl, ?_⟩
                  rw [← Ny263.out] at ho
                  have n0_ := Aside0.mk (blk_below (blk_alloc BK253.out _) hb)
                  have n1_ := Aside0.mk (Kd.R_mono (ok' := fun k_ => (fun _ => True) k_ ∧ some k_ ≠ (v264 : Value).ownBlock) (Kd.R_elder' (Kd.R_alloc HO262.out _) (Kd.R_base ho) hb) (fun _ hk => ⟨trivial, hk.2⟩))
                  have n2_ := Aside0.mk (below_step (below_alloc HB.out _) hb)
                  have n3_ := Aside0.mk (Kd.R_mono (ok' := fun k_ => some k_ ≠ (.slice Ao55 t260.length co55 : Value).ownBlock) (Kd.R_lower (Kd.R_new' ho (Kd.R_lt (Kd.R_alloc HO262.out _))) (below_size (below_alloc HB.out _))) (fun _ hk => hk.2))
                  clear BK253
                  clear HO262
                  clear HB
                  clear HO259
                  have BK253 := n0_
                  have HO262 := n1_
                  have HB := n2_
                  have HO265 := n3_
                  clear n0_ n1_ n2_ n3_
                  clear ho hb
                  refine hK.out _ _ ⟨(blk_cell BK253.out 0).trans rfl, (blk_cell BK253.out 1).trans rfl, (blk_cell BK253.out 2).trans rfl, (blk_cell BK253.out 3).trans rfl, (blk_cell BK253.out 4).trans rfl, (blk_cell BK253.out 5).trans rfl⟩ (fun hHeld => ?_)
                  clear hK K
                  refine norm_ (a' := ?_) ?_ ?_
                  rotate_left
                  · show Act.put _ (some 47) _ = _
                    simp only [Act.put, List.setIfInBounds_toArray, List.set_cons_zero, List.set_cons_succ, i64_w, i32_w]
                    rfl
                  refine pure_ (i := 8) (N := some 4) (v := ?_) (a' := ?_) #[true, true, true, true, true, true, true, true, true] rfl rfl (any_of HT_.out (by kernel_rfl)) (fun _ _ _ h => h) (Or.inl ⟨by rfl, ?_⟩) ?_ ?_
                  rotate_left
                  · intro w'
                    go_simp
                    with_reducible rfl
                  rotate_left
                  · simp only [Act.put, List.setIfInBounds_toArray, List.set_cons_zero, List.set_cons_succ, i64_w, i32_w]
                    rfl
                  refine done_ (done_of HT_.out (by kernel_rfl)) ?_
                  have hcz56_0 : w54.cell? ⟨gb253, 0, none⟩ = some (.int .u64 a0_0) := (blk_cell BK253.out 0).trans rfl
                  have hcz56_1 : w54.cell? ⟨gb253, 1, none⟩ = some (.int .u64 a0_1) := (blk_cell BK253.out 1).trans rfl
                  have hcz56_2 : w54.cell? ⟨gb253, 2, none⟩ = some (.bool false) := (blk_cell BK253.out 2).trans rfl
                  have hcz56_3 : w54.cell? ⟨gb253, 3, none⟩ = some (.int .u16 a0_3) := (blk_cell BK253.out 3).trans rfl
                  have hcz56_4 : w54.cell? ⟨gb253, 4, none⟩ = some (.int .u16 a0_4) := (blk_cell BK253.out 4).trans rfl
                  have hcz56_5 : w54.cell? ⟨gb253, 5, none⟩ = some (.slice A0_5 l0_5.length c0_5) := (blk_cell BK253.out 5).trans rfl
                  have hfz56_0 := blk_frozen BK253.out 0
                  have hfz56_1 := blk_frozen BK253.out 1
                  have hfz56_2 := blk_frozen BK253.out 2
                  have hfz56_3 := blk_frozen BK253.out 3
                  have hfz56_4 := blk_frozen BK253.out 4
                  have hfz56_5 := blk_frozen BK253.out 5
                  try go_wp2
                  have n0_ := Aside0.mk (Kd.R_drew HO262.out)
                  have n1_ := Aside0.mk (Kd.R_drew HO265.out)
                  have n2_ := Aside0.mk (blk_drew BK253.out)
                  have n3_ := Aside0.mk (below_drew1 HB.out)
                  clear HO262
                  clear HO265
                  clear BK253
                  clear HB
                  have HO262 := n0_
                  have HO265 := n1_
                  have BK253 := n2_
                  have HB := n3_
                  clear n0_ n1_ n2_ n3_
                  obtain ⟨Ao58, co58, eo58⟩ := Kd.R_slice HO265.out
                  (first | subst eo58 | (injection eo58 with f1_ f2_ f3_; have f4_ := f1_.symm; have f5_ := f3_.symm; clear f1_ f2_ f3_; subst f4_; subst f5_))
                  refine start_ (n := 10) (S := fun w' => w'.cell? ⟨gb253, 0, none⟩ = some (.int .u64 a0_0) ∧ w'.cell? ⟨gb253, 1, none⟩ = some (.int .u64 a0_1) ∧ w'.cell? ⟨gb253, 2, none⟩ = some (.bool false) ∧ w'.cell? ⟨gb253, 3, none⟩ = some (.int .u16 a0_3) ∧ w'.cell? ⟨gb253, 4, none⟩ = some (.int .u16 a0_4) ∧ w'.cell? ⟨gb253, 5, none⟩ = some (.slice A0_5 l0_5.length c0_5)) (ds := []) #[false, false, false, false, false, false, false, false, false, false] (by kernel_rfl) rfl rfl ⟨(blk_cell BK253.out 0).trans rfl, (blk_cell BK253.out 1).trans rfl, (blk_cell BK253.out 2).trans rfl, (blk_cell BK253.out 3).trans rfl, (blk_cell BK253.out 4).trans rfl, (blk_cell BK253.out 5).trans rfl⟩ (fun hHeld => ?_); refine with_tabW frame_Write.tab12 frame_Write.bits12 (fun HT_ HW_ => ?_)
                  generalize w54.drew = w57 at HO262 HO265 BK253 HB hHeld ⊢
                  refine pure_ (i := 0) (N := some 55) (v := ?_) (a' := ?_) #[true, false, false, false, false, false, false, false, false, false] rfl rfl (any_of HT_.out (by kernel_rfl)) (fun _ _ _ h => h) (Or.inl ⟨by rfl, ?_⟩) ?_ ?_
                  rotate_left
                  · intro w'
                    go_simp
                    with_reducible rfl
                  rotate_left
                  · simp only [Act.put, List.setIfInBounds_toArray, List.set_cons_zero, List.set_cons_succ, i64_w, i32_w]
                    rfl
                  refine pure_ (i := 1) (N := some 56) (v := ?_) (a' := ?_) #[true, true, false, false, false, false, false, false, false, false] rfl rfl (any_of HT_.out (by kernel_rfl)) (fun _ _ _ h => h) (Or.inl ⟨by rfl, ?_⟩) ?_ ?_
                  rotate_left
                  · intro w'
                    go_simp
                    with_reducible rfl
                  rotate_left
                  · simp only [Act.put, List.setIfInBounds_toArray, List.set_cons_zero, List.set_cons_succ, i64_w, i32_w]
                    rfl
                  refine pure_ (i := 4) (N := some 59) (v := ?_) (a' := ?_) #[true, true, false, false, true, false, false, false, false, false] rfl rfl (any_of HT_.out (by kernel_rfl)) (fun _ _ _ h => h) (Or.inl ⟨by rfl, ?_⟩) ?_ ?_
                  rotate_left
                  · intro w'
                    go_simp
                    with_reducible rfl
                  rotate_left
                  · simp only [Act.put, List.setIfInBounds_toArray, List.set_cons_zero, List.set_cons_succ, i64_w, i32_w]
                    rfl
                  refine take_ (i := 2) (N := some 57) (v := ?_) (a' := ?_) #[true, true, true, false, true, false, false, false, false, false] rfl rfl (take_ofW HT_.out HW_.out (by kernel_rfl)) (fun _ _ _ h => h) (Or.inl ⟨by rfl, ?_⟩) hHeld ?_ ?_
                  rotate_left
                  · rintro w' ⟨s0, s1, s2, s3, s4, s5⟩
                    go_simp
                    with_reducible rfl
                  rotate_left
                  · simp only [Act.put, List.setIfInBounds_toArray, List.set_cons_zero, List.set_cons_succ, i64_w, i32_w]
                    rfl
                  refine take_ (i := 5) (N := some 60) (v := ?_) (a' := ?_) #[true, true, true, false, true, true, false, false, false, false] rfl rfl (take_ofW HT_.out HW_.out (by kernel_rfl)) (fun _ _ _ h => h) (Or.inl ⟨by rfl, ?_⟩) hHeld ?_ ?_
                  rotate_left
                  · rintro w' ⟨s0, s1, s2, s3, s4, s5⟩
                    go_simp
                    with_reducible rfl
                  rotate_left
                  · simp only [Act.put, List.setIfInBounds_toArray, List.set_cons_zero, List.set_cons_succ, i64_w, i32_w]
                    rfl
                  refine one_ (i := 3) (N := some 58) #[true, true, true, true, true, true, false, false, false, false] rfl rfl (one_of HT_.out (by kernel_rfl)) (by decide) (fun K hK => ?_)
                  refine goes_ Try.func46 (by kernel_rfl) rfl #[.slice Ao58 y263.length co58, .int .u16 a0_4] (by rfl) rfl rfl (by (try simp only [List.map_toArray, List.map_cons, List.map_nil]); first | done | rfl | (simp only [List.length_drop, List.length_take]; rfl)) ?_
                  with_reducible refine (frame_put.calls (fun k_ => some k_ = (.slice Ao58 y263.length co58 : Value).ownBlock) (.slice Ao58 y263.length co58) y263 a0_4 t281 w _ ?side1 ?side2 A47.out).mono ?_
                  (case side1 => repeat (first | (with_reducible first | exact HB.out | apply below_alloc | apply pw_below_drewN | apply below_drew1 | refine below_set ?_ GE253.out) | exact HB.out))
                  (case side2 => exact Kd.R_tight rfl HO265.out)
                  rintro e w59 ⟨v282, rfl, ho0, hb, hkp⟩
                  refine ⟨_, rfl, ?_⟩
                  have n0_ := Aside0.mk (blk_kept (by (with_reducible repeat (first | refine blk_drewN ?_ _ | refine blk_drew ?_ | refine blk_alloc ?_ _)); exact BK253.out) hkp (fun hs_ => (fun e_ => (Kd.R_ne HO265.out BK253.out (by decide)) e_) hs_))
                  have n1_ := Aside0.mk (Kd.R_mono (ok' := fun k_ => some k_ ≠ (v282 : Value).ownBlock) (Kd.R_keptB (HO262.out) hkp (fun k_ hk_ hs_ => (hk_.2) hs_)) (fun k_ hk_ => fun e_ => Or.elim (ho0.1 k_ e_.symm) (fun hs_ => hk_.2.1 hs_) (fun hn_ => Nat.not_le.2 hk_.2.2 hn_)))
                  have n2_ := Aside0.mk (Kd.R_mono (ok' := fun k_ => some k_ ≠ (.slice Ao55 t260.length co55 : Value).ownBlock) ho0 (fun k_ hk_ => Or.elim hk_ (fun hs_ => fun e_ => (((HO262.out).1 k_ e_.symm).2) hs_) (fun hn_ => (Kd.fresh' (Kd.R_lt (by (with_reducible repeat (first | apply Kd.R_alloc | apply Kd.R_drewN | apply Kd.R_drew)); exact HO262.out)) k_ hn_))))
                  have n3_ := Aside0.mk (hb)
                  clear BK253
                  clear HO262
                  clear HB
                  clear HO265
                  have BK253 := n0_
                  have HO262 := n1_
                  have HO283 := n2_
                  have HB := n3_
                  clear n0_ n1_ n2_ n3_
                  (try clear hb)
                  (try clear hkp)
                  (try clear ho0)
                  refine hK.out _ _ ⟨(blk_cell BK253.out 0).trans rfl, (blk_cell BK253.out 1).trans rfl, (blk_cell BK253.out 2).trans rfl, (blk_cell BK253.out 3).trans rfl, (blk_cell BK253.out 4).trans rfl, (blk_cell BK253.out 5).trans rfl⟩ (fun hHeld => ?_)
                  clear hK K
                  refine norm_ (a' := ?_) ?_ ?_
                  rotate_left
                  · show Act.put _ (some 58) _ = _
                    simp only [Act.put, List.setIfInBounds_toArray, List.set_cons_zero, List.set_cons_succ, i64_w, i32_w]
                    rfl
                  refine one_ (i := 6) (N := some 61) #[true, true, true, true, true, true, true, false, false, false] rfl rfl (one_of HT_.out (by kernel_rfl)) (by decide) (fun K hK => ?_)
                  refine Kd.R_append_rows_step (Kd.int .u8) (w0 := w) w.heap.size (by rfl) (.tmp 58) (.tmp 60) 22 5 (.int .u8 0) 1 rfl Try.underlying22 info5 rfl (by decide) (by omega) v282 t281 l0_5 _ _ _ (fun k_ => some k_ ≠ (.slice Ao55 t260.length co55 : Value).ownBlock) (fun _ => False) rfl rfl ?aO ?aR (fun _ _ h => h) (fun _ h => h.elim) ?aF ?aB ?aS ?aL ?_
                  (case aR => repeat (first | exact (Kd.C_below HR0_5.out HB.out) | (with_reducible refine Kd.C_alloc ?_ _) | (with_reducible refine Kd.C_drewN ?_ _) | (with_reducible refine Kd.C_drew ?_)))
                  (case aB => exact (by repeat (first | (with_reducible first | exact HB.out | apply below_alloc | apply pw_below_drewN | apply below_drew1 | refine below_set ?_ GE253.out) | exact HB.out)))
                  (case aF => exact (fun k_ hk => Kd.fresh' (Kd.R_lt (by (with_reducible repeat (first | apply Kd.R_alloc | apply Kd.R_drewN | apply Kd.R_drew)); exact HO262.out)) k_ hk))
                  (case aO => exact (by (with_reducible repeat (first | apply Kd.R_alloc | apply Kd.R_drewN | apply Kd.R_drew)); exact HO283.out))
                  (case aS => exact (below_size (by repeat (first | (with_reducible first | exact HB.out | apply below_alloc | apply pw_below_drewN | apply below_drew1 | refine below_set ?_ GE253.out) | exact HB.out))))
                  (case aL => have := LMc48.out; omega)
                  intro v285 w60 ho hb hg hat
                  rw [← Ny284.out] at ho
                  have n0_ := Aside0.mk (blk_grown (g := gb253) (o := .cells #[.int .u64 a0_0, .int .u64 a0_1, .bool false, .int .u16 a0_3, .int .u16 a0_4, .slice A0_5 l0_5.length c0_5] 39 (0, 0)) (by (with_reducible repeat (first | refine blk_drewN ?_ _ | refine blk_drew ?_ | refine blk_alloc ?_ _)); exact BK253.out) hg (Kd.R_ne HO283.out BK253.out (by decide)))
                  have n1_ := Aside0.mk (Kd.R_after (ok := (fun _ => True)) (by (with_reducible repeat (first | apply Kd.R_alloc | apply Kd.R_drewN | apply Kd.R_drew)); exact Kd.R_mono HO262.out (fun _ hk => ⟨trivial, hk⟩)) hg hat)
                  have n2_ := Aside0.mk (hb)
                  have n3_ := Aside0.mk (ho)
                  clear BK253
                  clear HO262
                  clear HB
                  clear HO283
                  have BK253 := n0_
                  have HO262 := n1_
                  have HB := n2_
                  have HO286 := n3_
                  clear n0_ n1_ n2_ n3_
                  clear ho hb hg hat
                  obtain ⟨Ao61, co61, eo61⟩ := Kd.R_slice HO286.out
                  (first | subst eo61 | (injection eo61 with f1_ f2_ f3_; have f4_ := f1_.symm; have f5_ := f3_.symm; clear f1_ f2_ f3_; subst f4_; subst f5_))
                  refine hK.out _ _ ⟨(blk_cell BK253.out 0).trans rfl, (blk_cell BK253.out 1).trans rfl, (blk_cell BK253.out 2).trans rfl, (blk_cell BK253.out 3).trans rfl, (blk_cell BK253.out 4).trans rfl, (blk_cell BK253.out 5).trans rfl⟩ (fun hHeld => ?_)
                  clear hK K
                  refine norm_ (a' := ?_) ?_ ?_
                  rotate_left
                  · show Act.put _ (some 61) _ = _
                    simp only [Act.put, List.setIfInBounds_toArray, List.set_cons_zero, List.set_cons_succ, i64_w, i32_w]
                    rfl
                  refine one_ (i := 7) (N := some 62) #[true, true, true, true, true, true, true, true, false, false] rfl rfl (one_of HT_.out (by kernel_rfl)) (by decide) (fun K hK => ?_)
                  refine goes_ Try.func47 (by kernel_rfl) rfl #[.slice Ao61 y284.length co61] (by rfl) rfl rfl (by (try simp only [List.map_toArray, List.map_cons, List.map_nil]); first | done | rfl | (simp only [List.length_drop, List.length_take]; rfl)) ?_
                  with_reducible refine (frame_padded.calls (fun k_ => some k_ = (.slice Ao61 y284.length co61 : Value).ownBlock) (.slice Ao61 y284.length co61) y284 t287 w _ ?side1 ?side2 A49.out).mono ?_
                  (case side1 => repeat (first | (with_reducible first | exact HB.out | apply below_alloc | apply pw_below_drewN | apply below_drew1 | refine below_set ?_ GE253.out) | exact HB.out))
                  (case side2 => exact Kd.R_tight rfl HO286.out)
                  rintro e w62 ⟨v288, rfl, ho0, hb, hkp⟩
                  refine ⟨_, rfl, ?_⟩
                  have n0_ := Aside0.mk (blk_kept (by (with_reducible repeat (first | refine blk_drewN ?_ _ | refine blk_drew ?_ | refine blk_alloc ?_ _)); exact BK253.out) hkp (fun hs_ => (fun e_ => (Kd.R_ne HO286.out BK253.out (by decide)) e_) hs_))
                  have n1_ := Aside0.mk (Kd.R_mono (ok' := fun k_ => some k_ ≠ (v288 : Value).ownBlock) (Kd.R_keptB (HO262.out) hkp (fun k_ hk_ hs_ => (hk_.2) hs_)) (fun k_ hk_ => fun e_ => Or.elim (ho0.1 k_ e_.symm) (fun hs_ => hk_.2.1 hs_) (fun hn_ => Nat.not_le.2 hk_.2.2 hn_)))
                  have n2_ := Aside0.mk (Kd.R_mono (ok' := fun k_ => some k_ ≠ (.slice Ao55 t260.length co55 : Value).ownBlock) ho0 (fun k_ hk_ => Or.elim hk_ (fun hs_ => fun e_ => (((HO262.out).1 k_ e_.symm).2) hs_) (fun hn_ => (Kd.fresh' (Kd.R_lt (by (with_reducible repeat (first | apply Kd.R_alloc | apply Kd.R_drewN | apply Kd.R_drew)); exact HO262.out)) k_ hn_))))
                  have n3_ := Aside0.mk (hb)
                  clear BK253
                  clear HO262
                  clear HB
                  clear HO286
                  have BK253 := n0_
                  have HO262 := n1_
                  have HO289 := n2_
                  have HB := n3_
                  clear n0_ n1_ n2_ n3_
                  (try clear hb)
                  (try clear hkp)
                  (try clear ho0)
                  refine hK.out _ _ ⟨(blk_cell BK253.out 0).trans rfl, (blk_cell BK253.out 1).trans rfl, (blk_cell BK253.out 2).trans rfl, (blk_cell BK253.out 3).trans rfl, (blk_cell BK253.out 4).trans rfl, (blk_cell BK253.out 5).trans rfl⟩ (fun hHeld => ?_)
                  clear hK K
                  refine norm_ (a' := ?_) ?_ ?_
                  rotate_left
                  · show Act.put _ (some 62) _ = _
                    simp only [Act.put, List.setIfInBounds_toArray, List.set_cons_zero, List.set_cons_succ, i64_w, i32_w]
                    rfl
                  refine pure_ (i := 8) (N := some 2) (v := ?_) (a' := ?_) #[true, true, true, true, true, true, true, true, true, false] rfl rfl (any_of HT_.out (by kernel_rfl)) (fun _ _ _ h => h) (Or.inl ⟨by rfl, ?_⟩) ?_ ?_
                  rotate_left
                  · intro w'
                    go_simp
                    with_reducible rfl
                  rotate_left
                  · simp only [Act.put, List.setIfInBounds_toArray, List.set_cons_zero, List.set_cons_succ, i64_w, i32_w]
                    rfl
                  refine pure_ (i := 9) (N := some 3) (v := ?_) (a' := ?_) #[true, true, true, true, true, true, true, true, true, true] rfl rfl (any_of HT_.out (by kernel_rfl)) (fun _ _ _ h => h) (Or.inl ⟨by rfl, ?_⟩) ?_ ?_
                  rotate_left
                  · intro w'
                    go_simp
                    with_reducible rfl
                  rotate_left
                  · simp only [Act.put, List.setIfInBounds_toArray, List.set_cons_zero, List.set_cons_succ, i64_w, i32_w]
                    rfl
                  refine done_ (done_of HT_.out (by kernel_rfl)) ?_
                  try go_wp2
                  go_ret2
                  exact ⟨_, by first | rfl | (simp [errW_none, errW_some] <;> rfl) | (simp [*, errW_none, errW_some] <;> rfl), by (with_reducible repeat (first | apply Kd.R_alloc | apply Kd.R_drewN | apply Kd.R_drew)); exact Kd.R_mono HO289.out (fun _ hk => trivial), by repeat (first | (with_reducible first | exact HB.out | apply below_alloc | apply pw_below_drewN | apply below_drew1 | refine below_set ?_ GE253.out) | exact HB.out)⟩
                · rw [if_neg c48] at H
                  exact absurd H (by simp)
            · rw [if_neg c22] at H
              exact absurd H (by simp)
          · replace c19 := Bool.eq_false_iff.mpr c19
            subst c19
            have H1 : (some (([] : List Int), 4)) = some (r1, r2) := by rw [if_neg (show ¬ (false = true) by decide)] at H; exact H
            clear H
            have H := H1
            clear H1
            simp only [Option.some.injEq, Prod.mk.injEq] at H
            obtain ⟨rfl, rfl⟩ := H
            have hcz63_0 : wc.cell? ⟨gb253, 0, none⟩ = some (.int .u64 a0_0) := (blk_cell BK253.out 0).trans rfl
            have hcz63_1 : wc.cell? ⟨gb253, 1, none⟩ = some (.int .u64 a0_1) := (blk_cell BK253.out 1).trans rfl
            have hcz63_2 : wc.cell? ⟨gb253, 2, none⟩ = some (.bool a0_2) := (blk_cell BK253.out 2).trans rfl
            have hcz63_3 : wc.cell? ⟨gb253, 3, none⟩ = some (.int .u16 a0_3) := (blk_cell BK253.out 3).trans rfl
            have hcz63_4 : wc.cell? ⟨gb253, 4, none⟩ = some (.int .u16 a0_4) := (blk_cell BK253.out 4).trans rfl
            have hcz63_5 : wc.cell? ⟨gb253, 5, none⟩ = some (.slice A0_5 l0_5.length c0_5) := (blk_cell BK253.out 5).trans rfl
            have hfz63_0 := blk_frozen BK253.out 0
            have hfz63_1 := blk_frozen BK253.out 1
            have hfz63_2 := blk_frozen BK253.out 2
            have hfz63_3 := blk_frozen BK253.out 3
            have hfz63_4 := blk_frozen BK253.out 4
            have hfz63_5 := blk_frozen BK253.out 5
            go_wp2_with (first | ((with_reducible refine gate_callee (f := 54) rfl ?_); refine goesL_ (some 38) rfl rfl Try.func54 (by kernel_rfl) rfl #[.int .u16 a0_4, .int .i64 (l0_5.length : Int)] rfl (by (try simp only [List.map_toArray, List.map_cons, List.map_nil]); first | done | rfl | (simp only [List.length_drop, List.length_take]; rfl)) ?_; (with_reducible refine (frame_form.calls a0_4 (l0_5.length : Int) false _ A18.out).mono ?_); rintro e w' ⟨rfl, ⟨nd, rfl⟩⟩; refine ⟨_, rfl, ?_⟩))
            go_ret2
            exact ⟨_, by first | rfl | (simp [errW_none, errW_some] <;> rfl) | (simp [*, errW_none, errW_some] <;> rfl), by first | exact Kd.R_nil _ _ _ _ _ | exact Kd.N_nil _ _ _ _ _ | exact Kd.V_nil _ _ _ _ _ | exact Kd.Q_nil _ _ _ _ _ | exact Kd.S_nil _ _ _ _ _, by repeat (first | (with_reducible first | exact HB.out | apply below_alloc | apply pw_below_drewN | apply below_drew1 | refine below_set ?_ GE253.out) | exact HB.out)⟩

end Go.Proofs.Ytdohdjfclnlpmaa.PFrame
