/- Plain Lean functions of what a law comes to, and their contracts: the machine's call does what they say; no condition. Written by wip/myprint.sh over the kit's print.py. -/
import Derived.Test.YtdohdjfclnlpmaaPFramex0
namespace Go.Proofs.Ytdohdjfclnlpmaa.PFrame
open Go.RowKit Go.Proofs.YtdohdjfclnlpmaaW.PrintWords Go.Proofs.YtdohdjfclnlpmaaW.PrintLast Go.Proofs.YtdohdjfclnlpmaaW.PrintMore
attribute [local go_sem] max2_int min2_int max_two min_two max_three min_three max_four min_four   -- for this text's walks alone
set_option linter.unusedVariables false
set_option linter.unusedSimpArgs false

/-! ### patchbaylaw02_same: function 40 -/
mutual
def patchbaylaw02_same.j0 : Nat → Bool → Bool → Int → Int → Bool → Int → Int → List Int → Int → Int → Bool → Int → Int → List Int → Option (Bool)
  | 0, _, _, _, _, _, _, _, _, _, _, _, _, _, _ => none
  | k + 1, x2, x49, x235000, x235001, x235002, x235003, x235004, x235005, x236000, x236001, x236002, x236003, x236004, x236005 => if x49 = true then (some false) else (patchbaylaw02_same.l0 k x2 0 x235000 x235001 x235002 x235003 x235004 x235005 x236000 x236001 x236002 x236003 x236004 x236005)
def patchbaylaw02_same.l0 : Nat → Bool → Int → Int → Int → Bool → Int → Int → List Int → Int → Int → Bool → Int → Int → List Int → Option (Bool)
  | 0, _, _, _, _, _, _, _, _, _, _, _, _, _, _ => none
  | k + 1, x2, x7, x235000, x235001, x235002, x235003, x235004, x235005, x236000, x236001, x236002, x236003, x236004, x236005 => if x7 < (x236005.length : Int) then (if x7 < (x235005.length : Int) then (if 0 ≤ x7 then (if (rd x235005 x7) = (rd x236005 x7) then (if x7 ≥ (x235005.length : Int) then (if x2 = true then (if (rd x236005 x7) = 0 then (patchbaylaw02_same.l0 k x2 (wrap64 (x7 + 1)) x235000 x235001 x235002 x235003 x235004 x235005 x236000 x236001 x236002 x236003 x236004 x236005) else (some false)) else (some false)) else (patchbaylaw02_same.l0 k x2 (wrap64 (x7 + 1)) x235000 x235001 x235002 x235003 x235004 x235005 x236000 x236001 x236002 x236003 x236004 x236005)) else (some false)) else (none)) else (if x7 ≥ (x235005.length : Int) then (if x2 = true then (if 0 ≤ x7 then (if (rd x236005 x7) = 0 then (patchbaylaw02_same.l0 k x2 (wrap64 (x7 + 1)) x235000 x235001 x235002 x235003 x235004 x235005 x236000 x236001 x236002 x236003 x236004 x236005) else (some false)) else (none)) else (some false)) else (patchbaylaw02_same.l0 k x2 (wrap64 (x7 + 1)) x235000 x235001 x235002 x235003 x235004 x235005 x236000 x236001 x236002 x236003 x236004 x236005))) else (some true)
end
def patchbaylaw02_same.f (k : Nat) (a0_0 : Int) (a0_1 : Int) (a0_2 : Bool) (a0_3 : Int) (a0_4 : Int) (l0_5 : List Int) (a1_0 : Int) (a1_1 : Int) (a1_2 : Bool) (a1_3 : Int) (a1_4 : Int) (l1_5 : List Int) (a2 : Bool) : Option (Bool) := if a0_0 = a1_0 then (if a0_1 = a1_1 then (if (a0_2 != a1_2) = true then (patchbaylaw02_same.j0 k a2 true a0_0 a0_1 a0_2 a0_3 a0_4 l0_5 a1_0 a1_1 a1_2 a1_3 a1_4 l1_5) else (if a0_3 = a1_3 then (if a0_4 = a1_4 then (patchbaylaw02_same.j0 k a2 (decide ((l1_5.length : Int) < (l0_5.length : Int))) a0_0 a0_1 a0_2 a0_3 a0_4 l0_5 a1_0 a1_1 a1_2 a1_3 a1_4 l1_5) else (patchbaylaw02_same.j0 k a2 true a0_0 a0_1 a0_2 a0_3 a0_4 l0_5 a1_0 a1_1 a1_2 a1_3 a1_4 l1_5)) else (patchbaylaw02_same.j0 k a2 true a0_0 a0_1 a0_2 a0_3 a0_4 l0_5 a1_0 a1_1 a1_2 a1_3 a1_4 l1_5))) else (patchbaylaw02_same.j0 k a2 true a0_0 a0_1 a0_2 a0_3 a0_4 l0_5 a1_0 a1_1 a1_2 a1_3 a1_4 l1_5)) else (patchbaylaw02_same.j0 k a2 true a0_0 a0_1 a0_2 a0_3 a0_4 l0_5 a1_0 a1_1 a1_2 a1_3 a1_4 l1_5)
theorem patchbaylaw02_same.mono_l : ∀ k, (∀ y0 y1 y2 y3 y4 y5 y6 y7 y8 y9 y10 y11 y12 y13, LeO (patchbaylaw02_same.j0 k y0 y1 y2 y3 y4 y5 y6 y7 y8 y9 y10 y11 y12 y13) (patchbaylaw02_same.j0 (k + 1) y0 y1 y2 y3 y4 y5 y6 y7 y8 y9 y10 y11 y12 y13)) ∧ (∀ y0 y1 y2 y3 y4 y5 y6 y7 y8 y9 y10 y11 y12 y13, LeO (patchbaylaw02_same.l0 k y0 y1 y2 y3 y4 y5 y6 y7 y8 y9 y10 y11 y12 y13) (patchbaylaw02_same.l0 (k + 1) y0 y1 y2 y3 y4 y5 y6 y7 y8 y9 y10 y11 y12 y13))
  | 0 => ⟨fun _ _ _ _ _ _ _ _ _ _ _ _ _ _ r h => by simp [patchbaylaw02_same.j0] at h, fun _ _ _ _ _ _ _ _ _ _ _ _ _ _ r h => by simp [patchbaylaw02_same.l0] at h⟩
  | k + 1 => by
    obtain ⟨ih0, ih1⟩ := patchbaylaw02_same.mono_l k
    refine ⟨?_, ?_⟩
    · intro y0 y1 y2 y3 y4 y5 y6 y7 y8 y9 y10 y11 y12 y13
      unfold patchbaylaw02_same.j0
      repeat' first
      | (with_reducible exact ih0 _ _ _ _ _ _ _ _ _ _ _ _ _ _)
      | (with_reducible exact ih1 _ _ _ _ _ _ _ _ _ _ _ _ _ _)
      | (with_reducible exact LeO.refl _)
      | (with_reducible exact LeO.none _)
      | (with_reducible refine LeO.ite ?_ ?_)
      | (with_reducible refine LeO.bind ?_ (fun _ => ?_))
      | exact ih0 _ _ _ _ _ _ _ _ _ _ _ _ _ _
      | exact ih1 _ _ _ _ _ _ _ _ _ _ _ _ _ _
      | exact LeO.none _
      | refine LeO.ite ?_ ?_
      | refine LeO.bind ?_ (fun _ => ?_)
    · intro y0 y1 y2 y3 y4 y5 y6 y7 y8 y9 y10 y11 y12 y13
      unfold patchbaylaw02_same.l0
      repeat' first
      | (with_reducible exact ih0 _ _ _ _ _ _ _ _ _ _ _ _ _ _)
      | (with_reducible exact ih1 _ _ _ _ _ _ _ _ _ _ _ _ _ _)
      | (with_reducible exact LeO.refl _)
      | (with_reducible exact LeO.none _)
      | (with_reducible refine LeO.ite ?_ ?_)
      | (with_reducible refine LeO.bind ?_ (fun _ => ?_))
      | exact ih0 _ _ _ _ _ _ _ _ _ _ _ _ _ _
      | exact ih1 _ _ _ _ _ _ _ _ _ _ _ _ _ _
      | exact LeO.none _
      | refine LeO.ite ?_ ?_
      | refine LeO.bind ?_ (fun _ => ?_)
theorem patchbaylaw02_same.mono : ∀ a0 a1 a2 a3 a4 a5 a6 a7 a8 a9 a10 a11 a12 k, LeO (patchbaylaw02_same.f k a0 a1 a2 a3 a4 a5 a6 a7 a8 a9 a10 a11 a12) (patchbaylaw02_same.f (k + 1) a0 a1 a2 a3 a4 a5 a6 a7 a8 a9 a10 a11 a12) := by
  intro a0 a1 a2 a3 a4 a5 a6 a7 a8 a9 a10 a11 a12 k
  obtain ⟨ih0, ih1⟩ := patchbaylaw02_same.mono_l k
  unfold patchbaylaw02_same.f
  repeat' first
      | (with_reducible exact ih0 _ _ _ _ _ _ _ _ _ _ _ _ _ _)
      | (with_reducible exact ih1 _ _ _ _ _ _ _ _ _ _ _ _ _ _)
      | (with_reducible exact LeO.refl _)
      | (with_reducible exact LeO.none _)
      | (with_reducible refine LeO.ite ?_ ?_)
      | (with_reducible refine LeO.bind ?_ (fun _ => ?_))
      | exact ih0 _ _ _ _ _ _ _ _ _ _ _ _ _ _
      | exact ih1 _ _ _ _ _ _ _ _ _ _ _ _ _ _
      | exact LeO.none _
      | refine LeO.ite ?_ ?_
      | refine LeO.bind ?_ (fun _ => ?_)
set_option maxHeartbeats 8000000 in
set_option maxRecDepth 100000 in
theorem patchbaylaw02_same.calls (k : Nat) (a0_0 : Int) (a0_1 : Int) (a0_2 : Bool) (a0_3 : Int) (a0_4 : Int) (A0_5 : Option Addr) (c0_5 : Nat) (l0_5 : List Int) (a1_0 : Int) (a1_1 : Int) (a1_2 : Bool) (a1_3 : Int) (a1_4 : Int) (A1_5 : Option Addr) (c1_5 : Nat) (l1_5 : List Int) (a2 : Bool) (r : Bool) (w : World) (hr0_5 : Kd.C (Kd.int .u8) w A0_5 l0_5.length l0_5) (hc0_5 : l0_5.length ≤ c0_5) (hr1_5 : Kd.C (Kd.int .u8) w A1_5 l1_5.length l1_5) (hc1_5 : l1_5.length ≤ c1_5) (h : patchbaylaw02_same.f k a0_0 a0_1 a0_2 a0_3 a0_4 l0_5 a1_0 a1_1 a1_2 a1_3 a1_4 l1_5 a2 = some r) :
    Calls Try.prog 40 #[.agg #[.int .u64 a0_0, .int .u64 a0_1, .bool a0_2, .int .u16 a0_3, .int .u16 a0_4, .slice A0_5 l0_5.length c0_5], .agg #[.int .u64 a1_0, .int .u64 a1_1, .bool a1_2, .int .u16 a1_3, .int .u16 a1_4, .slice A1_5 l1_5.length c1_5], .bool a2] w fun e w' => e = .returned (.bool r) ∧ Below w.heap.size w w' := by
  have hu34 := Try.underlying34
  have HR0_5 := Aside0.mk hr0_5
  have HC0_5 := Aside0.mk hc0_5
  clear hr0_5 hc0_5
  have HR1_5 := Aside0.mk hr1_5
  have HC1_5 := Aside0.mk hc1_5
  clear hr1_5 hc1_5
  have HB := Aside0.mk (Below.refl w.heap.size w)
  have H : (if a0_0 = a1_0 then (if a0_1 = a1_1 then (if (a0_2 != a1_2) = true then (patchbaylaw02_same.j0 k a2 true a0_0 a0_1 a0_2 a0_3 a0_4 l0_5 a1_0 a1_1 a1_2 a1_3 a1_4 l1_5) else (if a0_3 = a1_3 then (if a0_4 = a1_4 then (patchbaylaw02_same.j0 k a2 (decide ((l1_5.length : Int) < (l0_5.length : Int))) a0_0 a0_1 a0_2 a0_3 a0_4 l0_5 a1_0 a1_1 a1_2 a1_3 a1_4 l1_5) else (patchbaylaw02_same.j0 k a2 true a0_0 a0_1 a0_2 a0_3 a0_4 l0_5 a1_0 a1_1 a1_2 a1_3 a1_4 l1_5)) else (patchbaylaw02_same.j0 k a2 true a0_0 a0_1 a0_2 a0_3 a0_4 l0_5 a1_0 a1_1 a1_2 a1_3 a1_4 l1_5))) else (patchbaylaw02_same.j0 k a2 true a0_0 a0_1 a0_2 a0_3 a0_4 l0_5 a1_0 a1_1 a1_2 a1_3 a1_4 l1_5)) else (patchbaylaw02_same.j0 k a2 true a0_0 a0_1 a0_2 a0_3 a0_4 l0_5 a1_0 a1_1 a1_2 a1_3 a1_4 l1_5)) = some r := h
  clear h
  have HC4 := Aside0.mk H
  clear H
  go_enter Try.func40, Try.ntmps40
  go_upto_region 1 with (first | ((with_reducible refine gate_dst (N := 3) rfl ?_); (try (refine gate_guard (by rfl) ?_; dsimp only)); refine box_event ?hg (N := 3) ?hd (cs := #[.int .u64 a0_0, .int .u64 a0_1, .bool a0_2, .int .u16 a0_3, .int .u16 a0_4, .slice A0_5 l0_5.length c0_5]) (t := 34) ?hr ?_; (case hd => rfl); (case hg => rfl); (case hr => first | (go_simp; done) | (go_simp; rfl)); intro gb234 hg w5 hbox hb; have n0_ := Aside0.mk (below_step (by repeat (first | (with_reducible first | exact HB.out | apply below_alloc | apply pw_below_drewN | apply below_drew1) | exact HB.out)) hb); have n1_ := Aside0.mk (hbox); have n2_ := Aside0.mk ((by rw [hg]; exact (below_size (by repeat (first | (with_reducible first | exact HB.out | apply below_alloc | apply pw_below_drewN | apply below_drew1) | exact HB.out))) : w.heap.size ≤ gb234)); have n3_ := Aside0.mk ((by rw [hg]; exact (below_size (by repeat (first | (with_reducible first | exact HB.out | apply below_alloc | apply pw_below_drewN | apply below_drew1) | exact HB.out))) : w.heap.size ≤ gb234)); clear HB; have HB := n0_; have BK234 := n1_; have GW234 := n2_; have GE234 := n3_; clear n0_ n1_ n2_ n3_; clear hb hbox hg) | ((with_reducible refine gate_dst (N := 4) rfl ?_); (try (refine gate_guard (by rfl) ?_; dsimp only)); refine box_event ?hg (N := 4) ?hd (cs := #[.int .u64 a1_0, .int .u64 a1_1, .bool a1_2, .int .u16 a1_3, .int .u16 a1_4, .slice A1_5 l1_5.length c1_5]) (t := 34) ?hr ?_; (case hd => rfl); (case hg => rfl); (case hr => first | (go_simp; done) | (go_simp; rfl)); intro gb235 hg w6 hbox hb; have n0_ := Aside0.mk (blk_below (g := gb234) (o := .cells #[.int .u64 a0_0, .int .u64 a0_1, .bool a0_2, .int .u16 a0_3, .int .u16 a0_4, .slice A0_5 l0_5.length c0_5] 34 (0, 0)) (by (with_reducible repeat (first | refine blk_drewN ?_ _ | refine blk_drew ?_ | refine blk_alloc ?_ _)); exact BK234.out) hb); have n1_ := Aside0.mk (below_step (by repeat (first | (with_reducible first | exact HB.out | apply below_alloc | apply pw_below_drewN | apply below_drew1 | refine below_set ?_ GE234.out) | exact HB.out)) hb); have n2_ := Aside0.mk (hbox); have n3_ := Aside0.mk ((by rw [hg]; exact (below_size (by repeat (first | (with_reducible first | exact HB.out | apply below_alloc | apply pw_below_drewN | apply below_drew1 | refine below_set ?_ GE234.out) | exact HB.out))) : w.heap.size ≤ gb235)); have n4_ := Aside0.mk ((by rw [hg]; exact (below_size (by repeat (first | (with_reducible first | exact HB.out | apply below_alloc | apply pw_below_drewN | apply below_drew1 | refine below_set ?_ GE234.out) | exact HB.out))) : w.heap.size ≤ gb235)); have n5_ := Aside0.mk ((by rw [hg]; exact Nat.ne_of_lt (blk_lt (g := gb234) (o := .cells #[.int .u64 a0_0, .int .u64 a0_1, .bool a0_2, .int .u16 a0_3, .int .u16 a0_4, .slice A0_5 l0_5.length c0_5] 34 (0, 0)) (by (with_reducible repeat (first | refine blk_drewN ?_ _ | refine blk_drew ?_ | refine blk_alloc ?_ _)); exact BK234.out)) : gb234 ≠ gb235)); have n6_ := Aside0.mk ((by rw [hg]; exact Nat.ne_of_gt (blk_lt (g := gb234) (o := .cells #[.int .u64 a0_0, .int .u64 a0_1, .bool a0_2, .int .u16 a0_3, .int .u16 a0_4, .slice A0_5 l0_5.length c0_5] 34 (0, 0)) (by (with_reducible repeat (first | refine blk_drewN ?_ _ | refine blk_drew ?_ | refine blk_alloc ?_ _)); exact BK234.out)) : gb235 ≠ gb234)); clear BK234; clear HB; have BK234 := n0_; have HB := n1_; have BK235 := n2_; have GW235 := n3_; have GE235 := n4_; have NB234_235 := n5_; have NB235_234 := n6_; clear n0_ n1_ n2_ n3_ n4_ n5_ n6_; clear hb hbox hg))
  repeat (go_quiet (first | ((with_reducible refine gate_dst (N := 3) rfl ?_); (try (refine gate_guard (by rfl) ?_; dsimp only)); refine box_event ?hg (N := 3) ?hd (cs := #[.int .u64 a0_0, .int .u64 a0_1, .bool a0_2, .int .u16 a0_3, .int .u16 a0_4, .slice A0_5 l0_5.length c0_5]) (t := 34) ?hr ?_; (case hd => rfl); (case hg => rfl); (case hr => first | (go_simp; done) | (go_simp; rfl)); intro gb234 hg w5 hbox hb; have n0_ := Aside0.mk (below_step (by repeat (first | (with_reducible first | exact HB.out | apply below_alloc | apply pw_below_drewN | apply below_drew1) | exact HB.out)) hb); have n1_ := Aside0.mk (hbox); have n2_ := Aside0.mk ((by rw [hg]; exact (below_size (by repeat (first | (with_reducible first | exact HB.out | apply below_alloc | apply pw_below_drewN | apply below_drew1) | exact HB.out))) : w.heap.size ≤ gb234)); have n3_ := Aside0.mk ((by rw [hg]; exact (below_size (by repeat (first | (with_reducible first | exact HB.out | apply below_alloc | apply pw_below_drewN | apply below_drew1) | exact HB.out))) : w.heap.size ≤ gb234)); clear HB; have HB := n0_; have BK234 := n1_; have GW234 := n2_; have GE234 := n3_; clear n0_ n1_ n2_ n3_; clear hb hbox hg) | ((with_reducible refine gate_dst (N := 4) rfl ?_); (try (refine gate_guard (by rfl) ?_; dsimp only)); refine box_event ?hg (N := 4) ?hd (cs := #[.int .u64 a1_0, .int .u64 a1_1, .bool a1_2, .int .u16 a1_3, .int .u16 a1_4, .slice A1_5 l1_5.length c1_5]) (t := 34) ?hr ?_; (case hd => rfl); (case hg => rfl); (case hr => first | (go_simp; done) | (go_simp; rfl)); intro gb235 hg w6 hbox hb; have n0_ := Aside0.mk (blk_below (g := gb234) (o := .cells #[.int .u64 a0_0, .int .u64 a0_1, .bool a0_2, .int .u16 a0_3, .int .u16 a0_4, .slice A0_5 l0_5.length c0_5] 34 (0, 0)) (by (with_reducible repeat (first | refine blk_drewN ?_ _ | refine blk_drew ?_ | refine blk_alloc ?_ _)); exact BK234.out) hb); have n1_ := Aside0.mk (below_step (by repeat (first | (with_reducible first | exact HB.out | apply below_alloc | apply pw_below_drewN | apply below_drew1 | refine below_set ?_ GE234.out) | exact HB.out)) hb); have n2_ := Aside0.mk (hbox); have n3_ := Aside0.mk ((by rw [hg]; exact (below_size (by repeat (first | (with_reducible first | exact HB.out | apply below_alloc | apply pw_below_drewN | apply below_drew1 | refine below_set ?_ GE234.out) | exact HB.out))) : w.heap.size ≤ gb235)); have n4_ := Aside0.mk ((by rw [hg]; exact (below_size (by repeat (first | (with_reducible first | exact HB.out | apply below_alloc | apply pw_below_drewN | apply below_drew1 | refine below_set ?_ GE234.out) | exact HB.out))) : w.heap.size ≤ gb235)); have n5_ := Aside0.mk ((by rw [hg]; exact Nat.ne_of_lt (blk_lt (g := gb234) (o := .cells #[.int .u64 a0_0, .int .u64 a0_1, .bool a0_2, .int .u16 a0_3, .int .u16 a0_4, .slice A0_5 l0_5.length c0_5] 34 (0, 0)) (by (with_reducible repeat (first | refine blk_drewN ?_ _ | refine blk_drew ?_ | refine blk_alloc ?_ _)); exact BK234.out)) : gb234 ≠ gb235)); have n6_ := Aside0.mk ((by rw [hg]; exact Nat.ne_of_gt (blk_lt (g := gb234) (o := .cells #[.int .u64 a0_0, .int .u64 a0_1, .bool a0_2, .int .u16 a0_3, .int .u16 a0_4, .slice A0_5 l0_5.length c0_5] 34 (0, 0)) (by (with_reducible repeat (first | refine blk_drewN ?_ _ | refine blk_drew ?_ | refine blk_alloc ?_ _)); exact BK234.out)) : gb235 ≠ gb234)); clear BK234; clear HB; have BK234 := n0_; have HB := n1_; have BK235 := n2_; have GW235 := n3_; have GE235 := n4_; have NB234_235 := n5_; have NB235_234 := n6_; clear n0_ n1_ n2_ n3_ n4_ n5_ n6_; clear hb hbox hg)); go_upto_region 1 with (first | ((with_reducible refine gate_dst (N := 3) rfl ?_); (try (refine gate_guard (by rfl) ?_; dsimp only)); refine box_event ?hg (N := 3) ?hd (cs := #[.int .u64 a0_0, .int .u64 a0_1, .bool a0_2, .int .u16 a0_3, .int .u16 a0_4, .slice A0_5 l0_5.length c0_5]) (t := 34) ?hr ?_; (case hd => rfl); (case hg => rfl); (case hr => first | (go_simp; done) | (go_simp; rfl)); intro gb234 hg w5 hbox hb; have n0_ := Aside0.mk (below_step (by repeat (first | (with_reducible first | exact HB.out | apply below_alloc | apply pw_below_drewN | apply below_drew1) | exact HB.out)) hb); have n1_ := Aside0.mk (hbox); have n2_ := Aside0.mk ((by rw [hg]; exact (below_size (by repeat (first | (with_reducible first | exact HB.out | apply below_alloc | apply pw_below_drewN | apply below_drew1) | exact HB.out))) : w.heap.size ≤ gb234)); have n3_ := Aside0.mk ((by rw [hg]; exact (below_size (by repeat (first | (with_reducible first | exact HB.out | apply below_alloc | apply pw_below_drewN | apply below_drew1) | exact HB.out))) : w.heap.size ≤ gb234)); clear HB; have HB := n0_; have BK234 := n1_; have GW234 := n2_; have GE234 := n3_; clear n0_ n1_ n2_ n3_; clear hb hbox hg) | ((with_reducible refine gate_dst (N := 4) rfl ?_); (try (refine gate_guard (by rfl) ?_; dsimp only)); refine box_event ?hg (N := 4) ?hd (cs := #[.int .u64 a1_0, .int .u64 a1_1, .bool a1_2, .int .u16 a1_3, .int .u16 a1_4, .slice A1_5 l1_5.length c1_5]) (t := 34) ?hr ?_; (case hd => rfl); (case hg => rfl); (case hr => first | (go_simp; done) | (go_simp; rfl)); intro gb235 hg w6 hbox hb; have n0_ := Aside0.mk (blk_below (g := gb234) (o := .cells #[.int .u64 a0_0, .int .u64 a0_1, .bool a0_2, .int .u16 a0_3, .int .u16 a0_4, .slice A0_5 l0_5.length c0_5] 34 (0, 0)) (by (with_reducible repeat (first | refine blk_drewN ?_ _ | refine blk_drew ?_ | refine blk_alloc ?_ _)); exact BK234.out) hb); have n1_ := Aside0.mk (below_step (by repeat (first | (with_reducible first | exact HB.out | apply below_alloc | apply pw_below_drewN | apply below_drew1 | refine below_set ?_ GE234.out) | exact HB.out)) hb); have n2_ := Aside0.mk (hbox); have n3_ := Aside0.mk ((by rw [hg]; exact (below_size (by repeat (first | (with_reducible first | exact HB.out | apply below_alloc | apply pw_below_drewN | apply below_drew1 | refine below_set ?_ GE234.out) | exact HB.out))) : w.heap.size ≤ gb235)); have n4_ := Aside0.mk ((by rw [hg]; exact (below_size (by repeat (first | (with_reducible first | exact HB.out | apply below_alloc | apply pw_below_drewN | apply below_drew1 | refine below_set ?_ GE234.out) | exact HB.out))) : w.heap.size ≤ gb235)); have n5_ := Aside0.mk ((by rw [hg]; exact Nat.ne_of_lt (blk_lt (g := gb234) (o := .cells #[.int .u64 a0_0, .int .u64 a0_1, .bool a0_2, .int .u16 a0_3, .int .u16 a0_4, .slice A0_5 l0_5.length c0_5] 34 (0, 0)) (by (with_reducible repeat (first | refine blk_drewN ?_ _ | refine blk_drew ?_ | refine blk_alloc ?_ _)); exact BK234.out)) : gb234 ≠ gb235)); have n6_ := Aside0.mk ((by rw [hg]; exact Nat.ne_of_gt (blk_lt (g := gb234) (o := .cells #[.int .u64 a0_0, .int .u64 a0_1, .bool a0_2, .int .u16 a0_3, .int .u16 a0_4, .slice A0_5 l0_5.length c0_5] 34 (0, 0)) (by (with_reducible repeat (first | refine blk_drewN ?_ _ | refine blk_drew ?_ | refine blk_alloc ?_ _)); exact BK234.out)) : gb235 ≠ gb234)); clear BK234; clear HB; have BK234 := n0_; have HB := n1_; have BK235 := n2_; have GW235 := n3_; have GE235 := n4_; have NB234_235 := n5_; have NB235_234 := n6_; clear n0_ n1_ n2_ n3_ n4_ n5_ n6_; clear hb hbox hg)))
  (try simp only [Act.put, List.setIfInBounds_toArray, List.set_cons_zero, List.set_cons_succ])
  go_cut [49] (fun v49 wc => ∃ (kq : Nat) (x49_3 : Bool), v49 = .bool x49_3 ∧ Aside0 (patchbaylaw02_same.j0 kq a2 x49_3 a0_0 a0_1 a0_2 a0_3 a0_4 l0_5 a1_0 a1_1 a1_2 a1_3 a1_4 l1_5 = some r) ∧ Aside0 (kq ≤ k) ∧ Aside0 (wc.heap[gb234]? = some (.cells #[.int .u64 a0_0, .int .u64 a0_1, .bool a0_2, .int .u16 a0_3, .int .u16 a0_4, (.slice A0_5 l0_5.length c0_5)] 34 (0, 0))) ∧ Aside0 (wc.heap[gb235]? = some (.cells #[.int .u64 a1_0, .int .u64 a1_1, .bool a1_2, .int .u16 a1_3, .int .u16 a1_4, (.slice A1_5 l1_5.length c1_5)] 34 (0, 0))) ∧ Aside0 (Below w.heap.size w wc))
  case first =>
    have H := HC4.out
    clear HC4
    by_cases c7 : a0_0 = a1_0
    · rw [if_pos c7] at H
      have c7b0 : (a0_0 == a1_0) = true := beq_iff_eq.mpr c7
      have c7b1 : (a0_0 != a1_0) = false := bne_eq_false_iff_eq.mpr c7
      clear c7
      (first | rw [c7b0] | (simp only [i64_w, i32_w]; rw [c7b0]) | skip)
      by_cases c8 : a0_1 = a1_1
      · rw [if_pos c8] at H
        have c8b0 : (a0_1 == a1_1) = true := beq_iff_eq.mpr c8
        have c8b1 : (a0_1 != a1_1) = false := bne_eq_false_iff_eq.mpr c8
        clear c8
        by_cases c9 : (a0_2 != a1_2) = true
        · rw [if_pos c9] at H
          have c9b0 : (a0_2 != a1_2) = true := c9
          (try (have c9b1 : decide (a0_2 = a1_2) = false := by simpa using c9))
          (try (have c9b2 : (a0_2 == a1_2) = false := by simpa using c9))
          (try (have c9b3 : ¬ (a0_2 = a1_2) := by simpa using c9))
          clear c9
          have H' := Aside0.mk H
          clear H
          have hnb10 := NB234_235.out
          have hnc10 := NB235_234.out
          have hcz11_0 : w6.cell? ⟨gb234, 0, none⟩ = some (.int .u64 a0_0) := (blk_cell BK234.out 0).trans rfl
          have hcz11_1 : w6.cell? ⟨gb234, 1, none⟩ = some (.int .u64 a0_1) := (blk_cell BK234.out 1).trans rfl
          have hcz11_2 : w6.cell? ⟨gb234, 2, none⟩ = some (.bool a0_2) := (blk_cell BK234.out 2).trans rfl
          have hcz11_3 : w6.cell? ⟨gb234, 3, none⟩ = some (.int .u16 a0_3) := (blk_cell BK234.out 3).trans rfl
          have hcz11_4 : w6.cell? ⟨gb234, 4, none⟩ = some (.int .u16 a0_4) := (blk_cell BK234.out 4).trans rfl
          have hcz11_5 : w6.cell? ⟨gb234, 5, none⟩ = some (.slice A0_5 l0_5.length c0_5) := (blk_cell BK234.out 5).trans rfl
          have hfz11_0 := blk_frozen BK234.out 0
          have hfz11_1 := blk_frozen BK234.out 1
          have hfz11_2 := blk_frozen BK234.out 2
          have hfz11_3 := blk_frozen BK234.out 3
          have hfz11_4 := blk_frozen BK234.out 4
          have hfz11_5 := blk_frozen BK234.out 5
          have hcz12_0 : w6.cell? ⟨gb235, 0, none⟩ = some (.int .u64 a1_0) := (blk_cell BK235.out 0).trans rfl
          have hcz12_1 : w6.cell? ⟨gb235, 1, none⟩ = some (.int .u64 a1_1) := (blk_cell BK235.out 1).trans rfl
          have hcz12_2 : w6.cell? ⟨gb235, 2, none⟩ = some (.bool a1_2) := (blk_cell BK235.out 2).trans rfl
          have hcz12_3 : w6.cell? ⟨gb235, 3, none⟩ = some (.int .u16 a1_3) := (blk_cell BK235.out 3).trans rfl
          have hcz12_4 : w6.cell? ⟨gb235, 4, none⟩ = some (.int .u16 a1_4) := (blk_cell BK235.out 4).trans rfl
          have hcz12_5 : w6.cell? ⟨gb235, 5, none⟩ = some (.slice A1_5 l1_5.length c1_5) := (blk_cell BK235.out 5).trans rfl
          have hfz12_0 := blk_frozen BK235.out 0
          have hfz12_1 := blk_frozen BK235.out 1
          have hfz12_2 := blk_frozen BK235.out 2
          have hfz12_3 := blk_frozen BK235.out 3
          have hfz12_4 := blk_frozen BK235.out 4
          have hfz12_5 := blk_frozen BK235.out 5
          go_wp2
          repeat (go_quiet (fail); try go_wp2)
          go_meet
          case rel => exact ⟨_, (true), (by first | rfl | (simp; done) | (simp [*]; done)), H', ⟨by first | omega | exact Nat.le_refl _⟩, ⟨by (with_reducible repeat (first | refine blk_drewN ?_ _ | refine blk_drew ?_ | refine blk_alloc ?_ _)); exact BK234.out⟩, ⟨by (with_reducible repeat (first | refine blk_drewN ?_ _ | refine blk_drew ?_ | refine blk_alloc ?_ _)); exact BK235.out⟩, ⟨by repeat (first | (with_reducible first | exact HB.out | apply below_alloc | apply pw_below_drewN | apply below_drew1 | refine below_set ?_ GE234.out | refine below_set ?_ GE235.out) | exact HB.out)⟩⟩
        · rw [if_neg c9] at H
          have c9b0 : (a0_2 != a1_2) = false := by simpa using c9
          (try (have c9b1 : decide (a0_2 = a1_2) = true := by simpa using c9))
          (try (have c9b2 : (a0_2 == a1_2) = true := by simpa using c9))
          clear c9
          by_cases c13 : a0_3 = a1_3
          · rw [if_pos c13] at H
            have c13b0 : (a0_3 == a1_3) = true := beq_iff_eq.mpr c13
            have c13b1 : (a0_3 != a1_3) = false := bne_eq_false_iff_eq.mpr c13
            clear c13
            by_cases c14 : a0_4 = a1_4
            · rw [if_pos c14] at H
              have c14b0 : (a0_4 == a1_4) = true := beq_iff_eq.mpr c14
              have c14b1 : (a0_4 != a1_4) = false := bne_eq_false_iff_eq.mpr c14
              clear c14
              have H' := Aside0.mk H
              clear H
              have hnb15 := NB234_235.out
              have hnc15 := NB235_234.out
              have hcz16_0 : w6.cell? ⟨gb234, 0, none⟩ = some (.int .u64 a0_0) := (blk_cell BK234.out 0).trans rfl
              have hcz16_1 : w6.cell? ⟨gb234, 1, none⟩ = some (.int .u64 a0_1) := (blk_cell BK234.out 1).trans rfl
              have hcz16_2 : w6.cell? ⟨gb234, 2, none⟩ = some (.bool a0_2) := (blk_cell BK234.out 2).trans rfl
              have hcz16_3 : w6.cell? ⟨gb234, 3, none⟩ = some (.int .u16 a0_3) := (blk_cell BK234.out 3).trans rfl
              have hcz16_4 : w6.cell? ⟨gb234, 4, none⟩ = some (.int .u16 a0_4) := (blk_cell BK234.out 4).trans rfl
              have hcz16_5 : w6.cell? ⟨gb234, 5, none⟩ = some (.slice A0_5 l0_5.length c0_5) := (blk_cell BK234.out 5).trans rfl
              have hfz16_0 := blk_frozen BK234.out 0
              have hfz16_1 := blk_frozen BK234.out 1
              have hfz16_2 := blk_frozen BK234.out 2
              have hfz16_3 := blk_frozen BK234.out 3
              have hfz16_4 := blk_frozen BK234.out 4
              have hfz16_5 := blk_frozen BK234.out 5
              have hcz17_0 : w6.cell? ⟨gb235, 0, none⟩ = some (.int .u64 a1_0) := (blk_cell BK235.out 0).trans rfl
              have hcz17_1 : w6.cell? ⟨gb235, 1, none⟩ = some (.int .u64 a1_1) := (blk_cell BK235.out 1).trans rfl
              have hcz17_2 : w6.cell? ⟨gb235, 2, none⟩ = some (.bool a1_2) := (blk_cell BK235.out 2).trans rfl
              have hcz17_3 : w6.cell? ⟨gb235, 3, none⟩ = some (.int .u16 a1_3) := (blk_cell BK235.out 3).trans rfl
              have hcz17_4 : w6.cell? ⟨gb235, 4, none⟩ = some (.int .u16 a1_4) := (blk_cell BK235.out 4).trans rfl
              have hcz17_5 : w6.cell? ⟨gb235, 5, none⟩ = some (.slice A1_5 l1_5.length c1_5) := (blk_cell BK235.out 5).trans rfl
              have hfz17_0 := blk_frozen BK235.out 0
              have hfz17_1 := blk_frozen BK235.out 1
              have hfz17_2 := blk_frozen BK235.out 2
              have hfz17_3 := blk_frozen BK235.out 3
              have hfz17_4 := blk_frozen BK235.out 4
              have hfz17_5 := blk_frozen BK235.out 5
              go_wp2
              repeat (go_quiet (fail); try go_wp2)
              go_meet
              case rel => exact ⟨_, (decide ((l1_5.length : Int) < (l0_5.length : Int))), (by first | rfl | (simp; done) | (simp [*]; done)), H', ⟨by first | omega | exact Nat.le_refl _⟩, ⟨by (with_reducible repeat (first | refine blk_drewN ?_ _ | refine blk_drew ?_ | refine blk_alloc ?_ _)); exact BK234.out⟩, ⟨by (with_reducible repeat (first | refine blk_drewN ?_ _ | refine blk_drew ?_ | refine blk_alloc ?_ _)); exact BK235.out⟩, ⟨by repeat (first | (with_reducible first | exact HB.out | apply below_alloc | apply pw_below_drewN | apply below_drew1 | refine below_set ?_ GE234.out | refine below_set ?_ GE235.out) | exact HB.out)⟩⟩
            · rw [if_neg c14] at H
              have c14b0 : (a0_4 == a1_4) = false := beq_eq_false_iff_ne.mpr c14
              have c14b1 : (a0_4 != a1_4) = true := bne_iff_ne.mpr c14
              have H' := Aside0.mk H
              clear H
              have hnb18 := NB234_235.out
              have hnc18 := NB235_234.out
              have hcz19_0 : w6.cell? ⟨gb234, 0, none⟩ = some (.int .u64 a0_0) := (blk_cell BK234.out 0).trans rfl
              have hcz19_1 : w6.cell? ⟨gb234, 1, none⟩ = some (.int .u64 a0_1) := (blk_cell BK234.out 1).trans rfl
              have hcz19_2 : w6.cell? ⟨gb234, 2, none⟩ = some (.bool a0_2) := (blk_cell BK234.out 2).trans rfl
              have hcz19_3 : w6.cell? ⟨gb234, 3, none⟩ = some (.int .u16 a0_3) := (blk_cell BK234.out 3).trans rfl
              have hcz19_4 : w6.cell? ⟨gb234, 4, none⟩ = some (.int .u16 a0_4) := (blk_cell BK234.out 4).trans rfl
              have hcz19_5 : w6.cell? ⟨gb234, 5, none⟩ = some (.slice A0_5 l0_5.length c0_5) := (blk_cell BK234.out 5).trans rfl
              have hfz19_0 := blk_frozen BK234.out 0
              have hfz19_1 := blk_frozen BK234.out 1
              have hfz19_2 := blk_frozen BK234.out 2
              have hfz19_3 := blk_frozen BK234.out 3
              have hfz19_4 := blk_frozen BK234.out 4
              have hfz19_5 := blk_frozen BK234.out 5
              have hcz20_0 : w6.cell? ⟨gb235, 0, none⟩ = some (.int .u64 a1_0) := (blk_cell BK235.out 0).trans rfl
              have hcz20_1 : w6.cell? ⟨gb235, 1, none⟩ = some (.int .u64 a1_1) := (blk_cell BK235.out 1).trans rfl
              have hcz20_2 : w6.cell? ⟨gb235, 2, none⟩ = some (.bool a1_2) := (blk_cell BK235.out 2).trans rfl
              have hcz20_3 : w6.cell? ⟨gb235, 3, none⟩ = some (.int .u16 a1_3) := (blk_cell BK235.out 3).trans rfl
              have hcz20_4 : w6.cell? ⟨gb235, 4, none⟩ = some (.int .u16 a1_4) := (blk_cell BK235.out 4).trans rfl
              have hcz20_5 : w6.cell? ⟨gb235, 5, none⟩ = some (.slice A1_5 l1_5.length c1_5) := (blk_cell BK235.out 5).trans rfl
              have hfz20_0 := blk_frozen BK235.out 0
              have hfz20_1 := blk_frozen BK235.out 1
              have hfz20_2 := blk_frozen BK235.out 2
              have hfz20_3 := blk_frozen BK235.out 3
              have hfz20_4 := blk_frozen BK235.out 4
              have hfz20_5 := blk_frozen BK235.out 5
              go_wp2
              repeat (go_quiet (fail); try go_wp2)
              go_meet
              case rel => exact ⟨_, (true), (by first | rfl | (simp; done) | (simp [*]; done)), H', ⟨by first | omega | exact Nat.le_refl _⟩, ⟨by (with_reducible repeat (first | refine blk_drewN ?_ _ | refine blk_drew ?_ | refine blk_alloc ?_ _)); exact BK234.out⟩, ⟨by (with_reducible repeat (first | refine blk_drewN ?_ _ | refine blk_drew ?_ | refine blk_alloc ?_ _)); exact BK235.out⟩, ⟨by repeat (first | (with_reducible first | exact HB.out | apply below_alloc | apply pw_below_drewN | apply below_drew1 | refine below_set ?_ GE234.out | refine below_set ?_ GE235.out) | exact HB.out)⟩⟩
          · rw [if_neg c13] at H
            have c13b0 : (a0_3 == a1_3) = false := beq_eq_false_iff_ne.mpr c13
            have c13b1 : (a0_3 != a1_3) = true := bne_iff_ne.mpr c13
            have H' := Aside0.mk H
            clear H
            have hnb21 := NB234_235.out
            have hnc21 := NB235_234.out
            have hcz22_0 : w6.cell? ⟨gb234, 0, none⟩ = some (.int .u64 a0_0) := (blk_cell BK234.out 0).trans rfl
            have hcz22_1 : w6.cell? ⟨gb234, 1, none⟩ = some (.int .u64 a0_1) := (blk_cell BK234.out 1).trans rfl
            have hcz22_2 : w6.cell? ⟨gb234, 2, none⟩ = some (.bool a0_2) := (blk_cell BK234.out 2).trans rfl
            have hcz22_3 : w6.cell? ⟨gb234, 3, none⟩ = some (.int .u16 a0_3) := (blk_cell BK234.out 3).trans rfl
            have hcz22_4 : w6.cell? ⟨gb234, 4, none⟩ = some (.int .u16 a0_4) := (blk_cell BK234.out 4).trans rfl
            have hcz22_5 : w6.cell? ⟨gb234, 5, none⟩ = some (.slice A0_5 l0_5.length c0_5) := (blk_cell BK234.out 5).trans rfl
            have hfz22_0 := blk_frozen BK234.out 0
            have hfz22_1 := blk_frozen BK234.out 1
            have hfz22_2 := blk_frozen BK234.out 2
            have hfz22_3 := blk_frozen BK234.out 3
            have hfz22_4 := blk_frozen BK234.out 4
            have hfz22_5 := blk_frozen BK234.out 5
            have hcz23_0 : w6.cell? ⟨gb235, 0, none⟩ = some (.int .u64 a1_0) := (blk_cell BK235.out 0).trans rfl
            have hcz23_1 : w6.cell? ⟨gb235, 1, none⟩ = some (.int .u64 a1_1) := (blk_cell BK235.out 1).trans rfl
            have hcz23_2 : w6.cell? ⟨gb235, 2, none⟩ = some (.bool a1_2) := (blk_cell BK235.out 2).trans rfl
            have hcz23_3 : w6.cell? ⟨gb235, 3, none⟩ = some (.int .u16 a1_3) := (blk_cell BK235.out 3).trans rfl
            have hcz23_4 : w6.cell? ⟨gb235, 4, none⟩ = some (.int .u16 a1_4) := (blk_cell BK235.out 4).trans rfl
            have hcz23_5 : w6.cell? ⟨gb235, 5, none⟩ = some (.slice A1_5 l1_5.length c1_5) := (blk_cell BK235.out 5).trans rfl
            have hfz23_0 := blk_frozen BK235.out 0
            have hfz23_1 := blk_frozen BK235.out 1
            have hfz23_2 := blk_frozen BK235.out 2
            have hfz23_3 := blk_frozen BK235.out 3
            have hfz23_4 := blk_frozen BK235.out 4
            have hfz23_5 := blk_frozen BK235.out 5
            go_wp2
            repeat (go_quiet (fail); try go_wp2)
            go_meet
            case rel => exact ⟨_, (true), (by first | rfl | (simp; done) | (simp [*]; done)), H', ⟨by first | omega | exact Nat.le_refl _⟩, ⟨by (with_reducible repeat (first | refine blk_drewN ?_ _ | refine blk_drew ?_ | refine blk_alloc ?_ _)); exact BK234.out⟩, ⟨by (with_reducible repeat (first | refine blk_drewN ?_ _ | refine blk_drew ?_ | refine blk_alloc ?_ _)); exact BK235.out⟩, ⟨by repeat (first | (with_reducible first | exact HB.out | apply below_alloc | apply pw_below_drewN | apply below_drew1 | refine below_set ?_ GE234.out | refine below_set ?_ GE235.out) | exact HB.out)⟩⟩
      · rw [if_neg c8] at H
        have c8b0 : (a0_1 == a1_1) = false := beq_eq_false_iff_ne.mpr c8
        have c8b1 : (a0_1 != a1_1) = true := bne_iff_ne.mpr c8
        have H' := Aside0.mk H
        clear H
        have hnb24 := NB234_235.out
        have hnc24 := NB235_234.out
        have hcz25_0 : w6.cell? ⟨gb234, 0, none⟩ = some (.int .u64 a0_0) := (blk_cell BK234.out 0).trans rfl
        have hcz25_1 : w6.cell? ⟨gb234, 1, none⟩ = some (.int .u64 a0_1) := (blk_cell BK234.out 1).trans rfl
        have hcz25_2 : w6.cell? ⟨gb234, 2, none⟩ = some (.bool a0_2) := (blk_cell BK234.out 2).trans rfl
        have hcz25_3 : w6.cell? ⟨gb234, 3, none⟩ = some (.int .u16 a0_3) := (blk_cell BK234.out 3).trans rfl
        have hcz25_4 : w6.cell? ⟨gb234, 4, none⟩ = some (.int .u16 a0_4) := (blk_cell BK234.out 4).trans rfl
        have hcz25_5 : w6.cell? ⟨gb234, 5, none⟩ = some (.slice A0_5 l0_5.length c0_5) := (blk_cell BK234.out 5).trans rfl
        have hfz25_0 := blk_frozen BK234.out 0
        have hfz25_1 := blk_frozen BK234.out 1
        have hfz25_2 := blk_frozen BK234.out 2
        have hfz25_3 := blk_frozen BK234.out 3
        have hfz25_4 := blk_frozen BK234.out 4
        have hfz25_5 := blk_frozen BK234.out 5
        have hcz26_0 : w6.cell? ⟨gb235, 0, none⟩ = some (.int .u64 a1_0) := (blk_cell BK235.out 0).trans rfl
        have hcz26_1 : w6.cell? ⟨gb235, 1, none⟩ = some (.int .u64 a1_1) := (blk_cell BK235.out 1).trans rfl
        have hcz26_2 : w6.cell? ⟨gb235, 2, none⟩ = some (.bool a1_2) := (blk_cell BK235.out 2).trans rfl
        have hcz26_3 : w6.cell? ⟨gb235, 3, none⟩ = some (.int .u16 a1_3) := (blk_cell BK235.out 3).trans rfl
        have hcz26_4 : w6.cell? ⟨gb235, 4, none⟩ = some (.int .u16 a1_4) := (blk_cell BK235.out 4).trans rfl
        have hcz26_5 : w6.cell? ⟨gb235, 5, none⟩ = some (.slice A1_5 l1_5.length c1_5) := (blk_cell BK235.out 5).trans rfl
        have hfz26_0 := blk_frozen BK235.out 0
        have hfz26_1 := blk_frozen BK235.out 1
        have hfz26_2 := blk_frozen BK235.out 2
        have hfz26_3 := blk_frozen BK235.out 3
        have hfz26_4 := blk_frozen BK235.out 4
        have hfz26_5 := blk_frozen BK235.out 5
        go_wp2
        repeat (go_quiet (fail); try go_wp2)
        go_meet
        case rel => exact ⟨_, (true), (by first | rfl | (simp; done) | (simp [*]; done)), H', ⟨by first | omega | exact Nat.le_refl _⟩, ⟨by (with_reducible repeat (first | refine blk_drewN ?_ _ | refine blk_drew ?_ | refine blk_alloc ?_ _)); exact BK234.out⟩, ⟨by (with_reducible repeat (first | refine blk_drewN ?_ _ | refine blk_drew ?_ | refine blk_alloc ?_ _)); exact BK235.out⟩, ⟨by repeat (first | (with_reducible first | exact HB.out | apply below_alloc | apply pw_below_drewN | apply below_drew1 | refine below_set ?_ GE234.out | refine below_set ?_ GE235.out) | exact HB.out)⟩⟩
    · rw [if_neg c7] at H
      have c7b0 : (a0_0 == a1_0) = false := beq_eq_false_iff_ne.mpr c7
      have c7b1 : (a0_0 != a1_0) = true := bne_iff_ne.mpr c7
      (first | rw [c7b0] | (simp only [i64_w, i32_w]; rw [c7b0]) | skip)
      have H' := Aside0.mk H
      clear H
      have hnb27 := NB234_235.out
      have hnc27 := NB235_234.out
      have hcz28_0 : w6.cell? ⟨gb234, 0, none⟩ = some (.int .u64 a0_0) := (blk_cell BK234.out 0).trans rfl
      have hcz28_1 : w6.cell? ⟨gb234, 1, none⟩ = some (.int .u64 a0_1) := (blk_cell BK234.out 1).trans rfl
      have hcz28_2 : w6.cell? ⟨gb234, 2, none⟩ = some (.bool a0_2) := (blk_cell BK234.out 2).trans rfl
      have hcz28_3 : w6.cell? ⟨gb234, 3, none⟩ = some (.int .u16 a0_3) := (blk_cell BK234.out 3).trans rfl
      have hcz28_4 : w6.cell? ⟨gb234, 4, none⟩ = some (.int .u16 a0_4) := (blk_cell BK234.out 4).trans rfl
      have hcz28_5 : w6.cell? ⟨gb234, 5, none⟩ = some (.slice A0_5 l0_5.length c0_5) := (blk_cell BK234.out 5).trans rfl
      have hfz28_0 := blk_frozen BK234.out 0
      have hfz28_1 := blk_frozen BK234.out 1
      have hfz28_2 := blk_frozen BK234.out 2
      have hfz28_3 := blk_frozen BK234.out 3
      have hfz28_4 := blk_frozen BK234.out 4
      have hfz28_5 := blk_frozen BK234.out 5
      have hcz29_0 : w6.cell? ⟨gb235, 0, none⟩ = some (.int .u64 a1_0) := (blk_cell BK235.out 0).trans rfl
      have hcz29_1 : w6.cell? ⟨gb235, 1, none⟩ = some (.int .u64 a1_1) := (blk_cell BK235.out 1).trans rfl
      have hcz29_2 : w6.cell? ⟨gb235, 2, none⟩ = some (.bool a1_2) := (blk_cell BK235.out 2).trans rfl
      have hcz29_3 : w6.cell? ⟨gb235, 3, none⟩ = some (.int .u16 a1_3) := (blk_cell BK235.out 3).trans rfl
      have hcz29_4 : w6.cell? ⟨gb235, 4, none⟩ = some (.int .u16 a1_4) := (blk_cell BK235.out 4).trans rfl
      have hcz29_5 : w6.cell? ⟨gb235, 5, none⟩ = some (.slice A1_5 l1_5.length c1_5) := (blk_cell BK235.out 5).trans rfl
      have hfz29_0 := blk_frozen BK235.out 0
      have hfz29_1 := blk_frozen BK235.out 1
      have hfz29_2 := blk_frozen BK235.out 2
      have hfz29_3 := blk_frozen BK235.out 3
      have hfz29_4 := blk_frozen BK235.out 4
      have hfz29_5 := blk_frozen BK235.out 5
      go_wp2
      repeat (go_quiet (fail); try go_wp2)
      go_meet
      case rel => exact ⟨_, (true), (by first | rfl | (simp; done) | (simp [*]; done)), H', ⟨by first | omega | exact Nat.le_refl _⟩, ⟨by (with_reducible repeat (first | refine blk_drewN ?_ _ | refine blk_drew ?_ | refine blk_alloc ?_ _)); exact BK234.out⟩, ⟨by (with_reducible repeat (first | refine blk_drewN ?_ _ | refine blk_drew ?_ | refine blk_alloc ?_ _)); exact BK235.out⟩, ⟨by repeat (first | (with_reducible first | exact HB.out | apply below_alloc | apply pw_below_drewN | apply below_drew1 | refine below_set ?_ GE234.out | refine below_set ?_ GE235.out) | exact HB.out)⟩⟩
  case rest =>
    clear HC4
    try clear c1
    try clear c2
    try clear p2
    try clear c4
    try clear c7
    try clear c7b0
    try clear c7b1
    try clear c8
    try clear c8b0
    try clear c8b1
    try clear c9
    try clear c9b0
    try clear c9b1
    try clear c9b2
    try clear c10
    try clear c13
    try clear c13b0
    try clear c13b1
    try clear c14
    try clear c14b0
    try clear c14b1
    try clear c15
    try clear c18
    try clear c21
    try clear c24
    try clear c27
    try clear hcz11_0
    try clear hcz11_1
    try clear hcz11_2
    try clear hcz11_3
    try clear hcz11_4
    try clear hcz11_5
    try clear hcz12_0
    try clear hcz12_1
    try clear hcz12_2
    try clear hcz12_3
    try clear hcz12_4
    try clear hcz12_5
    try clear hcz16_0
    try clear hcz16_1
    try clear hcz16_2
    try clear hcz16_3
    try clear hcz16_4
    try clear hcz16_5
    try clear hcz17_0
    try clear hcz17_1
    try clear hcz17_2
    try clear hcz17_3
    try clear hcz17_4
    try clear hcz17_5
    try clear hcz19_0
    try clear hcz19_1
    try clear hcz19_2
    try clear hcz19_3
    try clear hcz19_4
    try clear hcz19_5
    try clear hcz20_0
    try clear hcz20_1
    try clear hcz20_2
    try clear hcz20_3
    try clear hcz20_4
    try clear hcz20_5
    try clear hcz22_0
    try clear hcz22_1
    try clear hcz22_2
    try clear hcz22_3
    try clear hcz22_4
    try clear hcz22_5
    try clear hcz23_0
    try clear hcz23_1
    try clear hcz23_2
    try clear hcz23_3
    try clear hcz23_4
    try clear hcz23_5
    try clear hcz25_0
    try clear hcz25_1
    try clear hcz25_2
    try clear hcz25_3
    try clear hcz25_4
    try clear hcz25_5
    try clear hcz26_0
    try clear hcz26_1
    try clear hcz26_2
    try clear hcz26_3
    try clear hcz26_4
    try clear hcz26_5
    try clear hcz28_0
    try clear hcz28_1
    try clear hcz28_2
    try clear hcz28_3
    try clear hcz28_4
    try clear hcz28_5
    try clear hcz29_0
    try clear hcz29_1
    try clear hcz29_2
    try clear hcz29_3
    try clear hcz29_4
    try clear hcz29_5
    try clear hfz11_0
    try clear hfz11_1
    try clear hfz11_2
    try clear hfz11_3
    try clear hfz11_4
    try clear hfz11_5
    try clear hfz12_0
    try clear hfz12_1
    try clear hfz12_2
    try clear hfz12_3
    try clear hfz12_4
    try clear hfz12_5
    try clear hfz16_0
    try clear hfz16_1
    try clear hfz16_2
    try clear hfz16_3
    try clear hfz16_4
    try clear hfz16_5
    try clear hfz17_0
    try clear hfz17_1
    try clear hfz17_2
    try clear hfz17_3
    try clear hfz17_4
    try clear hfz17_5
    try clear hfz19_0
    try clear hfz19_1
    try clear hfz19_2
    try clear hfz19_3
    try clear hfz19_4
    try clear hfz19_5
    try clear hfz20_0
    try clear hfz20_1
    try clear hfz20_2
    try clear hfz20_3
    try clear hfz20_4
    try clear hfz20_5
    try clear hfz22_0
    try clear hfz22_1
    try clear hfz22_2
    try clear hfz22_3
    try clear hfz22_4
    try clear hfz22_5
    try clear hfz23_0
    try clear hfz23_1
    try clear hfz23_2
    try clear hfz23_3
    try clear hfz23_4
    try clear hfz23_5
    try clear hfz25_0
    try clear hfz25_1
    try clear hfz25_2
    try clear hfz25_3
    try clear hfz25_4
    try clear hfz25_5
    try clear hfz26_0
    try clear hfz26_1
    try clear hfz26_2
    try clear hfz26_3
    try clear hfz26_4
    try clear hfz26_5
    try clear hfz28_0
    try clear hfz28_1
    try clear hfz28_2
    try clear hfz28_3
    try clear hfz28_4
    try clear hfz28_5
    try clear hfz29_0
    try clear hfz29_1
    try clear hfz29_2
    try clear hfz29_3
    try clear hfz29_4
    try clear hfz29_5
    obtain ⟨kq, x49_3, rfl, HA, HJ3, BK234, BK235, HB⟩ := hcut
    cases kq with
    | zero => exact absurd HA.out (by simp [patchbaylaw02_same.j0])
    | succ kj3 =>
      have H := HA.out
      clear HA
      simp only [patchbaylaw02_same.j0] at H
      by_cases c30 : x49_3 = true
      · subst c30
        have H1 : (some false) = some r := by rw [if_pos rfl] at H; exact H
        clear H
        have H := H1
        clear H1
        obtain rfl := Option.some.inj H
        go_wp2
        repeat (go_quiet (fail); try go_wp2)
        go_ret
        exact ⟨by first | rfl | (simp [errW_none, errW_some] <;> rfl) | (simp [*, errW_none, errW_some] <;> rfl), by repeat (first | (with_reducible first | exact HB.out | apply below_alloc | apply pw_below_drewN | apply below_drew1 | refine below_set ?_ GE234.out | refine below_set ?_ GE235.out) | exact HB.out)⟩
      · replace c30 := Bool.eq_false_iff.mpr c30
        subst c30
        have H1 : (patchbaylaw02_same.l0 kj3 a2 0 a0_0 a0_1 a0_2 a0_3 a0_4 l0_5 a1_0 a1_1 a1_2 a1_3 a1_4 l1_5) = some r := by rw [if_neg (show ¬ (false = true) by decide)] at H; exact H
        clear H
        have H := H1
        clear H1
        have H' := Aside0.mk H
        clear H
        go_wp2
        repeat (go_quiet (fail); try go_wp2)
        go_loopg [7] kj3 (fun kq v7 w' => ∃ (x7_2 : Int), v7 = .int .i64 x7_2 ∧ Aside0 (patchbaylaw02_same.l0 kq a2 x7_2 a0_0 a0_1 a0_2 a0_3 a0_4 l0_5 a1_0 a1_1 a1_2 a1_3 a1_4 l1_5 = some r) ∧ Aside0 (kq ≤ kj3) ∧ Aside0 (w'.heap[gb234]? = some (.cells #[.int .u64 a0_0, .int .u64 a0_1, .bool a0_2, .int .u16 a0_3, .int .u16 a0_4, (.slice A0_5 l0_5.length c0_5)] 34 (0, 0))) ∧ Aside0 (w'.heap[gb235]? = some (.cells #[.int .u64 a1_0, .int .u64 a1_1, .bool a1_2, .int .u16 a1_3, .int .u16 a1_4, (.slice A1_5 l1_5.length c1_5)] 34 (0, 0))) ∧ Aside0 (Below w.heap.size w w'))
        case atStart => exact ⟨(0), (by first | rfl | (simp; done) | (simp [*]; done)), H', ⟨Nat.le_refl _⟩, ⟨by (with_reducible repeat (first | refine blk_drewN ?_ _ | refine blk_drew ?_ | refine blk_alloc ?_ _)); exact BK234.out⟩, ⟨by (with_reducible repeat (first | refine blk_drewN ?_ _ | refine blk_drew ?_ | refine blk_alloc ?_ _)); exact BK235.out⟩, ⟨by repeat (first | (with_reducible first | exact HB.out | apply below_alloc | apply pw_below_drewN | apply below_drew1 | refine below_set ?_ GE234.out | refine below_set ?_ GE235.out) | exact HB.out)⟩⟩
        case round =>
          clear H'
          try clear c1
          try clear c2
          try clear p2
          try clear c3
          try clear c4
          try clear c7
          try clear c7b0
          try clear c7b1
          try clear c8
          try clear c8b0
          try clear c8b1
          try clear c9
          try clear c9b0
          try clear c9b1
          try clear c9b2
          try clear c10
          try clear c13
          try clear c13b0
          try clear c13b1
          try clear c14
          try clear c14b0
          try clear c14b1
          try clear c15
          try clear c18
          try clear c21
          try clear c24
          try clear c27
          try clear c30
          try clear hcz11_0
          try clear hcz11_1
          try clear hcz11_2
          try clear hcz11_3
          try clear hcz11_4
          try clear hcz11_5
          try clear hcz12_0
          try clear hcz12_1
          try clear hcz12_2
          try clear hcz12_3
          try clear hcz12_4
          try clear hcz12_5
          try clear hcz16_0
          try clear hcz16_1
          try clear hcz16_2
          try clear hcz16_3
          try clear hcz16_4
          try clear hcz16_5
          try clear hcz17_0
          try clear hcz17_1
          try clear hcz17_2
          try clear hcz17_3
          try clear hcz17_4
          try clear hcz17_5
          try clear hcz19_0
          try clear hcz19_1
          try clear hcz19_2
          try clear hcz19_3
          try clear hcz19_4
          try clear hcz19_5
          try clear hcz20_0
          try clear hcz20_1
          try clear hcz20_2
          try clear hcz20_3
          try clear hcz20_4
          try clear hcz20_5
          try clear hcz22_0
          try clear hcz22_1
          try clear hcz22_2
          try clear hcz22_3
          try clear hcz22_4
          try clear hcz22_5
          try clear hcz23_0
          try clear hcz23_1
          try clear hcz23_2
          try clear hcz23_3
          try clear hcz23_4
          try clear hcz23_5
          try clear hcz25_0
          try clear hcz25_1
          try clear hcz25_2
          try clear hcz25_3
          try clear hcz25_4
          try clear hcz25_5
          try clear hcz26_0
          try clear hcz26_1
          try clear hcz26_2
          try clear hcz26_3
          try clear hcz26_4
          try clear hcz26_5
          try clear hcz28_0
          try clear hcz28_1
          try clear hcz28_2
          try clear hcz28_3
          try clear hcz28_4
          try clear hcz28_5
          try clear hcz29_0
          try clear hcz29_1
          try clear hcz29_2
          try clear hcz29_3
          try clear hcz29_4
          try clear hcz29_5
          try clear hfz11_0
          try clear hfz11_1
          try clear hfz11_2
          try clear hfz11_3
          try clear hfz11_4
          try clear hfz11_5
          try clear hfz12_0
          try clear hfz12_1
          try clear hfz12_2
          try clear hfz12_3
          try clear hfz12_4
          try clear hfz12_5
          try clear hfz16_0
          try clear hfz16_1
          try clear hfz16_2
          try clear hfz16_3
          try clear hfz16_4
          try clear hfz16_5
          try clear hfz17_0
          try clear hfz17_1
          try clear hfz17_2
          try clear hfz17_3
          try clear hfz17_4
          try clear hfz17_5
          try clear hfz19_0
          try clear hfz19_1
          try clear hfz19_2
          try clear hfz19_3
          try clear hfz19_4
          try clear hfz19_5
          try clear hfz20_0
          try clear hfz20_1
          try clear hfz20_2
          try clear hfz20_3
          try clear hfz20_4
          try clear hfz20_5
          try clear hfz22_0
          try clear hfz22_1
          try clear hfz22_2
          try clear hfz22_3
          try clear hfz22_4
          try clear hfz22_5
          try clear hfz23_0
          try clear hfz23_1
          try clear hfz23_2
          try clear hfz23_3
          try clear hfz23_4
          try clear hfz23_5
          try clear hfz25_0
          try clear hfz25_1
          try clear hfz25_2
          try clear hfz25_3
          try clear hfz25_4
          try clear hfz25_5
          try clear hfz26_0
          try clear hfz26_1
          try clear hfz26_2
          try clear hfz26_3
          try clear hfz26_4
          try clear hfz26_5
          try clear hfz28_0
          try clear hfz28_1
          try clear hfz28_2
          try clear hfz28_3
          try clear hfz28_4
          try clear hfz28_5
          try clear hfz29_0
          try clear hfz29_1
          try clear hfz29_2
          try clear hfz29_3
          try clear hfz29_4
          try clear hfz29_5
          try clear p2
          obtain ⟨x7_2, rfl, HA, HK2, BK234, BK235, HB⟩ := hrel
          cases gk with
          | zero => exact absurd HA.out (by simp [patchbaylaw02_same.l0])
          | succ k2 =>
            have H := HA.out
            clear HA
            simp only [patchbaylaw02_same.l0] at H
            by_cases c31 : x7_2 < (l1_5.length : Int)
            · rw [if_pos c31] at H
              have c31b0 : decide (x7_2 < (l1_5.length : Int)) = true := decide_eq_true c31
              clear c31
              by_cases c32 : x7_2 < (l0_5.length : Int)
              · rw [if_pos c32] at H
                have c32b0 : decide (x7_2 < (l0_5.length : Int)) = true := decide_eq_true c32
                clear c32
                by_cases c33 : 0 ≤ x7_2
                · rw [if_pos c33] at H
                  have c33b0 : decide (0 ≤ x7_2) = true := decide_eq_true c33
                  clear c33
                  by_cases c34 : (rd l0_5 x7_2) = (rd l1_5 x7_2)
                  · rw [if_pos c34] at H
                    have c34b0 : ((rd l0_5 x7_2) == (rd l1_5 x7_2)) = true := beq_iff_eq.mpr c34
                    have c34b1 : ((rd l0_5 x7_2) != (rd l1_5 x7_2)) = false := bne_eq_false_iff_eq.mpr c34
                    clear c34
                    by_cases c35 : x7_2 ≥ (l0_5.length : Int)
                    · rw [if_pos c35] at H
                      have c35b0 : decide ((l0_5.length : Int) ≤ x7_2) = true := decide_eq_true c35
                      clear c35
                      by_cases c36 : a2 = true
                      · subst c36
                        have H1 : (if (rd l1_5 x7_2) = 0 then (patchbaylaw02_same.l0 k2 true (wrap64 (x7_2 + 1)) a0_0 a0_1 a0_2 a0_3 a0_4 l0_5 a1_0 a1_1 a1_2 a1_3 a1_4 l1_5) else (some false)) = some r := by rw [if_pos rfl] at H; exact H
                        clear H
                        have H := H1
                        clear H1
                        by_cases c37 : (rd l1_5 x7_2) = 0
                        · rw [if_pos c37] at H
                          have c37b0 : ((rd l1_5 x7_2) == 0) = true := beq_iff_eq.mpr c37
                          have c37b1 : ((rd l1_5 x7_2) != 0) = false := bne_eq_false_iff_eq.mpr c37
                          clear c37
                          have H' := Aside0.mk H
                          clear H
                          have hnb38 := NB235_234.out
                          have hnc38 := NB234_235.out
                          have hcz39_0 : wr.cell? ⟨gb235, 0, none⟩ = some (.int .u64 a1_0) := (blk_cell BK235.out 0).trans rfl
                          have hcz39_1 : wr.cell? ⟨gb235, 1, none⟩ = some (.int .u64 a1_1) := (blk_cell BK235.out 1).trans rfl
                          have hcz39_2 : wr.cell? ⟨gb235, 2, none⟩ = some (.bool a1_2) := (blk_cell BK235.out 2).trans rfl
                          have hcz39_3 : wr.cell? ⟨gb235, 3, none⟩ = some (.int .u16 a1_3) := (blk_cell BK235.out 3).trans rfl
                          have hcz39_4 : wr.cell? ⟨gb235, 4, none⟩ = some (.int .u16 a1_4) := (blk_cell BK235.out 4).trans rfl
                          have hcz39_5 : wr.cell? ⟨gb235, 5, none⟩ = some (.slice A1_5 l1_5.length c1_5) := (blk_cell BK235.out 5).trans rfl
                          have hfz39_0 := blk_frozen BK235.out 0
                          have hfz39_1 := blk_frozen BK235.out 1
                          have hfz39_2 := blk_frozen BK235.out 2
                          have hfz39_3 := blk_frozen BK235.out 3
                          have hfz39_4 := blk_frozen BK235.out 4
                          have hfz39_5 := blk_frozen BK235.out 5
                          have hcz40_0 : wr.cell? ⟨gb234, 0, none⟩ = some (.int .u64 a0_0) := (blk_cell BK234.out 0).trans rfl
                          have hcz40_1 : wr.cell? ⟨gb234, 1, none⟩ = some (.int .u64 a0_1) := (blk_cell BK234.out 1).trans rfl
                          have hcz40_2 : wr.cell? ⟨gb234, 2, none⟩ = some (.bool a0_2) := (blk_cell BK234.out 2).trans rfl
                          have hcz40_3 : wr.cell? ⟨gb234, 3, none⟩ = some (.int .u16 a0_3) := (blk_cell BK234.out 3).trans rfl
                          have hcz40_4 : wr.cell? ⟨gb234, 4, none⟩ = some (.int .u16 a0_4) := (blk_cell BK234.out 4).trans rfl
                          have hcz40_5 : wr.cell? ⟨gb234, 5, none⟩ = some (.slice A0_5 l0_5.length c0_5) := (blk_cell BK234.out 5).trans rfl
                          have hfz40_0 := blk_frozen BK234.out 0
                          have hfz40_1 := blk_frozen BK234.out 1
                          have hfz40_2 := blk_frozen BK234.out 2
                          have hfz40_3 := blk_frozen BK234.out 3
                          have hfz40_4 := blk_frozen BK234.out 4
                          have hfz40_5 := blk_frozen BK234.out 5
                          have p236 : 0 ≤ (x7_2 : Int) := of_decide_eq_true (by first | (with_reducible assumption) | assumption)
                          have q236 : x7_2 < (l0_5.length : Int) := of_decide_eq_true (by first | (with_reducible assumption) | assumption)
                          obtain ⟨ad236, e236, hx236_0⟩ := Kd.at_int HR0_5.out x7_2 p236 q236
                          cases e236
                          replace hx236_0 := (HB.out.cell (World.block_lt_of_cell? w _ hx236_0)).trans hx236_0
                          replace p236 := eq_true p236
                          replace q236 := eq_true q236
                          have p237 : 0 ≤ (x7_2 : Int) := of_decide_eq_true (by first | (with_reducible assumption) | assumption)
                          have q237 : x7_2 < (l1_5.length : Int) := of_decide_eq_true (by first | (with_reducible assumption) | assumption)
                          obtain ⟨ad237, e237, hx237_0⟩ := Kd.at_int HR1_5.out x7_2 p237 q237
                          cases e237
                          replace hx237_0 := (HB.out.cell (World.block_lt_of_cell? w _ hx237_0)).trans hx237_0
                          replace p237 := eq_true p237
                          replace q237 := eq_true q237
                          have p238 : 0 ≤ (x7_2 : Int) := of_decide_eq_true (by first | (with_reducible assumption) | assumption)
                          have q238 : x7_2 < (l1_5.length : Int) := of_decide_eq_true (by first | (with_reducible assumption) | assumption)
                          obtain ⟨ad238, e238, hx238_0⟩ := Kd.at_int HR1_5.out x7_2 p238 q238
                          obtain rfl : ad237 = ad238 := (by injection e238)
                          replace hx238_0 := (HB.out.cell (World.block_lt_of_cell? w _ hx238_0)).trans hx238_0
                          replace p238 := eq_true p238
                          replace q238 := eq_true q238
                          go_wp2
                          repeat (go_quiet (fail); try go_wp2)
                          go_roundg k2
                          case measure => have := HJ3.out; have := HK2.out; omega
                          case rel => exact ⟨(wrap64 (x7_2 + 1)), (by first | rfl | (simp; done) | (simp [*]; done)), H', ⟨by have := HJ3.out; have := HK2.out; omega⟩, ⟨by (with_reducible repeat (first | refine blk_drewN ?_ _ | refine blk_drew ?_ | refine blk_alloc ?_ _)); exact BK234.out⟩, ⟨by (with_reducible repeat (first | refine blk_drewN ?_ _ | refine blk_drew ?_ | refine blk_alloc ?_ _)); exact BK235.out⟩, ⟨by repeat (first | (with_reducible first | exact HB.out | apply below_alloc | apply pw_below_drewN | apply below_drew1 | refine below_set ?_ GE234.out | refine below_set ?_ GE235.out) | exact HB.out)⟩⟩
                        · rw [if_neg c37] at H
                          have c37b0 : ((rd l1_5 x7_2) == 0) = false := beq_eq_false_iff_ne.mpr c37
                          have c37b1 : ((rd l1_5 x7_2) != 0) = true := bne_iff_ne.mpr c37
                          obtain rfl := Option.some.inj H
                          have hnb41 := NB235_234.out
                          have hnc41 := NB234_235.out
                          have hcz42_0 : wr.cell? ⟨gb235, 0, none⟩ = some (.int .u64 a1_0) := (blk_cell BK235.out 0).trans rfl
                          have hcz42_1 : wr.cell? ⟨gb235, 1, none⟩ = some (.int .u64 a1_1) := (blk_cell BK235.out 1).trans rfl
                          have hcz42_2 : wr.cell? ⟨gb235, 2, none⟩ = some (.bool a1_2) := (blk_cell BK235.out 2).trans rfl
                          have hcz42_3 : wr.cell? ⟨gb235, 3, none⟩ = some (.int .u16 a1_3) := (blk_cell BK235.out 3).trans rfl
                          have hcz42_4 : wr.cell? ⟨gb235, 4, none⟩ = some (.int .u16 a1_4) := (blk_cell BK235.out 4).trans rfl
                          have hcz42_5 : wr.cell? ⟨gb235, 5, none⟩ = some (.slice A1_5 l1_5.length c1_5) := (blk_cell BK235.out 5).trans rfl
                          have hfz42_0 := blk_frozen BK235.out 0
                          have hfz42_1 := blk_frozen BK235.out 1
                          have hfz42_2 := blk_frozen BK235.out 2
                          have hfz42_3 := blk_frozen BK235.out 3
                          have hfz42_4 := blk_frozen BK235.out 4
                          have hfz42_5 := blk_frozen BK235.out 5
                          have hcz43_0 : wr.cell? ⟨gb234, 0, none⟩ = some (.int .u64 a0_0) := (blk_cell BK234.out 0).trans rfl
                          have hcz43_1 : wr.cell? ⟨gb234, 1, none⟩ = some (.int .u64 a0_1) := (blk_cell BK234.out 1).trans rfl
                          have hcz43_2 : wr.cell? ⟨gb234, 2, none⟩ = some (.bool a0_2) := (blk_cell BK234.out 2).trans rfl
                          have hcz43_3 : wr.cell? ⟨gb234, 3, none⟩ = some (.int .u16 a0_3) := (blk_cell BK234.out 3).trans rfl
                          have hcz43_4 : wr.cell? ⟨gb234, 4, none⟩ = some (.int .u16 a0_4) := (blk_cell BK234.out 4).trans rfl
                          have hcz43_5 : wr.cell? ⟨gb234, 5, none⟩ = some (.slice A0_5 l0_5.length c0_5) := (blk_cell BK234.out 5).trans rfl
                          have hfz43_0 := blk_frozen BK234.out 0
                          have hfz43_1 := blk_frozen BK234.out 1
                          have hfz43_2 := blk_frozen BK234.out 2
                          have hfz43_3 := blk_frozen BK234.out 3
                          have hfz43_4 := blk_frozen BK234.out 4
                          have hfz43_5 := blk_frozen BK234.out 5
                          have p236 : 0 ≤ (x7_2 : Int) := of_decide_eq_true (by first | (with_reducible assumption) | assumption)
                          have q236 : x7_2 < (l0_5.length : Int) := of_decide_eq_true (by first | (with_reducible assumption) | assumption)
                          obtain ⟨ad236, e236, hx236_0⟩ := Kd.at_int HR0_5.out x7_2 p236 q236
                          cases e236
                          replace hx236_0 := (HB.out.cell (World.block_lt_of_cell? w _ hx236_0)).trans hx236_0
                          replace p236 := eq_true p236
                          replace q236 := eq_true q236
                          have p237 : 0 ≤ (x7_2 : Int) := of_decide_eq_true (by first | (with_reducible assumption) | assumption)
                          have q237 : x7_2 < (l1_5.length : Int) := of_decide_eq_true (by first | (with_reducible assumption) | assumption)
                          obtain ⟨ad237, e237, hx237_0⟩ := Kd.at_int HR1_5.out x7_2 p237 q237
                          cases e237
                          replace hx237_0 := (HB.out.cell (World.block_lt_of_cell? w _ hx237_0)).trans hx237_0
                          replace p237 := eq_true p237
                          replace q237 := eq_true q237
                          have p238 : 0 ≤ (x7_2 : Int) := of_decide_eq_true (by first | (with_reducible assumption) | assumption)
                          have q238 : x7_2 < (l1_5.length : Int) := of_decide_eq_true (by first | (with_reducible assumption) | assumption)
                          obtain ⟨ad238, e238, hx238_0⟩ := Kd.at_int HR1_5.out x7_2 p238 q238
                          obtain rfl : ad237 = ad238 := (by injection e238)
                          replace hx238_0 := (HB.out.cell (World.block_lt_of_cell? w _ hx238_0)).trans hx238_0
                          replace p238 := eq_true p238
                          replace q238 := eq_true q238
                          go_wp2
                          repeat (go_quiet (fail); try go_wp2)
                          go_ret
                          exact ⟨by first | rfl | (simp [errW_none, errW_some] <;> rfl) | (simp [*, errW_none, errW_some] <;> rfl), by repeat (first | (with_reducible first | exact HB.out | apply below_alloc | apply pw_below_drewN | apply below_drew1 | refine below_set ?_ GE234.out | refine below_set ?_ GE235.out) | exact HB.out)⟩
                      · replace c36 := Bool.eq_false_iff.mpr c36
                        subst c36
                        have H1 : (some false) = some r := by rw [if_neg (show ¬ (false = true) by decide)] at H; exact H
                        clear H
                        have H := H1
                        clear H1
                        obtain rfl := Option.some.inj H
                        have hnb44 := NB235_234.out
                        have hnc44 := NB234_235.out
                        have hcz45_0 : wr.cell? ⟨gb235, 0, none⟩ = some (.int .u64 a1_0) := (blk_cell BK235.out 0).trans rfl
                        have hcz45_1 : wr.cell? ⟨gb235, 1, none⟩ = some (.int .u64 a1_1) := (blk_cell BK235.out 1).trans rfl
                        have hcz45_2 : wr.cell? ⟨gb235, 2, none⟩ = some (.bool a1_2) := (blk_cell BK235.out 2).trans rfl
                        have hcz45_3 : wr.cell? ⟨gb235, 3, none⟩ = some (.int .u16 a1_3) := (blk_cell BK235.out 3).trans rfl
                        have hcz45_4 : wr.cell? ⟨gb235, 4, none⟩ = some (.int .u16 a1_4) := (blk_cell BK235.out 4).trans rfl
                        have hcz45_5 : wr.cell? ⟨gb235, 5, none⟩ = some (.slice A1_5 l1_5.length c1_5) := (blk_cell BK235.out 5).trans rfl
                        have hfz45_0 := blk_frozen BK235.out 0
                        have hfz45_1 := blk_frozen BK235.out 1
                        have hfz45_2 := blk_frozen BK235.out 2
                        have hfz45_3 := blk_frozen BK235.out 3
                        have hfz45_4 := blk_frozen BK235.out 4
                        have hfz45_5 := blk_frozen BK235.out 5
                        have hcz46_0 : wr.cell? ⟨gb234, 0, none⟩ = some (.int .u64 a0_0) := (blk_cell BK234.out 0).trans rfl
                        have hcz46_1 : wr.cell? ⟨gb234, 1, none⟩ = some (.int .u64 a0_1) := (blk_cell BK234.out 1).trans rfl
                        have hcz46_2 : wr.cell? ⟨gb234, 2, none⟩ = some (.bool a0_2) := (blk_cell BK234.out 2).trans rfl
                        have hcz46_3 : wr.cell? ⟨gb234, 3, none⟩ = some (.int .u16 a0_3) := (blk_cell BK234.out 3).trans rfl
                        have hcz46_4 : wr.cell? ⟨gb234, 4, none⟩ = some (.int .u16 a0_4) := (blk_cell BK234.out 4).trans rfl
                        have hcz46_5 : wr.cell? ⟨gb234, 5, none⟩ = some (.slice A0_5 l0_5.length c0_5) := (blk_cell BK234.out 5).trans rfl
                        have hfz46_0 := blk_frozen BK234.out 0
                        have hfz46_1 := blk_frozen BK234.out 1
                        have hfz46_2 := blk_frozen BK234.out 2
                        have hfz46_3 := blk_frozen BK234.out 3
                        have hfz46_4 := blk_frozen BK234.out 4
                        have hfz46_5 := blk_frozen BK234.out 5
                        have p236 : 0 ≤ (x7_2 : Int) := of_decide_eq_true (by first | (with_reducible assumption) | assumption)
                        have q236 : x7_2 < (l0_5.length : Int) := of_decide_eq_true (by first | (with_reducible assumption) | assumption)
                        obtain ⟨ad236, e236, hx236_0⟩ := Kd.at_int HR0_5.out x7_2 p236 q236
                        cases e236
                        replace hx236_0 := (HB.out.cell (World.block_lt_of_cell? w _ hx236_0)).trans hx236_0
                        replace p236 := eq_true p236
                        replace q236 := eq_true q236
                        have p237 : 0 ≤ (x7_2 : Int) := of_decide_eq_true (by first | (with_reducible assumption) | assumption)
                        have q237 : x7_2 < (l1_5.length : Int) := of_decide_eq_true (by first | (with_reducible assumption) | assumption)
                        obtain ⟨ad237, e237, hx237_0⟩ := Kd.at_int HR1_5.out x7_2 p237 q237
                        cases e237
                        replace hx237_0 := (HB.out.cell (World.block_lt_of_cell? w _ hx237_0)).trans hx237_0
                        replace p237 := eq_true p237
                        replace q237 := eq_true q237
                        go_wp2
                        repeat (go_quiet (fail); try go_wp2)
                        go_ret
                        exact ⟨by first | rfl | (simp [errW_none, errW_some] <;> rfl) | (simp [*, errW_none, errW_some] <;> rfl), by repeat (first | (with_reducible first | exact HB.out | apply below_alloc | apply pw_below_drewN | apply below_drew1 | refine below_set ?_ GE234.out | refine below_set ?_ GE235.out) | exact HB.out)⟩
                    · rw [if_neg c35] at H
                      have c35b0 : decide ((l0_5.length : Int) ≤ x7_2) = false := decide_eq_false c35
                      clear c35
                      have H' := Aside0.mk H
                      clear H
                      have hnb47 := NB235_234.out
                      have hnc47 := NB234_235.out
                      have hcz48_0 : wr.cell? ⟨gb235, 0, none⟩ = some (.int .u64 a1_0) := (blk_cell BK235.out 0).trans rfl
                      have hcz48_1 : wr.cell? ⟨gb235, 1, none⟩ = some (.int .u64 a1_1) := (blk_cell BK235.out 1).trans rfl
                      have hcz48_2 : wr.cell? ⟨gb235, 2, none⟩ = some (.bool a1_2) := (blk_cell BK235.out 2).trans rfl
                      have hcz48_3 : wr.cell? ⟨gb235, 3, none⟩ = some (.int .u16 a1_3) := (blk_cell BK235.out 3).trans rfl
                      have hcz48_4 : wr.cell? ⟨gb235, 4, none⟩ = some (.int .u16 a1_4) := (blk_cell BK235.out 4).trans rfl
                      have hcz48_5 : wr.cell? ⟨gb235, 5, none⟩ = some (.slice A1_5 l1_5.length c1_5) := (blk_cell BK235.out 5).trans rfl
                      have hfz48_0 := blk_frozen BK235.out 0
                      have hfz48_1 := blk_frozen BK235.out 1
                      have hfz48_2 := blk_frozen BK235.out 2
                      have hfz48_3 := blk_frozen BK235.out 3
                      have hfz48_4 := blk_frozen BK235.out 4
                      have hfz48_5 := blk_frozen BK235.out 5
                      have hcz49_0 : wr.cell? ⟨gb234, 0, none⟩ = some (.int .u64 a0_0) := (blk_cell BK234.out 0).trans rfl
                      have hcz49_1 : wr.cell? ⟨gb234, 1, none⟩ = some (.int .u64 a0_1) := (blk_cell BK234.out 1).trans rfl
                      have hcz49_2 : wr.cell? ⟨gb234, 2, none⟩ = some (.bool a0_2) := (blk_cell BK234.out 2).trans rfl
                      have hcz49_3 : wr.cell? ⟨gb234, 3, none⟩ = some (.int .u16 a0_3) := (blk_cell BK234.out 3).trans rfl
                      have hcz49_4 : wr.cell? ⟨gb234, 4, none⟩ = some (.int .u16 a0_4) := (blk_cell BK234.out 4).trans rfl
                      have hcz49_5 : wr.cell? ⟨gb234, 5, none⟩ = some (.slice A0_5 l0_5.length c0_5) := (blk_cell BK234.out 5).trans rfl
                      have hfz49_0 := blk_frozen BK234.out 0
                      have hfz49_1 := blk_frozen BK234.out 1
                      have hfz49_2 := blk_frozen BK234.out 2
                      have hfz49_3 := blk_frozen BK234.out 3
                      have hfz49_4 := blk_frozen BK234.out 4
                      have hfz49_5 := blk_frozen BK234.out 5
                      have p236 : 0 ≤ (x7_2 : Int) := of_decide_eq_true (by first | (with_reducible assumption) | assumption)
                      have q236 : x7_2 < (l0_5.length : Int) := of_decide_eq_true (by first | (with_reducible assumption) | assumption)
                      obtain ⟨ad236, e236, hx236_0⟩ := Kd.at_int HR0_5.out x7_2 p236 q236
                      cases e236
                      replace hx236_0 := (HB.out.cell (World.block_lt_of_cell? w _ hx236_0)).trans hx236_0
                      replace p236 := eq_true p236
                      replace q236 := eq_true q236
                      have p237 : 0 ≤ (x7_2 : Int) := of_decide_eq_true (by first | (with_reducible assumption) | assumption)
                      have q237 : x7_2 < (l1_5.length : Int) := of_decide_eq_true (by first | (with_reducible assumption) | assumption)
                      obtain ⟨ad237, e237, hx237_0⟩ := Kd.at_int HR1_5.out x7_2 p237 q237
                      cases e237
                      replace hx237_0 := (HB.out.cell (World.block_lt_of_cell? w _ hx237_0)).trans hx237_0
                      replace p237 := eq_true p237
                      replace q237 := eq_true q237
                      go_wp2
                      repeat (go_quiet (fail); try go_wp2)
                      go_roundg k2
                      case measure => have := HJ3.out; have := HK2.out; omega
                      case rel => exact ⟨(wrap64 (x7_2 + 1)), (by first | rfl | (simp; done) | (simp [*]; done)), H', ⟨by have := HJ3.out; have := HK2.out; omega⟩, ⟨by (with_reducible repeat (first | refine blk_drewN ?_ _ | refine blk_drew ?_ | refine blk_alloc ?_ _)); exact BK234.out⟩, ⟨by (with_reducible repeat (first | refine blk_drewN ?_ _ | refine blk_drew ?_ | refine blk_alloc ?_ _)); exact BK235.out⟩, ⟨by repeat (first | (with_reducible first | exact HB.out | apply below_alloc | apply pw_below_drewN | apply below_drew1 | refine below_set ?_ GE234.out | refine below_set ?_ GE235.out) | exact HB.out)⟩⟩
                  · rw [if_neg c34] at H
                    have c34b0 : ((rd l0_5 x7_2) == (rd l1_5 x7_2)) = false := beq_eq_false_iff_ne.mpr c34
                    have c34b1 : ((rd l0_5 x7_2) != (rd l1_5 x7_2)) = true := bne_iff_ne.mpr c34
                    obtain rfl := Option.some.inj H
                    have hnb50 := NB235_234.out
                    have hnc50 := NB234_235.out
                    have hcz51_0 : wr.cell? ⟨gb235, 0, none⟩ = some (.int .u64 a1_0) := (blk_cell BK235.out 0).trans rfl
                    have hcz51_1 : wr.cell? ⟨gb235, 1, none⟩ = some (.int .u64 a1_1) := (blk_cell BK235.out 1).trans rfl
                    have hcz51_2 : wr.cell? ⟨gb235, 2, none⟩ = some (.bool a1_2) := (blk_cell BK235.out 2).trans rfl
                    have hcz51_3 : wr.cell? ⟨gb235, 3, none⟩ = some (.int .u16 a1_3) := (blk_cell BK235.out 3).trans rfl
                    have hcz51_4 : wr.cell? ⟨gb235, 4, none⟩ = some (.int .u16 a1_4) := (blk_cell BK235.out 4).trans rfl
                    have hcz51_5 : wr.cell? ⟨gb235, 5, none⟩ = some (.slice A1_5 l1_5.length c1_5) := (blk_cell BK235.out 5).trans rfl
                    have hfz51_0 := blk_frozen BK235.out 0
                    have hfz51_1 := blk_frozen BK235.out 1
                    have hfz51_2 := blk_frozen BK235.out 2
                    have hfz51_3 := blk_frozen BK235.out 3
                    have hfz51_4 := blk_frozen BK235.out 4
                    have hfz51_5 := blk_frozen BK235.out 5
                    have hcz52_0 : wr.cell? ⟨gb234, 0, none⟩ = some (.int .u64 a0_0) := (blk_cell BK234.out 0).trans rfl
                    have hcz52_1 : wr.cell? ⟨gb234, 1, none⟩ = some (.int .u64 a0_1) := (blk_cell BK234.out 1).trans rfl
                    have hcz52_2 : wr.cell? ⟨gb234, 2, none⟩ = some (.bool a0_2) := (blk_cell BK234.out 2).trans rfl
                    have hcz52_3 : wr.cell? ⟨gb234, 3, none⟩ = some (.int .u16 a0_3) := (blk_cell BK234.out 3).trans rfl
                    have hcz52_4 : wr.cell? ⟨gb234, 4, none⟩ = some (.int .u16 a0_4) := (blk_cell BK234.out 4).trans rfl
                    have hcz52_5 : wr.cell? ⟨gb234, 5, none⟩ = some (.slice A0_5 l0_5.length c0_5) := (blk_cell BK234.out 5).trans rfl
                    have hfz52_0 := blk_frozen BK234.out 0
                    have hfz52_1 := blk_frozen BK234.out 1
                    have hfz52_2 := blk_frozen BK234.out 2
                    have hfz52_3 := blk_frozen BK234.out 3
                    have hfz52_4 := blk_frozen BK234.out 4
                    have hfz52_5 := blk_frozen BK234.out 5
                    have p236 : 0 ≤ (x7_2 : Int) := of_decide_eq_true (by first | (with_reducible assumption) | assumption)
                    have q236 : x7_2 < (l0_5.length : Int) := of_decide_eq_true (by first | (with_reducible assumption) | assumption)
                    obtain ⟨ad236, e236, hx236_0⟩ := Kd.at_int HR0_5.out x7_2 p236 q236
                    cases e236
                    replace hx236_0 := (HB.out.cell (World.block_lt_of_cell? w _ hx236_0)).trans hx236_0
                    replace p236 := eq_true p236
                    replace q236 := eq_true q236
                    have p237 : 0 ≤ (x7_2 : Int) := of_decide_eq_true (by first | (with_reducible assumption) | assumption)
                    have q237 : x7_2 < (l1_5.length : Int) := of_decide_eq_true (by first | (with_reducible assumption) | assumption)
                    obtain ⟨ad237, e237, hx237_0⟩ := Kd.at_int HR1_5.out x7_2 p237 q237
                    cases e237
                    replace hx237_0 := (HB.out.cell (World.block_lt_of_cell? w _ hx237_0)).trans hx237_0
                    replace p237 := eq_true p237
                    replace q237 := eq_true q237
                    go_wp2
                    repeat (go_quiet (fail); try go_wp2)
                    go_ret
                    exact ⟨by first | rfl | (simp [errW_none, errW_some] <;> rfl) | (simp [*, errW_none, errW_some] <;> rfl), by repeat (first | (with_reducible first | exact HB.out | apply below_alloc | apply pw_below_drewN | apply below_drew1 | refine below_set ?_ GE234.out | refine below_set ?_ GE235.out) | exact HB.out)⟩
                · rw [if_neg c33] at H
                  exact absurd H (by simp)
              · rw [if_neg c32] at H
                have c32b0 : decide (x7_2 < (l0_5.length : Int)) = false := decide_eq_false c32
                clear c32
                by_cases c53 : x7_2 ≥ (l0_5.length : Int)
                · rw [if_pos c53] at H
                  have c53b0 : decide ((l0_5.length : Int) ≤ x7_2) = true := decide_eq_true c53
                  clear c53
                  by_cases c54 : a2 = true
                  · subst c54
                    have H1 : (if 0 ≤ x7_2 then (if (rd l1_5 x7_2) = 0 then (patchbaylaw02_same.l0 k2 true (wrap64 (x7_2 + 1)) a0_0 a0_1 a0_2 a0_3 a0_4 l0_5 a1_0 a1_1 a1_2 a1_3 a1_4 l1_5) else (some false)) else (none)) = some r := by rw [if_pos rfl] at H; exact H
                    clear H
                    have H := H1
                    clear H1
                    by_cases c55 : 0 ≤ x7_2
                    · rw [if_pos c55] at H
                      have c55b0 : decide (0 ≤ x7_2) = true := decide_eq_true c55
                      clear c55
                      by_cases c56 : (rd l1_5 x7_2) = 0
                      · rw [if_pos c56] at H
                        have c56b0 : ((rd l1_5 x7_2) == 0) = true := beq_iff_eq.mpr c56
                        have c56b1 : ((rd l1_5 x7_2) != 0) = false := bne_eq_false_iff_eq.mpr c56
                        clear c56
                        have H' := Aside0.mk H
                        clear H
                        have hnb57 := NB235_234.out
                        have hnc57 := NB234_235.out
                        have hcz58_0 : wr.cell? ⟨gb235, 0, none⟩ = some (.int .u64 a1_0) := (blk_cell BK235.out 0).trans rfl
                        have hcz58_1 : wr.cell? ⟨gb235, 1, none⟩ = some (.int .u64 a1_1) := (blk_cell BK235.out 1).trans rfl
                        have hcz58_2 : wr.cell? ⟨gb235, 2, none⟩ = some (.bool a1_2) := (blk_cell BK235.out 2).trans rfl
                        have hcz58_3 : wr.cell? ⟨gb235, 3, none⟩ = some (.int .u16 a1_3) := (blk_cell BK235.out 3).trans rfl
                        have hcz58_4 : wr.cell? ⟨gb235, 4, none⟩ = some (.int .u16 a1_4) := (blk_cell BK235.out 4).trans rfl
                        have hcz58_5 : wr.cell? ⟨gb235, 5, none⟩ = some (.slice A1_5 l1_5.length c1_5) := (blk_cell BK235.out 5).trans rfl
                        have hfz58_0 := blk_frozen BK235.out 0
                        have hfz58_1 := blk_frozen BK235.out 1
                        have hfz58_2 := blk_frozen BK235.out 2
                        have hfz58_3 := blk_frozen BK235.out 3
                        have hfz58_4 := blk_frozen BK235.out 4
                        have hfz58_5 := blk_frozen BK235.out 5
                        have hcz59_0 : wr.cell? ⟨gb234, 0, none⟩ = some (.int .u64 a0_0) := (blk_cell BK234.out 0).trans rfl
                        have hcz59_1 : wr.cell? ⟨gb234, 1, none⟩ = some (.int .u64 a0_1) := (blk_cell BK234.out 1).trans rfl
                        have hcz59_2 : wr.cell? ⟨gb234, 2, none⟩ = some (.bool a0_2) := (blk_cell BK234.out 2).trans rfl
                        have hcz59_3 : wr.cell? ⟨gb234, 3, none⟩ = some (.int .u16 a0_3) := (blk_cell BK234.out 3).trans rfl
                        have hcz59_4 : wr.cell? ⟨gb234, 4, none⟩ = some (.int .u16 a0_4) := (blk_cell BK234.out 4).trans rfl
                        have hcz59_5 : wr.cell? ⟨gb234, 5, none⟩ = some (.slice A0_5 l0_5.length c0_5) := (blk_cell BK234.out 5).trans rfl
                        have hfz59_0 := blk_frozen BK234.out 0
                        have hfz59_1 := blk_frozen BK234.out 1
                        have hfz59_2 := blk_frozen BK234.out 2
                        have hfz59_3 := blk_frozen BK234.out 3
                        have hfz59_4 := blk_frozen BK234.out 4
                        have hfz59_5 := blk_frozen BK234.out 5
                        have p239 : 0 ≤ (x7_2 : Int) := of_decide_eq_true (by first | (with_reducible assumption) | assumption)
                        have q239 : x7_2 < (l1_5.length : Int) := of_decide_eq_true (by first | (with_reducible assumption) | assumption)
                        obtain ⟨ad239, e239, hx239_0⟩ := Kd.at_int HR1_5.out x7_2 p239 q239
                        cases e239
                        replace hx239_0 := (HB.out.cell (World.block_lt_of_cell? w _ hx239_0)).trans hx239_0
                        replace p239 := eq_true p239
                        replace q239 := eq_true q239
                        go_wp2
                        repeat (go_quiet (fail); try go_wp2)
                        go_roundg k2
                        case measure => have := HJ3.out; have := HK2.out; omega
                        case rel => exact ⟨(wrap64 (x7_2 + 1)), (by first | rfl | (simp; done) | (simp [*]; done)), H', ⟨by have := HJ3.out; have := HK2.out; omega⟩, ⟨by (with_reducible repeat (first | refine blk_drewN ?_ _ | refine blk_drew ?_ | refine blk_alloc ?_ _)); exact BK234.out⟩, ⟨by (with_reducible repeat (first | refine blk_drewN ?_ _ | refine blk_drew ?_ | refine blk_alloc ?_ _)); exact BK235.out⟩, ⟨by repeat (first | (with_reducible first | exact HB.out | apply below_alloc | apply pw_below_drewN | apply below_drew1 | refine below_set ?_ GE234.out | refine below_set ?_ GE235.out) | exact HB.out)⟩⟩
                      · rw [if_neg c56] at H
                        have c56b0 : ((rd l1_5 x7_2) == 0) = false := beq_eq_false_iff_ne.mpr c56
                        have c56b1 : ((rd l1_5 x7_2) != 0) = true := bne_iff_ne.mpr c56
                        obtain rfl := Option.some.inj H
                        have hnb60 := NB235_234.out
                        have hnc60 := NB234_235.out
                        have hcz61_0 : wr.cell? ⟨gb235, 0, none⟩ = some (.int .u64 a1_0) := (blk_cell BK235.out 0).trans rfl
                        have hcz61_1 : wr.cell? ⟨gb235, 1, none⟩ = some (.int .u64 a1_1) := (blk_cell BK235.out 1).trans rfl
                        have hcz61_2 : wr.cell? ⟨gb235, 2, none⟩ = some (.bool a1_2) := (blk_cell BK235.out 2).trans rfl
                        have hcz61_3 : wr.cell? ⟨gb235, 3, none⟩ = some (.int .u16 a1_3) := (blk_cell BK235.out 3).trans rfl
                        have hcz61_4 : wr.cell? ⟨gb235, 4, none⟩ = some (.int .u16 a1_4) := (blk_cell BK235.out 4).trans rfl
                        have hcz61_5 : wr.cell? ⟨gb235, 5, none⟩ = some (.slice A1_5 l1_5.length c1_5) := (blk_cell BK235.out 5).trans rfl
                        have hfz61_0 := blk_frozen BK235.out 0
                        have hfz61_1 := blk_frozen BK235.out 1
                        have hfz61_2 := blk_frozen BK235.out 2
                        have hfz61_3 := blk_frozen BK235.out 3
                        have hfz61_4 := blk_frozen BK235.out 4
                        have hfz61_5 := blk_frozen BK235.out 5
                        have hcz62_0 : wr.cell? ⟨gb234, 0, none⟩ = some (.int .u64 a0_0) := (blk_cell BK234.out 0).trans rfl
                        have hcz62_1 : wr.cell? ⟨gb234, 1, none⟩ = some (.int .u64 a0_1) := (blk_cell BK234.out 1).trans rfl
                        have hcz62_2 : wr.cell? ⟨gb234, 2, none⟩ = some (.bool a0_2) := (blk_cell BK234.out 2).trans rfl
                        have hcz62_3 : wr.cell? ⟨gb234, 3, none⟩ = some (.int .u16 a0_3) := (blk_cell BK234.out 3).trans rfl
                        have hcz62_4 : wr.cell? ⟨gb234, 4, none⟩ = some (.int .u16 a0_4) := (blk_cell BK234.out 4).trans rfl
                        have hcz62_5 : wr.cell? ⟨gb234, 5, none⟩ = some (.slice A0_5 l0_5.length c0_5) := (blk_cell BK234.out 5).trans rfl
                        have hfz62_0 := blk_frozen BK234.out 0
                        have hfz62_1 := blk_frozen BK234.out 1
                        have hfz62_2 := blk_frozen BK234.out 2
                        have hfz62_3 := blk_frozen BK234.out 3
                        have hfz62_4 := blk_frozen BK234.out 4
                        have hfz62_5 := blk_frozen BK234.out 5
                        have p239 : 0 ≤ (x7_2 : Int) := of_decide_eq_true (by first | (with_reducible assumption) | assumption)
                        have q239 : x7_2 < (l1_5.length : Int) := of_decide_eq_true (by first | (with_reducible assumption) | assumption)
                        obtain ⟨ad239, e239, hx239_0⟩ := Kd.at_int HR1_5.out x7_2 p239 q239
                        cases e239
                        replace hx239_0 := (HB.out.cell (World.block_lt_of_cell? w _ hx239_0)).trans hx239_0
                        replace p239 := eq_true p239
                        replace q239 := eq_true q239
                        go_wp2
                        repeat (go_quiet (fail); try go_wp2)
                        go_ret
                        exact ⟨by first | rfl | (simp [errW_none, errW_some] <;> rfl) | (simp [*, errW_none, errW_some] <;> rfl), by repeat (first | (with_reducible first | exact HB.out | apply below_alloc | apply pw_below_drewN | apply below_drew1 | refine below_set ?_ GE234.out | refine below_set ?_ GE235.out) | exact HB.out)⟩
                    · rw [if_neg c55] at H
                      exact absurd H (by simp)
                  · replace c54 := Bool.eq_false_iff.mpr c54
                    subst c54
                    have H1 : (some false) = some r := by rw [if_neg (show ¬ (false = true) by decide)] at H; exact H
                    clear H
                    have H := H1
                    clear H1
                    obtain rfl := Option.some.inj H
                    have hnb63 := NB235_234.out
                    have hnc63 := NB234_235.out
                    have hcz64_0 : wr.cell? ⟨gb235, 0, none⟩ = some (.int .u64 a1_0) := (blk_cell BK235.out 0).trans rfl
                    have hcz64_1 : wr.cell? ⟨gb235, 1, none⟩ = some (.int .u64 a1_1) := (blk_cell BK235.out 1).trans rfl
                    have hcz64_2 : wr.cell? ⟨gb235, 2, none⟩ = some (.bool a1_2) := (blk_cell BK235.out 2).trans rfl
                    have hcz64_3 : wr.cell? ⟨gb235, 3, none⟩ = some (.int .u16 a1_3) := (blk_cell BK235.out 3).trans rfl
                    have hcz64_4 : wr.cell? ⟨gb235, 4, none⟩ = some (.int .u16 a1_4) := (blk_cell BK235.out 4).trans rfl
                    have hcz64_5 : wr.cell? ⟨gb235, 5, none⟩ = some (.slice A1_5 l1_5.length c1_5) := (blk_cell BK235.out 5).trans rfl
                    have hfz64_0 := blk_frozen BK235.out 0
                    have hfz64_1 := blk_frozen BK235.out 1
                    have hfz64_2 := blk_frozen BK235.out 2
                    have hfz64_3 := blk_frozen BK235.out 3
                    have hfz64_4 := blk_frozen BK235.out 4
                    have hfz64_5 := blk_frozen BK235.out 5
                    have hcz65_0 : wr.cell? ⟨gb234, 0, none⟩ = some (.int .u64 a0_0) := (blk_cell BK234.out 0).trans rfl
                    have hcz65_1 : wr.cell? ⟨gb234, 1, none⟩ = some (.int .u64 a0_1) := (blk_cell BK234.out 1).trans rfl
                    have hcz65_2 : wr.cell? ⟨gb234, 2, none⟩ = some (.bool a0_2) := (blk_cell BK234.out 2).trans rfl
                    have hcz65_3 : wr.cell? ⟨gb234, 3, none⟩ = some (.int .u16 a0_3) := (blk_cell BK234.out 3).trans rfl
                    have hcz65_4 : wr.cell? ⟨gb234, 4, none⟩ = some (.int .u16 a0_4) := (blk_cell BK234.out 4).trans rfl
                    have hcz65_5 : wr.cell? ⟨gb234, 5, none⟩ = some (.slice A0_5 l0_5.length c0_5) := (blk_cell BK234.out 5).trans rfl
                    have hfz65_0 := blk_frozen BK234.out 0
                    have hfz65_1 := blk_frozen BK234.out 1
                    have hfz65_2 := blk_frozen BK234.out 2
                    have hfz65_3 := blk_frozen BK234.out 3
                    have hfz65_4 := blk_frozen BK234.out 4
                    have hfz65_5 := blk_frozen BK234.out 5
                    go_wp2
                    repeat (go_quiet (fail); try go_wp2)
                    go_ret
                    exact ⟨by first | rfl | (simp [errW_none, errW_some] <;> rfl) | (simp [*, errW_none, errW_some] <;> rfl), by repeat (first | (with_reducible first | exact HB.out | apply below_alloc | apply pw_below_drewN | apply below_drew1 | refine below_set ?_ GE234.out | refine below_set ?_ GE235.out) | exact HB.out)⟩
                · rw [if_neg c53] at H
                  have c53b0 : decide ((l0_5.length : Int) ≤ x7_2) = false := decide_eq_false c53
                  clear c53
                  have H' := Aside0.mk H
                  clear H
                  have hnb66 := NB235_234.out
                  have hnc66 := NB234_235.out
                  have hcz67_0 : wr.cell? ⟨gb235, 0, none⟩ = some (.int .u64 a1_0) := (blk_cell BK235.out 0).trans rfl
                  have hcz67_1 : wr.cell? ⟨gb235, 1, none⟩ = some (.int .u64 a1_1) := (blk_cell BK235.out 1).trans rfl
                  have hcz67_2 : wr.cell? ⟨gb235, 2, none⟩ = some (.bool a1_2) := (blk_cell BK235.out 2).trans rfl
                  have hcz67_3 : wr.cell? ⟨gb235, 3, none⟩ = some (.int .u16 a1_3) := (blk_cell BK235.out 3).trans rfl
                  have hcz67_4 : wr.cell? ⟨gb235, 4, none⟩ = some (.int .u16 a1_4) := (blk_cell BK235.out 4).trans rfl
                  have hcz67_5 : wr.cell? ⟨gb235, 5, none⟩ = some (.slice A1_5 l1_5.length c1_5) := (blk_cell BK235.out 5).trans rfl
                  have hfz67_0 := blk_frozen BK235.out 0
                  have hfz67_1 := blk_frozen BK235.out 1
                  have hfz67_2 := blk_frozen BK235.out 2
                  have hfz67_3 := blk_frozen BK235.out 3
                  have hfz67_4 := blk_frozen BK235.out 4
                  have hfz67_5 := blk_frozen BK235.out 5
                  have hcz68_0 : wr.cell? ⟨gb234, 0, none⟩ = some (.int .u64 a0_0) := (blk_cell BK234.out 0).trans rfl
                  have hcz68_1 : wr.cell? ⟨gb234, 1, none⟩ = some (.int .u64 a0_1) := (blk_cell BK234.out 1).trans rfl
                  have hcz68_2 : wr.cell? ⟨gb234, 2, none⟩ = some (.bool a0_2) := (blk_cell BK234.out 2).trans rfl
                  have hcz68_3 : wr.cell? ⟨gb234, 3, none⟩ = some (.int .u16 a0_3) := (blk_cell BK234.out 3).trans rfl
                  have hcz68_4 : wr.cell? ⟨gb234, 4, none⟩ = some (.int .u16 a0_4) := (blk_cell BK234.out 4).trans rfl
                  have hcz68_5 : wr.cell? ⟨gb234, 5, none⟩ = some (.slice A0_5 l0_5.length c0_5) := (blk_cell BK234.out 5).trans rfl
                  have hfz68_0 := blk_frozen BK234.out 0
                  have hfz68_1 := blk_frozen BK234.out 1
                  have hfz68_2 := blk_frozen BK234.out 2
                  have hfz68_3 := blk_frozen BK234.out 3
                  have hfz68_4 := blk_frozen BK234.out 4
                  have hfz68_5 := blk_frozen BK234.out 5
                  go_wp2
                  repeat (go_quiet (fail); try go_wp2)
                  go_roundg k2
                  case measure => have := HJ3.out; have := HK2.out; omega
                  case rel => exact ⟨(wrap64 (x7_2 + 1)), (by first | rfl | (simp; done) | (simp [*]; done)), H', ⟨by have := HJ3.out; have := HK2.out; omega⟩, ⟨by (with_reducible repeat (first | refine blk_drewN ?_ _ | refine blk_drew ?_ | refine blk_alloc ?_ _)); exact BK234.out⟩, ⟨by (with_reducible repeat (first | refine blk_drewN ?_ _ | refine blk_drew ?_ | refine blk_alloc ?_ _)); exact BK235.out⟩, ⟨by repeat (first | (with_reducible first | exact HB.out | apply below_alloc | apply pw_below_drewN | apply below_drew1 | refine below_set ?_ GE234.out | refine below_set ?_ GE235.out) | exact HB.out)⟩⟩
            · rw [if_neg c31] at H
              have c31b0 : decide (x7_2 < (l1_5.length : Int)) = false := decide_eq_false c31
              clear c31
              obtain rfl := Option.some.inj H
              have hnb69 := NB235_234.out
              have hnc69 := NB234_235.out
              have hcz70_0 : wr.cell? ⟨gb235, 0, none⟩ = some (.int .u64 a1_0) := (blk_cell BK235.out 0).trans rfl
              have hcz70_1 : wr.cell? ⟨gb235, 1, none⟩ = some (.int .u64 a1_1) := (blk_cell BK235.out 1).trans rfl
              have hcz70_2 : wr.cell? ⟨gb235, 2, none⟩ = some (.bool a1_2) := (blk_cell BK235.out 2).trans rfl
              have hcz70_3 : wr.cell? ⟨gb235, 3, none⟩ = some (.int .u16 a1_3) := (blk_cell BK235.out 3).trans rfl
              have hcz70_4 : wr.cell? ⟨gb235, 4, none⟩ = some (.int .u16 a1_4) := (blk_cell BK235.out 4).trans rfl
              have hcz70_5 : wr.cell? ⟨gb235, 5, none⟩ = some (.slice A1_5 l1_5.length c1_5) := (blk_cell BK235.out 5).trans rfl
              have hfz70_0 := blk_frozen BK235.out 0
              have hfz70_1 := blk_frozen BK235.out 1
              have hfz70_2 := blk_frozen BK235.out 2
              have hfz70_3 := blk_frozen BK235.out 3
              have hfz70_4 := blk_frozen BK235.out 4
              have hfz70_5 := blk_frozen BK235.out 5
              go_wp2
              repeat (go_quiet (fail); try go_wp2)
              go_ret
              exact ⟨by first | rfl | (simp [errW_none, errW_some] <;> rfl) | (simp [*, errW_none, errW_some] <;> rfl), by repeat (first | (with_reducible first | exact HB.out | apply below_alloc | apply pw_below_drewN | apply below_drew1 | refine below_set ?_ GE234.out | refine below_set ?_ GE235.out) | exact HB.out)⟩

end Go.Proofs.Ytdohdjfclnlpmaa.PFrame
