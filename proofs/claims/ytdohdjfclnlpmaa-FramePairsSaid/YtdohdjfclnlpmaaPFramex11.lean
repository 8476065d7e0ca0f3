/- Plain Lean functions of what a law comes to, and their contracts: the machine's call does what they say; no condition. Written by wip/myprint.sh over the kit's print.py. -/
import Derived.Test.YtdohdjfclnlpmaaPFramex0
import Derived.Test.YtdohdjfclnlpmaaPFramex3
import Derived.Test.YtdohdjfclnlpmaaPFramex5
import Derived.Test.YtdohdjfclnlpmaaPFramex8
namespace Go.Proofs.Ytdohdjfclnlpmaa.PFrame
open Go.RowKit Go.Proofs.YtdohdjfclnlpmaaW.PrintWords Go.Proofs.YtdohdjfclnlpmaaW.PrintLast Go.Proofs.YtdohdjfclnlpmaaW.PrintMore
attribute [local go_sem] max2_int min2_int max_two min_two max_three min_three max_four min_four   -- for this text's walks alone
set_option linter.unusedVariables false
set_option linter.unusedSimpArgs false

/-! ### patchbaylaw02_FramePairs: function 6 -/
mutual
def patchbaylaw02_FramePairs.j0 : Nat → List Int → Int → Bool → Int → Int → Bool → Int → Int → List Int → Option (Bool)
  | 0, _, _, _, _, _, _, _, _, _ => none
  | k + 1, x0, x5, x32, x386000, x386001, x386002, x386003, x386004, x386005 => if x32 = true then ((patchbaylaw02_told.f k).bind fun t387 => (some t387)) else ((frame_Out.f k x0 true x5).bind fun bt388 => ((frame_Out.f k x0 false x5).bind fun bt392 => (if bt388.2 = 0 then (patchbaylaw02_FramePairs.j1 k x0 bt388.1 bt392.1 (bt392.2 != 0) x386000 x386001 x386002 x386003 x386004 x386005) else (patchbaylaw02_FramePairs.j1 k x0 bt388.1 bt392.1 true x386000 x386001 x386002 x386003 x386004 x386005))))
def patchbaylaw02_FramePairs.j1 : Nat → List Int → List Int → List Int → Bool → Int → Int → Bool → Int → Int → List Int → Option (Bool)
  | 0, _, _, _, _, _, _, _, _, _, _ => none
  | k + 1, x0, x8, x10, x51, x386000, x386001, x386002, x386003, x386004, x386005 => if x51 = true then (some false) else (if x386002 = true then (if (x8.length : Int) = (x0.length : Int) then (some ((x10.length : Int) == (mx 60 (wrap64 ((x0.length : Int) - 4))))) else (some false)) else (if (x8.length : Int) = (wrap64 ((x0.length : Int) + 4)) then ((patchbayref01_Same.f k x10 x0).bind fun t396 => (some t396)) else (some false)))
end
def patchbaylaw02_FramePairs.f (k : Nat) (l0 : List Int) (a1 : Int) : Option (Bool) := if 0 ≤ (mn (l0.length : Int) 1600) then (if (mn (l0.length : Int) 1600) ≤ (l0.length : Int) then ((patchbayref02_Parse.f k (l0.take ((mn (l0.length : Int) 1600) : Int).toNat)).bind fun bt376 => ((patchbaylaw02_told.f k).bind fun t386 => (if t386 = true then (patchbaylaw02_FramePairs.j0 k (l0.take ((mn (l0.length : Int) 1600) : Int).toNat) (wrap64 (1 + (wrap64 (Int.tmod (IntKind.u64.wrap (a1)) 4094)))) (bt376.2.2.2.2.2.2 != 0) bt376.1 bt376.2.1 bt376.2.2.1 bt376.2.2.2.1 bt376.2.2.2.2.1 bt376.2.2.2.2.2.1) else (patchbaylaw02_FramePairs.j0 k (l0.take ((mn (l0.length : Int) 1600) : Int).toNat) (wrap64 (1 + (wrap64 (Int.tmod (IntKind.u64.wrap (a1)) 4094)))) true bt376.1 bt376.2.1 bt376.2.2.1 bt376.2.2.2.1 bt376.2.2.2.2.1 bt376.2.2.2.2.2.1)))) else (none)) else (none)
theorem patchbaylaw02_FramePairs.mono_l : ∀ k, (∀ y0 y1 y2 y3 y4 y5 y6 y7 y8, LeO (patchbaylaw02_FramePairs.j0 k y0 y1 y2 y3 y4 y5 y6 y7 y8) (patchbaylaw02_FramePairs.j0 (k + 1) y0 y1 y2 y3 y4 y5 y6 y7 y8)) ∧ (∀ y0 y1 y2 y3 y4 y5 y6 y7 y8 y9, LeO (patchbaylaw02_FramePairs.j1 k y0 y1 y2 y3 y4 y5 y6 y7 y8 y9) (patchbaylaw02_FramePairs.j1 (k + 1) y0 y1 y2 y3 y4 y5 y6 y7 y8 y9))
  | 0 => ⟨fun _ _ _ _ _ _ _ _ _ r h => by simp [patchbaylaw02_FramePairs.j0] at h, fun _ _ _ _ _ _ _ _ _ _ r h => by simp [patchbaylaw02_FramePairs.j1] at h⟩
  | k + 1 => by
    obtain ⟨ih0, ih1⟩ := patchbaylaw02_FramePairs.mono_l k
    refine ⟨?_, ?_⟩
    · intro y0 y1 y2 y3 y4 y5 y6 y7 y8
      unfold patchbaylaw02_FramePairs.j0
      repeat' first
      | (with_reducible exact ih0 _ _ _ _ _ _ _ _ _)
      | (with_reducible exact ih1 _ _ _ _ _ _ _ _ _ _)
      | (with_reducible exact frame_Out.mono _ _ _ _)
      | (with_reducible exact patchbaylaw02_told.mono _)
      | (with_reducible exact patchbayref01_Same.mono _ _ _)
      | (with_reducible exact patchbayref02_Parse.mono _ _)
      | (with_reducible exact LeO.refl _)
      | (with_reducible exact LeO.none _)
      | (with_reducible refine LeO.ite ?_ ?_)
      | (with_reducible refine LeO.bind ?_ (fun _ => ?_))
      | exact ih0 _ _ _ _ _ _ _ _ _
      | exact ih1 _ _ _ _ _ _ _ _ _ _
      | exact frame_Out.mono _ _ _ _
      | exact patchbaylaw02_told.mono _
      | exact patchbayref01_Same.mono _ _ _
      | exact patchbayref02_Parse.mono _ _
      | exact LeO.none _
      | refine LeO.ite ?_ ?_
      | refine LeO.bind ?_ (fun _ => ?_)
    · intro y0 y1 y2 y3 y4 y5 y6 y7 y8 y9
      unfold patchbaylaw02_FramePairs.j1
      repeat' first
      | (with_reducible exact ih0 _ _ _ _ _ _ _ _ _)
      | (with_reducible exact ih1 _ _ _ _ _ _ _ _ _ _)
      | (with_reducible exact frame_Out.mono _ _ _ _)
      | (with_reducible exact patchbaylaw02_told.mono _)
      | (with_reducible exact patchbayref01_Same.mono _ _ _)
      | (with_reducible exact patchbayref02_Parse.mono _ _)
      | (with_reducible exact LeO.refl _)
      | (with_reducible exact LeO.none _)
      | (with_reducible refine LeO.ite ?_ ?_)
      | (with_reducible refine LeO.bind ?_ (fun _ => ?_))
      | exact ih0 _ _ _ _ _ _ _ _ _
      | exact ih1 _ _ _ _ _ _ _ _ _ _
      | exact frame_Out.mono _ _ _ _
      | exact patchbaylaw02_told.mono _
      | exact patchbayref01_Same.mono _ _ _
      | exact patchbayref02_Parse.mono _ _
      | exact LeO.none _
      | refine LeO.ite ?_ ?_
      | refine LeO.bind ?_ (fun _ => ?_)
theorem patchbaylaw02_FramePairs.mono : ∀ a0 a1 k, LeO (patchbaylaw02_FramePairs.f k a0 a1) (patchbaylaw02_FramePairs.f (k + 1) a0 a1) := by
  intro a0 a1 k
  obtain ⟨ih0, ih1⟩ := patchbaylaw02_FramePairs.mono_l k
  unfold patchbaylaw02_FramePairs.f
  repeat' first
      | (with_reducible exact ih0 _ _ _ _ _ _ _ _ _)
      | (with_reducible exact ih1 _ _ _ _ _ _ _ _ _ _)
      | (with_reducible exact frame_Out.mono _ _ _ _)
      | (with_reducible exact patchbaylaw02_told.mono _)
      | (with_reducible exact patchbayref01_Same.mono _ _ _)
      | (with_reducible exact patchbayref02_Parse.mono _ _)
      | (with_reducible exact LeO.refl _)
      | (with_reducible exact LeO.none _)
      | (with_reducible refine LeO.ite ?_ ?_)
      | (with_reducible refine LeO.bind ?_ (fun _ => ?_))
      | exact ih0 _ _ _ _ _ _ _ _ _
      | exact ih1 _ _ _ _ _ _ _ _ _ _
      | exact frame_Out.mono _ _ _ _
      | exact patchbaylaw02_told.mono _
      | exact patchbayref01_Same.mono _ _ _
      | exact patchbayref02_Parse.mono _ _
      | exact LeO.none _
      | refine LeO.ite ?_ ?_
      | refine LeO.bind ?_ (fun _ => ?_)
set_option maxHeartbeats 8000000 in
set_option maxRecDepth 100000 in
theorem patchbaylaw02_FramePairs.calls (k : Nat) (A0 : Option Addr) (c0 : Nat) (l0 : List Int) (a1 : Int) (r : Bool) (w : World) (hr0 : Kd.C (Kd.int .u8) w A0 l0.length l0) (hc0 : l0.length ≤ c0) (h : patchbaylaw02_FramePairs.f k l0 a1 = some r) :
    Calls Try.prog 6 #[.slice A0 l0.length c0, .int .i64 a1] w fun e w' => e = .returned (.bool r) ∧ Below w.heap.size w w' := by
  have hu34 := Try.underlying34
  have HR0 := Aside0.mk hr0
  have HC0 := Aside0.mk hc0
  clear hr0 hc0
  have HB := Aside0.mk (Below.refl w.heap.size w)
  have H : (if 0 ≤ (mn (l0.length : Int) 1600) then (if (mn (l0.length : Int) 1600) ≤ (l0.length : Int) then ((patchbayref02_Parse.f k (l0.take ((mn (l0.length : Int) 1600) : Int).toNat)).bind fun bt376 => ((patchbaylaw02_told.f k).bind fun t386 => (if t386 = true then (patchbaylaw02_FramePairs.j0 k (l0.take ((mn (l0.length : Int) 1600) : Int).toNat) (wrap64 (1 + (wrap64 (Int.tmod (IntKind.u64.wrap (a1)) 4094)))) (bt376.2.2.2.2.2.2 != 0) bt376.1 bt376.2.1 bt376.2.2.1 bt376.2.2.2.1 bt376.2.2.2.2.1 bt376.2.2.2.2.2.1) else (patchbaylaw02_FramePairs.j0 k (l0.take ((mn (l0.length : Int) 1600) : Int).toNat) (wrap64 (1 + (wrap64 (Int.tmod (IntKind.u64.wrap (a1)) 4094)))) true bt376.1 bt376.2.1 bt376.2.2.1 bt376.2.2.2.1 bt376.2.2.2.2.1 bt376.2.2.2.2.2.1)))) else (none)) else (none)) = some r := h
  clear h
  obtain ⟨ji3, hji3⟩ : ∃ j_ : Int, (mn (l0.length : Int) 1600) = j_ := ⟨_, rfl⟩
  replace H : (if 0 ≤ (ji3) then (if (ji3) ≤ (l0.length : Int) then ((patchbayref02_Parse.f k (l0.take ((ji3) : Int).toNat)).bind fun bt376 => ((patchbaylaw02_told.f k).bind fun t386 => (if t386 = true then (patchbaylaw02_FramePairs.j0 k (l0.take ((ji3) : Int).toNat) (wrap64 (1 + (wrap64 (Int.tmod (IntKind.u64.wrap (a1)) 4094)))) (bt376.2.2.2.2.2.2 != 0) bt376.1 bt376.2.1 bt376.2.2.1 bt376.2.2.2.1 bt376.2.2.2.2.1 bt376.2.2.2.2.2.1) else (patchbaylaw02_FramePairs.j0 k (l0.take ((ji3) : Int).toNat) (wrap64 (1 + (wrap64 (Int.tmod (IntKind.u64.wrap (a1)) 4094)))) true bt376.1 bt376.2.1 bt376.2.2.1 bt376.2.2.2.1 bt376.2.2.2.2.1 bt376.2.2.2.2.2.1)))) else (none)) else (none)) = some r := by first | (rw [hji3] at H; exact H) | (simp only [hji3] at H ⊢; exact H)
  (try (have hji3h : ji3 ≤ 1600 := by (rw [← hji3]; unfold mn; (repeat' split) <;> omega)))
  (try (have hji3g : ji3 ≤ 64 := by omega))
  (try (have hji3l : 0 ≤ ji3 := by (rw [← hji3]; unfold mn; (repeat' split) <;> omega)))
  (try (have hji3m : 0 ≤ ji3 := by omega))
  have hji3_ : (if 1600 < (l0.length : Int) then 1600 else (l0.length : Int)) = ji3 := hji3
  have hji3k : decide ((ji3 : Int) ≤ (l0.length : Int)) = true := decide_eq_true (by rw [← hji3]; unfold mn; (repeat' split) <;> omega)
  by_cases c4 : 0 ≤ (ji3)
  · rw [if_pos c4] at H
    have c4b0 := eq_true c4
    have c4b1 : decide (0 ≤ (ji3)) = true := decide_eq_true c4
    clear c4
    by_cases c5 : (ji3) ≤ (l0.length : Int)
    · rw [if_pos c5] at H
      have c5b0 := eq_true c5
      have c5b1 : decide ((ji3) ≤ (l0.length : Int)) = true := decide_eq_true c5
      clear c5
      replace H := Option.bind_eq_some_iff.mp H
      obtain ⟨⟨t376, t377, t378, t379, t380, t381, t384⟩, A60, H⟩ := H
      replace H : ((patchbaylaw02_told.f k).bind fun t386 => (if t386 = true then (patchbaylaw02_FramePairs.j0 k (l0.take ((ji3) : Int).toNat) (wrap64 (1 + (wrap64 (Int.tmod (IntKind.u64.wrap (a1)) 4094)))) (t384 != 0) t376 t377 t378 t379 t380 t381) else (patchbaylaw02_FramePairs.j0 k (l0.take ((ji3) : Int).toNat) (wrap64 (1 + (wrap64 (Int.tmod (IntKind.u64.wrap (a1)) 4094)))) true t376 t377 t378 t379 t380 t381))) = some r := H
      have A6 := Aside0.mk A60
      clear A60
      have HC7 := Aside0.mk H
      clear H
      obtain ⟨i08, hi08, _, hsz8, _⟩ := info_parts info5
      obtain ⟨hcut8, hA8, hC8⟩ := print_take_of (P := Try.prog) (Value.int .u8) 0 22 5 .i64 Try.underlying22 hi08 hsz8 A0 c0 l0 (ji3) (of_decide_eq_true (by first | (with_reducible assumption) | assumption)) (of_decide_eq_true (by first | (with_reducible assumption) | assumption)) HC0.out
      have hlen8_ : (l0.take ((ji3) : Int).toNat).length ≤ l0.length := by rw [List.length_take]; omega
      generalize l0.take ((ji3) : Int).toNat = lt8_ at *
      have HR375 := Aside0.mk (Kd.C_of_reads (h1 := fun _ => rfl) (hA8 _ (Kd.reads_of_C HR0.out)))
      have HC375 := Aside0.mk hC8
      clear hA8 hC8 hi08 hsz8
      go_enter Try.func6, Try.ntmps6
      go_upto_region 4 with (first | ((with_reducible refine gate_callee (f := 20) rfl ?_); refine goesL_ (some 24) rfl rfl Try.func20 (by kernel_rfl) rfl #[.slice A0 lt8_.length c0] rfl (by (try simp only [List.map_toArray, List.map_cons, List.map_nil]); first | done | (rw [(show lt8_.length = ((ji3 : Int).toNat : Nat) from (by rw [List.length_take]; have h_ : (ji3 : Int) ≤ (l0.length : Int) := of_decide_eq_true (by first | (with_reducible assumption) | assumption); omega))] <;> rfl) | (rw [show lt8_.length = (ji3).toNat from (by rw [List.length_take]; have h_ : ((ji3) : Int) ≤ (l0.length : Int) := of_decide_eq_true (by first | (with_reducible assumption) | assumption); omega)] <;> rfl) | (simp only [hji3]; rfl) | rfl | (simp only [List.length_drop, List.length_take]; rfl)) ?_; (with_reducible refine (patchbayref02_Parse.calls k _ _ lt8_ t376 t377 t378 t379 t380 t381 t384 _ ?side1 ?side2 A6.out).mono ?_); (case side1 => repeat (first | exact HR375.out | (with_reducible refine Kd.C_alloc ?_ _) | (with_reducible refine Kd.C_drewN ?_ _) | (with_reducible refine Kd.C_drew ?_))); (case side2 => exact HC375.out); rintro e w9 ⟨v382, rfl, ho0, hb⟩; refine ⟨_, rfl, ?_⟩; have n0_ := Aside0.mk (Kd.R_lower ho0 (below_size (by repeat (first | (with_reducible first | exact HB.out | apply below_alloc | apply pw_below_drewN | apply below_drew1) | exact HB.out)))); have n1_ := Aside0.mk (below_step (by repeat (first | (with_reducible first | exact HB.out | apply below_alloc | apply pw_below_drewN | apply below_drew1) | exact HB.out)) hb); clear HB; have HO383 := n0_; have HB := n1_; clear n0_ n1_; (try clear hb); (try clear hb2); (try clear hk); (try clear hi); (try clear ho0)) | ((with_reducible refine gate_dst (N := 6) rfl ?_); (try (refine gate_guard (by rfl) ?_; dsimp only)); refine box_event ?hg (N := 6) ?hd (cs := #[.int .u64 0, .int .u64 0, .bool false, .int .u16 0, .int .u16 0, .slice none 0 0]) (t := 34) ?hr ?_; (case hd => rfl); (case hg => rfl); (case hr => first | (go_simp; done) | (go_simp; rfl)); intro gb385 hg w10 hbox hb; have n0_ := Aside0.mk (Kd.R_below (by (with_reducible repeat (first | apply Kd.R_alloc | apply Kd.R_drewN | apply Kd.R_drew)); exact HO383.out) hb); have n1_ := Aside0.mk (below_step (by repeat (first | (with_reducible first | exact HB.out | apply below_alloc | apply pw_below_drewN | apply below_drew1) | exact HB.out)) hb); have n2_ := Aside0.mk (hbox); have n3_ := Aside0.mk ((by rw [hg]; exact (below_size (by repeat (first | (with_reducible first | exact HB.out | apply below_alloc | apply pw_below_drewN | apply below_drew1) | exact HB.out))) : w.heap.size ≤ gb385)); have n4_ := Aside0.mk ((by rw [hg]; exact (below_size (by repeat (first | (with_reducible first | exact HB.out | apply below_alloc | apply pw_below_drewN | apply below_drew1) | exact HB.out))) : w.heap.size ≤ gb385)); clear HO383; clear HB; have HO383 := n0_; have HB := n1_; have BK385 := n2_; have GW385 := n3_; have GE385 := n4_; clear n0_ n1_ n2_ n3_ n4_; clear hb hbox hg; have hcz11_0 : w10.cell? ⟨gb385, 0, none⟩ = some (.int .u64 0) := (blk_cell BK385.out 0).trans rfl; have hcz11_1 : w10.cell? ⟨gb385, 1, none⟩ = some (.int .u64 0) := (blk_cell BK385.out 1).trans rfl; have hcz11_2 : w10.cell? ⟨gb385, 2, none⟩ = some (.bool false) := (blk_cell BK385.out 2).trans rfl; have hcz11_3 : w10.cell? ⟨gb385, 3, none⟩ = some (.int .u16 0) := (blk_cell BK385.out 3).trans rfl; have hcz11_4 : w10.cell? ⟨gb385, 4, none⟩ = some (.int .u16 0) := (blk_cell BK385.out 4).trans rfl; have hcz11_5 : w10.cell? ⟨gb385, 5, none⟩ = some (.slice none 0 0) := (blk_cell BK385.out 5).trans rfl; have hfz11_0 := blk_frozen BK385.out 0; have hfz11_1 := blk_frozen BK385.out 1; have hfz11_2 := blk_frozen BK385.out 2; have hfz11_3 := blk_frozen BK385.out 3; have hfz11_4 := blk_frozen BK385.out 4; have hfz11_5 := blk_frozen BK385.out 5; obtain ⟨Ao12, co12, eo12⟩ := Kd.R_slice HO383.out; subst eo12))
      (try simp only [Act.put, List.setIfInBounds_toArray, List.set_cons_zero, List.set_cons_succ])
      go_cut [32] (fun v32 wc => ∃ (kq : Nat) (x32_6 : Bool), v32 = .bool x32_6 ∧ Aside0 (patchbaylaw02_FramePairs.j0 kq lt8_ (wrap64 (1 + (wrap64 (Int.tmod (IntKind.u64.wrap (a1)) 4094)))) x32_6 t376 t377 t378 t379 t380 t381 = some r) ∧ Aside0 (kq ≤ k) ∧ Aside0 (Kd.R (Kd.int .u8) 5 wc w.heap.size (fun _ => True) (.slice Ao12 t381.length co12) t381) ∧ Aside0 (wc.heap[gb385]? = some (.cells #[.int .u64 t376, .int .u64 t377, .bool t378, .int .u16 t379, .int .u16 t380, (.slice Ao12 t381.length co12)] 34 (0, 0))) ∧ Aside0 (Below w.heap.size w wc))
      case first =>
        have H := HC7.out
        clear HC7
        replace H := Option.bind_eq_some_iff.mp H
        obtain ⟨t386, A130, H⟩ := H
        replace H : (if t386 = true then (patchbaylaw02_FramePairs.j0 k lt8_ (wrap64 (1 + (wrap64 (Int.tmod (IntKind.u64.wrap (a1)) 4094)))) (t384 != 0) t376 t377 t378 t379 t380 t381) else (patchbaylaw02_FramePairs.j0 k lt8_ (wrap64 (1 + (wrap64 (Int.tmod (IntKind.u64.wrap (a1)) 4094)))) true t376 t377 t378 t379 t380 t381)) = some r := H
        have A13 := Aside0.mk A130
        clear A130
        by_cases c14 : t386 = true
        · subst c14
          have H1 : (patchbaylaw02_FramePairs.j0 k lt8_ (wrap64 (1 + (wrap64 (Int.tmod (IntKind.u64.wrap (a1)) 4094)))) (t384 != 0) t376 t377 t378 t379 t380 t381) = some r := by rw [if_pos rfl] at H; exact H
          clear H
          have H := H1
          clear H1
          have H' := Aside0.mk H
          clear H
          go_wp2_with (first | ((with_reducible refine gate_callee (f := 18) rfl ?_); refine goesL_ (some 27) rfl rfl Try.func18 (by kernel_rfl) rfl #[] rfl (by (try simp only [List.map_toArray, List.map_cons, List.map_nil]); first | done | rfl | (simp only [List.length_drop, List.length_take]; rfl)) ?_; (with_reducible refine (patchbaylaw02_told.calls k  true _ A13.out).mono ?_); rintro e w15 ⟨rfl, hb⟩; refine ⟨_, rfl, ?_⟩; have n0_ := Aside0.mk (Kd.R_below (by (with_reducible repeat (first | apply Kd.R_alloc | apply Kd.R_drewN | apply Kd.R_drew)); exact (Kd.R_mono (Kd.R_far (p := ⟨gb385, 5, none⟩) (Kd.R_far (p := ⟨gb385, 4, none⟩) (Kd.R_far (p := ⟨gb385, 3, none⟩) (Kd.R_far (p := ⟨gb385, 2, none⟩) (Kd.R_far (p := ⟨gb385, 1, none⟩) (Kd.R_far (p := ⟨gb385, 0, none⟩) (Kd.R_types HO383.out BK385.out (by decide)) (fun _ hk => hk.2) (.int .u64 t376)) (fun _ hk => hk.2) (.int .u64 t377)) (fun _ hk => hk.2) (.bool t378)) (fun _ hk => hk.2) (.int .u16 t379)) (fun _ hk => hk.2) (.int .u16 t380)) (fun _ hk => hk.2) (.slice Ao12 t381.length co12)) (fun _ h_ => h_.1))) hb); have n1_ := Aside0.mk (blk_below (g := gb385) (o := .cells #[.int .u64 t376, .int .u64 t377, .bool t378, .int .u16 t379, .int .u16 t380, .slice Ao12 t381.length co12] 34 (0, 0)) (by (with_reducible repeat (first | refine blk_drewN ?_ _ | refine blk_drew ?_ | refine blk_alloc ?_ _)); refine blk_put (cs := #[.int .u64 t376, .int .u64 t377, .bool t378, .int .u16 t379, .int .u16 t380, .slice none 0 0]) ?_ 5 _ rfl; (with_reducible repeat (first | refine blk_drewN ?_ _ | refine blk_drew ?_ | refine blk_alloc ?_ _)); refine blk_put (cs := #[.int .u64 t376, .int .u64 t377, .bool t378, .int .u16 t379, .int .u16 0, .slice none 0 0]) ?_ 4 _ rfl; (with_reducible repeat (first | refine blk_drewN ?_ _ | refine blk_drew ?_ | refine blk_alloc ?_ _)); refine blk_put (cs := #[.int .u64 t376, .int .u64 t377, .bool t378, .int .u16 0, .int .u16 0, .slice none 0 0]) ?_ 3 _ rfl; (with_reducible repeat (first | refine blk_drewN ?_ _ | refine blk_drew ?_ | refine blk_alloc ?_ _)); refine blk_put (cs := #[.int .u64 t376, .int .u64 t377, .bool false, .int .u16 0, .int .u16 0, .slice none 0 0]) ?_ 2 _ rfl; (with_reducible repeat (first | refine blk_drewN ?_ _ | refine blk_drew ?_ | refine blk_alloc ?_ _)); refine blk_put (cs := #[.int .u64 t376, .int .u64 0, .bool false, .int .u16 0, .int .u16 0, .slice none 0 0]) ?_ 1 _ rfl; (with_reducible repeat (first | refine blk_drewN ?_ _ | refine blk_drew ?_ | refine blk_alloc ?_ _)); refine blk_put (cs := #[.int .u64 0, .int .u64 0, .bool false, .int .u16 0, .int .u16 0, .slice none 0 0]) ?_ 0 _ rfl; (with_reducible repeat (first | refine blk_drewN ?_ _ | refine blk_drew ?_ | refine blk_alloc ?_ _)); exact BK385.out) hb); have n2_ := Aside0.mk (below_step (by repeat (first | (with_reducible first | exact HB.out | apply below_alloc | apply pw_below_drewN | apply below_drew1 | refine below_set ?_ GE385.out) | exact HB.out)) hb); clear HO383; clear BK385; clear HB; have HO383 := n0_; have BK385 := n1_; have HB := n2_; clear n0_ n1_ n2_; (try clear hb); (try clear hb2); (try clear hk); (try clear hi)))
          go_meet
          case rel => exact ⟨_, ((t384 != 0)), (by first | rfl | (simp; done) | (simp [*]; done)), H', ⟨by first | omega | exact Nat.le_refl _⟩, ⟨by (with_reducible repeat (first | apply Kd.R_alloc | apply Kd.R_drewN | apply Kd.R_drew)); exact HO383.out⟩, ⟨by (with_reducible repeat (first | refine blk_drewN ?_ _ | refine blk_drew ?_ | refine blk_alloc ?_ _)); exact BK385.out⟩, ⟨by repeat (first | (with_reducible first | exact HB.out | apply below_alloc | apply pw_below_drewN | apply below_drew1 | refine below_set ?_ GE385.out) | exact HB.out)⟩⟩
        · replace c14 := Bool.eq_false_iff.mpr c14
          subst c14
          have H1 : (patchbaylaw02_FramePairs.j0 k lt8_ (wrap64 (1 + (wrap64 (Int.tmod (IntKind.u64.wrap (a1)) 4094)))) true t376 t377 t378 t379 t380 t381) = some r := by rw [if_neg (show ¬ (false = true) by decide)] at H; exact H
          clear H
          have H := H1
          clear H1
          have H' := Aside0.mk H
          clear H
          go_wp2_with (first | ((with_reducible refine gate_callee (f := 18) rfl ?_); refine goesL_ (some 27) rfl rfl Try.func18 (by kernel_rfl) rfl #[] rfl (by (try simp only [List.map_toArray, List.map_cons, List.map_nil]); first | done | rfl | (simp only [List.length_drop, List.length_take]; rfl)) ?_; (with_reducible refine (patchbaylaw02_told.calls k  false _ A13.out).mono ?_); rintro e w16 ⟨rfl, hb⟩; refine ⟨_, rfl, ?_⟩; have n0_ := Aside0.mk (Kd.R_below (by (with_reducible repeat (first | apply Kd.R_alloc | apply Kd.R_drewN | apply Kd.R_drew)); exact (Kd.R_mono (Kd.R_far (p := ⟨gb385, 5, none⟩) (Kd.R_far (p := ⟨gb385, 4, none⟩) (Kd.R_far (p := ⟨gb385, 3, none⟩) (Kd.R_far (p := ⟨gb385, 2, none⟩) (Kd.R_far (p := ⟨gb385, 1, none⟩) (Kd.R_far (p := ⟨gb385, 0, none⟩) (Kd.R_types HO383.out BK385.out (by decide)) (fun _ hk => hk.2) (.int .u64 t376)) (fun _ hk => hk.2) (.int .u64 t377)) (fun _ hk => hk.2) (.bool t378)) (fun _ hk => hk.2) (.int .u16 t379)) (fun _ hk => hk.2) (.int .u16 t380)) (fun _ hk => hk.2) (.slice Ao12 t381.length co12)) (fun _ h_ => h_.1))) hb); have n1_ := Aside0.mk (blk_below (g := gb385) (o := .cells #[.int .u64 t376, .int .u64 t377, .bool t378, .int .u16 t379, .int .u16 t380, .slice Ao12 t381.length co12] 34 (0, 0)) (by (with_reducible repeat (first | refine blk_drewN ?_ _ | refine blk_drew ?_ | refine blk_alloc ?_ _)); refine blk_put (cs := #[.int .u64 t376, .int .u64 t377, .bool t378, .int .u16 t379, .int .u16 t380, .slice none 0 0]) ?_ 5 _ rfl; (with_reducible repeat (first | refine blk_drewN ?_ _ | refine blk_drew ?_ | refine blk_alloc ?_ _)); refine blk_put (cs := #[.int .u64 t376, .int .u64 t377, .bool t378, .int .u16 t379, .int .u16 0, .slice none 0 0]) ?_ 4 _ rfl; (with_reducible repeat (first | refine blk_drewN ?_ _ | refine blk_drew ?_ | refine blk_alloc ?_ _)); refine blk_put (cs := #[.int .u64 t376, .int .u64 t377, .bool t378, .int .u16 0, .int .u16 0, .slice none 0 0]) ?_ 3 _ rfl; (with_reducible repeat (first | refine blk_drewN ?_ _ | refine blk_drew ?_ | refine blk_alloc ?_ _)); refine blk_put (cs := #[.int .u64 t376, .int .u64 t377, .bool false, .int .u16 0, .int .u16 0, .slice none 0 0]) ?_ 2 _ rfl; (with_reducible repeat (first | refine blk_drewN ?_ _ | refine blk_drew ?_ | refine blk_alloc ?_ _)); refine blk_put (cs := #[.int .u64 t376, .int .u64 0, .bool false, .int .u16 0, .int .u16 0, .slice none 0 0]) ?_ 1 _ rfl; (with_reducible repeat (first | refine blk_drewN ?_ _ | refine blk_drew ?_ | refine blk_alloc ?_ _)); refine blk_put (cs := #[.int .u64 0, .int .u64 0, .bool false, .int .u16 0, .int .u16 0, .slice none 0 0]) ?_ 0 _ rfl; (with_reducible repeat (first | refine blk_drewN ?_ _ | refine blk_drew ?_ | refine blk_alloc ?_ _)); exact BK385.out) hb); have n2_ := Aside0.mk (below_step (by repeat (first | (with_reducible first | exact HB.out | apply below_alloc | apply pw_below_drewN | apply below_drew1 | refine below_set ?_ GE385.out) | exact HB.out)) hb); clear HO383; clear BK385; clear HB; have HO383 := n0_; have BK385 := n1_; have HB := n2_; clear n0_ n1_ n2_; (try clear hb); (try clear hb2); (try clear hk); (try clear hi)))
          go_meet
          case rel => exact ⟨_, (true), (by first | rfl | (simp; done) | (simp [*]; done)), H', ⟨by first | omega | exact Nat.le_refl _⟩, ⟨by (with_reducible repeat (first | apply Kd.R_alloc | apply Kd.R_drewN | apply Kd.R_drew)); exact HO383.out⟩, ⟨by (with_reducible repeat (first | refine blk_drewN ?_ _ | refine blk_drew ?_ | refine blk_alloc ?_ _)); exact BK385.out⟩, ⟨by repeat (first | (with_reducible first | exact HB.out | apply below_alloc | apply pw_below_drewN | apply below_drew1 | refine below_set ?_ GE385.out) | exact HB.out)⟩⟩
      case rest =>
        clear HC7
        try clear c1
        try clear c2
        try clear p2
        try clear c4
        try clear c4b0
        try clear c4b1
        try clear c5
        try clear c5b0
        try clear c5b1
        try clear c6
        try clear p6
        try clear c14
        try clear hcz11_0
        try clear hcz11_1
        try clear hcz11_2
        try clear hcz11_3
        try clear hcz11_4
        try clear hcz11_5
        try clear hfz11_0
        try clear hfz11_1
        try clear hfz11_2
        try clear hfz11_3
        try clear hfz11_4
        try clear hfz11_5
        obtain ⟨kq, x32_6, rfl, HA, HJ6, HO_386005, BK385, HB⟩ := hcut
        cases kq with
        | zero => exact absurd HA.out (by simp [patchbaylaw02_FramePairs.j0])
        | succ kj6 =>
          have H := HA.out
          clear HA
          simp only [patchbaylaw02_FramePairs.j0] at H
          by_cases c17 : x32_6 = true
          · subst c17
            have H1 : ((patchbaylaw02_told.f kj6).bind fun t387 => (some t387)) = some r := by rw [if_pos rfl] at H; exact H
            clear H
            have H := H1
            clear H1
            replace H := Option.bind_eq_some_iff.mp H
            obtain ⟨t387, A180, H⟩ := H
            replace H : (some t387) = some r := H
            have A18 := Aside0.mk A180
            clear A180
            obtain rfl := Option.some.inj H
            go_wp2_with (first | ((with_reducible refine gate_callee (f := 18) rfl ?_); refine goesL_ (some 33) rfl rfl Try.func18 (by kernel_rfl) rfl #[] rfl (by (try simp only [List.map_toArray, List.map_cons, List.map_nil]); first | done | rfl | (simp only [List.length_drop, List.length_take]; rfl)) ?_; (with_reducible refine (patchbaylaw02_told.calls kj6  t387 _ A18.out).mono ?_); rintro e w19 ⟨rfl, hb⟩; refine ⟨_, rfl, ?_⟩; have n0_ := Aside0.mk (Kd.R_below (by (with_reducible repeat (first | apply Kd.R_alloc | apply Kd.R_drewN | apply Kd.R_drew)); exact HO_386005.out) hb); have n1_ := Aside0.mk (blk_below (g := gb385) (o := .cells #[.int .u64 t376, .int .u64 t377, .bool t378, .int .u16 t379, .int .u16 t380, .slice Ao12 t381.length co12] 34 (0, 0)) (by (with_reducible repeat (first | refine blk_drewN ?_ _ | refine blk_drew ?_ | refine blk_alloc ?_ _)); exact BK385.out) hb); have n2_ := Aside0.mk (below_step (by repeat (first | (with_reducible first | exact HB.out | apply below_alloc | apply pw_below_drewN | apply below_drew1 | refine below_set ?_ GE385.out) | exact HB.out)) hb); clear HO_386005; clear BK385; clear HB; have HO_386005 := n0_; have BK385 := n1_; have HB := n2_; clear n0_ n1_ n2_; (try clear hb); (try clear hb2); (try clear hk); (try clear hi)))
            go_ret
            exact ⟨by first | rfl | (simp [errW_none, errW_some] <;> rfl) | (simp only [← hji3]; first | rfl | (simp [errW_none, errW_some] <;> rfl)) | (simp [*, errW_none, errW_some] <;> rfl), by repeat (first | (with_reducible first | exact HB.out | apply below_alloc | apply pw_below_drewN | apply below_drew1 | refine below_set ?_ GE385.out) | exact HB.out)⟩
          · replace c17 := Bool.eq_false_iff.mpr c17
            subst c17
            have H1 : ((frame_Out.f kj6 lt8_ true (wrap64 (1 + (wrap64 (Int.tmod (IntKind.u64.wrap (a1)) 4094))))).bind fun bt388 => ((frame_Out.f kj6 lt8_ false (wrap64 (1 + (wrap64 (Int.tmod (IntKind.u64.wrap (a1)) 4094))))).bind fun bt392 => (if bt388.2 = 0 then (patchbaylaw02_FramePairs.j1 kj6 lt8_ bt388.1 bt392.1 (bt392.2 != 0) t376 t377 t378 t379 t380 t381) else (patchbaylaw02_FramePairs.j1 kj6 lt8_ bt388.1 bt392.1 true t376 t377 t378 t379 t380 t381)))) = some r := by rw [if_neg (show ¬ (false = true) by decide)] at H; exact H
            clear H
            have H := H1
            clear H1
            replace H := Option.bind_eq_some_iff.mp H
            obtain ⟨⟨t388, t389⟩, A200, H⟩ := H
            replace H : ((frame_Out.f kj6 lt8_ false (wrap64 (1 + (wrap64 (Int.tmod (IntKind.u64.wrap (a1)) 4094))))).bind fun bt392 => (if t389 = 0 then (patchbaylaw02_FramePairs.j1 kj6 lt8_ t388 bt392.1 (bt392.2 != 0) t376 t377 t378 t379 t380 t381) else (patchbaylaw02_FramePairs.j1 kj6 lt8_ t388 bt392.1 true t376 t377 t378 t379 t380 t381))) = some r := H
            have A20 := Aside0.mk A200
            clear A200
            replace H := Option.bind_eq_some_iff.mp H
            obtain ⟨⟨t392, t393⟩, A210, H⟩ := H
            replace H : (if t389 = 0 then (patchbaylaw02_FramePairs.j1 kj6 lt8_ t388 t392 (t393 != 0) t376 t377 t378 t379 t380 t381) else (patchbaylaw02_FramePairs.j1 kj6 lt8_ t388 t392 true t376 t377 t378 t379 t380 t381)) = some r := H
            have A21 := Aside0.mk A210
            clear A210
            have HC22 := Aside0.mk H
            clear H
            go_upto_region 8 with (first | ((with_reducible refine gate_callee (f := 16) rfl ?_); refine goesL_ (some 37) rfl rfl Try.func16 (by kernel_rfl) rfl #[.slice A0 lt8_.length c0, .bool true, .int .i64 (wrap64 (1 + (wrap64 (Int.tmod (IntKind.u64.wrap (a1)) 4094))))] rfl (by (try simp only [List.map_toArray, List.map_cons, List.map_nil]); first | done | (rw [(show lt8_.length = ((ji3 : Int).toNat : Nat) from (by rw [List.length_take]; have h_ : (ji3 : Int) ≤ (l0.length : Int) := of_decide_eq_true (by first | (with_reducible assumption) | assumption); omega))] <;> rfl) | (rw [show lt8_.length = (ji3).toNat from (by rw [List.length_take]; have h_ : ((ji3) : Int) ≤ (l0.length : Int) := of_decide_eq_true (by first | (with_reducible assumption) | assumption); omega)] <;> rfl) | (simp only [hji3]; rfl) | rfl | (simp only [List.length_drop, List.length_take]; rfl)) ?_; (with_reducible refine (frame_Out.calls kj6 _ _ lt8_ true (wrap64 (1 + (wrap64 (Int.tmod (IntKind.u64.wrap (a1)) 4094)))) t388 t389 _ ?side1 ?side2 A20.out).mono ?_); (case side1 => repeat (first | exact (Kd.C_below HR375.out HB.out) | (with_reducible refine Kd.C_alloc ?_ _) | (with_reducible refine Kd.C_drewN ?_ _) | (with_reducible refine Kd.C_drew ?_))); (case side2 => exact HC375.out); rintro e w23 ⟨v390, rfl, ho0, hb⟩; refine ⟨_, rfl, ?_⟩; have n0_ := Aside0.mk (Kd.R_elder' (by (with_reducible repeat (first | apply Kd.R_alloc | apply Kd.R_drewN | apply Kd.R_drew)); exact HO_386005.out) (Kd.R_base ho0) hb); have n1_ := Aside0.mk (Kd.R_lower (Kd.R_new' ho0 (Kd.R_lt (by (with_reducible repeat (first | apply Kd.R_alloc | apply Kd.R_drewN | apply Kd.R_drew)); exact HO_386005.out))) (below_size (by repeat (first | (with_reducible first | exact HB.out | apply below_alloc | apply pw_below_drewN | apply below_drew1 | refine below_set ?_ GE385.out) | exact HB.out)))); have n2_ := Aside0.mk (blk_below (g := gb385) (o := .cells #[.int .u64 t376, .int .u64 t377, .bool t378, .int .u16 t379, .int .u16 t380, .slice Ao12 t381.length co12] 34 (0, 0)) (by (with_reducible repeat (first | refine blk_drewN ?_ _ | refine blk_drew ?_ | refine blk_alloc ?_ _)); exact BK385.out) hb); have n3_ := Aside0.mk (below_step (by repeat (first | (with_reducible first | exact HB.out | apply below_alloc | apply pw_below_drewN | apply below_drew1 | refine below_set ?_ GE385.out) | exact HB.out)) hb); clear HO_386005; clear BK385; clear HB; have HO_386005 := n0_; have HO391 := n1_; have BK385 := n2_; have HB := n3_; clear n0_ n1_ n2_ n3_; (try clear hb); (try clear hb2); (try clear hk); (try clear hi); (try clear ho0)) | ((with_reducible refine gate_callee (f := 16) rfl ?_); refine goesL_ (some 43) rfl rfl Try.func16 (by kernel_rfl) rfl #[.slice A0 lt8_.length c0, .bool false, .int .i64 (wrap64 (1 + (wrap64 (Int.tmod (IntKind.u64.wrap (a1)) 4094))))] rfl (by (try simp only [List.map_toArray, List.map_cons, List.map_nil]); first | done | (rw [(show lt8_.length = ((ji3 : Int).toNat : Nat) from (by rw [List.length_take]; have h_ : (ji3 : Int) ≤ (l0.length : Int) := of_decide_eq_true (by first | (with_reducible assumption) | assumption); omega))] <;> rfl) | (rw [show lt8_.length = (ji3).toNat from (by rw [List.length_take]; have h_ : ((ji3) : Int) ≤ (l0.length : Int) := of_decide_eq_true (by first | (with_reducible assumption) | assumption); omega)] <;> rfl) | (simp only [hji3]; rfl) | rfl | (simp only [List.length_drop, List.length_take]; rfl)) ?_; (with_reducible refine (frame_Out.calls kj6 _ _ lt8_ false (wrap64 (1 + (wrap64 (Int.tmod (IntKind.u64.wrap (a1)) 4094)))) t392 t393 _ ?side1 ?side2 A21.out).mono ?_); (case side1 => repeat (first | exact (Kd.C_below HR375.out HB.out) | (with_reducible refine Kd.C_alloc ?_ _) | (with_reducible refine Kd.C_drewN ?_ _) | (with_reducible refine Kd.C_drew ?_))); (case side2 => exact HC375.out); rintro e w24 ⟨v394, rfl, ho0, hb⟩; refine ⟨_, rfl, ?_⟩; have n0_ := Aside0.mk (Kd.R_elder' (by (with_reducible repeat (first | apply Kd.R_alloc | apply Kd.R_drewN | apply Kd.R_drew)); exact HO_386005.out) (Kd.R_base ho0) hb); have n1_ := Aside0.mk (Kd.R_elder' (by (with_reducible repeat (first | apply Kd.R_alloc | apply Kd.R_drewN | apply Kd.R_drew)); exact HO391.out) (Kd.R_base ho0) hb); have n2_ := Aside0.mk (Kd.R_lower (Kd.R_new' (Kd.R_new' ho0 (Kd.R_lt (by (with_reducible repeat (first | apply Kd.R_alloc | apply Kd.R_drewN | apply Kd.R_drew)); exact HO_386005.out))) (Kd.R_lt (by (with_reducible repeat (first | apply Kd.R_alloc | apply Kd.R_drewN | apply Kd.R_drew)); exact HO391.out))) (below_size (by repeat (first | (with_reducible first | exact HB.out | apply below_alloc | apply pw_below_drewN | apply below_drew1 | refine below_set ?_ GE385.out) | exact HB.out)))); have n3_ := Aside0.mk (blk_below (g := gb385) (o := .cells #[.int .u64 t376, .int .u64 t377, .bool t378, .int .u16 t379, .int .u16 t380, .slice Ao12 t381.length co12] 34 (0, 0)) (by (with_reducible repeat (first | refine blk_drewN ?_ _ | refine blk_drew ?_ | refine blk_alloc ?_ _)); exact BK385.out) hb); have n4_ := Aside0.mk (below_step (by repeat (first | (with_reducible first | exact HB.out | apply below_alloc | apply pw_below_drewN | apply below_drew1 | refine below_set ?_ GE385.out) | exact HB.out)) hb); clear HO_386005; clear HO391; clear BK385; clear HB; have HO_386005 := n0_; have HO391 := n1_; have HO395 := n2_; have BK385 := n3_; have HB := n4_; clear n0_ n1_ n2_ n3_ n4_; (try clear hb); (try clear hb2); (try clear hk); (try clear hi); (try clear ho0)))
            (try simp only [Act.put, List.setIfInBounds_toArray, List.set_cons_zero, List.set_cons_succ])
            go_cut [51] (fun v51 wc => ∃ (kq : Nat) (x51_21 : Bool), v51 = .bool x51_21 ∧ Aside0 (patchbaylaw02_FramePairs.j1 kq lt8_ t388 t392 x51_21 t376 t377 t378 t379 t380 t381 = some r) ∧ Aside0 (kq ≤ kj6) ∧ Aside0 (Kd.R (Kd.int .u8) 5 wc w.heap.size (fun k_ => some k_ ≠ (v394 : Value).ownBlock ∧ some k_ ≠ ((.slice Ao12 t381.length co12) : Value).ownBlock) v390 t388) ∧ Aside0 (Kd.R (Kd.int .u8) 5 wc w.heap.size (fun k_ => some k_ ≠ (v390 : Value).ownBlock ∧ some k_ ≠ ((.slice Ao12 t381.length co12) : Value).ownBlock) v394 t392) ∧ Aside0 (Kd.R (Kd.int .u8) 5 wc w.heap.size (fun k_ => some k_ ≠ (v390 : Value).ownBlock ∧ some k_ ≠ (v394 : Value).ownBlock) (.slice Ao12 t381.length co12) t381) ∧ Aside0 (wc.heap[gb385]? = some (.cells #[.int .u64 t376, .int .u64 t377, .bool t378, .int .u16 t379, .int .u16 t380, (.slice Ao12 t381.length co12)] 34 (0, 0))) ∧ Aside0 (Below w.heap.size w wc))
            case first =>
              have H := HC22.out
              clear HC22
              by_cases c25 : t389 = 0
              · rw [if_pos c25] at H
                have c25b0 : (t389 == 0) = true := beq_iff_eq.mpr c25
                have c25b1 : (t389 != 0) = false := bne_eq_false_iff_eq.mpr c25
                clear c25
                (first | rw [c25b0] | (simp only [i64_w, i32_w]; rw [c25b0]) | skip)
                have H' := Aside0.mk H
                clear H
                go_wp2
                go_meet
                case rel => exact ⟨_, ((t393 != 0)), (by first | rfl | (simp; done) | (simp [*]; done)), H', ⟨by have := HJ6.out; first | omega | exact Nat.le_refl _⟩, ⟨by (with_reducible repeat (first | apply Kd.R_alloc | apply Kd.R_drewN | apply Kd.R_drew)); exact Kd.R_mono HO391.out (fun _ hk => ⟨hk.2, hk.1.2⟩)⟩, ⟨by (with_reducible repeat (first | apply Kd.R_alloc | apply Kd.R_drewN | apply Kd.R_drew)); exact Kd.R_mono HO395.out (fun _ hk => ⟨hk.2, hk.1.2⟩)⟩, ⟨by (with_reducible repeat (first | apply Kd.R_alloc | apply Kd.R_drewN | apply Kd.R_drew)); exact Kd.R_mono HO_386005.out (fun _ hk => ⟨hk.1.2, hk.2⟩)⟩, ⟨by (with_reducible repeat (first | refine blk_drewN ?_ _ | refine blk_drew ?_ | refine blk_alloc ?_ _)); exact BK385.out⟩, ⟨by repeat (first | (with_reducible first | exact HB.out | apply below_alloc | apply pw_below_drewN | apply below_drew1 | refine below_set ?_ GE385.out) | exact HB.out)⟩⟩
              · rw [if_neg c25] at H
                have c25b0 : (t389 == 0) = false := beq_eq_false_iff_ne.mpr c25
                have c25b1 : (t389 != 0) = true := bne_iff_ne.mpr c25
                (first | rw [c25b0] | (simp only [i64_w, i32_w]; rw [c25b0]) | skip)
                have H' := Aside0.mk H
                clear H
                go_wp2
                go_meet
                case rel => exact ⟨_, (true), (by first | rfl | (simp; done) | (simp [*]; done)), H', ⟨by have := HJ6.out; first | omega | exact Nat.le_refl _⟩, ⟨by (with_reducible repeat (first | apply Kd.R_alloc | apply Kd.R_drewN | apply Kd.R_drew)); exact Kd.R_mono HO391.out (fun _ hk => ⟨hk.2, hk.1.2⟩)⟩, ⟨by (with_reducible repeat (first | apply Kd.R_alloc | apply Kd.R_drewN | apply Kd.R_drew)); exact Kd.R_mono HO395.out (fun _ hk => ⟨hk.2, hk.1.2⟩)⟩, ⟨by (with_reducible repeat (first | apply Kd.R_alloc | apply Kd.R_drewN | apply Kd.R_drew)); exact Kd.R_mono HO_386005.out (fun _ hk => ⟨hk.1.2, hk.2⟩)⟩, ⟨by (with_reducible repeat (first | refine blk_drewN ?_ _ | refine blk_drew ?_ | refine blk_alloc ?_ _)); exact BK385.out⟩, ⟨by repeat (first | (with_reducible first | exact HB.out | apply below_alloc | apply pw_below_drewN | apply below_drew1 | refine below_set ?_ GE385.out) | exact HB.out)⟩⟩
            case rest =>
              clear HC22
              try clear c1
              try clear c2
              try clear p2
              try clear c4
              try clear c4b0
              try clear c4b1
              try clear c5
              try clear c5b0
              try clear c5b1
              try clear c6
              try clear p6
              try clear c14
              try clear c16
              try clear c17
              try clear c18
              try clear c20
              try clear c25
              try clear c25b0
              try clear c25b1
              try clear hcz11_0
              try clear hcz11_1
              try clear hcz11_2
              try clear hcz11_3
              try clear hcz11_4
              try clear hcz11_5
              try clear hfz11_0
              try clear hfz11_1
              try clear hfz11_2
              try clear hfz11_3
              try clear hfz11_4
              try clear hfz11_5
              try clear p2
              try clear p6
              obtain ⟨kq, x51_21, rfl, HA, HJ21, HO_8, HO_10, HO_386005, BK385, HB⟩ := hcut
              cases kq with
              | zero => exact absurd HA.out (by simp [patchbaylaw02_FramePairs.j1])
              | succ kj21 =>
                have H := HA.out
                clear HA
                simp only [patchbaylaw02_FramePairs.j1] at H
                by_cases c26 : x51_21 = true
                · subst c26
                  have H1 : (some false) = some r := by rw [if_pos rfl] at H; exact H
                  clear H
                  have H := H1
                  clear H1
                  obtain rfl := Option.some.inj H
                  go_wp2
                  go_ret
                  exact ⟨by first | rfl | (simp [errW_none, errW_some] <;> rfl) | (simp only [← hji3]; first | rfl | (simp [errW_none, errW_some] <;> rfl)) | (simp [*, errW_none, errW_some] <;> rfl), by repeat (first | (with_reducible first | exact HB.out | apply below_alloc | apply pw_below_drewN | apply below_drew1 | refine below_set ?_ GE385.out) | exact HB.out)⟩
                · replace c26 := Bool.eq_false_iff.mpr c26
                  subst c26
                  have H1 : (if t378 = true then (if (t388.length : Int) = (lt8_.length : Int) then (some ((t392.length : Int) == (mx 60 (wrap64 ((lt8_.length : Int) - 4))))) else (some false)) else (if (t388.length : Int) = (wrap64 ((lt8_.length : Int) + 4)) then ((patchbayref01_Same.f kj21 t392 lt8_).bind fun t396 => (some t396)) else (some false))) = some r := by rw [if_neg (show ¬ (false = true) by decide)] at H; exact H
                  clear H
                  have H := H1
                  clear H1
                  by_cases c27 : t378 = true
                  · subst c27
                    have H1 : (if (t388.length : Int) = (lt8_.length : Int) then (some ((t392.length : Int) == (mx 60 (wrap64 ((lt8_.length : Int) - 4))))) else (some false)) = some r := by rw [if_pos rfl] at H; exact H
                    clear H
                    have H := H1
                    clear H1
                    by_cases c28 : (t388.length : Int) = (lt8_.length : Int)
                    · rw [if_pos c28] at H
                      have c28b0 : ((t388.length : Int) == (lt8_.length : Int)) = true := beq_iff_eq.mpr c28
                      have c28b1 : ((t388.length : Int) != (lt8_.length : Int)) = false := bne_eq_false_iff_eq.mpr c28
                      have c28b2 : (t388.length == lt8_.length) = true := by first | simpa using c28 | (simp at c28 ⊢; omega)
                      clear c28
                      obtain ⟨ji29, hji29⟩ : ∃ j_ : Int, (mx 60 (wrap64 ((lt8_.length : Int) - 4))) = j_ := ⟨_, rfl⟩
                      replace H : (some ((t392.length : Int) == (ji29))) = some r := by first | (rw [hji29] at H; exact H) | (simp only [hji29] at H ⊢; exact H)
                      have hji29_ : (if 60 < (wrap64 ((lt8_.length : Int) - 4)) then (wrap64 ((lt8_.length : Int) - 4)) else 60) = ji29 := hji29
                      obtain rfl := Option.some.inj H
                      have hcz30_0 : wc.cell? ⟨gb385, 0, none⟩ = some (.int .u64 t376) := (blk_cell BK385.out 0).trans rfl
                      have hcz30_1 : wc.cell? ⟨gb385, 1, none⟩ = some (.int .u64 t377) := (blk_cell BK385.out 1).trans rfl
                      have hcz30_2 : wc.cell? ⟨gb385, 2, none⟩ = some (.bool true) := (blk_cell BK385.out 2).trans rfl
                      have hcz30_3 : wc.cell? ⟨gb385, 3, none⟩ = some (.int .u16 t379) := (blk_cell BK385.out 3).trans rfl
                      have hcz30_4 : wc.cell? ⟨gb385, 4, none⟩ = some (.int .u16 t380) := (blk_cell BK385.out 4).trans rfl
                      have hcz30_5 : wc.cell? ⟨gb385, 5, none⟩ = some (.slice Ao12 t381.length co12) := (blk_cell BK385.out 5).trans rfl
                      have hfz30_0 := blk_frozen BK385.out 0
                      have hfz30_1 := blk_frozen BK385.out 1
                      have hfz30_2 := blk_frozen BK385.out 2
                      have hfz30_3 := blk_frozen BK385.out 3
                      have hfz30_4 := blk_frozen BK385.out 4
                      have hfz30_5 := blk_frozen BK385.out 5
                      obtain ⟨Ao31, co31, eo31⟩ := Kd.R_slice HO_8.out
                      subst eo31
                      obtain ⟨Ao32, co32, eo32⟩ := Kd.R_slice HO_10.out
                      subst eo32
                      go_wp2
                      go_ret
                      exact ⟨by first | rfl | (simp [errW_none, errW_some] <;> rfl) | (simp only [← hji3, ← hji29]; first | rfl | (simp [errW_none, errW_some] <;> rfl)) | (simp [*, errW_none, errW_some] <;> rfl), by repeat (first | (with_reducible first | exact HB.out | apply below_alloc | apply pw_below_drewN | apply below_drew1 | refine below_set ?_ GE385.out) | exact HB.out)⟩
                    · rw [if_neg c28] at H
                      have c28b0 : ((t388.length : Int) == (lt8_.length : Int)) = false := beq_eq_false_iff_ne.mpr c28
                      have c28b1 : ((t388.length : Int) != (lt8_.length : Int)) = true := bne_iff_ne.mpr c28
                      have c28b2 : (t388.length == lt8_.length) = false := by first | simpa using c28 | (simp at c28 ⊢; omega)
                      obtain rfl := Option.some.inj H
                      have hcz33_0 : wc.cell? ⟨gb385, 0, none⟩ = some (.int .u64 t376) := (blk_cell BK385.out 0).trans rfl
                      have hcz33_1 : wc.cell? ⟨gb385, 1, none⟩ = some (.int .u64 t377) := (blk_cell BK385.out 1).trans rfl
                      have hcz33_2 : wc.cell? ⟨gb385, 2, none⟩ = some (.bool true) := (blk_cell BK385.out 2).trans rfl
                      have hcz33_3 : wc.cell? ⟨gb385, 3, none⟩ = some (.int .u16 t379) := (blk_cell BK385.out 3).trans rfl
                      have hcz33_4 : wc.cell? ⟨gb385, 4, none⟩ = some (.int .u16 t380) := (blk_cell BK385.out 4).trans rfl
                      have hcz33_5 : wc.cell? ⟨gb385, 5, none⟩ = some (.slice Ao12 t381.length co12) := (blk_cell BK385.out 5).trans rfl
                      have hfz33_0 := blk_frozen BK385.out 0
                      have hfz33_1 := blk_frozen BK385.out 1
                      have hfz33_2 := blk_frozen BK385.out 2
                      have hfz33_3 := blk_frozen BK385.out 3
                      have hfz33_4 := blk_frozen BK385.out 4
                      have hfz33_5 := blk_frozen BK385.out 5
                      obtain ⟨Ao34, co34, eo34⟩ := Kd.R_slice HO_8.out
                      subst eo34
                      go_wp2
                      go_ret
                      exact ⟨by first | rfl | (simp [errW_none, errW_some] <;> rfl) | (simp only [← hji3]; first | rfl | (simp [errW_none, errW_some] <;> rfl)) | (simp [*, errW_none, errW_some] <;> rfl), by repeat (first | (with_reducible first | exact HB.out | apply below_alloc | apply pw_below_drewN | apply below_drew1 | refine below_set ?_ GE385.out) | exact HB.out)⟩
                  · replace c27 := Bool.eq_false_iff.mpr c27
                    subst c27
                    have H1 : (if (t388.length : Int) = (wrap64 ((lt8_.length : Int) + 4)) then ((patchbayref01_Same.f kj21 t392 lt8_).bind fun t396 => (some t396)) else (some false)) = some r := by rw [if_neg (show ¬ (false = true) by decide)] at H; exact H
                    clear H
                    have H := H1
                    clear H1
                    by_cases c35 : (t388.length : Int) = (wrap64 ((lt8_.length : Int) + 4))
                    · rw [if_pos c35] at H
                      have c35b0 : ((t388.length : Int) == (wrap64 ((lt8_.length : Int) + 4))) = true := beq_iff_eq.mpr c35
                      have c35b1 : ((t388.length : Int) != (wrap64 ((lt8_.length : Int) + 4))) = false := bne_eq_false_iff_eq.mpr c35
                      clear c35
                      replace H := Option.bind_eq_some_iff.mp H
                      obtain ⟨t396, A360, H⟩ := H
                      replace H : (some t396) = some r := H
                      have A36 := Aside0.mk A360
                      clear A360
                      obtain rfl := Option.some.inj H
                      have hcz37_0 : wc.cell? ⟨gb385, 0, none⟩ = some (.int .u64 t376) := (blk_cell BK385.out 0).trans rfl
                      have hcz37_1 : wc.cell? ⟨gb385, 1, none⟩ = some (.int .u64 t377) := (blk_cell BK385.out 1).trans rfl
                      have hcz37_2 : wc.cell? ⟨gb385, 2, none⟩ = some (.bool false) := (blk_cell BK385.out 2).trans rfl
                      have hcz37_3 : wc.cell? ⟨gb385, 3, none⟩ = some (.int .u16 t379) := (blk_cell BK385.out 3).trans rfl
                      have hcz37_4 : wc.cell? ⟨gb385, 4, none⟩ = some (.int .u16 t380) := (blk_cell BK385.out 4).trans rfl
                      have hcz37_5 : wc.cell? ⟨gb385, 5, none⟩ = some (.slice Ao12 t381.length co12) := (blk_cell BK385.out 5).trans rfl
                      have hfz37_0 := blk_frozen BK385.out 0
                      have hfz37_1 := blk_frozen BK385.out 1
                      have hfz37_2 := blk_frozen BK385.out 2
                      have hfz37_3 := blk_frozen BK385.out 3
                      have hfz37_4 := blk_frozen BK385.out 4
                      have hfz37_5 := blk_frozen BK385.out 5
                      obtain ⟨Ao38, co38, eo38⟩ := Kd.R_slice HO_8.out
                      subst eo38
                      obtain ⟨Ao39, co39, eo39⟩ := Kd.R_slice HO_10.out
                      subst eo39
                      go_wp2_with (first | (go_at_call 19; (with_reducible refine (patchbayref01_Same.calls kj21 _ _ t392 _ _ lt8_ t396 _ ?side1 ?side2 ?side3 ?side4 A36.out).mono ?_); (case side1 => repeat (first | exact (Kd.R_reads' HO_10.out).2.2 | (with_reducible refine Kd.C_alloc ?_ _) | (with_reducible refine Kd.C_drewN ?_ _) | (with_reducible refine Kd.C_drew ?_))); (case side2 => exact (Kd.R_reads' HO_10.out).2.1); (case side3 => repeat (first | exact (Kd.C_below HR375.out HB.out) | (with_reducible refine Kd.C_alloc ?_ _) | (with_reducible refine Kd.C_drewN ?_ _) | (with_reducible refine Kd.C_drew ?_))); (case side4 => exact HC375.out); rintro e w' ⟨rfl, ⟨nd, rfl⟩⟩))
                      go_ret
                      exact ⟨by first | rfl | (simp [errW_none, errW_some] <;> rfl) | (simp only [← hji3]; first | rfl | (simp [errW_none, errW_some] <;> rfl)) | (simp [*, errW_none, errW_some] <;> rfl), by repeat (first | (with_reducible first | exact HB.out | apply below_alloc | apply pw_below_drewN | apply below_drew1 | refine below_set ?_ GE385.out) | exact HB.out)⟩
                    · rw [if_neg c35] at H
                      have c35b0 : ((t388.length : Int) == (wrap64 ((lt8_.length : Int) + 4))) = false := beq_eq_false_iff_ne.mpr c35
                      have c35b1 : ((t388.length : Int) != (wrap64 ((lt8_.length : Int) + 4))) = true := bne_iff_ne.mpr c35
                      obtain rfl := Option.some.inj H
                      have hcz40_0 : wc.cell? ⟨gb385, 0, none⟩ = some (.int .u64 t376) := (blk_cell BK385.out 0).trans rfl
                      have hcz40_1 : wc.cell? ⟨gb385, 1, none⟩ = some (.int .u64 t377) := (blk_cell BK385.out 1).trans rfl
                      have hcz40_2 : wc.cell? ⟨gb385, 2, none⟩ = some (.bool false) := (blk_cell BK385.out 2).trans rfl
                      have hcz40_3 : wc.cell? ⟨gb385, 3, none⟩ = some (.int .u16 t379) := (blk_cell BK385.out 3).trans rfl
                      have hcz40_4 : wc.cell? ⟨gb385, 4, none⟩ = some (.int .u16 t380) := (blk_cell BK385.out 4).trans rfl
                      have hcz40_5 : wc.cell? ⟨gb385, 5, none⟩ = some (.slice Ao12 t381.length co12) := (blk_cell BK385.out 5).trans rfl
                      have hfz40_0 := blk_frozen BK385.out 0
                      have hfz40_1 := blk_frozen BK385.out 1
                      have hfz40_2 := blk_frozen BK385.out 2
                      have hfz40_3 := blk_frozen BK385.out 3
                      have hfz40_4 := blk_frozen BK385.out 4
                      have hfz40_5 := blk_frozen BK385.out 5
                      obtain ⟨Ao41, co41, eo41⟩ := Kd.R_slice HO_8.out
                      subst eo41
                      go_wp2
                      go_ret
                      exact ⟨by first | rfl | (simp [errW_none, errW_some] <;> rfl) | (simp only [← hji3]; first | rfl | (simp [errW_none, errW_some] <;> rfl)) | (simp [*, errW_none, errW_some] <;> rfl), by repeat (first | (with_reducible first | exact HB.out | apply below_alloc | apply pw_below_drewN | apply below_drew1 | refine below_set ?_ GE385.out) | exact HB.out)⟩
    · rw [if_neg c5] at H
      exact absurd H (by simp)
  · rw [if_neg c4] at H
    exact absurd H (by simp)

/-- THE ONE PURE STATEMENT of patchbaylaw02_FramePairs: yours. -/
def patchbaylaw02_FramePairs.Pure : Prop := ∀ (l0 : List Int) (a1 : Int), l0.length ≤ maxLen → l0.length * 1 ≤ 140737488351232 → (∀ x ∈ l0, (Lit.int .u8 x).wf = true) → (Lit.int .i64 a1).wf = true → ∃ k, patchbaylaw02_FramePairs.f k l0 a1 = some true
theorem patchbaylaw02_FramePairs.walk (P : patchbaylaw02_FramePairs.Pure) (a0 : Option Addr) (len0 cap0 : Nat) (z0 : List Int) (a1 : Int) (w : World) (w0 : (a0 = none ∧ len0 = 0 ∧ cap0 = 0 ∧ z0 = []) ∨ ∃ x, a0 = some x ∧ len0 ≤ cap0 ∧ cap0 ≤ maxLen ∧ z0.length = cap0 ∧ (∀ i, i < z0.length → w.cell? (x.add i) = some (.int .u8 (z0.getD i 0))) ∧ ∀ n ∈ z0, (Lit.int .u8 n).wf = true) (y0 : len0 * 1 ≤ 140737488351232) (w1 : (Lit.int .i64 a1).wf = true) :
    Calls Try.prog 6 #[.slice a0 len0 cap0, .int .i64 a1] w fun e w' => e = .returned (.bool true) ∧ Below w.heap.size w w' := by
  obtain ⟨l0, rfl, hr0, hm0, hw0, hc0⟩ := ReadsInt.ofRowC w0
  obtain ⟨k, h⟩ := P l0 a1 hm0 y0 hw0 w1
  refine (patchbaylaw02_FramePairs.calls k _ _ l0 a1 true w (Kd.C_of_reads (d := (0 : Int)) (h1 := fun _ => rfl) hr0) hc0 h).mono ?_
  rintro e w' ⟨rfl, hd⟩
  exact ⟨rfl, hd⟩

end Go.Proofs.Ytdohdjfclnlpmaa.PFrame
