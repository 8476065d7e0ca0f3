/- Plain Lean functions of what a law comes to, and their contracts: the machine's call does what they say; no condition. Written by wip/myprint.sh over the kit's print.py. -/
import Derived.Test.YtdohdjfclnlpmaaPFramex0
import Derived.Test.YtdohdjfclnlpmaaPFramex2
import Derived.Test.YtdohdjfclnlpmaaPFramex3
namespace Go.Proofs.Ytdohdjfclnlpmaa.PFrame
open Go.RowKit Go.Proofs.YtdohdjfclnlpmaaW.PrintWords Go.Proofs.YtdohdjfclnlpmaaW.PrintLast Go.Proofs.YtdohdjfclnlpmaaW.PrintMore
attribute [local go_sem] max2_int min2_int max_two min_two max_three min_three max_four min_four   -- for this text's walks alone
set_option linter.unusedVariables false
set_option linter.unusedSimpArgs false

/-! ### patchbaylaw02_told: function 18 -/
def patchbaylaw02_told.f (k : Nat)  : Option (Bool) := if 60 ≤ 281474976710656 then ((some (List.replicate 60 0 : List Int)).bind fun y178 => ((frame_Parse.f k y178).bind fun bt181 => ((frame_Out.f k y178 true 5).bind fun bt191 => (if 1 ≤ (y178.length : Int) then ((frame_Parse.f k (y178.drop 1)).bind fun bt199 => (if bt181.2.2.2.2.2.2 = 0 then (if (bt181.2.2.2.2.2.1.length : Int) = 46 then (if bt191.2 = 0 then (if (bt191.1.length : Int) = 64 then (if 12 < (bt191.1.length : Int) then (if (rd bt191.1 12) = 129 then (if 15 < (bt191.1.length : Int) then (if (rd bt191.1 15) = 5 then (some (bt199.2.2.2.2.2.2 == 2)) else (some false)) else (none)) else (some false)) else (none)) else (some false)) else (some false)) else (some false)) else (some false))) else (none))))) else (none)
theorem patchbaylaw02_told.mono : ∀ k, LeO (patchbaylaw02_told.f k ) (patchbaylaw02_told.f (k + 1) ) := by
  intro  k
  unfold patchbaylaw02_told.f
  repeat' first
      | (with_reducible exact frame_Out.mono _ _ _ _)
      | (with_reducible exact frame_Parse.mono _ _)
      | (with_reducible exact LeO.refl _)
      | (with_reducible exact LeO.none _)
      | (with_reducible refine LeO.ite ?_ ?_)
      | (with_reducible refine LeO.bind ?_ (fun _ => ?_))
      | exact frame_Out.mono _ _ _ _
      | exact frame_Parse.mono _ _
      | exact LeO.none _
      | refine LeO.ite ?_ ?_
      | refine LeO.bind ?_ (fun _ => ?_)
set_option maxHeartbeats 8000000 in
set_option maxRecDepth 100000 in
theorem patchbaylaw02_told.calls1 (k : Nat)  (r : Bool) (w : World) (hr_ : Aside0 (r = true)) (h : patchbaylaw02_told.f k  = some r) :
    Calls Try.prog 18 #[] w fun e w' => e = .returned (.bool r) ∧ Below w.heap.size w w' := by
  have hu39 := Try.underlying39
  have HB := Aside0.mk (Below.refl w.heap.size w)
  have H : (if 60 ≤ 281474976710656 then ((some (List.replicate 60 0 : List Int)).bind fun y178 => ((frame_Parse.f k y178).bind fun bt181 => ((frame_Out.f k y178 true 5).bind fun bt191 => (if 1 ≤ (y178.length : Int) then ((frame_Parse.f k (y178.drop 1)).bind fun bt199 => (if bt181.2.2.2.2.2.2 = 0 then (if (bt181.2.2.2.2.2.1.length : Int) = 46 then (if bt191.2 = 0 then (if (bt191.1.length : Int) = 64 then (if 12 < (bt191.1.length : Int) then (if (rd bt191.1 12) = 129 then (if 15 < (bt191.1.length : Int) then (if (rd bt191.1 15) = 5 then (some (bt199.2.2.2.2.2.2 == 2)) else (some false)) else (none)) else (some false)) else (none)) else (some false)) else (some false)) else (some false)) else (some false))) else (none))))) else (none)) = some r := h
  clear h
  by_cases c1 : 60 ≤ 281474976710656
  · rw [if_pos c1] at H
    have c1b0 := eq_true c1
    have c1b1 : decide (60 ≤ 281474976710656) = true := decide_eq_true c1
    clear c1
    obtain ⟨y178, hy178⟩ : ∃ y_ : List Int, y_ = (List.replicate 60 0) := ⟨_, rfl⟩
    replace H : ((frame_Parse.f k y178).bind fun bt181 => ((frame_Out.f k y178 true 5).bind fun bt191 => (if 1 ≤ (y178.length : Int) then ((frame_Parse.f k (y178.drop 1)).bind fun bt199 => (if bt181.2.2.2.2.2.2 = 0 then (if (bt181.2.2.2.2.2.1.length : Int) = 46 then (if bt191.2 = 0 then (if (bt191.1.length : Int) = 64 then (if 12 < (bt191.1.length : Int) then (if (rd bt191.1 12) = 129 then (if 15 < (bt191.1.length : Int) then (if (rd bt191.1 15) = 5 then (some (bt199.2.2.2.2.2.2 == 2)) else (some false)) else (none)) else (some false)) else (none)) else (some false)) else (some false)) else (some false)) else (some false))) else (none)))) = some r := by first | (rw [hy178]; with_reducible exact H) | (have H2_ := (Option.bind_some _ _).symm.trans H; rw [hy178]; with_reducible exact H2_) | (have H2_ := (Option.bind_some _ _).symm.trans H; with_reducible exact H2_) | with_reducible exact H | (rw [hy178]; exact H) | exact H
    have Ny178 := Aside0.mk hy178
    clear hy178
    replace H := Option.bind_eq_some_iff.mp H
    obtain ⟨⟨t181, t182, t183, t184, t185, t186, t189⟩, A20, H⟩ := H
    replace H : ((frame_Out.f k y178 true 5).bind fun bt191 => (if 1 ≤ (y178.length : Int) then ((frame_Parse.f k (y178.drop 1)).bind fun bt199 => (if t189 = 0 then (if (t186.length : Int) = 46 then (if bt191.2 = 0 then (if (bt191.1.length : Int) = 64 then (if 12 < (bt191.1.length : Int) then (if (rd bt191.1 12) = 129 then (if 15 < (bt191.1.length : Int) then (if (rd bt191.1 15) = 5 then (some (bt199.2.2.2.2.2.2 == 2)) else (some false)) else (none)) else (some false)) else (none)) else (some false)) else (some false)) else (some false)) else (some false))) else (none))) = some r := H
    have A2 := Aside0.mk A20
    clear A20
    replace H := Option.bind_eq_some_iff.mp H
    obtain ⟨⟨t191, t192⟩, A30, H⟩ := H
    replace H : (if 1 ≤ (y178.length : Int) then ((frame_Parse.f k (y178.drop 1)).bind fun bt199 => (if t189 = 0 then (if (t186.length : Int) = 46 then (if t192 = 0 then (if (t191.length : Int) = 64 then (if 12 < (t191.length : Int) then (if (rd t191 12) = 129 then (if 15 < (t191.length : Int) then (if (rd t191 15) = 5 then (some (bt199.2.2.2.2.2.2 == 2)) else (some false)) else (none)) else (some false)) else (none)) else (some false)) else (some false)) else (some false)) else (some false))) else (none)) = some r := H
    have A3 := Aside0.mk A30
    clear A30
    by_cases c4 : 1 ≤ (y178.length : Int)
    · rw [if_pos c4] at H
      have c4b0 := eq_true c4
      have c4b1 : decide (1 ≤ (y178.length : Int)) = true := decide_eq_true c4
      clear c4
      obtain ⟨y195, hy195⟩ : ∃ y_ : List Int, y_ = (y178.drop 1) := ⟨_, rfl⟩
      replace H : ((frame_Parse.f k y195).bind fun bt199 => (if t189 = 0 then (if (t186.length : Int) = 46 then (if t192 = 0 then (if (t191.length : Int) = 64 then (if 12 < (t191.length : Int) then (if (rd t191 12) = 129 then (if 15 < (t191.length : Int) then (if (rd t191 15) = 5 then (some (bt199.2.2.2.2.2.2 == 2)) else (some false)) else (none)) else (some false)) else (none)) else (some false)) else (some false)) else (some false)) else (some false))) = some r := by first | (rw [hy195]; with_reducible exact H) | (have H2_ := (Option.bind_some _ _).symm.trans H; rw [hy195]; with_reducible exact H2_) | (have H2_ := (Option.bind_some _ _).symm.trans H; with_reducible exact H2_) | with_reducible exact H | (rw [hy195]; exact H) | exact H
      have Ny195 := Aside0.mk hy195
      clear hy195
      replace H := Option.bind_eq_some_iff.mp H
      obtain ⟨⟨t199, t200, t201, t202, t203, t204, t207⟩, A50, H⟩ := H
      replace H : (if t189 = 0 then (if (t186.length : Int) = 46 then (if t192 = 0 then (if (t191.length : Int) = 64 then (if 12 < (t191.length : Int) then (if (rd t191 12) = 129 then (if 15 < (t191.length : Int) then (if (rd t191 15) = 5 then (some (t207 == 2)) else (some false)) else (none)) else (some false)) else (none)) else (some false)) else (some false)) else (some false)) else (some false)) = some r := H
      have A5 := Aside0.mk A50
      clear A50
      by_cases c6 : t189 = 0
      · rw [if_pos c6] at H
        have c6b0 : (t189 == 0) = true := beq_iff_eq.mpr c6
        have c6b1 : (t189 != 0) = false := bne_eq_false_iff_eq.mpr c6
        clear c6
        by_cases c7 : (t186.length : Int) = 46
        · rw [if_pos c7] at H
          have c7b0 : ((t186.length : Int) == 46) = true := beq_iff_eq.mpr c7
          have c7b1 : ((t186.length : Int) != 46) = false := bne_eq_false_iff_eq.mpr c7
          clear c7
          by_cases c8 : t192 = 0
          · rw [if_pos c8] at H
            have c8b0 : (t192 == 0) = true := beq_iff_eq.mpr c8
            have c8b1 : (t192 != 0) = false := bne_eq_false_iff_eq.mpr c8
            clear c8
            by_cases c9 : (t191.length : Int) = 64
            · rw [if_pos c9] at H
              have c9b0 : ((t191.length : Int) == 64) = true := beq_iff_eq.mpr c9
              have c9b1 : ((t191.length : Int) != 64) = false := bne_eq_false_iff_eq.mpr c9
              clear c9
              by_cases c10 : 12 < (t191.length : Int)
              · rw [if_pos c10] at H
                have c10b0 : decide (12 < (t191.length : Int)) = true := decide_eq_true c10
                have c10b1 : decide (12 < t191.length) = true := decide_eq_true (by omega)
                clear c10
                by_cases c11 : (rd t191 12) = 129
                · rw [if_pos c11] at H
                  have c11b0 : ((rd t191 12) == 129) = true := beq_iff_eq.mpr c11
                  have c11b1 : ((rd t191 12) != 129) = false := bne_eq_false_iff_eq.mpr c11
                  clear c11
                  by_cases c12 : 15 < (t191.length : Int)
                  · rw [if_pos c12] at H
                    have c12b0 : decide (15 < (t191.length : Int)) = true := decide_eq_true c12
                    have c12b1 : decide (15 < t191.length) = true := decide_eq_true (by omega)
                    clear c12
                    by_cases c13 : (rd t191 15) = 5
                    · rw [if_pos c13] at H
                      have c13b0 : ((rd t191 15) == 5) = true := beq_iff_eq.mpr c13
                      have c13b1 : ((rd t191 15) != 5) = false := bne_eq_false_iff_eq.mpr c13
                      clear c13
                      obtain rfl := Option.some.inj H
                      go_enter Try.func18, Try.ntmps18
                      go_wp2_with (first | ((with_reducible refine gate_dst (N := 8) rfl ?_); (try (refine gate_guard (by rfl) ?_; dsimp only)); refine Kd.R_make (Kd.int .u8) _ 5 rfl (N := 8) rfl 22 _ _ rfl 60 rfl rfl Try.underlying22 (.int .u8 0) 1 info5 rfl (by decide) (by omega) 0 (ok := fun _ => True) (okp := fun _ => True) rfl (fun _ hk => hk) trivial (by omega) (by omega) (Below.refl _ _) (Nat.le_refl _) ?_; intro v179 w14 ho15 hb hg_ hnew_; clear hg_ hnew_; (first | rw [← Ny178.out] at ho15 | (simp only [Int.reduceToNat] at ho15; rw [← Ny178.out] at ho15)); have n0_ := Aside0.mk (Kd.R_lower ho15 (below_size (by repeat (first | (with_reducible first | exact HB.out | apply below_alloc | apply pw_below_drewN | apply below_drew1) | exact HB.out)))); have n1_ := Aside0.mk (below_step (by repeat (first | (with_reducible first | exact HB.out | apply below_alloc | apply pw_below_drewN | apply below_drew1) | exact HB.out)) hb); clear HB; have HO180 := n0_; have HB := n1_; clear n0_ n1_; clear hb ho15; obtain ⟨Ao16, co16, eo16⟩ := Kd.R_slice HO180.out; subst eo16) | ((with_reducible refine gate_callee (f := 21) rfl ?_); refine goesL_ (some 11) rfl rfl Try.func21 (by kernel_rfl) rfl #[.slice Ao16 y178.length co16] rfl (by (try simp only [List.map_toArray, List.map_cons, List.map_nil]); first | done | rfl | (simp only [List.length_drop, List.length_take]; rfl)) ?_; (with_reducible refine (frame_Parse.calls k _ _ y178 t181 t182 t183 t184 t185 t186 t189 _ ?side1 ?side2 A2.out).mono ?_); (case side1 => repeat (first | exact (Kd.R_reads' HO180.out).2.2 | (with_reducible refine Kd.C_alloc ?_ _) | (with_reducible refine Kd.C_drewN ?_ _) | (with_reducible refine Kd.C_drew ?_))); (case side2 => exact (Kd.R_reads' HO180.out).2.1); rintro e w17 ⟨v187, rfl, ho0, hb⟩; refine ⟨_, rfl, ?_⟩; have n0_ := Aside0.mk (Kd.R_elder' (by (with_reducible repeat (first | apply Kd.R_alloc | apply Kd.R_drewN | apply Kd.R_drew)); exact HO180.out) (Kd.R_base ho0) hb); have n1_ := Aside0.mk (Kd.R_lower (Kd.R_new' ho0 (Kd.R_lt (by (with_reducible repeat (first | apply Kd.R_alloc | apply Kd.R_drewN | apply Kd.R_drew)); exact HO180.out))) (below_size (by repeat (first | (with_reducible first | exact HB.out | apply below_alloc | apply pw_below_drewN | apply below_drew1) | exact HB.out)))); have n2_ := Aside0.mk (below_step (by repeat (first | (with_reducible first | exact HB.out | apply below_alloc | apply pw_below_drewN | apply below_drew1) | exact HB.out)) hb); clear HO180; clear HB; have HO180 := n0_; have HO188 := n1_; have HB := n2_; clear n0_ n1_ n2_; (try clear hb); (try clear hb2); (try clear hk); (try clear hi); (try clear ho0)) | ((with_reducible refine gate_dst (N := 2) rfl ?_); (try (refine gate_guard (by rfl) ?_; dsimp only)); refine box_event ?hg (N := 2) ?hd (cs := #[.int .u64 0, .int .u64 0, .bool false, .int .u16 0, .int .u16 0, .slice none 0 0]) (t := 39) ?hr ?_; (case hd => rfl); (case hg => rfl); (case hr => first | (go_simp; done) | (go_simp; rfl)); intro gb190 hg w18 hbox hb; have n0_ := Aside0.mk (Kd.R_below (by (with_reducible repeat (first | apply Kd.R_alloc | apply Kd.R_drewN | apply Kd.R_drew)); exact HO180.out) hb); have n1_ := Aside0.mk (Kd.R_below (by (with_reducible repeat (first | apply Kd.R_alloc | apply Kd.R_drewN | apply Kd.R_drew)); exact HO188.out) hb); have n2_ := Aside0.mk (below_step (by repeat (first | (with_reducible first | exact HB.out | apply below_alloc | apply pw_below_drewN | apply below_drew1) | exact HB.out)) hb); have n3_ := Aside0.mk (hbox); have n4_ := Aside0.mk ((by rw [hg]; exact (below_size (by repeat (first | (with_reducible first | exact HB.out | apply below_alloc | apply pw_below_drewN | apply below_drew1) | exact HB.out))) : w.heap.size ≤ gb190)); have n5_ := Aside0.mk ((by rw [hg]; exact (below_size (by repeat (first | (with_reducible first | exact HB.out | apply below_alloc | apply pw_below_drewN | apply below_drew1) | exact HB.out))) : w.heap.size ≤ gb190)); clear HO180; clear HO188; clear HB; have HO180 := n0_; have HO188 := n1_; have HB := n2_; have BK190 := n3_; have GW190 := n4_; have GE190 := n5_; clear n0_ n1_ n2_ n3_ n4_ n5_; clear hb hbox hg; have hcz19_0 : w18.cell? ⟨gb190, 0, none⟩ = some (.int .u64 0) := (blk_cell BK190.out 0).trans rfl; have hcz19_1 : w18.cell? ⟨gb190, 1, none⟩ = some (.int .u64 0) := (blk_cell BK190.out 1).trans rfl; have hcz19_2 : w18.cell? ⟨gb190, 2, none⟩ = some (.bool false) := (blk_cell BK190.out 2).trans rfl; have hcz19_3 : w18.cell? ⟨gb190, 3, none⟩ = some (.int .u16 0) := (blk_cell BK190.out 3).trans rfl; have hcz19_4 : w18.cell? ⟨gb190, 4, none⟩ = some (.int .u16 0) := (blk_cell BK190.out 4).trans rfl; have hcz19_5 : w18.cell? ⟨gb190, 5, none⟩ = some (.slice none 0 0) := (blk_cell BK190.out 5).trans rfl; have hfz19_0 := blk_frozen BK190.out 0; have hfz19_1 := blk_frozen BK190.out 1; have hfz19_2 := blk_frozen BK190.out 2; have hfz19_3 := blk_frozen BK190.out 3; have hfz19_4 := blk_frozen BK190.out 4; have hfz19_5 := blk_frozen BK190.out 5; obtain ⟨Ao20, co20, eo20⟩ := Kd.R_slice HO188.out; subst eo20) | ((with_reducible refine gate_callee (f := 16) rfl ?_); refine goesL_ (some 16) rfl rfl Try.func16 (by kernel_rfl) rfl #[.slice Ao16 y178.length co16, .bool true, .int .i64 5] rfl (by (try simp only [List.map_toArray, List.map_cons, List.map_nil]); first | done | rfl | (simp only [List.length_drop, List.length_take]; rfl)) ?_; (with_reducible refine (frame_Out.calls k _ _ y178 true 5 t191 t192 _ ?side1 ?side2 A3.out).mono ?_); (case side1 => refine (Kd.R_reads' (e := 5) (base := w.heap.size) (ok := fun k_ => (True ∧ some k_ ≠ (.slice Ao20 t186.length co20 : Value).ownBlock)) (n := y178.length) (c := co16) ?_).2.2; exact (by (with_reducible repeat (first | apply Kd.R_alloc | apply Kd.R_drewN | apply Kd.R_drew)); exact (Kd.R_mono (Kd.R_far (p := ⟨gb190, 5, none⟩) (Kd.R_far (p := ⟨gb190, 4, none⟩) (Kd.R_far (p := ⟨gb190, 3, none⟩) (Kd.R_far (p := ⟨gb190, 2, none⟩) (Kd.R_far (p := ⟨gb190, 1, none⟩) (Kd.R_far (p := ⟨gb190, 0, none⟩) (Kd.R_types HO180.out BK190.out (by decide)) (fun _ hk => hk.2) (.int .u64 t181)) (fun _ hk => hk.2) (.int .u64 t182)) (fun _ hk => hk.2) (.bool t183)) (fun _ hk => hk.2) (.int .u16 t184)) (fun _ hk => hk.2) (.int .u16 t185)) (fun _ hk => hk.2) (.slice Ao20 t186.length co20)) (fun _ h_ => h_.1)))); (case side2 => exact (Kd.R_reads' HO180.out).2.1); rintro e w21 ⟨v193, rfl, ho0, hb⟩; refine ⟨_, rfl, ?_⟩; have n0_ := Aside0.mk (Kd.R_elder' (by (with_reducible repeat (first | apply Kd.R_alloc | apply Kd.R_drewN | apply Kd.R_drew)); exact (Kd.R_mono (Kd.R_far (p := ⟨gb190, 5, none⟩) (Kd.R_far (p := ⟨gb190, 4, none⟩) (Kd.R_far (p := ⟨gb190, 3, none⟩) (Kd.R_far (p := ⟨gb190, 2, none⟩) (Kd.R_far (p := ⟨gb190, 1, none⟩) (Kd.R_far (p := ⟨gb190, 0, none⟩) (Kd.R_types HO180.out BK190.out (by decide)) (fun _ hk => hk.2) (.int .u64 t181)) (fun _ hk => hk.2) (.int .u64 t182)) (fun _ hk => hk.2) (.bool t183)) (fun _ hk => hk.2) (.int .u16 t184)) (fun _ hk => hk.2) (.int .u16 t185)) (fun _ hk => hk.2) (.slice Ao20 t186.length co20)) (fun _ h_ => h_.1))) (Kd.R_base ho0) hb); have n1_ := Aside0.mk (Kd.R_elder' (by (with_reducible repeat (first | apply Kd.R_alloc | apply Kd.R_drewN | apply Kd.R_drew)); exact (Kd.R_mono (Kd.R_far (p := ⟨gb190, 5, none⟩) (Kd.R_far (p := ⟨gb190, 4, none⟩) (Kd.R_far (p := ⟨gb190, 3, none⟩) (Kd.R_far (p := ⟨gb190, 2, none⟩) (Kd.R_far (p := ⟨gb190, 1, none⟩) (Kd.R_far (p := ⟨gb190, 0, none⟩) (Kd.R_types HO188.out BK190.out (by decide)) (fun _ hk => hk.2) (.int .u64 t181)) (fun _ hk => hk.2) (.int .u64 t182)) (fun _ hk => hk.2) (.bool t183)) (fun _ hk => hk.2) (.int .u16 t184)) (fun _ hk => hk.2) (.int .u16 t185)) (fun _ hk => hk.2) (.slice Ao20 t186.length co20)) (fun _ h_ => h_.1))) (Kd.R_base ho0) hb); have n2_ := Aside0.mk (Kd.R_lower (Kd.R_new' (Kd.R_new' ho0 (Kd.R_lt (by (with_reducible repeat (first | apply Kd.R_alloc | apply Kd.R_drewN | apply Kd.R_drew)); exact (Kd.R_mono (Kd.R_far (p := ⟨gb190, 5, none⟩) (Kd.R_far (p := ⟨gb190, 4, none⟩) (Kd.R_far (p := ⟨gb190, 3, none⟩) (Kd.R_far (p := ⟨gb190, 2, none⟩) (Kd.R_far (p := ⟨gb190, 1, none⟩) (Kd.R_far (p := ⟨gb190, 0, none⟩) (Kd.R_types HO180.out BK190.out (by decide)) (fun _ hk => hk.2) (.int .u64 t181)) (fun _ hk => hk.2) (.int .u64 t182)) (fun _ hk => hk.2) (.bool t183)) (fun _ hk => hk.2) (.int .u16 t184)) (fun _ hk => hk.2) (.int .u16 t185)) (fun _ hk => hk.2) (.slice Ao20 t186.length co20)) (fun _ h_ => h_.1))))) (Kd.R_lt (by (with_reducible repeat (first | apply Kd.R_alloc | apply Kd.R_drewN | apply Kd.R_drew)); exact (Kd.R_mono (Kd.R_far (p := ⟨gb190, 5, none⟩) (Kd.R_far (p := ⟨gb190, 4, none⟩) (Kd.R_far (p := ⟨gb190, 3, none⟩) (Kd.R_far (p := ⟨gb190, 2, none⟩) (Kd.R_far (p := ⟨gb190, 1, none⟩) (Kd.R_far (p := ⟨gb190, 0, none⟩) (Kd.R_types HO188.out BK190.out (by decide)) (fun _ hk => hk.2) (.int .u64 t181)) (fun _ hk => hk.2) (.int .u64 t182)) (fun _ hk => hk.2) (.bool t183)) (fun _ hk => hk.2) (.int .u16 t184)) (fun _ hk => hk.2) (.int .u16 t185)) (fun _ hk => hk.2) (.slice Ao20 t186.length co20)) (fun _ h_ => h_.1))))) (below_size (by repeat (first | (with_reducible first | exact HB.out | apply below_alloc | apply pw_below_drewN | apply below_drew1 | refine below_set ?_ GE190.out) | exact HB.out)))); have n3_ := Aside0.mk (blk_below (g := gb190) (o := .cells #[.int .u64 t181, .int .u64 t182, .bool t183, .int .u16 t184, .int .u16 t185, .slice Ao20 t186.length co20] 39 (0, 0)) (by (with_reducible repeat (first | refine blk_drewN ?_ _ | refine blk_drew ?_ | refine blk_alloc ?_ _)); refine blk_put (cs := #[.int .u64 t181, .int .u64 t182, .bool t183, .int .u16 t184, .int .u16 t185, .slice none 0 0]) ?_ 5 _ rfl; (with_reducible repeat (first | refine blk_drewN ?_ _ | refine blk_drew ?_ | refine blk_alloc ?_ _)); refine blk_put (cs := #[.int .u64 t181, .int .u64 t182, .bool t183, .int .u16 t184, .int .u16 0, .slice none 0 0]) ?_ 4 _ rfl; (with_reducible repeat (first | refine blk_drewN ?_ _ | refine blk_drew ?_ | refine blk_alloc ?_ _)); refine blk_put (cs := #[.int .u64 t181, .int .u64 t182, .bool t183, .int .u16 0, .int .u16 0, .slice none 0 0]) ?_ 3 _ rfl; (with_reducible repeat (first | refine blk_drewN ?_ _ | refine blk_drew ?_ | refine blk_alloc ?_ _)); refine blk_put (cs := #[.int .u64 t181, .int .u64 t182, .bool false, .int .u16 0, .int .u16 0, .slice none 0 0]) ?_ 2 _ rfl; (with_reducible repeat (first | refine blk_drewN ?_ _ | refine blk_drew ?_ | refine blk_alloc ?_ _)); refine blk_put (cs := #[.int .u64 t181, .int .u64 0, .bool false, .int .u16 0, .int .u16 0, .slice none 0 0]) ?_ 1 _ rfl; (with_reducible repeat (first | refine blk_drewN ?_ _ | refine blk_drew ?_ | refine blk_alloc ?_ _)); refine blk_put (cs := #[.int .u64 0, .int .u64 0, .bool false, .int .u16 0, .int .u16 0, .slice none 0 0]) ?_ 0 _ rfl; (with_reducible repeat (first | refine blk_drewN ?_ _ | refine blk_drew ?_ | refine blk_alloc ?_ _)); exact BK190.out) hb); have n4_ := Aside0.mk (below_step (by repeat (first | (with_reducible first | exact HB.out | apply below_alloc | apply pw_below_drewN | apply below_drew1 | refine below_set ?_ GE190.out) | exact HB.out)) hb); clear HO180; clear HO188; clear BK190; clear HB; have HO180 := n0_; have HO188 := n1_; have HO194 := n2_; have BK190 := n3_; have HB := n4_; clear n0_ n1_ n2_ n3_ n4_; (try clear hb); (try clear hb2); (try clear hk); (try clear hi); (try clear ho0); have q22 : (1 : Int) ≤ ((y178.length : Int) : Int) := of_decide_eq_true (by first | (with_reducible assumption) | assumption); obtain ⟨i022, hi022, _, hsz22, _⟩ := info_parts info5; have hroom22 : y178.length ≤ co16 := (Kd.R_reads' HO180.out).2.1; have hC22 : Kd.C (Kd.int .u8) _ Ao16 y178.length y178 := (Kd.R_reads' HO180.out).2.2; have hcut22 := cut_from (P := Try.prog) 22 5 .i64 Try.underlying22 hi022 1 hsz22 Ao16 y178.length co16 1 (by omega) q22; have hr22 := Kd.C_drop (m := (1 : Int).toNat) (c := co16) hC22 (by omega) hroom22; obtain ⟨A22, hA22⟩ : ∃ A1, A1 = (if co16 = (1 : Int).toNat then Ao16 else (Ao16 : Option Addr).map (·.add ((1 : Int).toNat * 1))) := ⟨_, rfl⟩; obtain ⟨c22, hc22⟩ : ∃ c1, c1 = co16 - (1 : Int).toNat := ⟨_, rfl⟩; have hy22 : y195.length = y178.length - (1 : Int).toNat := (by rw [Ny195.out, List.length_drop] <;> omega); rw [show (y178).drop (1 : Int).toNat = y195 from Ny195.out.symm] at hr22; replace hr22 : Kd.C (Kd.int .u8) _ A22 y195.length y195 := (by rw [hA22]; exact hr22); rw [← hy22, ← hA22, ← hc22] at hcut22; have HR198 := Aside0.mk hr22; have HC198 := Aside0.mk (show y195.length ≤ c22 from by rw [hy22, hc22]; exact Nat.sub_le_sub_right hroom22 _); clear hr22 hC22 hroom22 hi022 hsz22 hc22; have KY22 := Aside0.mk hy22; have KA22 := Aside0.mk hA22; clear hy22 hA22; have KL22 := Aside0.mk (show 1 ≤ y178.length from by omega); replace q22 := eq_true q22) | ((with_reducible refine gate_callee (f := 21) rfl ?_); refine goesL_ (some 22) rfl rfl Try.func21 (by kernel_rfl) rfl #[.slice A22 y195.length c22] rfl (by (try simp only [List.map_toArray, List.map_cons, List.map_nil]); first | done | rfl | (simp only [List.length_drop, List.length_take]; rfl)) ?_; (with_reducible refine (frame_Parse.calls k _ _ y195 t199 t200 t201 t202 t203 t204 t207 _ ?side1 ?side2 A5.out).mono ?_); (case side1 => repeat (first | exact (by repeat (first | (with_reducible exact HR198.out) | (with_reducible refine Kd.C_alloc ?_ _) | (with_reducible refine Kd.C_drewN ?_ _) | (with_reducible refine Kd.C_drew ?_) | exact HR198.out)) | (with_reducible refine Kd.C_alloc ?_ _) | (with_reducible refine Kd.C_drewN ?_ _) | (with_reducible refine Kd.C_drew ?_))); (case side2 => exact HC198.out); rintro e w23 ⟨v205, rfl, ho0, hb⟩; refine ⟨_, rfl, ?_⟩; have n0_ := Aside0.mk (Kd.R_elder' (by (with_reducible repeat (first | apply Kd.R_alloc | apply Kd.R_drewN | apply Kd.R_drew)); exact HO180.out) (Kd.R_base ho0) hb); have n1_ := Aside0.mk (Kd.R_elder' (by (with_reducible repeat (first | apply Kd.R_alloc | apply Kd.R_drewN | apply Kd.R_drew)); exact HO188.out) (Kd.R_base ho0) hb); have n2_ := Aside0.mk (Kd.R_elder' (by (with_reducible repeat (first | apply Kd.R_alloc | apply Kd.R_drewN | apply Kd.R_drew)); exact HO194.out) (Kd.R_base ho0) hb); have n3_ := Aside0.mk (Kd.R_lower (Kd.R_new' (Kd.R_new' (Kd.R_new' ho0 (Kd.R_lt (by (with_reducible repeat (first | apply Kd.R_alloc | apply Kd.R_drewN | apply Kd.R_drew)); exact HO180.out))) (Kd.R_lt (by (with_reducible repeat (first | apply Kd.R_alloc | apply Kd.R_drewN | apply Kd.R_drew)); exact HO188.out))) (Kd.R_lt (by (with_reducible repeat (first | apply Kd.R_alloc | apply Kd.R_drewN | apply Kd.R_drew)); exact HO194.out))) (below_size (by repeat (first | (with_reducible first | exact HB.out | apply below_alloc | apply pw_below_drewN | apply below_drew1 | refine below_set ?_ GE190.out) | exact HB.out)))); have n4_ := Aside0.mk (blk_below (g := gb190) (o := .cells #[.int .u64 t181, .int .u64 t182, .bool t183, .int .u16 t184, .int .u16 t185, .slice Ao20 t186.length co20] 39 (0, 0)) (by (with_reducible repeat (first | refine blk_drewN ?_ _ | refine blk_drew ?_ | refine blk_alloc ?_ _)); exact BK190.out) hb); have n5_ := Aside0.mk (Kd.C_below (by repeat (first | (with_reducible exact HR198.out) | (with_reducible refine Kd.C_alloc ?_ _) | (with_reducible refine Kd.C_drewN ?_ _) | (with_reducible refine Kd.C_drew ?_) | exact HR198.out)) hb); have n6_ := Aside0.mk (below_step (by repeat (first | (with_reducible first | exact HB.out | apply below_alloc | apply pw_below_drewN | apply below_drew1 | refine below_set ?_ GE190.out) | exact HB.out)) hb); clear HO180; clear HO188; clear HO194; clear BK190; clear HR198; clear HB; have HO180 := n0_; have HO188 := n1_; have HO194 := n2_; have HO206 := n3_; have BK190 := n4_; have HR198 := n5_; have HB := n6_; clear n0_ n1_ n2_ n3_ n4_ n5_ n6_; (try clear hb); (try clear hb2); (try clear hk); (try clear hi); (try clear ho0)) | ((with_reducible refine gate_dst (N := 6) rfl ?_); (try (refine gate_guard (by rfl) ?_; dsimp only)); refine box_event ?hg (N := 6) ?hd (cs := #[.int .u64 0, .int .u64 0, .bool false, .int .u16 0, .int .u16 0, .slice none 0 0]) (t := 39) ?hr ?_; (case hd => rfl); (case hg => rfl); (case hr => first | (go_simp; done) | (go_simp; rfl)); intro gb208 hg w24 hbox hb; have n0_ := Aside0.mk (Kd.R_below (by (with_reducible repeat (first | apply Kd.R_alloc | apply Kd.R_drewN | apply Kd.R_drew)); exact HO180.out) hb); have n1_ := Aside0.mk (Kd.R_below (by (with_reducible repeat (first | apply Kd.R_alloc | apply Kd.R_drewN | apply Kd.R_drew)); exact HO188.out) hb); have n2_ := Aside0.mk (Kd.R_below (by (with_reducible repeat (first | apply Kd.R_alloc | apply Kd.R_drewN | apply Kd.R_drew)); exact HO194.out) hb); have n3_ := Aside0.mk (Kd.R_below (by (with_reducible repeat (first | apply Kd.R_alloc | apply Kd.R_drewN | apply Kd.R_drew)); exact HO206.out) hb); have n4_ := Aside0.mk (blk_below (g := gb190) (o := .cells #[.int .u64 t181, .int .u64 t182, .bool t183, .int .u16 t184, .int .u16 t185, .slice Ao20 t186.length co20] 39 (0, 0)) (by (with_reducible repeat (first | refine blk_drewN ?_ _ | refine blk_drew ?_ | refine blk_alloc ?_ _)); exact BK190.out) hb); have n5_ := Aside0.mk (Kd.C_below (by repeat (first | (with_reducible exact HR198.out) | (with_reducible refine Kd.C_alloc ?_ _) | (with_reducible refine Kd.C_drewN ?_ _) | (with_reducible refine Kd.C_drew ?_) | exact HR198.out)) hb); have n6_ := Aside0.mk (below_step (by repeat (first | (with_reducible first | exact HB.out | apply below_alloc | apply pw_below_drewN | apply below_drew1 | refine below_set ?_ GE190.out) | exact HB.out)) hb); have n7_ := Aside0.mk (hbox); have n8_ := Aside0.mk ((by rw [hg]; exact (below_size (by repeat (first | (with_reducible first | exact HB.out | apply below_alloc | apply pw_below_drewN | apply below_drew1 | refine below_set ?_ GE190.out) | exact HB.out))) : w.heap.size ≤ gb208)); have n9_ := Aside0.mk ((by rw [hg]; exact (below_size (by repeat (first | (with_reducible first | exact HB.out | apply below_alloc | apply pw_below_drewN | apply below_drew1 | refine below_set ?_ GE190.out) | exact HB.out))) : w.heap.size ≤ gb208)); have n10_ := Aside0.mk ((by rw [hg]; exact Nat.ne_of_lt (blk_lt (g := gb190) (o := .cells #[.int .u64 t181, .int .u64 t182, .bool t183, .int .u16 t184, .int .u16 t185, .slice Ao20 t186.length co20] 39 (0, 0)) (by (with_reducible repeat (first | refine blk_drewN ?_ _ | refine blk_drew ?_ | refine blk_alloc ?_ _)); exact BK190.out)) : gb190 ≠ gb208)); have n11_ := Aside0.mk ((by rw [hg]; exact Nat.ne_of_gt (blk_lt (g := gb190) (o := .cells #[.int .u64 t181, .int .u64 t182, .bool t183, .int .u16 t184, .int .u16 t185, .slice Ao20 t186.length co20] 39 (0, 0)) (by (with_reducible repeat (first | refine blk_drewN ?_ _ | refine blk_drew ?_ | refine blk_alloc ?_ _)); exact BK190.out)) : gb208 ≠ gb190)); clear HO180; clear HO188; clear HO194; clear HO206; clear BK190; clear HR198; clear HB; have HO180 := n0_; have HO188 := n1_; have HO194 := n2_; have HO206 := n3_; have BK190 := n4_; have HR198 := n5_; have HB := n6_; have BK208 := n7_; have GW208 := n8_; have GE208 := n9_; have NB190_208 := n10_; have NB208_190 := n11_; clear n0_ n1_ n2_ n3_ n4_ n5_ n6_ n7_ n8_ n9_ n10_ n11_; clear hb hbox hg; have hnb25 := NB208_190.out; have hnc25 := NB190_208.out; have hcz26_0 : w24.cell? ⟨gb208, 0, none⟩ = some (.int .u64 0) := (blk_cell BK208.out 0).trans rfl; have hcz26_1 : w24.cell? ⟨gb208, 1, none⟩ = some (.int .u64 0) := (blk_cell BK208.out 1).trans rfl; have hcz26_2 : w24.cell? ⟨gb208, 2, none⟩ = some (.bool false) := (blk_cell BK208.out 2).trans rfl; have hcz26_3 : w24.cell? ⟨gb208, 3, none⟩ = some (.int .u16 0) := (blk_cell BK208.out 3).trans rfl; have hcz26_4 : w24.cell? ⟨gb208, 4, none⟩ = some (.int .u16 0) := (blk_cell BK208.out 4).trans rfl; have hcz26_5 : w24.cell? ⟨gb208, 5, none⟩ = some (.slice none 0 0) := (blk_cell BK208.out 5).trans rfl; have hfz26_0 := blk_frozen BK208.out 0; have hfz26_1 := blk_frozen BK208.out 1; have hfz26_2 := blk_frozen BK208.out 2; have hfz26_3 := blk_frozen BK208.out 3; have hfz26_4 := blk_frozen BK208.out 4; have hfz26_5 := blk_frozen BK208.out 5; obtain ⟨Ao27, co27, eo27⟩ := Kd.R_slice HO206.out; subst eo27; have hcz28_0 : w24.cell? ⟨gb190, 0, none⟩ = some (.int .u64 t181) := (blk_cell BK190.out 0).trans rfl; have hcz28_1 : w24.cell? ⟨gb190, 1, none⟩ = some (.int .u64 t182) := (blk_cell BK190.out 1).trans rfl; have hcz28_2 : w24.cell? ⟨gb190, 2, none⟩ = some (.bool t183) := (blk_cell BK190.out 2).trans rfl; have hcz28_3 : w24.cell? ⟨gb190, 3, none⟩ = some (.int .u16 t184) := (blk_cell BK190.out 3).trans rfl; have hcz28_4 : w24.cell? ⟨gb190, 4, none⟩ = some (.int .u16 t185) := (blk_cell BK190.out 4).trans rfl; have hcz28_5 : w24.cell? ⟨gb190, 5, none⟩ = some (.slice Ao20 t186.length co20) := (blk_cell BK190.out 5).trans rfl; have hfz28_0 := blk_frozen BK190.out 0; have hfz28_1 := blk_frozen BK190.out 1; have hfz28_2 := blk_frozen BK190.out 2; have hfz28_3 := blk_frozen BK190.out 3; have hfz28_4 := blk_frozen BK190.out 4; have hfz28_5 := blk_frozen BK190.out 5; obtain ⟨Ao29, co29, eo29⟩ := Kd.R_slice HO194.out; subst eo29; have p209 : 0 ≤ (12 : Int) := (by omega); have q209 : 12 < (t191.length : Int) := of_decide_eq_true (by first | (with_reducible assumption) | assumption); obtain ⟨ad209, e209, hx209_0⟩ := Kd.at_int (Kd.R_reads' HO194.out).2.2 12 p209 q209; cases e209; (try simp only [show (12 : Int).toNat = 12 from rfl, Nat.reduceMul, Nat.reduceEqDiff, Go.Addr.add, ↓reduceIte] at hx209_0); have qi209 : (12 < t191.length) = True := eq_true (by omega); (try rw [show ((12 : Int)).toNat = 12 from rfl] at hx209_0); have hn209_0 : ad209.block ≠ gb208 := Kd.own_blk (Kd.R_ne HO194.out BK208.out (by decide)); have hn209_1 : ad209.block ≠ gb208 := Kd.own_blk (Kd.R_ne HO194.out BK208.out (by decide)); have hn209_2 : ad209.block ≠ gb208 := Kd.own_blk (Kd.R_ne HO194.out BK208.out (by decide)); have hn209_3 : ad209.block ≠ gb208 := Kd.own_blk (Kd.R_ne HO194.out BK208.out (by decide)); have hn209_4 : ad209.block ≠ gb208 := Kd.own_blk (Kd.R_ne HO194.out BK208.out (by decide)); have hn209_5 : ad209.block ≠ gb208 := Kd.own_blk (Kd.R_ne HO194.out BK208.out (by decide)); replace hx209_0 := (cell_far (p := ⟨gb208, 0, none⟩) (by first | (rw [add_block]; exact hn209_0) | (show (Addr.add _ _).block ≠ _; rw [add_block]; exact hn209_0) | exact hn209_0) (.int .u64 t199)).trans hx209_0; replace hx209_0 := (cell_far (p := ⟨gb208, 1, none⟩) (by first | (rw [add_block]; exact hn209_1) | (show (Addr.add _ _).block ≠ _; rw [add_block]; exact hn209_1) | exact hn209_1) (.int .u64 t200)).trans hx209_0; replace hx209_0 := (cell_far (p := ⟨gb208, 2, none⟩) (by first | (rw [add_block]; exact hn209_2) | (show (Addr.add _ _).block ≠ _; rw [add_block]; exact hn209_2) | exact hn209_2) (.bool t201)).trans hx209_0; replace hx209_0 := (cell_far (p := ⟨gb208, 3, none⟩) (by first | (rw [add_block]; exact hn209_3) | (show (Addr.add _ _).block ≠ _; rw [add_block]; exact hn209_3) | exact hn209_3) (.int .u16 t202)).trans hx209_0; replace hx209_0 := (cell_far (p := ⟨gb208, 4, none⟩) (by first | (rw [add_block]; exact hn209_4) | (show (Addr.add _ _).block ≠ _; rw [add_block]; exact hn209_4) | exact hn209_4) (.int .u16 t203)).trans hx209_0; replace hx209_0 := (cell_far (p := ⟨gb208, 5, none⟩) (by first | (rw [add_block]; exact hn209_5) | (show (Addr.add _ _).block ≠ _; rw [add_block]; exact hn209_5) | exact hn209_5) (.slice Ao27 t204.length co27)).trans hx209_0; clear hn209_0; clear hn209_1; clear hn209_2; clear hn209_3; clear hn209_4; clear hn209_5; replace p209 := eq_true p209; replace q209 := eq_true q209; have p210 : 0 ≤ (15 : Int) := (by omega); have q210 : 15 < (t191.length : Int) := of_decide_eq_true (by first | (with_reducible assumption) | assumption); obtain ⟨ad210, e210, hx210_0⟩ := Kd.at_int (Kd.R_reads' HO194.out).2.2 15 p210 q210; obtain rfl : ad209 = ad210 := (by injection e210); (try simp only [show (15 : Int).toNat = 15 from rfl, Nat.reduceMul, Nat.reduceEqDiff, Go.Addr.add, ↓reduceIte] at hx210_0); have qi210 : (15 < t191.length) = True := eq_true (by omega); (try rw [show ((15 : Int)).toNat = 15 from rfl] at hx210_0); have hn210_0 : ad209.block ≠ gb208 := Kd.own_blk (Kd.R_ne HO194.out BK208.out (by decide)); have hn210_1 : ad209.block ≠ gb208 := Kd.own_blk (Kd.R_ne HO194.out BK208.out (by decide)); have hn210_2 : ad209.block ≠ gb208 := Kd.own_blk (Kd.R_ne HO194.out BK208.out (by decide)); have hn210_3 : ad209.block ≠ gb208 := Kd.own_blk (Kd.R_ne HO194.out BK208.out (by decide)); have hn210_4 : ad209.block ≠ gb208 := Kd.own_blk (Kd.R_ne HO194.out BK208.out (by decide)); have hn210_5 : ad209.block ≠ gb208 := Kd.own_blk (Kd.R_ne HO194.out BK208.out (by decide)); replace hx210_0 := (cell_far (p := ⟨gb208, 0, none⟩) (by first | (rw [add_block]; exact hn210_0) | (show (Addr.add _ _).block ≠ _; rw [add_block]; exact hn210_0) | exact hn210_0) (.int .u64 t199)).trans hx210_0; replace hx210_0 := (cell_far (p := ⟨gb208, 1, none⟩) (by first | (rw [add_block]; exact hn210_1) | (show (Addr.add _ _).block ≠ _; rw [add_block]; exact hn210_1) | exact hn210_1) (.int .u64 t200)).trans hx210_0; replace hx210_0 := (cell_far (p := ⟨gb208, 2, none⟩) (by first | (rw [add_block]; exact hn210_2) | (show (Addr.add _ _).block ≠ _; rw [add_block]; exact hn210_2) | exact hn210_2) (.bool t201)).trans hx210_0; replace hx210_0 := (cell_far (p := ⟨gb208, 3, none⟩) (by first | (rw [add_block]; exact hn210_3) | (show (Addr.add _ _).block ≠ _; rw [add_block]; exact hn210_3) | exact hn210_3) (.int .u16 t202)).trans hx210_0; replace hx210_0 := (cell_far (p := ⟨gb208, 4, none⟩) (by first | (rw [add_block]; exact hn210_4) | (show (Addr.add _ _).block ≠ _; rw [add_block]; exact hn210_4) | exact hn210_4) (.int .u16 t203)).trans hx210_0; replace hx210_0 := (cell_far (p := ⟨gb208, 5, none⟩) (by first | (rw [add_block]; exact hn210_5) | (show (Addr.add _ _).block ≠ _; rw [add_block]; exact hn210_5) | exact hn210_5) (.slice Ao27 t204.length co27)).trans hx210_0; clear hn210_0; clear hn210_1; clear hn210_2; clear hn210_3; clear hn210_4; clear hn210_5; replace p210 := eq_true p210; replace q210 := eq_true q210))
                      go_ret
                      exact ⟨by first | rfl | (simp [errW_none, errW_some] <;> rfl) | (simp [*, errW_none, errW_some] <;> rfl), by repeat (first | (with_reducible first | exact HB.out | apply below_alloc | apply pw_below_drewN | apply below_drew1 | refine below_set ?_ GE190.out | refine below_set ?_ GE208.out) | exact HB.out)⟩
                    · rw [if_neg c13] at H
                      have c13b0 : ((rd t191 15) == 5) = false := beq_eq_false_iff_ne.mpr c13
                      have c13b1 : ((rd t191 15) != 5) = true := bne_iff_ne.mpr c13
                      exact absurd ((Option.some.inj H).trans hr_.out) (by decide)
                  · rw [if_neg c12] at H
                    exact absurd H (by simp)
                · rw [if_neg c11] at H
                  have c11b0 : ((rd t191 12) == 129) = false := beq_eq_false_iff_ne.mpr c11
                  have c11b1 : ((rd t191 12) != 129) = true := bne_iff_ne.mpr c11
                  exact absurd ((Option.some.inj H).trans hr_.out) (by decide)
              · rw [if_neg c10] at H
                exact absurd H (by simp)
            · rw [if_neg c9] at H
              have c9b0 : ((t191.length : Int) == 64) = false := beq_eq_false_iff_ne.mpr c9
              have c9b1 : ((t191.length : Int) != 64) = true := bne_iff_ne.mpr c9
              exact absurd ((Option.some.inj H).trans hr_.out) (by decide)
          · rw [if_neg c8] at H
            have c8b0 : (t192 == 0) = false := beq_eq_false_iff_ne.mpr c8
            have c8b1 : (t192 != 0) = true := bne_iff_ne.mpr c8
            exact absurd ((Option.some.inj H).trans hr_.out) (by decide)
        · rw [if_neg c7] at H
          have c7b0 : ((t186.length : Int) == 46) = false := beq_eq_false_iff_ne.mpr c7
          have c7b1 : ((t186.length : Int) != 46) = true := bne_iff_ne.mpr c7
          exact absurd ((Option.some.inj H).trans hr_.out) (by decide)
      · rw [if_neg c6] at H
        have c6b0 : (t189 == 0) = false := beq_eq_false_iff_ne.mpr c6
        have c6b1 : (t189 != 0) = true := bne_iff_ne.mpr c6
        exact absurd ((Option.some.inj H).trans hr_.out) (by decide)
    · rw [if_neg c4] at H
      exact absurd H (by simp)
  · rw [if_neg c1] at H
    exact absurd H (by simp)

theorem told_2000 : patchbaylaw02_told.f 2000 = some true := by decide +kernel
theorem told_up' (k : Nat) (b : Bool) (h : patchbaylaw02_told.f k = some b) : ∀ d, patchbaylaw02_told.f (k + d) = some b
  | 0 => h
  | d + 1 => patchbaylaw02_told.mono (k + d) _ (told_up' k b h d)
theorem told_true {k : Nat} {r : Bool} (h : patchbaylaw02_told.f k = some r) : r = true := by
  have a := told_up' k r h 2000
  have b := told_up' 2000 true told_2000 k
  rw [Nat.add_comm] at b
  rw [b] at a
  exact (Option.some.inj a).symm
theorem patchbaylaw02_told.calls (k : Nat)  (r : Bool) (w : World) (h : patchbaylaw02_told.f k  = some r) :
    Calls Try.prog 18 #[] w fun e w' => e = .returned (.bool r) ∧ Below w.heap.size w w' := patchbaylaw02_told.calls1 k r w ⟨told_true h⟩ h

/-! ### patchbayref01_Same: function 19 -/
def patchbayref01_Same.l0 : Nat → List Int → List Int → Int → Option (Bool)
  | 0, _, _, _ => none
  | k + 1, x0, x1, x5 => if x5 < (x0.length : Int) then (if 0 ≤ x5 then (if x5 < (x1.length : Int) then (if (rd x0 x5) = (rd x1 x5) then (patchbayref01_Same.l0 k x0 x1 (wrap64 (x5 + 1))) else (some false)) else (none)) else (none)) else (some true)
def patchbayref01_Same.f (k : Nat) (l0 : List Int) (l1 : List Int) : Option (Bool) := if (l0.length : Int) = (l1.length : Int) then (patchbayref01_Same.l0 k l0 l1 0) else (some false)
theorem patchbayref01_Same.mono_l : ∀ k, (∀ y0 y1 y2, LeO (patchbayref01_Same.l0 k y0 y1 y2) (patchbayref01_Same.l0 (k + 1) y0 y1 y2))
  | 0 => fun _ _ _ r h => by simp [patchbayref01_Same.l0] at h
  | k + 1 => by
    have ih0 := patchbayref01_Same.mono_l k
    · intro y0 y1 y2
      unfold patchbayref01_Same.l0
      repeat' first
      | (with_reducible exact ih0 _ _ _)
      | (with_reducible exact LeO.refl _)
      | (with_reducible exact LeO.none _)
      | (with_reducible refine LeO.ite ?_ ?_)
      | (with_reducible refine LeO.bind ?_ (fun _ => ?_))
      | exact ih0 _ _ _
      | exact LeO.none _
      | refine LeO.ite ?_ ?_
      | refine LeO.bind ?_ (fun _ => ?_)
theorem patchbayref01_Same.mono : ∀ a0 a1 k, LeO (patchbayref01_Same.f k a0 a1) (patchbayref01_Same.f (k + 1) a0 a1) := by
  intro a0 a1 k
  have ih0 := patchbayref01_Same.mono_l k
  unfold patchbayref01_Same.f
  repeat' first
      | (with_reducible exact ih0 _ _ _)
      | (with_reducible exact LeO.refl _)
      | (with_reducible exact LeO.none _)
      | (with_reducible refine LeO.ite ?_ ?_)
      | (with_reducible refine LeO.bind ?_ (fun _ => ?_))
      | exact ih0 _ _ _
      | exact LeO.none _
      | refine LeO.ite ?_ ?_
      | refine LeO.bind ?_ (fun _ => ?_)
set_option maxHeartbeats 8000000 in
set_option maxRecDepth 100000 in
theorem patchbayref01_Same.calls (k : Nat) (A0 : Option Addr) (c0 : Nat) (l0 : List Int) (A1 : Option Addr) (c1 : Nat) (l1 : List Int) (r : Bool) (w : World) (hr0 : Kd.C (Kd.int .u8) w A0 l0.length l0) (hc0 : l0.length ≤ c0) (hr1 : Kd.C (Kd.int .u8) w A1 l1.length l1) (hc1 : l1.length ≤ c1) (h : patchbayref01_Same.f k l0 l1 = some r) :
    Calls Try.prog 19 #[.slice A0 l0.length c0, .slice A1 l1.length c1] w fun e w' => e = .returned (.bool r) ∧ Drawn0 w w' := by
  have HR0 := Aside0.mk hr0
  have HC0 := Aside0.mk hc0
  clear hr0 hc0
  have HR1 := Aside0.mk hr1
  have HC1 := Aside0.mk hc1
  clear hr1 hc1
  have H : (if (l0.length : Int) = (l1.length : Int) then (patchbayref01_Same.l0 k l0 l1 0) else (some false)) = some r := h
  clear h
  by_cases c3 : (l0.length : Int) = (l1.length : Int)
  · rw [if_pos c3] at H
    have c3b0 : ((l0.length : Int) == (l1.length : Int)) = true := beq_iff_eq.mpr c3
    have c3b1 : ((l0.length : Int) != (l1.length : Int)) = false := bne_eq_false_iff_eq.mpr c3
    have c3b2 : (l0.length == l1.length) = true := by first | simpa using c3 | (simp at c3 ⊢; omega)
    clear c3
    have H' := Aside0.mk H
    clear H
    go_enter Try.func19, Try.ntmps19
    go_wp2
    repeat (go_quiet (fail); try go_wp2)
    go_loopg [5] k (fun kq v5 w' => ∃ (x5_1 : Int), v5 = .int .i64 x5_1 ∧ Aside0 (patchbayref01_Same.l0 kq l0 l1 x5_1 = some r) ∧ Aside0 (kq ≤ k) ∧ Drawn0 w w')
    case atStart => exact ⟨(0), (by first | rfl | (simp; done) | (simp [*]; done)), H', ⟨Nat.le_refl _⟩, by repeat (first | exact Drawn0.refl _ | apply Drawn0.step)⟩
    case round =>
      clear H'
      try clear c1
      try clear p2
      try clear c3
      try clear c3b0
      try clear c3b1
      try clear c3b2
      obtain ⟨x5_1, rfl, HA, HK1, ⟨m1, rfl⟩⟩ := hrel
      cases gk with
      | zero => exact absurd HA.out (by simp [patchbayref01_Same.l0])
      | succ k1 =>
        have H := HA.out
        clear HA
        simp only [patchbayref01_Same.l0] at H
        by_cases c4 : x5_1 < (l0.length : Int)
        · rw [if_pos c4] at H
          have c4b0 : decide (x5_1 < (l0.length : Int)) = true := decide_eq_true c4
          clear c4
          by_cases c5 : 0 ≤ x5_1
          · rw [if_pos c5] at H
            have c5b0 : decide (0 ≤ x5_1) = true := decide_eq_true c5
            clear c5
            by_cases c6 : x5_1 < (l1.length : Int)
            · rw [if_pos c6] at H
              have c6b0 : decide (x5_1 < (l1.length : Int)) = true := decide_eq_true c6
              clear c6
              by_cases c7 : (rd l0 x5_1) = (rd l1 x5_1)
              · rw [if_pos c7] at H
                have c7b0 : ((rd l0 x5_1) == (rd l1 x5_1)) = true := beq_iff_eq.mpr c7
                have c7b1 : ((rd l0 x5_1) != (rd l1 x5_1)) = false := bne_eq_false_iff_eq.mpr c7
                clear c7
                have H' := Aside0.mk H
                clear H
                have p211 : 0 ≤ (x5_1 : Int) := of_decide_eq_true (by first | (with_reducible assumption) | assumption)
                have q211 : x5_1 < (l0.length : Int) := of_decide_eq_true (by first | (with_reducible assumption) | assumption)
                obtain ⟨ad211, e211, hx211_0⟩ := Kd.at_int HR0.out x5_1 p211 q211
                cases e211
                replace p211 := eq_true p211
                replace q211 := eq_true q211
                have p212 : 0 ≤ (x5_1 : Int) := of_decide_eq_true (by first | (with_reducible assumption) | assumption)
                have q212 : x5_1 < (l1.length : Int) := of_decide_eq_true (by first | (with_reducible assumption) | assumption)
                obtain ⟨ad212, e212, hx212_0⟩ := Kd.at_int HR1.out x5_1 p212 q212
                cases e212
                replace p212 := eq_true p212
                replace q212 := eq_true q212
                go_wp2
                repeat (go_quiet (fail); try go_wp2)
                go_roundg k1
                case measure => have := HK1.out; omega
                case rel => exact ⟨(wrap64 (x5_1 + 1)), (by first | rfl | (simp; done) | (simp [*]; done)), H', ⟨by have := HK1.out; omega⟩, by repeat (first | exact Drawn0.refl _ | apply Drawn0.step)⟩
              · rw [if_neg c7] at H
                have c7b0 : ((rd l0 x5_1) == (rd l1 x5_1)) = false := beq_eq_false_iff_ne.mpr c7
                have c7b1 : ((rd l0 x5_1) != (rd l1 x5_1)) = true := bne_iff_ne.mpr c7
                obtain rfl := Option.some.inj H
                have p211 : 0 ≤ (x5_1 : Int) := of_decide_eq_true (by first | (with_reducible assumption) | assumption)
                have q211 : x5_1 < (l0.length : Int) := of_decide_eq_true (by first | (with_reducible assumption) | assumption)
                obtain ⟨ad211, e211, hx211_0⟩ := Kd.at_int HR0.out x5_1 p211 q211
                cases e211
                replace p211 := eq_true p211
                replace q211 := eq_true q211
                have p212 : 0 ≤ (x5_1 : Int) := of_decide_eq_true (by first | (with_reducible assumption) | assumption)
                have q212 : x5_1 < (l1.length : Int) := of_decide_eq_true (by first | (with_reducible assumption) | assumption)
                obtain ⟨ad212, e212, hx212_0⟩ := Kd.at_int HR1.out x5_1 p212 q212
                cases e212
                replace p212 := eq_true p212
                replace q212 := eq_true q212
                go_wp2
                repeat (go_quiet (fail); try go_wp2)
                go_ret
                exact ⟨by first | rfl | (simp; done) | (simp [*]; done), by repeat (first | exact Drawn0.refl _ | apply Drawn0.step)⟩
            · rw [if_neg c6] at H
              exact absurd H (by simp)
          · rw [if_neg c5] at H
            exact absurd H (by simp)
        · rw [if_neg c4] at H
          have c4b0 : decide (x5_1 < (l0.length : Int)) = false := decide_eq_false c4
          clear c4
          obtain rfl := Option.some.inj H
          go_wp2
          repeat (go_quiet (fail); try go_wp2)
          go_ret
          exact ⟨by first | rfl | (simp; done) | (simp [*]; done), by repeat (first | exact Drawn0.refl _ | apply Drawn0.step)⟩
  · rw [if_neg c3] at H
    have c3b0 : ((l0.length : Int) == (l1.length : Int)) = false := beq_eq_false_iff_ne.mpr c3
    have c3b1 : ((l0.length : Int) != (l1.length : Int)) = true := bne_iff_ne.mpr c3
    have c3b2 : (l0.length == l1.length) = false := by first | simpa using c3 | (simp at c3 ⊢; omega)
    obtain rfl := Option.some.inj H
    go_enter Try.func19, Try.ntmps19
    go_wp2
    repeat (go_quiet (fail); try go_wp2)
    go_ret
    exact ⟨by first | rfl | (simp; done) | (simp [*]; done), by repeat (first | exact Drawn0.refl _ | apply Drawn0.step)⟩

/-! ### patchbayref01_Of: function 39 -/
def patchbayref01_Of.l0 : Nat → List Int → Int → Int → Option (Int)
  | 0, _, _, _ => none
  | k + 1, x0, x3, x4 => if x4 < 6 then (if 0 ≤ x4 then (if x4 < (x0.length : Int) then (patchbayref01_Of.l0 k x0 (IntKind.u64.wrap ((IntKind.u64.wrap (x3 * 256)) + (IntKind.u64.wrap (rd x0 x4)))) (wrap64 (x4 + 1))) else (none)) else (none)) else (some x3)
def patchbayref01_Of.f (k : Nat) (l0 : List Int) : Option (Int) := patchbayref01_Of.l0 k l0 0 0
theorem patchbayref01_Of.mono_l : ∀ k, (∀ y0 y1 y2, LeO (patchbayref01_Of.l0 k y0 y1 y2) (patchbayref01_Of.l0 (k + 1) y0 y1 y2))
  | 0 => fun _ _ _ r h => by simp [patchbayref01_Of.l0] at h
  | k + 1 => by
    have ih0 := patchbayref01_Of.mono_l k
    · intro y0 y1 y2
      unfold patchbayref01_Of.l0
      repeat' first
      | (with_reducible exact ih0 _ _ _)
      | (with_reducible exact LeO.refl _)
      | (with_reducible exact LeO.none _)
      | (with_reducible refine LeO.ite ?_ ?_)
      | (with_reducible refine LeO.bind ?_ (fun _ => ?_))
      | exact ih0 _ _ _
      | exact LeO.none _
      | refine LeO.ite ?_ ?_
      | refine LeO.bind ?_ (fun _ => ?_)
theorem patchbayref01_Of.mono : ∀ a0 k, LeO (patchbayref01_Of.f k a0) (patchbayref01_Of.f (k + 1) a0) := by
  intro a0 k
  have ih0 := patchbayref01_Of.mono_l k
  unfold patchbayref01_Of.f
  repeat' first
      | (with_reducible exact ih0 _ _ _)
      | (with_reducible exact LeO.refl _)
      | (with_reducible exact LeO.none _)
      | (with_reducible refine LeO.ite ?_ ?_)
      | (with_reducible refine LeO.bind ?_ (fun _ => ?_))
      | exact ih0 _ _ _
      | exact LeO.none _
      | refine LeO.ite ?_ ?_
      | refine LeO.bind ?_ (fun _ => ?_)
set_option maxHeartbeats 8000000 in
set_option maxRecDepth 100000 in
theorem patchbayref01_Of.calls (k : Nat) (A0 : Option Addr) (c0 : Nat) (l0 : List Int) (r : Int) (w : World) (hr0 : Kd.C (Kd.int .u8) w A0 l0.length l0) (hc0 : l0.length ≤ c0) (h : patchbayref01_Of.f k l0 = some r) :
    Calls Try.prog 39 #[.slice A0 l0.length c0] w fun e w' => e = .returned (.int .u64 r) ∧ Drawn0 w w' := by
  have HR0 := Aside0.mk hr0
  have HC0 := Aside0.mk hc0
  clear hr0 hc0
  have H : (patchbayref01_Of.l0 k l0 0 0) = some r := h
  clear h
  have H' := Aside0.mk H
  clear H
  go_enter Try.func39, Try.ntmps39
  go_wp2
  go_loopg [3, 4] k (fun kq v3 v4 w' => ∃ (x3_1 : Int) (x4_1 : Int), v3 = .int .u64 x3_1 ∧ v4 = .int .i64 x4_1 ∧ Aside0 (patchbayref01_Of.l0 kq l0 x3_1 x4_1 = some r) ∧ Aside0 (kq ≤ k) ∧ Drawn0 w w')
  case atStart => exact ⟨(0), (0), (by first | rfl | (simp; done) | (simp [*]; done)), (by first | rfl | (simp; done) | (simp [*]; done)), H', ⟨Nat.le_refl _⟩, by repeat (first | exact Drawn0.refl _ | apply Drawn0.step)⟩
  case round =>
    clear H'
    obtain ⟨x3_1, x4_1, rfl, rfl, HA, HK1, ⟨m1, rfl⟩⟩ := hrel
    cases gk with
    | zero => exact absurd HA.out (by simp [patchbayref01_Of.l0])
    | succ k1 =>
      have H := HA.out
      clear HA
      simp only [patchbayref01_Of.l0] at H
      by_cases c2 : x4_1 < 6
      · rw [if_pos c2] at H
        have c2b0 : decide (x4_1 < 6) = true := decide_eq_true c2
        clear c2
        by_cases c3 : 0 ≤ x4_1
        · rw [if_pos c3] at H
          have c3b0 : decide (0 ≤ x4_1) = true := decide_eq_true c3
          clear c3
          by_cases c4 : x4_1 < (l0.length : Int)
          · rw [if_pos c4] at H
            have c4b0 : decide (x4_1 < (l0.length : Int)) = true := decide_eq_true c4
            clear c4
            have H' := Aside0.mk H
            clear H
            have p213 : 0 ≤ (x4_1 : Int) := of_decide_eq_true (by first | (with_reducible assumption) | assumption)
            have q213 : x4_1 < (l0.length : Int) := of_decide_eq_true (by first | (with_reducible assumption) | assumption)
            obtain ⟨ad213, e213, hx213_0⟩ := Kd.at_int HR0.out x4_1 p213 q213
            cases e213
            replace p213 := eq_true p213
            replace q213 := eq_true q213
            go_wp2
            go_roundg k1
            case measure => have := HK1.out; omega
            case rel => exact ⟨(IntKind.u64.wrap ((IntKind.u64.wrap (x3_1 * 256)) + (IntKind.u64.wrap (rd l0 x4_1)))), (wrap64 (x4_1 + 1)), (by first | rfl | (simp; done) | (simp [*]; done)), (by first | rfl | (simp; done) | (simp [*]; done)), H', ⟨by have := HK1.out; omega⟩, by repeat (first | exact Drawn0.refl _ | apply Drawn0.step)⟩
          · rw [if_neg c4] at H
            exact absurd H (by simp)
        · rw [if_neg c3] at H
          exact absurd H (by simp)
      · rw [if_neg c2] at H
        have c2b0 : decide (x4_1 < 6) = false := decide_eq_false c2
        clear c2
        obtain rfl := Option.some.inj H
        go_wp2
        go_ret
        exact ⟨by first | rfl | (simp; done) | (simp [*]; done), by repeat (first | exact Drawn0.refl _ | apply Drawn0.step)⟩

/-! ### patchbayref02_Tagged: function 50 -/
def patchbayref02_Tagged.f (l0 : List Int) : Option (Bool) := if 12 < (l0.length : Int) then (if (rd l0 12) = 129 then (if 13 < (l0.length : Int) then (some ((rd l0 13) == 0)) else (none)) else (some false)) else (none)
set_option maxHeartbeats 8000000 in
set_option maxRecDepth 100000 in
theorem patchbayref02_Tagged.calls (A0 : Option Addr) (c0 : Nat) (l0 : List Int) (r : Bool) (w : World) (hr0 : Kd.C (Kd.int .u8) w A0 l0.length l0) (hc0 : l0.length ≤ c0) (h : patchbayref02_Tagged.f l0 = some r) :
    Calls Try.prog 50 #[.slice A0 l0.length c0] w fun e w' => e = .returned (.bool r) ∧ Drawn0 w w' := by
  have HR0 := Aside0.mk hr0
  have HC0 := Aside0.mk hc0
  clear hr0 hc0
  have H : (if 12 < (l0.length : Int) then (if (rd l0 12) = 129 then (if 13 < (l0.length : Int) then (some ((rd l0 13) == 0)) else (none)) else (some false)) else (none)) = some r := h
  clear h
  by_cases c2 : 12 < (l0.length : Int)
  · rw [if_pos c2] at H
    have c2b0 : decide (12 < (l0.length : Int)) = true := decide_eq_true c2
    have c2b1 : decide (12 < l0.length) = true := decide_eq_true (by omega)
    clear c2
    by_cases c3 : (rd l0 12) = 129
    · rw [if_pos c3] at H
      have c3b0 : ((rd l0 12) == 129) = true := beq_iff_eq.mpr c3
      have c3b1 : ((rd l0 12) != 129) = false := bne_eq_false_iff_eq.mpr c3
      clear c3
      by_cases c4 : 13 < (l0.length : Int)
      · rw [if_pos c4] at H
        have c4b0 : decide (13 < (l0.length : Int)) = true := decide_eq_true c4
        have c4b1 : decide (13 < l0.length) = true := decide_eq_true (by omega)
        clear c4
        obtain rfl := Option.some.inj H
        have p214 : 0 ≤ (12 : Int) := (by omega)
        have q214 : 12 < (l0.length : Int) := of_decide_eq_true (by first | (with_reducible assumption) | assumption)
        obtain ⟨ad214, e214, hx214_0⟩ := Kd.at_int HR0.out 12 p214 q214
        cases e214
        (try simp only [show (12 : Int).toNat = 12 from rfl, Nat.reduceMul, Nat.reduceEqDiff, Go.Addr.add, ↓reduceIte] at hx214_0)
        have qi214 : (12 < l0.length) = True := eq_true (by omega)
        (try rw [show ((12 : Int)).toNat = 12 from rfl] at hx214_0)
        replace p214 := eq_true p214
        replace q214 := eq_true q214
        have p215 : 0 ≤ (13 : Int) := (by omega)
        have q215 : 13 < (l0.length : Int) := of_decide_eq_true (by first | (with_reducible assumption) | assumption)
        obtain ⟨ad215, e215, hx215_0⟩ := Kd.at_int HR0.out 13 p215 q215
        obtain rfl : ad214 = ad215 := (by injection e215)
        (try simp only [show (13 : Int).toNat = 13 from rfl, Nat.reduceMul, Nat.reduceEqDiff, Go.Addr.add, ↓reduceIte] at hx215_0)
        have qi215 : (13 < l0.length) = True := eq_true (by omega)
        (try rw [show ((13 : Int)).toNat = 13 from rfl] at hx215_0)
        replace p215 := eq_true p215
        replace q215 := eq_true q215
        go_enter Try.func50, Try.ntmps50
        go_wp2
        go_ret
        exact ⟨by first | rfl | (simp; done) | (simp [*]; done), by repeat (first | exact Drawn0.refl _ | apply Drawn0.step)⟩
      · rw [if_neg c4] at H
        exact absurd H (by simp)
    · rw [if_neg c3] at H
      have c3b0 : ((rd l0 12) == 129) = false := beq_eq_false_iff_ne.mpr c3
      have c3b1 : ((rd l0 12) != 129) = true := bne_iff_ne.mpr c3
      obtain rfl := Option.some.inj H
      have p214 : 0 ≤ (12 : Int) := (by omega)
      have q214 : 12 < (l0.length : Int) := of_decide_eq_true (by first | (with_reducible assumption) | assumption)
      obtain ⟨ad214, e214, hx214_0⟩ := Kd.at_int HR0.out 12 p214 q214
      cases e214
      (try simp only [show (12 : Int).toNat = 12 from rfl, Nat.reduceMul, Nat.reduceEqDiff, Go.Addr.add, ↓reduceIte] at hx214_0)
      have qi214 : (12 < l0.length) = True := eq_true (by omega)
      (try rw [show ((12 : Int)).toNat = 12 from rfl] at hx214_0)
      replace p214 := eq_true p214
      replace q214 := eq_true q214
      go_enter Try.func50, Try.ntmps50
      go_wp2
      go_ret
      exact ⟨by first | rfl | (simp; done) | (simp [*]; done), by repeat (first | exact Drawn0.refl _ | apply Drawn0.step)⟩
  · rw [if_neg c2] at H
    exact absurd H (by simp)

end Go.Proofs.Ytdohdjfclnlpmaa.PFrame
