/- Plain Lean functions of what a law comes to, and their contracts: the machine's call does what they say; no condition. Written by wip/myprint.sh over the kit's print.py. -/
import Derived.Test.YtfgdjljbdghdgaaDoorPVlatx0
import Derived.Test.YtfgdjljbdghdgaaDoorPVlatx1
import Derived.Test.YtfgdjljbdghdgaaDoorPVlatx6
import Derived.Test.YtfgdjljbdghdgaaDoorPVlatx7
namespace Go.Proofs.YtfgdjljbdghdgaaDoor.PVlat
open Go.RowKit Go.Proofs.YtfgdjljbdghdgaaDoorW.PrintWords Go.Proofs.YtfgdjljbdghdgaaDoorW.PrintLast Go.Proofs.YtfgdjljbdghdgaaDoorW.PrintMore
attribute [local go_sem] max2_int min2_int max_two min_two max_three min_three max_four min_four   -- for this text's walks alone
set_option linter.unusedVariables false
set_option linter.unusedSimpArgs false

/-! ### patchbaylaw03_VlanSets: function 3 -/
def patchbaylaw03_VlanSets.f (k : Nat) (a0 : Int) (a1 : Int) (a2 : Int) : Option (Bool) := (patchbayref03_List.f k a0).bind fun t190 => ((patchbaylaw03_told.f k).bind fun t193 => (if t193 = true then ((vlan_Has.f a0 a1).bind fun t194 => ((patchbayref03_Has.f k a0 a1).bind fun t195 => (if (t194 == t195) = true then ((vlan_With.f a0 a1).bind fun t196 => ((patchbayref03_With.f k a0 a1).bind fun t197 => (if t196 = t197 then ((vlan_Without.f a0 a1).bind fun t198 => ((patchbayref03_Without.f k a0 a1).bind fun t199 => (if t198 = t199 then ((vlan_List.f k a0).bind fun t200 => ((patchbaylaw03_Ints.f k t200 t190).bind fun t203 => (if t203 = true then ((vlan_Size.f a0).bind fun t204 => (if t204 = (t190.length : Int) then ((vlan_All.f a2).bind fun t205 => ((patchbayref03_All.f k a2).bind fun t206 => (some (t205 == t206)))) else (some false))) else (some false)))) else (some false)))) else (some false)))) else (some false)))) else (some false)))
theorem patchbaylaw03_VlanSets.mono : ∀ a0 a1 a2 k, LeO (patchbaylaw03_VlanSets.f k a0 a1 a2) (patchbaylaw03_VlanSets.f (k + 1) a0 a1 a2) := by
  intro a0 a1 a2 k
  unfold patchbaylaw03_VlanSets.f
  repeat' first
      | (with_reducible exact patchbaylaw03_Ints.mono _ _ _)
      | (with_reducible exact patchbaylaw03_told.mono _)
      | (with_reducible exact patchbayref03_All.mono _ _)
      | (with_reducible exact patchbayref03_Has.mono _ _ _)
      | (with_reducible exact patchbayref03_List.mono _ _)
      | (with_reducible exact patchbayref03_With.mono _ _ _)
      | (with_reducible exact patchbayref03_Without.mono _ _ _)
      | (with_reducible exact vlan_List.mono _ _)
      | (with_reducible exact LeO.refl _)
      | (with_reducible exact LeO.none _)
      | (with_reducible refine LeO.ite ?_ ?_)
      | (with_reducible refine LeO.bind ?_ (fun _ => ?_))
      | exact patchbaylaw03_Ints.mono _ _ _
      | exact patchbaylaw03_told.mono _
      | exact patchbayref03_All.mono _ _
      | exact patchbayref03_Has.mono _ _ _
      | exact patchbayref03_List.mono _ _
      | exact patchbayref03_With.mono _ _ _
      | exact patchbayref03_Without.mono _ _ _
      | exact vlan_List.mono _ _
      | exact LeO.none _
      | refine LeO.ite ?_ ?_
      | refine LeO.bind ?_ (fun _ => ?_)
set_option maxHeartbeats 8000000 in
set_option maxRecDepth 100000 in
theorem patchbaylaw03_VlanSets.calls (k : Nat) (a0 : Int) (a1 : Int) (a2 : Int) (r : Bool) (w : World) (h : patchbaylaw03_VlanSets.f k a0 a1 a2 = some r) (hT : Tab64 w) :
    Calls Tryd.prog 3 #[.int .u64 a0, .int .i64 a1, .int .i64 a2] w fun e w' => e = .returned (.bool r) ∧ Below w.heap.size w w' := by
  have HT := Aside0.mk hT
  clear hT
  have HB := Aside0.mk (Below.refl w.heap.size w)
  have H : ((patchbayref03_List.f k a0).bind fun t190 => ((patchbaylaw03_told.f k).bind fun t193 => (if t193 = true then ((vlan_Has.f a0 a1).bind fun t194 => ((patchbayref03_Has.f k a0 a1).bind fun t195 => (if (t194 == t195) = true then ((vlan_With.f a0 a1).bind fun t196 => ((patchbayref03_With.f k a0 a1).bind fun t197 => (if t196 = t197 then ((vlan_Without.f a0 a1).bind fun t198 => ((patchbayref03_Without.f k a0 a1).bind fun t199 => (if t198 = t199 then ((vlan_List.f k a0).bind fun t200 => ((patchbaylaw03_Ints.f k t200 t190).bind fun t203 => (if t203 = true then ((vlan_Size.f a0).bind fun t204 => (if t204 = (t190.length : Int) then ((vlan_All.f a2).bind fun t205 => ((patchbayref03_All.f k a2).bind fun t206 => (some (t205 == t206)))) else (some false))) else (some false)))) else (some false)))) else (some false)))) else (some false)))) else (some false)))) = some r := h
  clear h
  replace H := Option.bind_eq_some_iff.mp H
  obtain ⟨t190, A40, H⟩ := H
  replace H : ((patchbaylaw03_told.f k).bind fun t193 => (if t193 = true then ((vlan_Has.f a0 a1).bind fun t194 => ((patchbayref03_Has.f k a0 a1).bind fun t195 => (if (t194 == t195) = true then ((vlan_With.f a0 a1).bind fun t196 => ((patchbayref03_With.f k a0 a1).bind fun t197 => (if t196 = t197 then ((vlan_Without.f a0 a1).bind fun t198 => ((patchbayref03_Without.f k a0 a1).bind fun t199 => (if t198 = t199 then ((vlan_List.f k a0).bind fun t200 => ((patchbaylaw03_Ints.f k t200 t190).bind fun t203 => (if t203 = true then ((vlan_Size.f a0).bind fun t204 => (if t204 = (t190.length : Int) then ((vlan_All.f a2).bind fun t205 => ((patchbayref03_All.f k a2).bind fun t206 => (some (t205 == t206)))) else (some false))) else (some false)))) else (some false)))) else (some false)))) else (some false)))) else (some false))) = some r := H
  have A4 := Aside0.mk A40
  clear A40
  replace H := Option.bind_eq_some_iff.mp H
  obtain ⟨t193, A50, H⟩ := H
  replace H : (if t193 = true then ((vlan_Has.f a0 a1).bind fun t194 => ((patchbayref03_Has.f k a0 a1).bind fun t195 => (if (t194 == t195) = true then ((vlan_With.f a0 a1).bind fun t196 => ((patchbayref03_With.f k a0 a1).bind fun t197 => (if t196 = t197 then ((vlan_Without.f a0 a1).bind fun t198 => ((patchbayref03_Without.f k a0 a1).bind fun t199 => (if t198 = t199 then ((vlan_List.f k a0).bind fun t200 => ((patchbaylaw03_Ints.f k t200 t190).bind fun t203 => (if t203 = true then ((vlan_Size.f a0).bind fun t204 => (if t204 = (t190.length : Int) then ((vlan_All.f a2).bind fun t205 => ((patchbayref03_All.f k a2).bind fun t206 => (some (t205 == t206)))) else (some false))) else (some false)))) else (some false)))) else (some false)))) else (some false)))) else (some false)) = some r := H
  have A5 := Aside0.mk A50
  clear A50
  by_cases c6 : t193 = true
  · subst c6
    have H1 : ((vlan_Has.f a0 a1).bind fun t194 => ((patchbayref03_Has.f k a0 a1).bind fun t195 => (if (t194 == t195) = true then ((vlan_With.f a0 a1).bind fun t196 => ((patchbayref03_With.f k a0 a1).bind fun t197 => (if t196 = t197 then ((vlan_Without.f a0 a1).bind fun t198 => ((patchbayref03_Without.f k a0 a1).bind fun t199 => (if t198 = t199 then ((vlan_List.f k a0).bind fun t200 => ((patchbaylaw03_Ints.f k t200 t190).bind fun t203 => (if t203 = true then ((vlan_Size.f a0).bind fun t204 => (if t204 = (t190.length : Int) then ((vlan_All.f a2).bind fun t205 => ((patchbayref03_All.f k a2).bind fun t206 => (some (t205 == t206)))) else (some false))) else (some false)))) else (some false)))) else (some false)))) else (some false)))) = some r := by rw [if_pos rfl] at H; exact H
    clear H
    have H := H1
    clear H1
    replace H := Option.bind_eq_some_iff.mp H
    obtain ⟨t194, A70, H⟩ := H
    replace H : ((patchbayref03_Has.f k a0 a1).bind fun t195 => (if (t194 == t195) = true then ((vlan_With.f a0 a1).bind fun t196 => ((patchbayref03_With.f k a0 a1).bind fun t197 => (if t196 = t197 then ((vlan_Without.f a0 a1).bind fun t198 => ((patchbayref03_Without.f k a0 a1).bind fun t199 => (if t198 = t199 then ((vlan_List.f k a0).bind fun t200 => ((patchbaylaw03_Ints.f k t200 t190).bind fun t203 => (if t203 = true then ((vlan_Size.f a0).bind fun t204 => (if t204 = (t190.length : Int) then ((vlan_All.f a2).bind fun t205 => ((patchbayref03_All.f k a2).bind fun t206 => (some (t205 == t206)))) else (some false))) else (some false)))) else (some false)))) else (some false)))) else (some false))) = some r := H
    have A7 := Aside0.mk A70
    clear A70
    replace H := Option.bind_eq_some_iff.mp H
    obtain ⟨t195, A80, H⟩ := H
    replace H : (if (t194 == t195) = true then ((vlan_With.f a0 a1).bind fun t196 => ((patchbayref03_With.f k a0 a1).bind fun t197 => (if t196 = t197 then ((vlan_Without.f a0 a1).bind fun t198 => ((patchbayref03_Without.f k a0 a1).bind fun t199 => (if t198 = t199 then ((vlan_List.f k a0).bind fun t200 => ((patchbaylaw03_Ints.f k t200 t190).bind fun t203 => (if t203 = true then ((vlan_Size.f a0).bind fun t204 => (if t204 = (t190.length : Int) then ((vlan_All.f a2).bind fun t205 => ((patchbayref03_All.f k a2).bind fun t206 => (some (t205 == t206)))) else (some false))) else (some false)))) else (some false)))) else (some false)))) else (some false)) = some r := H
    have A8 := Aside0.mk A80
    clear A80
    by_cases c9 : (t194 == t195) = true
    · rw [if_pos c9] at H
      have c9b0 : (t194 == t195) = true := c9
      (try (have c9b1 : decide (t194 = t195) = true := by simpa using c9))
      (try (have c9b2 : (t194 == t195) = true := by simpa using c9))
      clear c9
      replace H := Option.bind_eq_some_iff.mp H
      obtain ⟨t196, A100, H⟩ := H
      replace H : ((patchbayref03_With.f k a0 a1).bind fun t197 => (if t196 = t197 then ((vlan_Without.f a0 a1).bind fun t198 => ((patchbayref03_Without.f k a0 a1).bind fun t199 => (if t198 = t199 then ((vlan_List.f k a0).bind fun t200 => ((patchbaylaw03_Ints.f k t200 t190).bind fun t203 => (if t203 = true then ((vlan_Size.f a0).bind fun t204 => (if t204 = (t190.length : Int) then ((vlan_All.f a2).bind fun t205 => ((patchbayref03_All.f k a2).bind fun t206 => (some (t205 == t206)))) else (some false))) else (some false)))) else (some false)))) else (some false))) = some r := H
      have A10 := Aside0.mk A100
      clear A100
      replace H := Option.bind_eq_some_iff.mp H
      obtain ⟨t197, A110, H⟩ := H
      replace H : (if t196 = t197 then ((vlan_Without.f a0 a1).bind fun t198 => ((patchbayref03_Without.f k a0 a1).bind fun t199 => (if t198 = t199 then ((vlan_List.f k a0).bind fun t200 => ((patchbaylaw03_Ints.f k t200 t190).bind fun t203 => (if t203 = true then ((vlan_Size.f a0).bind fun t204 => (if t204 = (t190.length : Int) then ((vlan_All.f a2).bind fun t205 => ((patchbayref03_All.f k a2).bind fun t206 => (some (t205 == t206)))) else (some false))) else (some false)))) else (some false)))) else (some false)) = some r := H
      have A11 := Aside0.mk A110
      clear A110
      by_cases c12 : t196 = t197
      · rw [if_pos c12] at H
        have c12b0 : (t196 == t197) = true := beq_iff_eq.mpr c12
        have c12b1 : (t196 != t197) = false := bne_eq_false_iff_eq.mpr c12
        clear c12
        replace H := Option.bind_eq_some_iff.mp H
        obtain ⟨t198, A130, H⟩ := H
        replace H : ((patchbayref03_Without.f k a0 a1).bind fun t199 => (if t198 = t199 then ((vlan_List.f k a0).bind fun t200 => ((patchbaylaw03_Ints.f k t200 t190).bind fun t203 => (if t203 = true then ((vlan_Size.f a0).bind fun t204 => (if t204 = (t190.length : Int) then ((vlan_All.f a2).bind fun t205 => ((patchbayref03_All.f k a2).bind fun t206 => (some (t205 == t206)))) else (some false))) else (some false)))) else (some false))) = some r := H
        have A13 := Aside0.mk A130
        clear A130
        replace H := Option.bind_eq_some_iff.mp H
        obtain ⟨t199, A140, H⟩ := H
        replace H : (if t198 = t199 then ((vlan_List.f k a0).bind fun t200 => ((patchbaylaw03_Ints.f k t200 t190).bind fun t203 => (if t203 = true then ((vlan_Size.f a0).bind fun t204 => (if t204 = (t190.length : Int) then ((vlan_All.f a2).bind fun t205 => ((patchbayref03_All.f k a2).bind fun t206 => (some (t205 == t206)))) else (some false))) else (some false)))) else (some false)) = some r := H
        have A14 := Aside0.mk A140
        clear A140
        by_cases c15 : t198 = t199
        · rw [if_pos c15] at H
          have c15b0 : (t198 == t199) = true := beq_iff_eq.mpr c15
          have c15b1 : (t198 != t199) = false := bne_eq_false_iff_eq.mpr c15
          clear c15
          replace H := Option.bind_eq_some_iff.mp H
          obtain ⟨t200, A160, H⟩ := H
          replace H : ((patchbaylaw03_Ints.f k t200 t190).bind fun t203 => (if t203 = true then ((vlan_Size.f a0).bind fun t204 => (if t204 = (t190.length : Int) then ((vlan_All.f a2).bind fun t205 => ((patchbayref03_All.f k a2).bind fun t206 => (some (t205 == t206)))) else (some false))) else (some false))) = some r := H
          have A16 := Aside0.mk A160
          clear A160
          replace H := Option.bind_eq_some_iff.mp H
          obtain ⟨t203, A170, H⟩ := H
          replace H : (if t203 = true then ((vlan_Size.f a0).bind fun t204 => (if t204 = (t190.length : Int) then ((vlan_All.f a2).bind fun t205 => ((patchbayref03_All.f k a2).bind fun t206 => (some (t205 == t206)))) else (some false))) else (some false)) = some r := H
          have A17 := Aside0.mk A170
          clear A170
          by_cases c18 : t203 = true
          · subst c18
            have H1 : ((vlan_Size.f a0).bind fun t204 => (if t204 = (t190.length : Int) then ((vlan_All.f a2).bind fun t205 => ((patchbayref03_All.f k a2).bind fun t206 => (some (t205 == t206)))) else (some false))) = some r := by rw [if_pos rfl] at H; exact H
            clear H
            have H := H1
            clear H1
            replace H := Option.bind_eq_some_iff.mp H
            obtain ⟨t204, A190, H⟩ := H
            replace H : (if t204 = (t190.length : Int) then ((vlan_All.f a2).bind fun t205 => ((patchbayref03_All.f k a2).bind fun t206 => (some (t205 == t206)))) else (some false)) = some r := H
            have A19 := Aside0.mk A190
            clear A190
            by_cases c20 : t204 = (t190.length : Int)
            · rw [if_pos c20] at H
              have c20b0 : (t204 == (t190.length : Int)) = true := beq_iff_eq.mpr c20
              have c20b1 : (t204 != (t190.length : Int)) = false := bne_eq_false_iff_eq.mpr c20
              clear c20
              replace H := Option.bind_eq_some_iff.mp H
              obtain ⟨t205, A210, H⟩ := H
              replace H : ((patchbayref03_All.f k a2).bind fun t206 => (some (t205 == t206))) = some r := H
              have A21 := Aside0.mk A210
              clear A210
              replace H := Option.bind_eq_some_iff.mp H
              obtain ⟨t206, A220, H⟩ := H
              replace H : (some (t205 == t206)) = some r := H
              have A22 := Aside0.mk A220
              clear A220
              obtain rfl := Option.some.inj H
              go_enter Tryd.func3, Tryd.ntmps3
              go_wp2_with (first | ((with_reducible refine gate_callee (f := 4) rfl ?_); refine goesL_ (some 10) rfl rfl Tryd.func4 (by kernel_rfl) rfl #[.int .u64 a0] rfl (by (try simp only [List.map_toArray, List.map_cons, List.map_nil]); first | done | rfl | (simp only [List.length_drop, List.length_take]; rfl)) ?_; (with_reducible refine (patchbayref03_List.calls k a0 t190 _ A4.out).mono ?_); rintro e w23 ⟨v191, rfl, ho0, hb⟩; refine ⟨_, rfl, ?_⟩; have n0_ := Aside0.mk (Kd.R_lower ho0 (below_size (by repeat (first | (with_reducible first | exact HB.out | apply below_alloc | apply pw_below_drewN | apply below_drew1) | exact HB.out)))); have n1_ := Aside0.mk (below_step (by repeat (first | (with_reducible first | exact HB.out | apply below_alloc | apply pw_below_drewN | apply below_drew1) | exact HB.out)) hb); clear HB; have HO192 := n0_; have HB := n1_; clear n0_ n1_; (try clear hb); (try clear hb2); (try clear hk); (try clear hi); (try clear ho0)) | ((with_reducible refine gate_callee (f := 5) rfl ?_); refine goesL_ (some 12) rfl rfl Tryd.func5 (by kernel_rfl) rfl #[] rfl (by (try simp only [List.map_toArray, List.map_cons, List.map_nil]); first | done | rfl | (simp only [List.length_drop, List.length_take]; rfl)) ?_; (with_reducible refine (patchbaylaw03_told.calls k  true _ A5.out).mono ?_); rintro e w24 ⟨rfl, hb⟩; refine ⟨_, rfl, ?_⟩; have n0_ := Aside0.mk (Kd.R_below (by (with_reducible repeat (first | apply Kd.R_alloc | apply Kd.R_drewN | apply Kd.R_drew)); exact HO192.out) hb); have n1_ := Aside0.mk (below_step (by repeat (first | (with_reducible first | exact HB.out | apply below_alloc | apply pw_below_drewN | apply below_drew1) | exact HB.out)) hb); clear HO192; clear HB; have HO192 := n0_; have HB := n1_; clear n0_ n1_; (try clear hb); (try clear hb2); (try clear hk); (try clear hi)) | (go_at_call 6; (with_reducible refine (vlan_Has.calls a0 a1 t194 _ A7.out).mono ?_); rintro e w' ⟨rfl, ⟨nd, rfl⟩⟩) | (go_at_call 7; (with_reducible refine (patchbayref03_Has.calls k a0 a1 t195 _ A8.out).mono ?_); rintro e w' ⟨rfl, ⟨nd, rfl⟩⟩) | (go_at_call 8; (with_reducible refine (vlan_With.calls a0 a1 t196 _ A10.out).mono ?_); rintro e w' ⟨rfl, ⟨nd, rfl⟩⟩) | (go_at_call 9; (with_reducible refine (patchbayref03_With.calls k a0 a1 t197 _ A11.out).mono ?_); rintro e w' ⟨rfl, ⟨nd, rfl⟩⟩) | (go_at_call 10; (with_reducible refine (vlan_Without.calls a0 a1 t198 _ A13.out).mono ?_); rintro e w' ⟨rfl, ⟨nd, rfl⟩⟩) | (go_at_call 11; (with_reducible refine (patchbayref03_Without.calls k a0 a1 t199 _ A14.out).mono ?_); rintro e w' ⟨rfl, ⟨nd, rfl⟩⟩) | (go_at_call 13; (with_reducible refine (vlan_List.calls k a0 t200 _ A16.out (HT.out.below (by repeat (first | (with_reducible first | exact HB.out | apply below_alloc | apply pw_below_drewN | apply below_drew1) | exact HB.out)))).mono ?_); rintro e w25 ⟨v201, rfl, ho0, hb⟩; have n0_ := Aside0.mk (Kd.R_elder' (by (with_reducible repeat (first | apply Kd.R_alloc | apply Kd.R_drewN | apply Kd.R_drew)); exact HO192.out) (Kd.R_base ho0) hb); have n1_ := Aside0.mk (Kd.R_lower (Kd.R_new' ho0 (Kd.R_lt (by (with_reducible repeat (first | apply Kd.R_alloc | apply Kd.R_drewN | apply Kd.R_drew)); exact HO192.out))) (below_size (by repeat (first | (with_reducible first | exact HB.out | apply below_alloc | apply pw_below_drewN | apply below_drew1) | exact HB.out)))); have n2_ := Aside0.mk (below_step (by repeat (first | (with_reducible first | exact HB.out | apply below_alloc | apply pw_below_drewN | apply below_drew1) | exact HB.out)) hb); clear HO192; clear HB; have HO192 := n0_; have HO202 := n1_; have HB := n2_; clear n0_ n1_ n2_; (try clear hb); (try clear hb2); (try clear hk); (try clear hi); (try clear ho0); obtain ⟨Ao26, co26, eo26⟩ := Kd.R_slice HO202.out; subst eo26; obtain ⟨Ao27, co27, eo27⟩ := Kd.R_slice HO192.out; subst eo27) | (go_at_call 12; (with_reducible refine (patchbaylaw03_Ints.calls k _ _ t200 _ _ t190 true _ ?side1 ?side2 ?side3 ?side4 A17.out).mono ?_); (case side1 => repeat (first | exact (Kd.R_reads' HO202.out).2.2 | (with_reducible refine Kd.C_alloc ?_ _) | (with_reducible refine Kd.C_drewN ?_ _) | (with_reducible refine Kd.C_drew ?_))); (case side2 => exact (Kd.R_reads' HO202.out).2.1); (case side3 => repeat (first | exact (Kd.R_reads' HO192.out).2.2 | (with_reducible refine Kd.C_alloc ?_ _) | (with_reducible refine Kd.C_drewN ?_ _) | (with_reducible refine Kd.C_drew ?_))); (case side4 => exact (Kd.R_reads' HO192.out).2.1); rintro e w' ⟨rfl, ⟨nd, rfl⟩⟩) | (go_at_call 14; (with_reducible refine (vlan_Size.calls a0 t204 _ A19.out).mono ?_); rintro e w' ⟨rfl, ⟨nd, rfl⟩⟩) | (go_at_call 15; (with_reducible refine (vlan_All.calls a2 t205 _ A21.out).mono ?_); rintro e w' ⟨rfl, ⟨nd, rfl⟩⟩) | (go_at_call 16; (with_reducible refine (patchbayref03_All.calls k a2 t206 _ A22.out).mono ?_); rintro e w' ⟨rfl, ⟨nd, rfl⟩⟩))
              go_ret
              exact ⟨by first | rfl | (simp [errW_none, errW_some] <;> rfl) | (simp [*, errW_none, errW_some] <;> rfl), by repeat (first | (with_reducible first | exact HB.out | apply below_alloc | apply pw_below_drewN | apply below_drew1) | exact HB.out)⟩
            · rw [if_neg c20] at H
              have c20b0 : (t204 == (t190.length : Int)) = false := beq_eq_false_iff_ne.mpr c20
              have c20b1 : (t204 != (t190.length : Int)) = true := bne_iff_ne.mpr c20
              obtain rfl := Option.some.inj H
              go_enter Tryd.func3, Tryd.ntmps3
              go_wp2_with (first | ((with_reducible refine gate_callee (f := 4) rfl ?_); refine goesL_ (some 10) rfl rfl Tryd.func4 (by kernel_rfl) rfl #[.int .u64 a0] rfl (by (try simp only [List.map_toArray, List.map_cons, List.map_nil]); first | done | rfl | (simp only [List.length_drop, List.length_take]; rfl)) ?_; (with_reducible refine (patchbayref03_List.calls k a0 t190 _ A4.out).mono ?_); rintro e w28 ⟨v191, rfl, ho0, hb⟩; refine ⟨_, rfl, ?_⟩; have n0_ := Aside0.mk (Kd.R_lower ho0 (below_size (by repeat (first | (with_reducible first | exact HB.out | apply below_alloc | apply pw_below_drewN | apply below_drew1) | exact HB.out)))); have n1_ := Aside0.mk (below_step (by repeat (first | (with_reducible first | exact HB.out | apply below_alloc | apply pw_below_drewN | apply below_drew1) | exact HB.out)) hb); clear HB; have HO192 := n0_; have HB := n1_; clear n0_ n1_; (try clear hb); (try clear hb2); (try clear hk); (try clear hi); (try clear ho0)) | ((with_reducible refine gate_callee (f := 5) rfl ?_); refine goesL_ (some 12) rfl rfl Tryd.func5 (by kernel_rfl) rfl #[] rfl (by (try simp only [List.map_toArray, List.map_cons, List.map_nil]); first | done | rfl | (simp only [List.length_drop, List.length_take]; rfl)) ?_; (with_reducible refine (patchbaylaw03_told.calls k  true _ A5.out).mono ?_); rintro e w29 ⟨rfl, hb⟩; refine ⟨_, rfl, ?_⟩; have n0_ := Aside0.mk (Kd.R_below (by (with_reducible repeat (first | apply Kd.R_alloc | apply Kd.R_drewN | apply Kd.R_drew)); exact HO192.out) hb); have n1_ := Aside0.mk (below_step (by repeat (first | (with_reducible first | exact HB.out | apply below_alloc | apply pw_below_drewN | apply below_drew1) | exact HB.out)) hb); clear HO192; clear HB; have HO192 := n0_; have HB := n1_; clear n0_ n1_; (try clear hb); (try clear hb2); (try clear hk); (try clear hi)) | (go_at_call 6; (with_reducible refine (vlan_Has.calls a0 a1 t194 _ A7.out).mono ?_); rintro e w' ⟨rfl, ⟨nd, rfl⟩⟩) | (go_at_call 7; (with_reducible refine (patchbayref03_Has.calls k a0 a1 t195 _ A8.out).mono ?_); rintro e w' ⟨rfl, ⟨nd, rfl⟩⟩) | (go_at_call 8; (with_reducible refine (vlan_With.calls a0 a1 t196 _ A10.out).mono ?_); rintro e w' ⟨rfl, ⟨nd, rfl⟩⟩) | (go_at_call 9; (with_reducible refine (patchbayref03_With.calls k a0 a1 t197 _ A11.out).mono ?_); rintro e w' ⟨rfl, ⟨nd, rfl⟩⟩) | (go_at_call 10; (with_reducible refine (vlan_Without.calls a0 a1 t198 _ A13.out).mono ?_); rintro e w' ⟨rfl, ⟨nd, rfl⟩⟩) | (go_at_call 11; (with_reducible refine (patchbayref03_Without.calls k a0 a1 t199 _ A14.out).mono ?_); rintro e w' ⟨rfl, ⟨nd, rfl⟩⟩) | (go_at_call 13; (with_reducible refine (vlan_List.calls k a0 t200 _ A16.out (HT.out.below (by repeat (first | (with_reducible first | exact HB.out | apply below_alloc | apply pw_below_drewN | apply below_drew1) | exact HB.out)))).mono ?_); rintro e w30 ⟨v201, rfl, ho0, hb⟩; have n0_ := Aside0.mk (Kd.R_elder' (by (with_reducible repeat (first | apply Kd.R_alloc | apply Kd.R_drewN | apply Kd.R_drew)); exact HO192.out) (Kd.R_base ho0) hb); have n1_ := Aside0.mk (Kd.R_lower (Kd.R_new' ho0 (Kd.R_lt (by (with_reducible repeat (first | apply Kd.R_alloc | apply Kd.R_drewN | apply Kd.R_drew)); exact HO192.out))) (below_size (by repeat (first | (with_reducible first | exact HB.out | apply below_alloc | apply pw_below_drewN | apply below_drew1) | exact HB.out)))); have n2_ := Aside0.mk (below_step (by repeat (first | (with_reducible first | exact HB.out | apply below_alloc | apply pw_below_drewN | apply below_drew1) | exact HB.out)) hb); clear HO192; clear HB; have HO192 := n0_; have HO202 := n1_; have HB := n2_; clear n0_ n1_ n2_; (try clear hb); (try clear hb2); (try clear hk); (try clear hi); (try clear ho0); obtain ⟨Ao31, co31, eo31⟩ := Kd.R_slice HO202.out; subst eo31; obtain ⟨Ao32, co32, eo32⟩ := Kd.R_slice HO192.out; subst eo32) | (go_at_call 12; (with_reducible refine (patchbaylaw03_Ints.calls k _ _ t200 _ _ t190 true _ ?side1 ?side2 ?side3 ?side4 A17.out).mono ?_); (case side1 => repeat (first | exact (Kd.R_reads' HO202.out).2.2 | (with_reducible refine Kd.C_alloc ?_ _) | (with_reducible refine Kd.C_drewN ?_ _) | (with_reducible refine Kd.C_drew ?_))); (case side2 => exact (Kd.R_reads' HO202.out).2.1); (case side3 => repeat (first | exact (Kd.R_reads' HO192.out).2.2 | (with_reducible refine Kd.C_alloc ?_ _) | (with_reducible refine Kd.C_drewN ?_ _) | (with_reducible refine Kd.C_drew ?_))); (case side4 => exact (Kd.R_reads' HO192.out).2.1); rintro e w' ⟨rfl, ⟨nd, rfl⟩⟩) | (go_at_call 14; (with_reducible refine (vlan_Size.calls a0 t204 _ A19.out).mono ?_); rintro e w' ⟨rfl, ⟨nd, rfl⟩⟩))
              go_ret
              exact ⟨by first | rfl | (simp [errW_none, errW_some] <;> rfl) | (simp [*, errW_none, errW_some] <;> rfl), by repeat (first | (with_reducible first | exact HB.out | apply below_alloc | apply pw_below_drewN | apply below_drew1) | exact HB.out)⟩
          · replace c18 := Bool.eq_false_iff.mpr c18
            subst c18
            have H1 : (some false) = some r := by rw [if_neg (show ¬ (false = true) by decide)] at H; exact H
            clear H
            have H := H1
            clear H1
            obtain rfl := Option.some.inj H
            go_enter Tryd.func3, Tryd.ntmps3
            go_wp2_with (first | ((with_reducible refine gate_callee (f := 4) rfl ?_); refine goesL_ (some 10) rfl rfl Tryd.func4 (by kernel_rfl) rfl #[.int .u64 a0] rfl (by (try simp only [List.map_toArray, List.map_cons, List.map_nil]); first | done | rfl | (simp only [List.length_drop, List.length_take]; rfl)) ?_; (with_reducible refine (patchbayref03_List.calls k a0 t190 _ A4.out).mono ?_); rintro e w33 ⟨v191, rfl, ho0, hb⟩; refine ⟨_, rfl, ?_⟩; have n0_ := Aside0.mk (Kd.R_lower ho0 (below_size (by repeat (first | (with_reducible first | exact HB.out | apply below_alloc | apply pw_below_drewN | apply below_drew1) | exact HB.out)))); have n1_ := Aside0.mk (below_step (by repeat (first | (with_reducible first | exact HB.out | apply below_alloc | apply pw_below_drewN | apply below_drew1) | exact HB.out)) hb); clear HB; have HO192 := n0_; have HB := n1_; clear n0_ n1_; (try clear hb); (try clear hb2); (try clear hk); (try clear hi); (try clear ho0)) | ((with_reducible refine gate_callee (f := 5) rfl ?_); refine goesL_ (some 12) rfl rfl Tryd.func5 (by kernel_rfl) rfl #[] rfl (by (try simp only [List.map_toArray, List.map_cons, List.map_nil]); first | done | rfl | (simp only [List.length_drop, List.length_take]; rfl)) ?_; (with_reducible refine (patchbaylaw03_told.calls k  true _ A5.out).mono ?_); rintro e w34 ⟨rfl, hb⟩; refine ⟨_, rfl, ?_⟩; have n0_ := Aside0.mk (Kd.R_below (by (with_reducible repeat (first | apply Kd.R_alloc | apply Kd.R_drewN | apply Kd.R_drew)); exact HO192.out) hb); have n1_ := Aside0.mk (below_step (by repeat (first | (with_reducible first | exact HB.out | apply below_alloc | apply pw_below_drewN | apply below_drew1) | exact HB.out)) hb); clear HO192; clear HB; have HO192 := n0_; have HB := n1_; clear n0_ n1_; (try clear hb); (try clear hb2); (try clear hk); (try clear hi)) | (go_at_call 6; (with_reducible refine (vlan_Has.calls a0 a1 t194 _ A7.out).mono ?_); rintro e w' ⟨rfl, ⟨nd, rfl⟩⟩) | (go_at_call 7; (with_reducible refine (patchbayref03_Has.calls k a0 a1 t195 _ A8.out).mono ?_); rintro e w' ⟨rfl, ⟨nd, rfl⟩⟩) | (go_at_call 8; (with_reducible refine (vlan_With.calls a0 a1 t196 _ A10.out).mono ?_); rintro e w' ⟨rfl, ⟨nd, rfl⟩⟩) | (go_at_call 9; (with_reducible refine (patchbayref03_With.calls k a0 a1 t197 _ A11.out).mono ?_); rintro e w' ⟨rfl, ⟨nd, rfl⟩⟩) | (go_at_call 10; (with_reducible refine (vlan_Without.calls a0 a1 t198 _ A13.out).mono ?_); rintro e w' ⟨rfl, ⟨nd, rfl⟩⟩) | (go_at_call 11; (with_reducible refine (patchbayref03_Without.calls k a0 a1 t199 _ A14.out).mono ?_); rintro e w' ⟨rfl, ⟨nd, rfl⟩⟩) | (go_at_call 13; (with_reducible refine (vlan_List.calls k a0 t200 _ A16.out (HT.out.below (by repeat (first | (with_reducible first | exact HB.out | apply below_alloc | apply pw_below_drewN | apply below_drew1) | exact HB.out)))).mono ?_); rintro e w35 ⟨v201, rfl, ho0, hb⟩; have n0_ := Aside0.mk (Kd.R_elder' (by (with_reducible repeat (first | apply Kd.R_alloc | apply Kd.R_drewN | apply Kd.R_drew)); exact HO192.out) (Kd.R_base ho0) hb); have n1_ := Aside0.mk (Kd.R_lower (Kd.R_new' ho0 (Kd.R_lt (by (with_reducible repeat (first | apply Kd.R_alloc | apply Kd.R_drewN | apply Kd.R_drew)); exact HO192.out))) (below_size (by repeat (first | (with_reducible first | exact HB.out | apply below_alloc | apply pw_below_drewN | apply below_drew1) | exact HB.out)))); have n2_ := Aside0.mk (below_step (by repeat (first | (with_reducible first | exact HB.out | apply below_alloc | apply pw_below_drewN | apply below_drew1) | exact HB.out)) hb); clear HO192; clear HB; have HO192 := n0_; have HO202 := n1_; have HB := n2_; clear n0_ n1_ n2_; (try clear hb); (try clear hb2); (try clear hk); (try clear hi); (try clear ho0); obtain ⟨Ao36, co36, eo36⟩ := Kd.R_slice HO202.out; subst eo36; obtain ⟨Ao37, co37, eo37⟩ := Kd.R_slice HO192.out; subst eo37) | (go_at_call 12; (with_reducible refine (patchbaylaw03_Ints.calls k _ _ t200 _ _ t190 false _ ?side1 ?side2 ?side3 ?side4 A17.out).mono ?_); (case side1 => repeat (first | exact (Kd.R_reads' HO202.out).2.2 | (with_reducible refine Kd.C_alloc ?_ _) | (with_reducible refine Kd.C_drewN ?_ _) | (with_reducible refine Kd.C_drew ?_))); (case side2 => exact (Kd.R_reads' HO202.out).2.1); (case side3 => repeat (first | exact (Kd.R_reads' HO192.out).2.2 | (with_reducible refine Kd.C_alloc ?_ _) | (with_reducible refine Kd.C_drewN ?_ _) | (with_reducible refine Kd.C_drew ?_))); (case side4 => exact (Kd.R_reads' HO192.out).2.1); rintro e w' ⟨rfl, ⟨nd, rfl⟩⟩))
            go_ret
            exact ⟨by first | rfl | (simp [errW_none, errW_some] <;> rfl) | (simp [*, errW_none, errW_some] <;> rfl), by repeat (first | (with_reducible first | exact HB.out | apply below_alloc | apply pw_below_drewN | apply below_drew1) | exact HB.out)⟩
        · rw [if_neg c15] at H
          have c15b0 : (t198 == t199) = false := beq_eq_false_iff_ne.mpr c15
          have c15b1 : (t198 != t199) = true := bne_iff_ne.mpr c15
          obtain rfl := Option.some.inj H
          go_enter Tryd.func3, Tryd.ntmps3
          go_wp2_with (first | ((with_reducible refine gate_callee (f := 4) rfl ?_); refine goesL_ (some 10) rfl rfl Tryd.func4 (by kernel_rfl) rfl #[.int .u64 a0] rfl (by (try simp only [List.map_toArray, List.map_cons, List.map_nil]); first | done | rfl | (simp only [List.length_drop, List.length_take]; rfl)) ?_; (with_reducible refine (patchbayref03_List.calls k a0 t190 _ A4.out).mono ?_); rintro e w38 ⟨v191, rfl, ho0, hb⟩; refine ⟨_, rfl, ?_⟩; have n0_ := Aside0.mk (Kd.R_lower ho0 (below_size (by repeat (first | (with_reducible first | exact HB.out | apply below_alloc | apply pw_below_drewN | apply below_drew1) | exact HB.out)))); have n1_ := Aside0.mk (below_step (by repeat (first | (with_reducible first | exact HB.out | apply below_alloc | apply pw_below_drewN | apply below_drew1) | exact HB.out)) hb); clear HB; have HO192 := n0_; have HB := n1_; clear n0_ n1_; (try clear hb); (try clear hb2); (try clear hk); (try clear hi); (try clear ho0)) | ((with_reducible refine gate_callee (f := 5) rfl ?_); refine goesL_ (some 12) rfl rfl Tryd.func5 (by kernel_rfl) rfl #[] rfl (by (try simp only [List.map_toArray, List.map_cons, List.map_nil]); first | done | rfl | (simp only [List.length_drop, List.length_take]; rfl)) ?_; (with_reducible refine (patchbaylaw03_told.calls k  true _ A5.out).mono ?_); rintro e w39 ⟨rfl, hb⟩; refine ⟨_, rfl, ?_⟩; have n0_ := Aside0.mk (Kd.R_below (by (with_reducible repeat (first | apply Kd.R_alloc | apply Kd.R_drewN | apply Kd.R_drew)); exact HO192.out) hb); have n1_ := Aside0.mk (below_step (by repeat (first | (with_reducible first | exact HB.out | apply below_alloc | apply pw_below_drewN | apply below_drew1) | exact HB.out)) hb); clear HO192; clear HB; have HO192 := n0_; have HB := n1_; clear n0_ n1_; (try clear hb); (try clear hb2); (try clear hk); (try clear hi)) | (go_at_call 6; (with_reducible refine (vlan_Has.calls a0 a1 t194 _ A7.out).mono ?_); rintro e w' ⟨rfl, ⟨nd, rfl⟩⟩) | (go_at_call 7; (with_reducible refine (patchbayref03_Has.calls k a0 a1 t195 _ A8.out).mono ?_); rintro e w' ⟨rfl, ⟨nd, rfl⟩⟩) | (go_at_call 8; (with_reducible refine (vlan_With.calls a0 a1 t196 _ A10.out).mono ?_); rintro e w' ⟨rfl, ⟨nd, rfl⟩⟩) | (go_at_call 9; (with_reducible refine (patchbayref03_With.calls k a0 a1 t197 _ A11.out).mono ?_); rintro e w' ⟨rfl, ⟨nd, rfl⟩⟩) | (go_at_call 10; (with_reducible refine (vlan_Without.calls a0 a1 t198 _ A13.out).mono ?_); rintro e w' ⟨rfl, ⟨nd, rfl⟩⟩) | (go_at_call 11; (with_reducible refine (patchbayref03_Without.calls k a0 a1 t199 _ A14.out).mono ?_); rintro e w' ⟨rfl, ⟨nd, rfl⟩⟩))
          go_ret
          exact ⟨by first | rfl | (simp [errW_none, errW_some] <;> rfl) | (simp [*, errW_none, errW_some] <;> rfl), by repeat (first | (with_reducible first | exact HB.out | apply below_alloc | apply pw_below_drewN | apply below_drew1) | exact HB.out)⟩
      · rw [if_neg c12] at H
        have c12b0 : (t196 == t197) = false := beq_eq_false_iff_ne.mpr c12
        have c12b1 : (t196 != t197) = true := bne_iff_ne.mpr c12
        obtain rfl := Option.some.inj H
        go_enter Tryd.func3, Tryd.ntmps3
        go_wp2_with (first | ((with_reducible refine gate_callee (f := 4) rfl ?_); refine goesL_ (some 10) rfl rfl Tryd.func4 (by kernel_rfl) rfl #[.int .u64 a0] rfl (by (try simp only [List.map_toArray, List.map_cons, List.map_nil]); first | done | rfl | (simp only [List.length_drop, List.length_take]; rfl)) ?_; (with_reducible refine (patchbayref03_List.calls k a0 t190 _ A4.out).mono ?_); rintro e w40 ⟨v191, rfl, ho0, hb⟩; refine ⟨_, rfl, ?_⟩; have n0_ := Aside0.mk (Kd.R_lower ho0 (below_size (by repeat (first | (with_reducible first | exact HB.out | apply below_alloc | apply pw_below_drewN | apply below_drew1) | exact HB.out)))); have n1_ := Aside0.mk (below_step (by repeat (first | (with_reducible first | exact HB.out | apply below_alloc | apply pw_below_drewN | apply below_drew1) | exact HB.out)) hb); clear HB; have HO192 := n0_; have HB := n1_; clear n0_ n1_; (try clear hb); (try clear hb2); (try clear hk); (try clear hi); (try clear ho0)) | ((with_reducible refine gate_callee (f := 5) rfl ?_); refine goesL_ (some 12) rfl rfl Tryd.func5 (by kernel_rfl) rfl #[] rfl (by (try simp only [List.map_toArray, List.map_cons, List.map_nil]); first | done | rfl | (simp only [List.length_drop, List.length_take]; rfl)) ?_; (with_reducible refine (patchbaylaw03_told.calls k  true _ A5.out).mono ?_); rintro e w41 ⟨rfl, hb⟩; refine ⟨_, rfl, ?_⟩; have n0_ := Aside0.mk (Kd.R_below (by (with_reducible repeat (first | apply Kd.R_alloc | apply Kd.R_drewN | apply Kd.R_drew)); exact HO192.out) hb); have n1_ := Aside0.mk (below_step (by repeat (first | (with_reducible first | exact HB.out | apply below_alloc | apply pw_below_drewN | apply below_drew1) | exact HB.out)) hb); clear HO192; clear HB; have HO192 := n0_; have HB := n1_; clear n0_ n1_; (try clear hb); (try clear hb2); (try clear hk); (try clear hi)) | (go_at_call 6; (with_reducible refine (vlan_Has.calls a0 a1 t194 _ A7.out).mono ?_); rintro e w' ⟨rfl, ⟨nd, rfl⟩⟩) | (go_at_call 7; (with_reducible refine (patchbayref03_Has.calls k a0 a1 t195 _ A8.out).mono ?_); rintro e w' ⟨rfl, ⟨nd, rfl⟩⟩) | (go_at_call 8; (with_reducible refine (vlan_With.calls a0 a1 t196 _ A10.out).mono ?_); rintro e w' ⟨rfl, ⟨nd, rfl⟩⟩) | (go_at_call 9; (with_reducible refine (patchbayref03_With.calls k a0 a1 t197 _ A11.out).mono ?_); rintro e w' ⟨rfl, ⟨nd, rfl⟩⟩))
        go_ret
        exact ⟨by first | rfl | (simp [errW_none, errW_some] <;> rfl) | (simp [*, errW_none, errW_some] <;> rfl), by repeat (first | (with_reducible first | exact HB.out | apply below_alloc | apply pw_below_drewN | apply below_drew1) | exact HB.out)⟩
    · rw [if_neg c9] at H
      have c9b0 : (t194 == t195) = false := by simpa using c9
      (try (have c9b1 : decide (t194 = t195) = false := by simpa using c9))
      (try (have c9b2 : (t194 == t195) = false := by simpa using c9))
      (try (have c9b3 : ¬ (t194 = t195) := by simpa using c9))
      clear c9
      obtain rfl := Option.some.inj H
      go_enter Tryd.func3, Tryd.ntmps3
      go_wp2_with (first | ((with_reducible refine gate_callee (f := 4) rfl ?_); refine goesL_ (some 10) rfl rfl Tryd.func4 (by kernel_rfl) rfl #[.int .u64 a0] rfl (by (try simp only [List.map_toArray, List.map_cons, List.map_nil]); first | done | rfl | (simp only [List.length_drop, List.length_take]; rfl)) ?_; (with_reducible refine (patchbayref03_List.calls k a0 t190 _ A4.out).mono ?_); rintro e w42 ⟨v191, rfl, ho0, hb⟩; refine ⟨_, rfl, ?_⟩; have n0_ := Aside0.mk (Kd.R_lower ho0 (below_size (by repeat (first | (with_reducible first | exact HB.out | apply below_alloc | apply pw_below_drewN | apply below_drew1) | exact HB.out)))); have n1_ := Aside0.mk (below_step (by repeat (first | (with_reducible first | exact HB.out | apply below_alloc | apply pw_below_drewN | apply below_drew1) | exact HB.out)) hb); clear HB; have HO192 := n0_; have HB := n1_; clear n0_ n1_; (try clear hb); (try clear hb2); (try clear hk); (try clear hi); (try clear ho0)) | ((with_reducible refine gate_callee (f := 5) rfl ?_); refine goesL_ (some 12) rfl rfl Tryd.func5 (by kernel_rfl) rfl #[] rfl (by (try simp only [List.map_toArray, List.map_cons, List.map_nil]); first | done | rfl | (simp only [List.length_drop, List.length_take]; rfl)) ?_; (with_reducible refine (patchbaylaw03_told.calls k  true _ A5.out).mono ?_); rintro e w43 ⟨rfl, hb⟩; refine ⟨_, rfl, ?_⟩; have n0_ := Aside0.mk (Kd.R_below (by (with_reducible repeat (first | apply Kd.R_alloc | apply Kd.R_drewN | apply Kd.R_drew)); exact HO192.out) hb); have n1_ := Aside0.mk (below_step (by repeat (first | (with_reducible first | exact HB.out | apply below_alloc | apply pw_below_drewN | apply below_drew1) | exact HB.out)) hb); clear HO192; clear HB; have HO192 := n0_; have HB := n1_; clear n0_ n1_; (try clear hb); (try clear hb2); (try clear hk); (try clear hi)) | (go_at_call 6; (with_reducible refine (vlan_Has.calls a0 a1 t194 _ A7.out).mono ?_); rintro e w' ⟨rfl, ⟨nd, rfl⟩⟩) | (go_at_call 7; (with_reducible refine (patchbayref03_Has.calls k a0 a1 t195 _ A8.out).mono ?_); rintro e w' ⟨rfl, ⟨nd, rfl⟩⟩))
      go_ret
      exact ⟨by first | rfl | (simp [errW_none, errW_some] <;> rfl) | (simp [*, errW_none, errW_some] <;> rfl), by repeat (first | (with_reducible first | exact HB.out | apply below_alloc | apply pw_below_drewN | apply below_drew1) | exact HB.out)⟩
  · replace c6 := Bool.eq_false_iff.mpr c6
    subst c6
    have H1 : (some false) = some r := by rw [if_neg (show ¬ (false = true) by decide)] at H; exact H
    clear H
    have H := H1
    clear H1
    obtain rfl := Option.some.inj H
    go_enter Tryd.func3, Tryd.ntmps3
    go_wp2_with (first | ((with_reducible refine gate_callee (f := 4) rfl ?_); refine goesL_ (some 10) rfl rfl Tryd.func4 (by kernel_rfl) rfl #[.int .u64 a0] rfl (by (try simp only [List.map_toArray, List.map_cons, List.map_nil]); first | done | rfl | (simp only [List.length_drop, List.length_take]; rfl)) ?_; (with_reducible refine (patchbayref03_List.calls k a0 t190 _ A4.out).mono ?_); rintro e w44 ⟨v191, rfl, ho0, hb⟩; refine ⟨_, rfl, ?_⟩; have n0_ := Aside0.mk (Kd.R_lower ho0 (below_size (by repeat (first | (with_reducible first | exact HB.out | apply below_alloc | apply pw_below_drewN | apply below_drew1) | exact HB.out)))); have n1_ := Aside0.mk (below_step (by repeat (first | (with_reducible first | exact HB.out | apply below_alloc | apply pw_below_drewN | apply below_drew1) | exact HB.out)) hb); clear HB; have HO192 := n0_; have HB := n1_; clear n0_ n1_; (try clear hb); (try clear hb2); (try clear hk); (try clear hi); (try clear ho0)) | ((with_reducible refine gate_callee (f := 5) rfl ?_); refine goesL_ (some 12) rfl rfl Tryd.func5 (by kernel_rfl) rfl #[] rfl (by (try simp only [List.map_toArray, List.map_cons, List.map_nil]); first | done | rfl | (simp only [List.length_drop, List.length_take]; rfl)) ?_; (with_reducible refine (patchbaylaw03_told.calls k  false _ A5.out).mono ?_); rintro e w45 ⟨rfl, hb⟩; refine ⟨_, rfl, ?_⟩; have n0_ := Aside0.mk (Kd.R_below (by (with_reducible repeat (first | apply Kd.R_alloc | apply Kd.R_drewN | apply Kd.R_drew)); exact HO192.out) hb); have n1_ := Aside0.mk (below_step (by repeat (first | (with_reducible first | exact HB.out | apply below_alloc | apply pw_below_drewN | apply below_drew1) | exact HB.out)) hb); clear HO192; clear HB; have HO192 := n0_; have HB := n1_; clear n0_ n1_; (try clear hb); (try clear hb2); (try clear hk); (try clear hi)))
    go_ret
    exact ⟨by first | rfl | (simp [errW_none, errW_some] <;> rfl) | (simp [*, errW_none, errW_some] <;> rfl), by repeat (first | (with_reducible first | exact HB.out | apply below_alloc | apply pw_below_drewN | apply below_drew1) | exact HB.out)⟩

/-- THE ONE PURE STATEMENT of patchbaylaw03_VlanSets: yours. -/
def patchbaylaw03_VlanSets.Pure : Prop := ∀ (a0 : Int) (a1 : Int) (a2 : Int), (Lit.int .u64 a0).wf = true → (Lit.int .i64 a1).wf = true → (Lit.int .i64 a2).wf = true → ∃ k, patchbaylaw03_VlanSets.f k a0 a1 a2 = some true
theorem patchbaylaw03_VlanSets.walk (P : patchbaylaw03_VlanSets.Pure) (a0 : Int) (a1 : Int) (a2 : Int) (w : World) (w0 : (Lit.int .u64 a0).wf = true) (w1 : (Lit.int .i64 a1).wf = true) (w2 : (Lit.int .i64 a2).wf = true) (hT : Tab64 w) :
    Calls Tryd.prog 3 #[.int .u64 a0, .int .i64 a1, .int .i64 a2] w fun e w' => e = .returned (.bool true) ∧ Below w.heap.size w w' := by
  obtain ⟨k, h⟩ := P a0 a1 a2 w0 w1 w2
  refine (patchbaylaw03_VlanSets.calls k a0 a1 a2 true w h hT).mono ?_
  rintro e w' ⟨rfl, hd⟩
  exact ⟨rfl, hd⟩

end Go.Proofs.YtfgdjljbdghdgaaDoor.PVlat
