/- The walk by hand of VlanChecks; no condition beyond the stated ones. -/
import Derived.Test.YtfgdjljbdghdgaaHandVlan
import Derived.Deep.RegionHeld3
namespace Go.Proofs.Ytfgdjljbdghdgaa.PVlan
open Go.RowKit Go.Proofs.YtfgdjljbdghdgaaW.PrintWords Go.Proofs.YtfgdjljbdghdgaaW.PrintLast Go.Proofs.YtfgdjljbdghdgaaW.PrintMore
attribute [local go_sem] max2_int min2_int max_two min_two max_three min_three max_four min_four
set_option linter.unusedVariables false
set_option linter.unusedSimpArgs false

set_option maxHeartbeats 8000000 in
set_option maxRecDepth 100000 in
theorem checks12 (k : Nat) (A0 : Option Addr) (c0 : Nat) (l0 : List S91) (ports pv ac : Int) (t : List S89) (ee i : Int) (b : Bool) (w : World) (hr0 : Kd.C k91 w A0 l0.length l0) (hc0 : l0.length ≤ c0)
    (hT : patchbaylaw03_told.f k = some true) (hTo : patchbaylaw03_To.f k (l0.take 20) = some t) (hC : vlan_Check.f k t ports = some ee) (hRC : patchbayref03_Check.f k (l0.take 20) ports = some ee)
    (hF : vlan_Find.f t pv = some i) (hRF : patchbayref03_Find.f k (l0.take 20) pv = some i) (hR : vlan_Right.f pv ac = some b) (hRR : patchbayref03_Right.f pv ac = some b) :
    Calls Try.prog 12 #[.slice A0 l0.length c0, .int .i64 ports, .agg #[.int .i64 pv, .int .i64 ac]] w fun e w' => e = .returned (.bool true) ∧ Below w.heap.size w w' := by
  have H20 := Aside0.mk (take20 hr0)
  have HC20 := Aside0.mk (show (l0.take 20).length ≤ c0 from by rw [List.length_take]; omega)
  have HC0 := Aside0.mk hc0
  have HB := Aside0.mk (Below.refl w.heap.size w)
  have F1 := Aside0.mk hTo; have F2 := Aside0.mk hC; have F3 := Aside0.mk hT; have F4 := Aside0.mk hRC; have F5 := Aside0.mk hF; have F6 := Aside0.mk hRF; have F7 := Aside0.mk hR; have F8 := Aside0.mk hRR
  clear hTo hC hT hRC hF hRF hR hRR hr0 hc0
  obtain ⟨l1, hl1⟩ : ∃ l1, l1 = l0.take 20 := ⟨_, rfl⟩
  go_enter Try.func12, Try.ntmps12
  go_wp2_with (first
    | ((with_reducible refine gate_dst (N := 5) rfl ?_); refine box_event ?hg (N := 5) ?hd (cs := #[.int .i64 pv, .int .i64 ac]) (t := 39) ?hr ?_; (case hd => rfl); (case hg => rfl); (case hr => first | (go_simp; done) | (go_simp; rfl)); intro gb hg w11 hbox hb; have HBn := Aside0.mk (below_step (by repeat (first | exact HB.out | apply below_alloc | apply pw_below_drewN | apply below_drew1)) hb); clear HB; have HB := HBn; clear HBn; have HX0 := Aside0.mk ((blk_cell hbox 0).trans rfl : w11.cell? ⟨gb, 0, none⟩ = some (.int .i64 pv)); have HX1 := Aside0.mk ((blk_cell hbox 1).trans rfl : w11.cell? ⟨gb, 1, none⟩ = some (.int .i64 ac)); have hgb := World.block_lt_of_cell? w11 _ HX0.out; have HBX := Aside0.mk (Below.refl w11.heap.size w11); clear hbox hb hg)
    | (go_at_call 30; refine (few30 _ _ l0 _ HC0.out).mono ?_; rw [← hl1]; rw [← hl1] at H20 HC20 F1 F4 F6; clear hl1; rintro e w' ⟨rfl, nd, rfl⟩))
  have hx0 := HX0.out
  have hx1 := HX1.out
  go_region_held3 (fun w' => w'.cell? ⟨gb, 0, none⟩ = some (.int .i64 pv) ∧ w'.cell? ⟨gb, 1, none⟩ = some (.int .i64 ac)) (first | go_keep | exact ⟨hx0, hx1⟩)
    (first
      | (go_at_call 32; refine (patchbaylaw03_To.calls k _ _ l1 t _ (Kd.C_below H20.out (by repeat (first | exact HB.out | apply below_alloc | apply pw_below_drewN | apply below_drew1))) HC20.out F1.out).mono ?_; rintro e w' ⟨v, rfl, ho, hb⟩; have HBn := Aside0.mk (below_step (by repeat (first | exact HB.out | apply below_alloc | apply pw_below_drewN | apply below_drew1)) hb); have HBm := Aside0.mk (below_step (by repeat (first | exact HBX.out | apply below_alloc | apply pw_below_drewN | apply below_drew1)) hb); clear HB HBX; have HB := HBn; have HBX := HBm; clear HBn HBm hb; obtain ⟨At, ct, et⟩ := Kd.R_slice ho; subst et; have HCt := Aside0.mk (Kd.R_reads' ho).2.2; have HCc := Aside0.mk (Kd.R_reads' ho).2.1; clear ho; have hx0 := (HBX.out.cell (p := ⟨gb, 0, none⟩) hgb).trans HX0.out; have hx1 := (HBX.out.cell (p := ⟨gb, 1, none⟩) hgb).trans HX1.out)
      | (go_at_call 40; refine (vlan_Check.calls k _ _ t ports ee _ (by (with_reducible repeat (first | refine Kd.C_drewN ?_ _ | refine Kd.C_drew ?_)); exact HCt.out) HCc.out F2.out).mono ?_; rintro e w' ⟨rfl, hb⟩; have HBn := Aside0.mk (below_step (by repeat (first | exact HB.out | apply below_alloc | apply pw_below_drewN | apply below_drew1)) hb); have HBm := Aside0.mk (below_step (by repeat (first | exact HBX.out | apply below_alloc | apply pw_below_drewN | apply below_drew1)) hb); clear HB HBX; have HB := HBn; have HBX := HBm; clear HBn HBm hb; have hx0 := (HBX.out.cell (p := ⟨gb, 0, none⟩) hgb).trans HX0.out; have hx1 := (HBX.out.cell (p := ⟨gb, 1, none⟩) hgb).trans HX1.out)
      | (go_at_call 42; refine (vlan_Find.calls _ _ t pv i _ (by (with_reducible repeat (first | refine Kd.C_drewN ?_ _ | refine Kd.C_drew ?_)); exact HCt.out) HCc.out F5.out).mono ?_; rintro e w' ⟨rfl, hb⟩; have HBn := Aside0.mk (below_step (by repeat (first | exact HB.out | apply below_alloc | apply pw_below_drewN | apply below_drew1)) hb); have HBm := Aside0.mk (below_step (by repeat (first | exact HBX.out | apply below_alloc | apply pw_below_drewN | apply below_drew1)) hb); clear HB HBX; have HB := HBn; have HBX := HBm; clear HBn HBm hb; have hx0 := (HBX.out.cell (p := ⟨gb, 0, none⟩) hgb).trans HX0.out; have hx1 := (HBX.out.cell (p := ⟨gb, 1, none⟩) hgb).trans HX1.out)
      | (go_at_call 44; refine (vlan_Right.calls pv ac b _ F7.out).mono ?_; rintro e w' ⟨rfl, hb⟩; have HBn := Aside0.mk (below_step (by repeat (first | exact HB.out | apply below_alloc | apply pw_below_drewN | apply below_drew1)) hb); have HBm := Aside0.mk (below_step (by repeat (first | exact HBX.out | apply below_alloc | apply pw_below_drewN | apply below_drew1)) hb); clear HB HBX; have HB := HBn; have HBX := HBm; clear HBn HBm hb; have hx0 := (HBX.out.cell (p := ⟨gb, 0, none⟩) hgb).trans HX0.out; have hx1 := (HBX.out.cell (p := ⟨gb, 1, none⟩) hgb).trans HX1.out)
      | (go_at_call 45; refine (patchbayref03_Right.calls pv ac b _ F8.out).mono ?_; rintro e w' ⟨rfl, hb⟩; have HBn := Aside0.mk (below_step (by repeat (first | exact HB.out | apply below_alloc | apply pw_below_drewN | apply below_drew1)) hb); have HBm := Aside0.mk (below_step (by repeat (first | exact HBX.out | apply below_alloc | apply pw_below_drewN | apply below_drew1)) hb); clear HB HBX; have HB := HBn; have HBX := HBm; clear HBn HBm hb; have hx0 := (HBX.out.cell (p := ⟨gb, 0, none⟩) hgb).trans HX0.out; have hx1 := (HBX.out.cell (p := ⟨gb, 1, none⟩) hgb).trans HX1.out)
      | (go_at_call 28; refine (patchbaylaw03_told.calls k true _ F3.out).mono ?_; rintro e w' ⟨rfl, hb⟩; have HBn := Aside0.mk (below_step (by repeat (first | exact HB.out | apply below_alloc | apply pw_below_drewN | apply below_drew1)) hb); have HBm := Aside0.mk (below_step (by repeat (first | exact HBX.out | apply below_alloc | apply pw_below_drewN | apply below_drew1)) hb); clear HB HBX; have HB := HBn; have HBX := HBm; clear HBn HBm hb; have hx0 := (HBX.out.cell (p := ⟨gb, 0, none⟩) hgb).trans HX0.out; have hx1 := (HBX.out.cell (p := ⟨gb, 1, none⟩) hgb).trans HX1.out)
      | (go_at_call 41; refine (patchbayref03_Check.calls k _ _ l1 ports ee _ (Kd.C_below H20.out (by repeat (first | exact HB.out | apply below_alloc | apply pw_below_drewN | apply below_drew1))) HC20.out F4.out).mono ?_; rintro e w' ⟨rfl, nd, rfl⟩)
      | (go_at_call 43; refine (patchbayref03_Find.calls k _ _ l1 pv i _ (Kd.C_below H20.out (by repeat (first | exact HB.out | apply below_alloc | apply pw_below_drewN | apply below_drew1))) HC20.out F6.out).mono ?_; rintro e w' ⟨rfl, nd, rfl⟩))
  go_wp2
  go_ret
  exact ⟨by first | rfl | (simp; done) | (simp [*]; done), by repeat (first | exact HB.out | apply below_alloc | apply pw_below_drewN | apply below_drew1)⟩

end Go.Proofs.Ytfgdjljbdghdgaa.PVlan
