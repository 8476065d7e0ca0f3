/- The reference's Fill: its walk; no condition. -/
import Derived.Test.YtkgghjblfoempaaGW19
namespace Go.Proofs.Ytkgghjblfoempaa.GW
open Go.RowKit Go.Proofs.YtkgghjblfoempaaW.PrintWords Go.Proofs.Ytkgghjblfoempaa.Fl
set_option linter.unusedVariables false
set_option linter.unusedSimpArgs false
attribute [local go_sem] run_store_float

set_option maxHeartbeats 8000000 in
theorem rfill_ (lv mo ro : Nat) (la now : Int) (w : World) (hlv : lv < 18446744073709551616) (hnow : 0 ≤ now ∧ now < 4294967296) (hla : 0 ≤ la ∧ la < 4294967296) : Calls Try.prog 36 #[agg lv mo ro la, .int .u32 now] w fun e w' => ∃ r, e = .returned (agg lv mo r now) ∧ FillR lv mo ro la now r ∧ Below w.heap.size w w' := by
  have HB := Aside0.mk (Below.refl w.heap.size w)
  cases hop : openw lv
  · go_enter Try.func36, Try.ntmps36
    go_wp2_with (first | ((with_reducible refine gate_dst (N := 2) rfl ?_); refine box_event ?hg (N := 2) ?hd (cs := #[.float .f64 lv, .float .f64 mo, .float .f64 ro, .int .u32 la]) (t := 52) ?hr ?_; (case hd => rfl); (case hg => rfl); (case hr => first | (go_simp; done) | (go_simp; rfl)); intro gb hgb wb hbb0 hb; have geb := Aside0.mk (show w.heap.size ≤ gb from by rw [hgb]; exact below_size (by repeat (first | (with_reducible first | exact HB.out | apply below_alloc | apply pw_below_drewN | apply below_drew1 ) | exact HB.out))); have HBn := Aside0.mk (below_step (by repeat (first | (with_reducible first | exact HB.out | apply below_alloc | apply pw_below_drewN | apply below_drew1 ) | exact HB.out)) hb); clear HB; have HB := HBn; clear HBn; have hbb := Aside0.mk hbb0; clear hbb0 hgb; have xb0 : wb.cell? ⟨gb, 0, none⟩ = some (.float .f64 lv) := (blk_cell hbb.out 0).trans rfl; have fb0 := blk_frozen hbb.out 0; have xb1 : wb.cell? ⟨gb, 1, none⟩ = some (.float .f64 mo) := (blk_cell hbb.out 1).trans rfl; have fb1 := blk_frozen hbb.out 1; have xb2 : wb.cell? ⟨gb, 2, none⟩ = some (.float .f64 ro) := (blk_cell hbb.out 2).trans rfl; have fb2 := blk_frozen hbb.out 2; have xb3 : wb.cell? ⟨gb, 3, none⟩ = some (.int .u32 la) := (blk_cell hbb.out 3).trans rfl; have fb3 := blk_frozen hbb.out 3; clear hb) | ((with_reducible refine gate_dst (N := 4) rfl ?_); refine box_event ?hg (N := 4) ?hd (cs := #[.float .f64 0, .float .f64 0, .float .f64 0, .int .u32 0]) (t := 52) ?hr ?_; (case hd => rfl); (case hg => rfl); (case hr => first | (go_simp; done) | (go_simp; rfl)); intro gc hgc wc hbc0 hb; have gec := Aside0.mk (show w.heap.size ≤ gc from by rw [hgc]; exact below_size (by repeat (first | (with_reducible first | exact HB.out | apply below_alloc | apply pw_below_drewN | apply below_drew1 | refine below_set ?_ geb.out ) | exact HB.out))); have HBn := Aside0.mk (below_step (by repeat (first | (with_reducible first | exact HB.out | apply below_alloc | apply pw_below_drewN | apply below_drew1 | refine below_set ?_ geb.out ) | exact HB.out)) hb); clear HB; have HB := HBn; clear HBn; have hncb : gc ≠ gb := (by rw [hgc]; exact Nat.ne_of_gt (blk_lt hbb.out)); have hbbn := Aside0.mk ((hb.block gb (blk_lt hbb.out)).trans hbb.out); clear hbb xb0 fb0 xb1 fb1 xb2 fb2 xb3 fb3; have hbb := hbbn; clear hbbn; have xb0 : wc.cell? ⟨gb, 0, none⟩ = some (.float .f64 lv) := (blk_cell hbb.out 0).trans rfl; have fb0 := blk_frozen hbb.out 0; have xb1 : wc.cell? ⟨gb, 1, none⟩ = some (.float .f64 mo) := (blk_cell hbb.out 1).trans rfl; have fb1 := blk_frozen hbb.out 1; have xb2 : wc.cell? ⟨gb, 2, none⟩ = some (.float .f64 ro) := (blk_cell hbb.out 2).trans rfl; have fb2 := blk_frozen hbb.out 2; have xb3 : wc.cell? ⟨gb, 3, none⟩ = some (.int .u32 la) := (blk_cell hbb.out 3).trans rfl; have fb3 := blk_frozen hbb.out 3; have hbc := Aside0.mk hbc0; clear hbc0 hgc; have xc0 : wc.cell? ⟨gc, 0, none⟩ = some (.float .f64 0) := (blk_cell hbc.out 0).trans rfl; have fc0 := blk_frozen hbc.out 0; have xc1 : wc.cell? ⟨gc, 1, none⟩ = some (.float .f64 0) := (blk_cell hbc.out 1).trans rfl; have fc1 := blk_frozen hbc.out 1; have xc2 : wc.cell? ⟨gc, 2, none⟩ = some (.float .f64 0) := (blk_cell hbc.out 2).trans rfl; have fc2 := blk_frozen hbc.out 2; have xc3 : wc.cell? ⟨gc, 3, none⟩ = some (.int .u32 0) := (blk_cell hbc.out 3).trans rfl; have fc3 := blk_frozen hbc.out 3; clear hb) | (go_at_call 34; with_reducible refine (ropen_ _ _ _ _ hlv _).mono ?_; rw [hop]; rintro e w' ⟨rfl, hb⟩; have HBn := Aside0.mk (below_step (by repeat (first | (with_reducible first | exact HB.out | apply below_alloc | apply pw_below_drewN | apply below_drew1 | refine below_set ?_ geb.out | refine below_set ?_ gec.out ) | exact HB.out)) hb); clear HB; have HB := HBn; clear HBn; have hbbn := Aside0.mk ((hb.block gb (blk_lt hbb.out)).trans hbb.out); clear hbb xb0 fb0 xb1 fb1 xb2 fb2 xb3 fb3; have hbb := hbbn; clear hbbn; have xb0 : w'.cell? ⟨gb, 0, none⟩ = some (.float .f64 lv) := (blk_cell hbb.out 0).trans rfl; have fb0 := blk_frozen hbb.out 0; have xb1 : w'.cell? ⟨gb, 1, none⟩ = some (.float .f64 mo) := (blk_cell hbb.out 1).trans rfl; have fb1 := blk_frozen hbb.out 1; have xb2 : w'.cell? ⟨gb, 2, none⟩ = some (.float .f64 ro) := (blk_cell hbb.out 2).trans rfl; have fb2 := blk_frozen hbb.out 2; have xb3 : w'.cell? ⟨gb, 3, none⟩ = some (.int .u32 la) := (blk_cell hbb.out 3).trans rfl; have fb3 := blk_frozen hbb.out 3; have hbcn := Aside0.mk ((hb.block gc (blk_lt hbc.out)).trans hbc.out); clear hbc xc0 fc0 xc1 fc1 xc2 fc2 xc3 fc3; have hbc := hbcn; clear hbcn; have xc0 : w'.cell? ⟨gc, 0, none⟩ = some (.float .f64 0) := (blk_cell hbc.out 0).trans rfl; have fc0 := blk_frozen hbc.out 0; have xc1 : w'.cell? ⟨gc, 1, none⟩ = some (.float .f64 0) := (blk_cell hbc.out 1).trans rfl; have fc1 := blk_frozen hbc.out 1; have xc2 : w'.cell? ⟨gc, 2, none⟩ = some (.float .f64 0) := (blk_cell hbc.out 2).trans rfl; have fc2 := blk_frozen hbc.out 2; have xc3 : w'.cell? ⟨gc, 3, none⟩ = some (.int .u32 0) := (blk_cell hbc.out 3).trans rfl; have fc3 := blk_frozen hbc.out 3; clear hb))
    obtain ⟨more, w3, hmul, hfm, hw3⟩ := arith_run (P := Try.prog) .mul 49 lv (floatOfInt .f64 (age now la)) w'.drew (by simp)
    obtain ⟨room, w4, hadd, hfa, hw4⟩ := arith_run (P := Try.prog) .add 49 ro more w3 (by simp)
    have hb3 : Below w'.heap.size w' w3 := by have q := (drew01 hw3).below; exact ⟨q.os, q.tape, q.output, q.size, q.block⟩
    have hb4 := (drew01 hw4).below
    clear hw3 hw4
    have y0 : w3.cell? ⟨gb, 0, none⟩ = some (.float .f64 lv) := (hb3.cell (blk_lt hbb.out)).trans xb0
    have y2 : w3.cell? ⟨gb, 2, none⟩ = some (.float .f64 ro) := (hb3.cell (blk_lt hbb.out)).trans xb2
    have y3 : w3.cell? ⟨gb, 3, none⟩ = some (.int .u32 la) := (hb3.cell (blk_lt hbb.out)).trans xb3
    go_region_held (fun W => W.cell? ⟨gb, 0, none⟩ = some (.float .f64 lv) ∧ W.cell? ⟨gb, 3, none⟩ = some (.int .u32 la)) (first | go_keep | exact ⟨xb0, xb3⟩ | exact ⟨y0, y3⟩) ((go_at_call 61; with_reducible refine (rage_ _ _ _ hnow hla).mono ?_; rintro e w' ⟨rfl, rfl⟩))
    have hb := hb3
    have HBn := Aside0.mk (below_step (by repeat (first | (with_reducible first | exact HB.out | apply below_alloc | apply pw_below_drewN | apply below_drew1 | refine below_set ?_ geb.out | refine below_set ?_ gec.out ) | exact HB.out)) hb)
    clear HB
    have HB := HBn
    clear HBn
    have hbbn := Aside0.mk ((hb.block gb (blk_lt hbb.out)).trans hbb.out)
    clear hbb xb0 fb0 xb1 fb1 xb2 fb2 xb3 fb3
    have hbb := hbbn
    clear hbbn
    have xb0 : w3.cell? ⟨gb, 0, none⟩ = some (.float .f64 lv) := (blk_cell hbb.out 0).trans rfl
    have fb0 := blk_frozen hbb.out 0
    have xb1 : w3.cell? ⟨gb, 1, none⟩ = some (.float .f64 mo) := (blk_cell hbb.out 1).trans rfl
    have fb1 := blk_frozen hbb.out 1
    have xb2 : w3.cell? ⟨gb, 2, none⟩ = some (.float .f64 ro) := (blk_cell hbb.out 2).trans rfl
    have fb2 := blk_frozen hbb.out 2
    have xb3 : w3.cell? ⟨gb, 3, none⟩ = some (.int .u32 la) := (blk_cell hbb.out 3).trans rfl
    have fb3 := blk_frozen hbb.out 3
    have hbcn := Aside0.mk ((hb.block gc (blk_lt hbc.out)).trans hbc.out)
    clear hbc xc0 fc0 xc1 fc1 xc2 fc2 xc3 fc3
    have hbc := hbcn
    clear hbcn
    have xc0 : w3.cell? ⟨gc, 0, none⟩ = some (.float .f64 0) := (blk_cell hbc.out 0).trans rfl
    have fc0 := blk_frozen hbc.out 0
    have xc1 : w3.cell? ⟨gc, 1, none⟩ = some (.float .f64 0) := (blk_cell hbc.out 1).trans rfl
    have fc1 := blk_frozen hbc.out 1
    have xc2 : w3.cell? ⟨gc, 2, none⟩ = some (.float .f64 0) := (blk_cell hbc.out 2).trans rfl
    have fc2 := blk_frozen hbc.out 2
    have xc3 : w3.cell? ⟨gc, 3, none⟩ = some (.int .u32 0) := (blk_cell hbc.out 3).trans rfl
    have fc3 := blk_frozen hbc.out 3
    clear hb hb3
    have hb := hb4
    have HBn := Aside0.mk (below_step (by repeat (first | (with_reducible first | exact HB.out | apply below_alloc | apply pw_below_drewN | apply below_drew1 | refine below_set ?_ geb.out | refine below_set ?_ gec.out ) | exact HB.out)) hb)
    clear HB
    have HB := HBn
    clear HBn
    have hbbn := Aside0.mk ((hb.block gb (blk_lt hbb.out)).trans hbb.out)
    clear hbb xb0 fb0 xb1 fb1 xb2 fb2 xb3 fb3
    have hbb := hbbn
    clear hbbn
    have xb0 : w4.cell? ⟨gb, 0, none⟩ = some (.float .f64 lv) := (blk_cell hbb.out 0).trans rfl
    have fb0 := blk_frozen hbb.out 0
    have xb1 : w4.cell? ⟨gb, 1, none⟩ = some (.float .f64 mo) := (blk_cell hbb.out 1).trans rfl
    have fb1 := blk_frozen hbb.out 1
    have xb2 : w4.cell? ⟨gb, 2, none⟩ = some (.float .f64 ro) := (blk_cell hbb.out 2).trans rfl
    have fb2 := blk_frozen hbb.out 2
    have xb3 : w4.cell? ⟨gb, 3, none⟩ = some (.int .u32 la) := (blk_cell hbb.out 3).trans rfl
    have fb3 := blk_frozen hbb.out 3
    have hbcn := Aside0.mk ((hb.block gc (blk_lt hbc.out)).trans hbc.out)
    clear hbc xc0 fc0 xc1 fc1 xc2 fc2 xc3 fc3
    have hbc := hbcn
    clear hbcn
    have xc0 : w4.cell? ⟨gc, 0, none⟩ = some (.float .f64 0) := (blk_cell hbc.out 0).trans rfl
    have fc0 := blk_frozen hbc.out 0
    have xc1 : w4.cell? ⟨gc, 1, none⟩ = some (.float .f64 0) := (blk_cell hbc.out 1).trans rfl
    have fc1 := blk_frozen hbc.out 1
    have xc2 : w4.cell? ⟨gc, 2, none⟩ = some (.float .f64 0) := (blk_cell hbc.out 2).trans rfl
    have fc2 := blk_frozen hbc.out 2
    have xc3 : w4.cell? ⟨gc, 3, none⟩ = some (.int .u32 0) := (blk_cell hbc.out 3).trans rfl
    have fc3 := blk_frozen hbc.out 3
    clear hb hb4 hmul
    cases c1 : (FloatKind.f64.format.order room mo == some .gt)
    · cases c2 : (FloatKind.f64.format.order room 0 == some .gt)
      · go_wp2
        refine bodyPost_ret (results_single rfl (.cell gc 52 _ (0, 0) _ rfl (blk_set (blk_set (blk_set (blk_set (blk_far (blk_far (blk_far hbc.out hncb _) hncb _) hncb _) 0 _) 1 _) 2 _) 3 _) Try.underlying52 rfl (by kernel_rfl) .nil)) rfl ?_
        exact ⟨0, rfl, .inr ⟨hop, more, room, hfm, hfa, by simp [clampw, ← fmt, c1, c2]⟩, (by repeat (first | (with_reducible first | exact HB.out | apply below_alloc | apply pw_below_drewN | apply below_drew1 | refine below_set ?_ geb.out | refine below_set ?_ gec.out ) | exact HB.out))⟩
      · go_wp2
        refine bodyPost_ret (results_single rfl (.cell gc 52 _ (0, 0) _ rfl (blk_set (blk_set (blk_set (blk_set (blk_far (blk_far hbc.out hncb _) hncb _) 0 _) 1 _) 2 _) 3 _) Try.underlying52 rfl (by kernel_rfl) .nil)) rfl ?_
        exact ⟨room, rfl, .inr ⟨hop, more, room, hfm, hfa, by simp [clampw, ← fmt, c1, c2]⟩, (by repeat (first | (with_reducible first | exact HB.out | apply below_alloc | apply pw_below_drewN | apply below_drew1 | refine below_set ?_ geb.out | refine below_set ?_ gec.out ) | exact HB.out))⟩
    · cases c2 : (FloatKind.f64.format.order mo 0 == some .gt)
      · have hz3 := blk_set (blk_set (blk_set hbb.out 2 (.float .f64 room)) 2 (.float .f64 mo)) 2 (.float .f64 0)
        have z0 := (blk_cell hz3 0).trans rfl
        have z1 := (blk_cell hz3 1).trans rfl
        have z2 := (blk_cell hz3 2).trans rfl
        have z3 := (blk_cell hz3 3).trans rfl
        clear hz3
        simp only [List.setIfInBounds_toArray, List.set_cons_zero, List.set_cons_succ, List.getElem?_toArray, List.getElem?_cons_zero, List.getElem?_cons_succ] at z0 z1 z2 z3
        go_wp2
        refine bodyPost_ret (results_single rfl (.cell gc 52 _ (0, 0) _ rfl (blk_set (blk_set (blk_set (blk_set (blk_far (blk_far (blk_far (blk_far hbc.out hncb _) hncb _) hncb _) hncb _) 0 _) 1 _) 2 _) 3 _) Try.underlying52 rfl (by kernel_rfl) .nil)) rfl ?_
        exact ⟨0, rfl, .inr ⟨hop, more, room, hfm, hfa, by simp [clampw, ← fmt, c1, c2]⟩, (by repeat (first | (with_reducible first | exact HB.out | apply below_alloc | apply pw_below_drewN | apply below_drew1 | refine below_set ?_ geb.out | refine below_set ?_ gec.out ) | exact HB.out))⟩
      · go_wp2
        refine bodyPost_ret (results_single rfl (.cell gc 52 _ (0, 0) _ rfl (blk_set (blk_set (blk_set (blk_set (blk_far (blk_far (blk_far hbc.out hncb _) hncb _) hncb _) 0 _) 1 _) 2 _) 3 _) Try.underlying52 rfl (by kernel_rfl) .nil)) rfl ?_
        exact ⟨mo, rfl, .inr ⟨hop, more, room, hfm, hfa, by simp [clampw, ← fmt, c1, c2]⟩, (by repeat (first | (with_reducible first | exact HB.out | apply below_alloc | apply pw_below_drewN | apply below_drew1 | refine below_set ?_ geb.out | refine below_set ?_ gec.out ) | exact HB.out))⟩
  · go_enter Try.func36, Try.ntmps36
    go_wp2_with (first | ((with_reducible refine gate_dst (N := 2) rfl ?_); refine box_event ?hg (N := 2) ?hd (cs := #[.float .f64 lv, .float .f64 mo, .float .f64 ro, .int .u32 la]) (t := 52) ?hr ?_; (case hd => rfl); (case hg => rfl); (case hr => first | (go_simp; done) | (go_simp; rfl)); intro gb hgb wb hbb0 hb; have geb := Aside0.mk (show w.heap.size ≤ gb from by rw [hgb]; exact below_size (by repeat (first | (with_reducible first | exact HB.out | apply below_alloc | apply pw_below_drewN | apply below_drew1 ) | exact HB.out))); have HBn := Aside0.mk (below_step (by repeat (first | (with_reducible first | exact HB.out | apply below_alloc | apply pw_below_drewN | apply below_drew1 ) | exact HB.out)) hb); clear HB; have HB := HBn; clear HBn; have hbb := Aside0.mk hbb0; clear hbb0 hgb; have xb0 : wb.cell? ⟨gb, 0, none⟩ = some (.float .f64 lv) := (blk_cell hbb.out 0).trans rfl; have fb0 := blk_frozen hbb.out 0; have xb1 : wb.cell? ⟨gb, 1, none⟩ = some (.float .f64 mo) := (blk_cell hbb.out 1).trans rfl; have fb1 := blk_frozen hbb.out 1; have xb2 : wb.cell? ⟨gb, 2, none⟩ = some (.float .f64 ro) := (blk_cell hbb.out 2).trans rfl; have fb2 := blk_frozen hbb.out 2; have xb3 : wb.cell? ⟨gb, 3, none⟩ = some (.int .u32 la) := (blk_cell hbb.out 3).trans rfl; have fb3 := blk_frozen hbb.out 3; clear hb) | ((with_reducible refine gate_dst (N := 4) rfl ?_); refine box_event ?hg (N := 4) ?hd (cs := #[.float .f64 0, .float .f64 0, .float .f64 0, .int .u32 0]) (t := 52) ?hr ?_; (case hd => rfl); (case hg => rfl); (case hr => first | (go_simp; done) | (go_simp; rfl)); intro gc hgc wc hbc0 hb; have gec := Aside0.mk (show w.heap.size ≤ gc from by rw [hgc]; exact below_size (by repeat (first | (with_reducible first | exact HB.out | apply below_alloc | apply pw_below_drewN | apply below_drew1 | refine below_set ?_ geb.out ) | exact HB.out))); have HBn := Aside0.mk (below_step (by repeat (first | (with_reducible first | exact HB.out | apply below_alloc | apply pw_below_drewN | apply below_drew1 | refine below_set ?_ geb.out ) | exact HB.out)) hb); clear HB; have HB := HBn; clear HBn; have hncb : gc ≠ gb := (by rw [hgc]; exact Nat.ne_of_gt (blk_lt hbb.out)); have hbbn := Aside0.mk ((hb.block gb (blk_lt hbb.out)).trans hbb.out); clear hbb xb0 fb0 xb1 fb1 xb2 fb2 xb3 fb3; have hbb := hbbn; clear hbbn; have xb0 : wc.cell? ⟨gb, 0, none⟩ = some (.float .f64 lv) := (blk_cell hbb.out 0).trans rfl; have fb0 := blk_frozen hbb.out 0; have xb1 : wc.cell? ⟨gb, 1, none⟩ = some (.float .f64 mo) := (blk_cell hbb.out 1).trans rfl; have fb1 := blk_frozen hbb.out 1; have xb2 : wc.cell? ⟨gb, 2, none⟩ = some (.float .f64 ro) := (blk_cell hbb.out 2).trans rfl; have fb2 := blk_frozen hbb.out 2; have xb3 : wc.cell? ⟨gb, 3, none⟩ = some (.int .u32 la) := (blk_cell hbb.out 3).trans rfl; have fb3 := blk_frozen hbb.out 3; have hbc := Aside0.mk hbc0; clear hbc0 hgc; have xc0 : wc.cell? ⟨gc, 0, none⟩ = some (.float .f64 0) := (blk_cell hbc.out 0).trans rfl; have fc0 := blk_frozen hbc.out 0; have xc1 : wc.cell? ⟨gc, 1, none⟩ = some (.float .f64 0) := (blk_cell hbc.out 1).trans rfl; have fc1 := blk_frozen hbc.out 1; have xc2 : wc.cell? ⟨gc, 2, none⟩ = some (.float .f64 0) := (blk_cell hbc.out 2).trans rfl; have fc2 := blk_frozen hbc.out 2; have xc3 : wc.cell? ⟨gc, 3, none⟩ = some (.int .u32 0) := (blk_cell hbc.out 3).trans rfl; have fc3 := blk_frozen hbc.out 3; clear hb) | (go_at_call 34; with_reducible refine (ropen_ _ _ _ _ hlv _).mono ?_; rw [hop]; rintro e w' ⟨rfl, hb⟩; have HBn := Aside0.mk (below_step (by repeat (first | (with_reducible first | exact HB.out | apply below_alloc | apply pw_below_drewN | apply below_drew1 | refine below_set ?_ geb.out | refine below_set ?_ gec.out ) | exact HB.out)) hb); clear HB; have HB := HBn; clear HBn; have hbbn := Aside0.mk ((hb.block gb (blk_lt hbb.out)).trans hbb.out); clear hbb xb0 fb0 xb1 fb1 xb2 fb2 xb3 fb3; have hbb := hbbn; clear hbbn; have xb0 : w'.cell? ⟨gb, 0, none⟩ = some (.float .f64 lv) := (blk_cell hbb.out 0).trans rfl; have fb0 := blk_frozen hbb.out 0; have xb1 : w'.cell? ⟨gb, 1, none⟩ = some (.float .f64 mo) := (blk_cell hbb.out 1).trans rfl; have fb1 := blk_frozen hbb.out 1; have xb2 : w'.cell? ⟨gb, 2, none⟩ = some (.float .f64 ro) := (blk_cell hbb.out 2).trans rfl; have fb2 := blk_frozen hbb.out 2; have xb3 : w'.cell? ⟨gb, 3, none⟩ = some (.int .u32 la) := (blk_cell hbb.out 3).trans rfl; have fb3 := blk_frozen hbb.out 3; have hbcn := Aside0.mk ((hb.block gc (blk_lt hbc.out)).trans hbc.out); clear hbc xc0 fc0 xc1 fc1 xc2 fc2 xc3 fc3; have hbc := hbcn; clear hbcn; have xc0 : w'.cell? ⟨gc, 0, none⟩ = some (.float .f64 0) := (blk_cell hbc.out 0).trans rfl; have fc0 := blk_frozen hbc.out 0; have xc1 : w'.cell? ⟨gc, 1, none⟩ = some (.float .f64 0) := (blk_cell hbc.out 1).trans rfl; have fc1 := blk_frozen hbc.out 1; have xc2 : w'.cell? ⟨gc, 2, none⟩ = some (.float .f64 0) := (blk_cell hbc.out 2).trans rfl; have fc2 := blk_frozen hbc.out 2; have xc3 : w'.cell? ⟨gc, 3, none⟩ = some (.int .u32 0) := (blk_cell hbc.out 3).trans rfl; have fc3 := blk_frozen hbc.out 3; clear hb))
    refine bodyPost_ret (results_single rfl (.cell gc 52 _ (0, 0) _ rfl (blk_set (blk_set (blk_set (blk_set (blk_far hbc.out hncb _) 0 _) 1 _) 2 _) 3 _) Try.underlying52 rfl (by kernel_rfl) .nil)) rfl ?_
    exact ⟨ro, rfl, .inl ⟨hop, rfl⟩, (by repeat (first | (with_reducible first | exact HB.out | apply below_alloc | apply pw_below_drewN | apply below_drew1 | refine below_set ?_ geb.out | refine below_set ?_ gec.out ) | exact HB.out))⟩
end Go.Proofs.Ytkgghjblfoempaa.GW
