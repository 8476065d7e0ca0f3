/- The reference's Open, Age; the law's From: their walks; no condition. -/
import Derived.Test.YtkgghjblfoempaaGW7
namespace Go.Proofs.Ytkgghjblfoempaa.GW
open Go.RowKit Go.Proofs.YtkgghjblfoempaaW.PrintWords Go.Proofs.Ytkgghjblfoempaa.Fl
set_option linter.unusedVariables false
set_option linter.unusedSimpArgs false
attribute [local go_sem] run_store_float

theorem rage_ (now la : Int) (w : World) (h1 : 0 ≤ now ∧ now < 4294967296) (h2 : 0 ≤ la ∧ la < 4294967296) : Calls Try.prog 61 #[.int .u32 now, .int .u32 la] w fun e w' => e = .returned (.int .u32 (age now la)) ∧ w' = w := by
  have a1 : IntKind.u64.wrap now = now := IntWalk.u64_in _ (by omega)
  have a2 : IntKind.u64.wrap la = la := IntWalk.u64_in _ (by omega)
  have a3 : IntKind.u64.wrap (now + 4294967296) = now + 4294967296 := IntWalk.u64_in _ (by omega)
  have a4 : IntKind.u64.wrap (now + 4294967296 - la) = now + 4294967296 - la := IntWalk.u64_in _ (by omega)
  obtain ⟨d, hd⟩ : ∃ d, (now - la) % 4294967296 = d := ⟨_, rfl⟩
  have a5 : (now + 4294967296 - la).tmod 4294967296 = d := by rw [Int.tmod_eq_emod_of_nonneg (by omega)]; omega
  have a5' : (now + 4294967296 - la) % 4294967296 = d := by omega
  have a6 : d % 4294967296 = d := by omega
  unfold age
  rw [hd]
  by_cases c : 2147483648 ≤ d
  · rw [if_pos c]
    go_enter Try.func61, Try.ntmps61
    go_wp2
    go_ret
    exact ⟨rfl, rfl⟩
  · rw [if_neg c]
    have a7 : IntKind.u32.wrap d = d := by rw [u32_w]; exact a6
    go_enter Try.func61, Try.ntmps61
    go_wp2
    go_ret
    exact ⟨by first | rfl | (simp [*]; done), rfl⟩

theorem kind_open (lv : Nat) : openw lv = (kindw lv == 5 || kindw lv == 3) := by
  unfold openw kindw
  rcases cls_le lv with c | c | c | c <;> rw [c] <;> simp
  cases sgn lv <;> (split <;> simp)

set_option maxHeartbeats 4000000 in
theorem ropen_ (lv mo ro : Nat) (la : Int) (hlv : lv < 18446744073709551616) (w : World) : Calls Try.prog 34 #[agg lv mo ro la] w fun e w' => e = .returned (.bool (openw lv)) ∧ Below w.heap.size w w' := by
  have HB := Aside0.mk (Below.refl w.heap.size w)
  rw [kind_open]
  obtain ⟨kk, hkk⟩ : ∃ kk, kindw lv = kk := ⟨_, rfl⟩
  rw [hkk]
  by_cases c : kk = 5
  · subst c
    go_enter Try.func34, Try.ntmps34
    go_wp2_with (first | ((with_reducible refine gate_dst (N := 1) rfl ?_); refine box_event ?hg (N := 1) ?hd (cs := #[.float .f64 lv, .float .f64 mo, .float .f64 ro, .int .u32 la]) (t := 52) ?hr ?_; (case hd => rfl); (case hg => rfl); (case hr => first | (go_simp; done) | (go_simp; rfl)); intro gb hgb wb hbb0 hb; have geb := Aside0.mk (show w.heap.size ≤ gb from by rw [hgb]; exact below_size (by repeat (first | (with_reducible first | exact HB.out | apply below_alloc | apply pw_below_drewN | apply below_drew1 ) | exact HB.out))); have HBn := Aside0.mk (below_step (by repeat (first | (with_reducible first | exact HB.out | apply below_alloc | apply pw_below_drewN | apply below_drew1 ) | exact HB.out)) hb); clear HB; have HB := HBn; clear HBn; have hbb := Aside0.mk hbb0; clear hbb0 hgb; have xb0 : wb.cell? ⟨gb, 0, none⟩ = some (.float .f64 lv) := (blk_cell hbb.out 0).trans rfl; have fb0 := blk_frozen hbb.out 0; have xb1 : wb.cell? ⟨gb, 1, none⟩ = some (.float .f64 mo) := (blk_cell hbb.out 1).trans rfl; have fb1 := blk_frozen hbb.out 1; have xb2 : wb.cell? ⟨gb, 2, none⟩ = some (.float .f64 ro) := (blk_cell hbb.out 2).trans rfl; have fb2 := blk_frozen hbb.out 2; have xb3 : wb.cell? ⟨gb, 3, none⟩ = some (.int .u32 la) := (blk_cell hbb.out 3).trans rfl; have fb3 := blk_frozen hbb.out 3; clear hb) | (go_at_call 42; (with_reducible refine (rkind_ _ hlv _).mono ?_); rw [hkk]; rintro e w' ⟨rfl, hb0⟩; have hb := hb0.below; clear hb0; have HBn := Aside0.mk (below_step (by repeat (first | (with_reducible first | exact HB.out | apply below_alloc | apply pw_below_drewN | apply below_drew1 | refine below_set ?_ geb.out ) | exact HB.out)) hb); clear HB; have HB := HBn; clear HBn; have hbbn := Aside0.mk ((hb.block gb (blk_lt hbb.out)).trans hbb.out); clear hbb xb0 fb0 xb1 fb1 xb2 fb2 xb3 fb3; have hbb := hbbn; clear hbbn; have xb0 : w'.cell? ⟨gb, 0, none⟩ = some (.float .f64 lv) := (blk_cell hbb.out 0).trans rfl; have fb0 := blk_frozen hbb.out 0; have xb1 : w'.cell? ⟨gb, 1, none⟩ = some (.float .f64 mo) := (blk_cell hbb.out 1).trans rfl; have fb1 := blk_frozen hbb.out 1; have xb2 : w'.cell? ⟨gb, 2, none⟩ = some (.float .f64 ro) := (blk_cell hbb.out 2).trans rfl; have fb2 := blk_frozen hbb.out 2; have xb3 : w'.cell? ⟨gb, 3, none⟩ = some (.int .u32 la) := (blk_cell hbb.out 3).trans rfl; have fb3 := blk_frozen hbb.out 3; clear hb))
    go_ret
    exact ⟨rfl, (by repeat (first | (with_reducible first | exact HB.out | apply below_alloc | apply pw_below_drewN | apply below_drew1 | refine below_set ?_ geb.out ) | exact HB.out))⟩
  · have c5 : (kk == 5) = false := beq_eq_false_iff_ne.mpr c
    go_enter Try.func34, Try.ntmps34
    go_wp2_with (first | ((with_reducible refine gate_dst (N := 1) rfl ?_); refine box_event ?hg (N := 1) ?hd (cs := #[.float .f64 lv, .float .f64 mo, .float .f64 ro, .int .u32 la]) (t := 52) ?hr ?_; (case hd => rfl); (case hg => rfl); (case hr => first | (go_simp; done) | (go_simp; rfl)); intro gb hgb wb hbb0 hb; have geb := Aside0.mk (show w.heap.size ≤ gb from by rw [hgb]; exact below_size (by repeat (first | (with_reducible first | exact HB.out | apply below_alloc | apply pw_below_drewN | apply below_drew1 ) | exact HB.out))); have HBn := Aside0.mk (below_step (by repeat (first | (with_reducible first | exact HB.out | apply below_alloc | apply pw_below_drewN | apply below_drew1 ) | exact HB.out)) hb); clear HB; have HB := HBn; clear HBn; have hbb := Aside0.mk hbb0; clear hbb0 hgb; have xb0 : wb.cell? ⟨gb, 0, none⟩ = some (.float .f64 lv) := (blk_cell hbb.out 0).trans rfl; have fb0 := blk_frozen hbb.out 0; have xb1 : wb.cell? ⟨gb, 1, none⟩ = some (.float .f64 mo) := (blk_cell hbb.out 1).trans rfl; have fb1 := blk_frozen hbb.out 1; have xb2 : wb.cell? ⟨gb, 2, none⟩ = some (.float .f64 ro) := (blk_cell hbb.out 2).trans rfl; have fb2 := blk_frozen hbb.out 2; have xb3 : wb.cell? ⟨gb, 3, none⟩ = some (.int .u32 la) := (blk_cell hbb.out 3).trans rfl; have fb3 := blk_frozen hbb.out 3; clear hb) | (go_at_call 42; (with_reducible refine (rkind_ _ hlv _).mono ?_); rw [hkk]; rintro e w' ⟨rfl, hb0⟩; have hb := hb0.below; clear hb0; have HBn := Aside0.mk (below_step (by repeat (first | (with_reducible first | exact HB.out | apply below_alloc | apply pw_below_drewN | apply below_drew1 | refine below_set ?_ geb.out ) | exact HB.out)) hb); clear HB; have HB := HBn; clear HBn; have hbbn := Aside0.mk ((hb.block gb (blk_lt hbb.out)).trans hbb.out); clear hbb xb0 fb0 xb1 fb1 xb2 fb2 xb3 fb3; have hbb := hbbn; clear hbbn; have xb0 : w'.cell? ⟨gb, 0, none⟩ = some (.float .f64 lv) := (blk_cell hbb.out 0).trans rfl; have fb0 := blk_frozen hbb.out 0; have xb1 : w'.cell? ⟨gb, 1, none⟩ = some (.float .f64 mo) := (blk_cell hbb.out 1).trans rfl; have fb1 := blk_frozen hbb.out 1; have xb2 : w'.cell? ⟨gb, 2, none⟩ = some (.float .f64 ro) := (blk_cell hbb.out 2).trans rfl; have fb2 := blk_frozen hbb.out 2; have xb3 : w'.cell? ⟨gb, 3, none⟩ = some (.int .u32 la) := (blk_cell hbb.out 3).trans rfl; have fb3 := blk_frozen hbb.out 3; clear hb))
    go_ret
    exact ⟨by first | rfl | (simp [*]; done), (by repeat (first | (with_reducible first | exact HB.out | apply below_alloc | apply pw_below_drewN | apply below_drew1 | refine below_set ?_ geb.out ) | exact HB.out))⟩

set_option maxHeartbeats 4000000 in
theorem from_ (lv mo ro : Nat) (la : Int) (w : World) : Calls Try.prog 31 #[agg lv mo ro la] w fun e w' => e = .returned (agg lv mo ro la) ∧ Below w.heap.size w w' := by
  have HB := Aside0.mk (Below.refl w.heap.size w)
  go_enter Try.func31, Try.ntmps31
  go_wp2_with (first | ((with_reducible refine gate_dst (N := 1) rfl ?_); refine box_event ?hg (N := 1) ?hd (cs := #[.float .f64 lv, .float .f64 mo, .float .f64 ro, .int .u32 la]) (t := 54) ?hr ?_; (case hd => rfl); (case hg => rfl); (case hr => first | (go_simp; done) | (go_simp; rfl)); intro gb hgb wb hbb0 hb; have geb := Aside0.mk (show w.heap.size ≤ gb from by rw [hgb]; exact below_size (by repeat (first | (with_reducible first | exact HB.out | apply below_alloc | apply pw_below_drewN | apply below_drew1 ) | exact HB.out))); have HBn := Aside0.mk (below_step (by repeat (first | (with_reducible first | exact HB.out | apply below_alloc | apply pw_below_drewN | apply below_drew1 ) | exact HB.out)) hb); clear HB; have HB := HBn; clear HBn; have hbb := Aside0.mk hbb0; clear hbb0 hgb; have xb0 : wb.cell? ⟨gb, 0, none⟩ = some (.float .f64 lv) := (blk_cell hbb.out 0).trans rfl; have fb0 := blk_frozen hbb.out 0; have xb1 : wb.cell? ⟨gb, 1, none⟩ = some (.float .f64 mo) := (blk_cell hbb.out 1).trans rfl; have fb1 := blk_frozen hbb.out 1; have xb2 : wb.cell? ⟨gb, 2, none⟩ = some (.float .f64 ro) := (blk_cell hbb.out 2).trans rfl; have fb2 := blk_frozen hbb.out 2; have xb3 : wb.cell? ⟨gb, 3, none⟩ = some (.int .u32 la) := (blk_cell hbb.out 3).trans rfl; have fb3 := blk_frozen hbb.out 3; clear hb) | ((with_reducible refine gate_dst (N := 2) rfl ?_); refine box_event ?hg (N := 2) ?hd (cs := #[.float .f64 0, .float .f64 0, .float .f64 0, .int .u32 0]) (t := 52) ?hr ?_; (case hd => rfl); (case hg => rfl); (case hr => first | (go_simp; done) | (go_simp; rfl)); intro gc hgc wc hbc0 hb; have gec := Aside0.mk (show w.heap.size ≤ gc from by rw [hgc]; exact below_size (by repeat (first | (with_reducible first | exact HB.out | apply below_alloc | apply pw_below_drewN | apply below_drew1 | refine below_set ?_ geb.out ) | exact HB.out))); have HBn := Aside0.mk (below_step (by repeat (first | (with_reducible first | exact HB.out | apply below_alloc | apply pw_below_drewN | apply below_drew1 | refine below_set ?_ geb.out ) | exact HB.out)) hb); clear HB; have HB := HBn; clear HBn; have hncb : gc ≠ gb := (by rw [hgc]; exact Nat.ne_of_gt (blk_lt hbb.out)); have hbbn := Aside0.mk ((hb.block gb (blk_lt hbb.out)).trans hbb.out); clear hbb xb0 fb0 xb1 fb1 xb2 fb2 xb3 fb3; have hbb := hbbn; clear hbbn; have xb0 : wc.cell? ⟨gb, 0, none⟩ = some (.float .f64 lv) := (blk_cell hbb.out 0).trans rfl; have fb0 := blk_frozen hbb.out 0; have xb1 : wc.cell? ⟨gb, 1, none⟩ = some (.float .f64 mo) := (blk_cell hbb.out 1).trans rfl; have fb1 := blk_frozen hbb.out 1; have xb2 : wc.cell? ⟨gb, 2, none⟩ = some (.float .f64 ro) := (blk_cell hbb.out 2).trans rfl; have fb2 := blk_frozen hbb.out 2; have xb3 : wc.cell? ⟨gb, 3, none⟩ = some (.int .u32 la) := (blk_cell hbb.out 3).trans rfl; have fb3 := blk_frozen hbb.out 3; have hbc := Aside0.mk hbc0; clear hbc0 hgc; have xc0 : wc.cell? ⟨gc, 0, none⟩ = some (.float .f64 0) := (blk_cell hbc.out 0).trans rfl; have fc0 := blk_frozen hbc.out 0; have xc1 : wc.cell? ⟨gc, 1, none⟩ = some (.float .f64 0) := (blk_cell hbc.out 1).trans rfl; have fc1 := blk_frozen hbc.out 1; have xc2 : wc.cell? ⟨gc, 2, none⟩ = some (.float .f64 0) := (blk_cell hbc.out 2).trans rfl; have fc2 := blk_frozen hbc.out 2; have xc3 : wc.cell? ⟨gc, 3, none⟩ = some (.int .u32 0) := (blk_cell hbc.out 3).trans rfl; have fc3 := blk_frozen hbc.out 3; clear hb))
  refine bodyPost_ret (results_single rfl (.cell gc 52 _ (0, 0) _ rfl (blk_set (blk_set (blk_set (blk_set hbc.out 0 _) 1 _) 2 _) 3 _) Try.underlying52 rfl (by kernel_rfl) .nil)) rfl ?_
  exact ⟨rfl, (by repeat (first | (with_reducible first | exact HB.out | apply below_alloc | apply pw_below_drewN | apply below_drew1 | refine below_set ?_ geb.out | refine below_set ?_ gec.out ) | exact HB.out))⟩
end Go.Proofs.Ytkgghjblfoempaa.GW
