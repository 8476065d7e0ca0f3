/- The law's To: its walk; no condition. -/
import Derived.Test.YtkgghjblfoempaaGW7
namespace Go.Proofs.Ytkgghjblfoempaa.GW
open Go.RowKit Go.Proofs.YtkgghjblfoempaaW.PrintWords Go.Proofs.Ytkgghjblfoempaa.Fl
set_option linter.unusedVariables false
set_option linter.unusedSimpArgs false
attribute [local go_sem] run_store_float

set_option maxHeartbeats 4000000 in
theorem to_ (lv mo ro : Nat) (la : Int) (w : World) : Calls Try.prog 28 #[agg lv mo ro la] w fun e w' => e = .returned (agg lv mo ro la) ∧ Below w.heap.size w w' := by
  have HB := Aside0.mk (Below.refl w.heap.size w)
  go_enter Try.func28, Try.ntmps28
  go_wp2_with (first | ((with_reducible refine gate_dst (N := 1) rfl ?_); refine box_event ?hg (N := 1) ?hd (cs := #[.float .f64 lv, .float .f64 mo, .float .f64 ro, .int .u32 la]) (t := 52) ?hr ?_; (case hd => rfl); (case hg => rfl); (case hr => first | (go_simp; done) | (go_simp; rfl)); intro gb hgb wb hbb0 hb; have geb := Aside0.mk (show w.heap.size ≤ gb from by rw [hgb]; exact below_size (by repeat (first | (with_reducible first | exact HB.out | apply below_alloc | apply pw_below_drewN | apply below_drew1 ) | exact HB.out))); have HBn := Aside0.mk (below_step (by repeat (first | (with_reducible first | exact HB.out | apply below_alloc | apply pw_below_drewN | apply below_drew1 ) | exact HB.out)) hb); clear HB; have HB := HBn; clear HBn; have hbb := Aside0.mk hbb0; clear hbb0 hgb; have xb0 : wb.cell? ⟨gb, 0, none⟩ = some (.float .f64 lv) := (blk_cell hbb.out 0).trans rfl; have fb0 := blk_frozen hbb.out 0; have xb1 : wb.cell? ⟨gb, 1, none⟩ = some (.float .f64 mo) := (blk_cell hbb.out 1).trans rfl; have fb1 := blk_frozen hbb.out 1; have xb2 : wb.cell? ⟨gb, 2, none⟩ = some (.float .f64 ro) := (blk_cell hbb.out 2).trans rfl; have fb2 := blk_frozen hbb.out 2; have xb3 : wb.cell? ⟨gb, 3, none⟩ = some (.int .u32 la) := (blk_cell hbb.out 3).trans rfl; have fb3 := blk_frozen hbb.out 3; clear hb) | ((with_reducible refine gate_dst (N := 2) rfl ?_); refine box_event ?hg (N := 2) ?hd (cs := #[.float .f64 0, .float .f64 0, .float .f64 0, .int .u32 0]) (t := 54) ?hr ?_; (case hd => rfl); (case hg => rfl); (case hr => first | (go_simp; done) | (go_simp; rfl)); intro gc hgc wc hbc0 hb; have gec := Aside0.mk (show w.heap.size ≤ gc from by rw [hgc]; exact below_size (by repeat (first | (with_reducible first | exact HB.out | apply below_alloc | apply pw_below_drewN | apply below_drew1 | refine below_set ?_ geb.out ) | exact HB.out))); have HBn := Aside0.mk (below_step (by repeat (first | (with_reducible first | exact HB.out | apply below_alloc | apply pw_below_drewN | apply below_drew1 | refine below_set ?_ geb.out ) | exact HB.out)) hb); clear HB; have HB := HBn; clear HBn; have hncb : gc ≠ gb := (by rw [hgc]; exact Nat.ne_of_gt (blk_lt hbb.out)); have hbbn := Aside0.mk ((hb.block gb (blk_lt hbb.out)).trans hbb.out); clear hbb xb0 fb0 xb1 fb1 xb2 fb2 xb3 fb3; have hbb := hbbn; clear hbbn; have xb0 : wc.cell? ⟨gb, 0, none⟩ = some (.float .f64 lv) := (blk_cell hbb.out 0).trans rfl; have fb0 := blk_frozen hbb.out 0; have xb1 : wc.cell? ⟨gb, 1, none⟩ = some (.float .f64 mo) := (blk_cell hbb.out 1).trans rfl; have fb1 := blk_frozen hbb.out 1; have xb2 : wc.cell? ⟨gb, 2, none⟩ = some (.float .f64 ro) := (blk_cell hbb.out 2).trans rfl; have fb2 := blk_frozen hbb.out 2; have xb3 : wc.cell? ⟨gb, 3, none⟩ = some (.int .u32 la) := (blk_cell hbb.out 3).trans rfl; have fb3 := blk_frozen hbb.out 3; have hbc := Aside0.mk hbc0; clear hbc0 hgc; have xc0 : wc.cell? ⟨gc, 0, none⟩ = some (.float .f64 0) := (blk_cell hbc.out 0).trans rfl; have fc0 := blk_frozen hbc.out 0; have xc1 : wc.cell? ⟨gc, 1, none⟩ = some (.float .f64 0) := (blk_cell hbc.out 1).trans rfl; have fc1 := blk_frozen hbc.out 1; have xc2 : wc.cell? ⟨gc, 2, none⟩ = some (.float .f64 0) := (blk_cell hbc.out 2).trans rfl; have fc2 := blk_frozen hbc.out 2; have xc3 : wc.cell? ⟨gc, 3, none⟩ = some (.int .u32 0) := (blk_cell hbc.out 3).trans rfl; have fc3 := blk_frozen hbc.out 3; clear hb))
  refine bodyPost_ret (results_single rfl (.cell gc 54 _ (0, 0) _ rfl (blk_set (blk_set (blk_set (blk_set hbc.out 0 _) 1 _) 2 _) 3 _) Try.underlying54 rfl (by kernel_rfl) .nil)) rfl ?_
  exact ⟨rfl, (by repeat (first | (with_reducible first | exact HB.out | apply below_alloc | apply pw_below_drewN | apply below_drew1 | refine below_set ?_ geb.out | refine below_set ?_ gec.out ) | exact HB.out))⟩
theorem FR_lt' {op : BinOp} {x y r : Nat} (h : FR op x y r) : r < 18446744073709551616 := h.1
theorem mul_inf (W : World) : (binOp .mul 49 (.float .f64 9214871658872686752) (.float .f64 4621819117588971520)).run Try.prog W = .ok (.float .f64 9218868437227405312) W := run_float_arith W .mul 49 .f64 _ _ _ (by kernel_rfl)
def nanw (W : World) : Nat := (Question.nanBits .f64 9218868437227405312 9218868437227405312).cut (W.tape W.drawn (.nanBits .f64 9218868437227405312 9218868437227405312))
theorem sub_inf (W : World) : (binOp .sub 49 (.float .f64 9218868437227405312) (.float .f64 9218868437227405312)).run Try.prog W = .ok (.float .f64 (nanw W)) W.drew := by
  have hf : floatBits .sub .f64 9218868437227405312 9218868437227405312 = none := by kernel_rfl
  unfold floatBits at hf
  simp only at hf
  simp [binOp, Op.floatArith, hf, Question.forced, nanw]
theorem cls_nanw (W : World) : cls (nanw W) = 6 ∧ nanw W < 18446744073709551616 := cut_nan _ _ _
theorem cls_inf : cls 9218868437227405312 = 5 := by kernel_rfl
theorem take_open {lv mo ro : Nat} {la now : Int} {r : Nat} {ok : Bool} (h : TakeR lv mo ro la now r ok) (ho : openw lv = true) : r = ro ∧ ok = true := by
  obtain ⟨f, hf, h⟩ := h
  have e : f = ro := by
    rcases hf with ⟨_, e⟩ | ⟨e, _⟩
    · exact e
    · rw [ho] at e; cases e
  rcases h with ⟨_, e2, e3⟩ | ⟨e2, _⟩ | ⟨e2, _⟩
  · exact ⟨e2.trans e, e3⟩
  · rw [ho] at e2; cases e2
  · rw [ho] at e2; cases e2
end Go.Proofs.Ytkgghjblfoempaa.GW
