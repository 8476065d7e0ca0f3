/- The law GaugePlays: its walk; no condition. -/
import Derived.Test.YtkgghjblfoempaaGW23
import Derived.Test.YtkgghjblfoempaaOpen
import Derived.Test.YtkgghjblfoempaaOpenF
import Derived.Test.YtkgghjblfoempaaGW12
import Derived.Test.YtkgghjblfoempaaGW19
import Derived.Test.YtkgghjblfoempaaGW20
import Derived.Test.YtkgghjblfoempaaGW21
import Derived.Test.YtkgghjblfoempaaGW22
import Derived.Deep.RegionHeld
namespace Go.Proofs.Ytkgghjblfoempaa.GW
open Go.RowKit Go.Proofs.YtkgghjblfoempaaW.PrintWords Go.Proofs.Ytkgghjblfoempaa.Fl
set_option linter.unusedVariables false
set_option linter.unusedSimpArgs false
attribute [local go_sem] run_store_float

theorem far4 {w : World} {g : Nat} {a : Addr} {v0 v1 v2 v3 : Value} (h : g ≠ a.block) : ((((w.setCell ⟨g, 0, none⟩ v0).setCell ⟨g, 1, none⟩ v1).setCell ⟨g, 2, none⟩ v2).setCell ⟨g, 3, none⟩ v3).cell? a = w.cell? a := by
  rw [World.cell?_setCell_far _ _ _ _ h, World.cell?_setCell_far _ _ _ _ h, World.cell?_setCell_far _ _ _ _ h, World.cell?_setCell_far _ _ _ _ h]
theorem clampw_lt {mo a : Nat} (h1 : mo < 18446744073709551616) (h2 : a < 18446744073709551616) : clampw mo a < 18446744073709551616 := by
  unfold clampw
  repeat' split
  all_goals omega
theorem fill_lt {lv mo ro : Nat} {la now : Int} {r : Nat} (h1 : mo < 18446744073709551616) (h2 : ro < 18446744073709551616) (h : FillR lv mo ro la now r) : r < 18446744073709551616 := by
  rcases h with ⟨a, e⟩ | ⟨a, m, q, g1, g2, g3⟩
  · rw [e]; exact h2
  · rw [g3]; exact clampw_lt h1 (FR_lt' g2)
theorem take_lt {lv mo ro : Nat} {la now : Int} {r : Nat} {ok : Bool} (h1 : mo < 18446744073709551616) (h2 : ro < 18446744073709551616) (h : TakeR lv mo ro la now r ok) : r < 18446744073709551616 := by
  obtain ⟨f, hf, h⟩ := h
  have hl := fill_lt h1 h2 hf
  rcases h with ⟨_, e, _⟩ | ⟨_, _, e, _⟩ | ⟨_, _, e, _⟩
  · rw [e]; exact hl
  · rw [e]; exact hl
  · exact FR_lt' e
theorem wf_f64' {b : Nat} (h : (Lit.float .f64 b).wf = true) : b < 18446744073709551616 := by simpa [Lit.wf] using h

set_option maxHeartbeats 16000000 in
set_option maxRecDepth 100000 in
theorem GaugePlays_calls (lv mo ro : Nat) (la : Int) (A : Option Addr) (c : Nat) (l : List Int) (w : World) (w0 : (Lit.float .f64 lv).wf = true) (w1 : (Lit.float .f64 mo).wf = true) (w2 : (Lit.float .f64 ro).wf = true) (w3 : (Lit.int .u32 la).wf = true) (h : Opens.RowC (Opens.intK .u32) 1 w A l.length l) (h63 : l.length ≤ 9223372036854775807) (hq : ∀ x ∈ l, (Lit.int .u32 x).wf = true) :
    Calls Try.prog 7 #[agg lv mo ro la, .slice A l.length c] w fun e w' => e = .returned (.bool true) ∧ Below w.heap.size w w' := by
  have HB := Aside0.mk (Below.refl w.heap.size w)
  have HX := Aside0.mk h
  have HQ := Aside0.mk hq
  have HL1 := Aside0.mk (wf_f64' w0)
  have HL2 := Aside0.mk (wf_f64' w1)
  have HL3 := Aside0.mk (wf_f64' w2)
  have b3 := bounds_u32 w3
  have HLA := Aside0.mk (show 0 ≤ la ∧ la < 4294967296 from by omega)
  clear h hq w0 w1 w2 w3 b3
  go_enter Try.func7, Try.ntmps7
  go_wp2_with (first | ((with_reducible refine gate_dst (N := 2) rfl ?_); refine box_event ?hg (N := 2) ?hd (cs := #[.float .f64 lv, .float .f64 mo, .float .f64 ro, .int .u32 la]) (t := 52) ?hr ?_; (case hd => rfl); (case hg => rfl); (case hr => first | (go_simp; done) | (go_simp; rfl)); intro gg hgg wg hbg0 hb; have geg := Aside0.mk (show w.heap.size ≤ gg from by rw [hgg]; exact below_size (by repeat (first | (with_reducible first | exact HB.out | apply below_alloc | apply pw_below_drewN | apply below_drew1 ) | exact HB.out))); have HBn := Aside0.mk (below_step (by repeat (first | (with_reducible first | exact HB.out | apply below_alloc | apply pw_below_drewN | apply below_drew1 ) | exact HB.out)) hb); clear HB; have HB := HBn; clear HBn; have hbg := Aside0.mk hbg0; clear hbg0 hgg; have xg0 : wg.cell? ⟨gg, 0, none⟩ = some (.float .f64 lv) := (blk_cell hbg.out 0).trans rfl; have fg0 := blk_frozen hbg.out 0; have xg1 : wg.cell? ⟨gg, 1, none⟩ = some (.float .f64 mo) := (blk_cell hbg.out 1).trans rfl; have fg1 := blk_frozen hbg.out 1; have xg2 : wg.cell? ⟨gg, 2, none⟩ = some (.float .f64 ro) := (blk_cell hbg.out 2).trans rfl; have fg2 := blk_frozen hbg.out 2; have xg3 : wg.cell? ⟨gg, 3, none⟩ = some (.int .u32 la) := (blk_cell hbg.out 3).trans rfl; have fg3 := blk_frozen hbg.out 3; clear hb))
  go_cut [5, 6] (fun v5 v6 wc => ∃ gx gy : Nat, v5 = .pointer (some ⟨gx, 0, none⟩) ∧ v6 = .pointer (some ⟨gy, 0, none⟩) ∧ Aside0 (w.heap.size ≤ gx) ∧ Aside0 (w.heap.size ≤ gy) ∧ gx ≠ gg ∧ gy ≠ gx ∧ gy ≠ gg ∧ Aside0 (wc.heap[gg]? = some (.cells #[.float .f64 lv, .float .f64 mo, .float .f64 ro, .int .u32 la] 52 (0, 0))) ∧ Aside0 (wc.heap[gx]? = some (.cells #[.float .f64 lv, .float .f64 mo, .float .f64 ro, .int .u32 la] 54 (0, 0))) ∧ Aside0 (wc.heap[gy]? = some (.cells #[.float .f64 lv, .float .f64 mo, .float .f64 ro, .int .u32 la] 52 (0, 0))) ∧ Aside0 (Below w.heap.size w wc))
  case first =>
    refine wp_region_held_drew (S := (fun W => W.cell? ⟨gg, 0, none⟩ = some (.float .f64 lv) ∧ W.cell? ⟨gg, 1, none⟩ = some (.float .f64 mo) ∧ W.cell? ⟨gg, 2, none⟩ = some (.float .f64 ro) ∧ W.cell? ⟨gg, 3, none⟩ = some (.int .u32 la))) (by kernel_rfl) ?_ (fun hHeld => ?_)
    · exact ⟨xg0, xg1, xg2, xg3⟩
    have hbgn := Aside0.mk (blk_drew hbg.out)
    clear hbg
    have hbg := hbgn
    clear hbgn
    have HBn := Aside0.mk (below_drew1 HB.out)
    clear HB
    have HB := HBn
    clear HBn
    clear xg0 fg0 xg1 fg1 xg2 fg2 xg3 fg3
    generalize wg.drew = w1q at *
    have xg0 : w1q.cell? ⟨gg, 0, none⟩ = some (.float .f64 lv) := (blk_cell hbg.out 0).trans rfl
    have fg0 := blk_frozen hbg.out 0
    have xg1 : w1q.cell? ⟨gg, 1, none⟩ = some (.float .f64 mo) := (blk_cell hbg.out 1).trans rfl
    have fg1 := blk_frozen hbg.out 1
    have xg2 : w1q.cell? ⟨gg, 2, none⟩ = some (.float .f64 ro) := (blk_cell hbg.out 2).trans rfl
    have fg2 := blk_frozen hbg.out 2
    have xg3 : w1q.cell? ⟨gg, 3, none⟩ = some (.int .u32 la) := (blk_cell hbg.out 3).trans rfl
    have fg3 := blk_frozen hbg.out 3
    refine wpAnyH_take (i := 0) (v := ?v1_) rfl (by kernel_rfl) (by kernel_rfl) (by kernel_rfl) (fun _ _ _ h => h) (Or.inl ⟨by kernel_rfl, ?hy1_⟩) (by assumption) ?rest1_
    case hy1_ => (intro w hSw; (try dsimp only at hSw); obtain ⟨hS0, hS1, hS2, hS3⟩ := hSw; go_simp; try with_reducible rfl)
    try simp only [Act.put, List.getElem_toArray, List.getElem_cons_zero, List.getElem_cons_succ, List.setIfInBounds_toArray, List.set_cons_zero, List.set_cons_succ]
    refine wpAnyH_take (i := 2) (v := ?v2_) rfl (by kernel_rfl) (by kernel_rfl) (by kernel_rfl) (fun _ _ _ h => h) (Or.inl ⟨by kernel_rfl, ?hy2_⟩) (by assumption) ?rest2_
    case hy2_ => (intro w hSw; (try dsimp only at hSw); obtain ⟨hS0, hS1, hS2, hS3⟩ := hSw; go_simp; try with_reducible rfl)
    try simp only [Act.put, List.getElem_toArray, List.getElem_cons_zero, List.getElem_cons_succ, List.setIfInBounds_toArray, List.set_cons_zero, List.set_cons_succ]
    refine wpAnyH_ready (rs := [1, 3, 4]) (by kernel_rfl) (by simp) ?_
    refine AllReadyH.cons rfl (fun K hK => ?_) (AllReadyH.cons rfl (fun K hK => ?_) (AllReadyH.cons rfl (fun K hK => ?_) AllReadyH.nil))
    · skip
      go_simp
      go_wp2_with (go_at_call 28; (with_reducible refine (to_ _ _ _ _ _).mono ?_); rintro e w2q ⟨rfl, hb⟩; have HBn := Aside0.mk (below_step HB.out hb); clear HB; have HB := HBn; clear HBn; have hbgn := Aside0.mk ((hb.block gg (blk_lt hbg.out)).trans hbg.out); clear hbg xg0 fg0 xg1 fg1 xg2 fg2 xg3 fg3; have hbg := hbgn; clear hbgn; have xg0 : w2q.cell? ⟨gg, 0, none⟩ = some (.float .f64 lv) := (blk_cell hbg.out 0).trans rfl; have fg0 := blk_frozen hbg.out 0; have xg1 : w2q.cell? ⟨gg, 1, none⟩ = some (.float .f64 mo) := (blk_cell hbg.out 1).trans rfl; have fg1 := blk_frozen hbg.out 1; have xg2 : w2q.cell? ⟨gg, 2, none⟩ = some (.float .f64 ro) := (blk_cell hbg.out 2).trans rfl; have fg2 := blk_frozen hbg.out 2; have xg3 : w2q.cell? ⟨gg, 3, none⟩ = some (.int .u32 la) := (blk_cell hbg.out 3).trans rfl; have fg3 := blk_frozen hbg.out 3; clear hb)
      refine hK.out _ _ ?_ (fun hHeld => ?_)
      · exact ⟨xg0, xg1, xg2, xg3⟩
      clear hK K
      try simp only [Act.put, List.getElem_toArray, List.getElem_cons_zero, List.getElem_cons_succ, List.setIfInBounds_toArray, List.set_cons_zero, List.set_cons_succ]
      refine wpAnyH_ready (rs := [3, 4]) (by kernel_rfl) (by simp) ?_
      refine AllReadyH.cons rfl (fun K hK => ?_) (AllReadyH.cons rfl (fun K hK => ?_) AllReadyH.nil)
      · skip
        refine box_step (by rfl) (N := 5) rfl (cs := #[.float .f64 0, .float .f64 0, .float .f64 0, .int .u32 0]) (t := 54) (by go_simp; first | done | rfl | exact ⟨rfl, rfl⟩) ?_
        intro gx hgx w3q hbx0 hb
        have gex := Aside0.mk (show w.heap.size ≤ gx from by rw [hgx]; exact below_size HB.out)
        have hnxg : gx ≠ gg := (by rw [hgx]; exact Nat.ne_of_gt (blk_lt hbg.out))
        have HBn := Aside0.mk (below_step HB.out hb)
        clear HB
        have HB := HBn
        clear HBn
        have hbgn := Aside0.mk ((hb.block gg (blk_lt hbg.out)).trans hbg.out)
        clear hbg xg0 fg0 xg1 fg1 xg2 fg2 xg3 fg3
        have hbg := hbgn
        clear hbgn
        have xg0 : w3q.cell? ⟨gg, 0, none⟩ = some (.float .f64 lv) := (blk_cell hbg.out 0).trans rfl
        have fg0 := blk_frozen hbg.out 0
        have xg1 : w3q.cell? ⟨gg, 1, none⟩ = some (.float .f64 mo) := (blk_cell hbg.out 1).trans rfl
        have fg1 := blk_frozen hbg.out 1
        have xg2 : w3q.cell? ⟨gg, 2, none⟩ = some (.float .f64 ro) := (blk_cell hbg.out 2).trans rfl
        have fg2 := blk_frozen hbg.out 2
        have xg3 : w3q.cell? ⟨gg, 3, none⟩ = some (.int .u32 la) := (blk_cell hbg.out 3).trans rfl
        have fg3 := blk_frozen hbg.out 3
        have hbx := Aside0.mk hbx0
        clear hbx0 hgx hb
        have xx0 : w3q.cell? ⟨gx, 0, none⟩ = some (.float .f64 0) := (blk_cell hbx.out 0).trans rfl
        have fx0 := blk_frozen hbx.out 0
        have xx1 : w3q.cell? ⟨gx, 1, none⟩ = some (.float .f64 0) := (blk_cell hbx.out 1).trans rfl
        have fx1 := blk_frozen hbx.out 1
        have xx2 : w3q.cell? ⟨gx, 2, none⟩ = some (.float .f64 0) := (blk_cell hbx.out 2).trans rfl
        have fx2 := blk_frozen hbx.out 2
        have xx3 : w3q.cell? ⟨gx, 3, none⟩ = some (.int .u32 0) := (blk_cell hbx.out 3).trans rfl
        have fx3 := blk_frozen hbx.out 3
        refine hK.out _ _ ?_ (fun hHeld => ?_)
        · exact ⟨xg0, xg1, xg2, xg3⟩
        clear hK K
        try simp only [Act.put, List.getElem_toArray, List.getElem_cons_zero, List.getElem_cons_succ, List.setIfInBounds_toArray, List.set_cons_zero, List.set_cons_succ]
        refine wpAnyH_ready (rs := [4]) (by kernel_rfl) (by simp) ?_
        refine AllReadyH.cons rfl (fun K hK => ?_) AllReadyH.nil
        refine box_step (by rfl) (N := 6) rfl (cs := #[.float .f64 0, .float .f64 0, .float .f64 0, .int .u32 0]) (t := 52) (by go_simp; first | done | rfl | exact ⟨rfl, rfl⟩) ?_
        intro gy hgy w4q hby0 hb
        have gey := Aside0.mk (show w.heap.size ≤ gy from by rw [hgy]; exact below_size HB.out)
        have hnyg : gy ≠ gg := (by rw [hgy]; exact Nat.ne_of_gt (blk_lt hbg.out))
        have hnyx : gy ≠ gx := (by rw [hgy]; exact Nat.ne_of_gt (blk_lt hbx.out))
        have HBn := Aside0.mk (below_step HB.out hb)
        clear HB
        have HB := HBn
        clear HBn
        have hbgn := Aside0.mk ((hb.block gg (blk_lt hbg.out)).trans hbg.out)
        clear hbg xg0 fg0 xg1 fg1 xg2 fg2 xg3 fg3
        have hbg := hbgn
        clear hbgn
        have xg0 : w4q.cell? ⟨gg, 0, none⟩ = some (.float .f64 lv) := (blk_cell hbg.out 0).trans rfl
        have fg0 := blk_frozen hbg.out 0
        have xg1 : w4q.cell? ⟨gg, 1, none⟩ = some (.float .f64 mo) := (blk_cell hbg.out 1).trans rfl
        have fg1 := blk_frozen hbg.out 1
        have xg2 : w4q.cell? ⟨gg, 2, none⟩ = some (.float .f64 ro) := (blk_cell hbg.out 2).trans rfl
        have fg2 := blk_frozen hbg.out 2
        have xg3 : w4q.cell? ⟨gg, 3, none⟩ = some (.int .u32 la) := (blk_cell hbg.out 3).trans rfl
        have fg3 := blk_frozen hbg.out 3
        have hbxn := Aside0.mk ((hb.block gx (blk_lt hbx.out)).trans hbx.out)
        clear hbx xx0 fx0 xx1 fx1 xx2 fx2 xx3 fx3
        have hbx := hbxn
        clear hbxn
        have xx0 : w4q.cell? ⟨gx, 0, none⟩ = some (.float .f64 0) := (blk_cell hbx.out 0).trans rfl
        have fx0 := blk_frozen hbx.out 0
        have xx1 : w4q.cell? ⟨gx, 1, none⟩ = some (.float .f64 0) := (blk_cell hbx.out 1).trans rfl
        have fx1 := blk_frozen hbx.out 1
        have xx2 : w4q.cell? ⟨gx, 2, none⟩ = some (.float .f64 0) := (blk_cell hbx.out 2).trans rfl
        have fx2 := blk_frozen hbx.out 2
        have xx3 : w4q.cell? ⟨gx, 3, none⟩ = some (.int .u32 0) := (blk_cell hbx.out 3).trans rfl
        have fx3 := blk_frozen hbx.out 3
        have hby := Aside0.mk hby0
        clear hby0 hgy hb
        have xy0 : w4q.cell? ⟨gy, 0, none⟩ = some (.float .f64 0) := (blk_cell hby.out 0).trans rfl
        have fy0 := blk_frozen hby.out 0
        have xy1 : w4q.cell? ⟨gy, 1, none⟩ = some (.float .f64 0) := (blk_cell hby.out 1).trans rfl
        have fy1 := blk_frozen hby.out 1
        have xy2 : w4q.cell? ⟨gy, 2, none⟩ = some (.float .f64 0) := (blk_cell hby.out 2).trans rfl
        have fy2 := blk_frozen hby.out 2
        have xy3 : w4q.cell? ⟨gy, 3, none⟩ = some (.int .u32 0) := (blk_cell hby.out 3).trans rfl
        have fy3 := blk_frozen hby.out 3
        refine hK.out _ _ ?_ (fun hHeld => ?_)
        · exact ⟨xg0, xg1, xg2, xg3⟩
        clear hK K
        try simp only [Act.put, List.getElem_toArray, List.getElem_cons_zero, List.getElem_cons_succ, List.setIfInBounds_toArray, List.set_cons_zero, List.set_cons_succ]
        refine wpAnyH_ready (rs := [5]) (by kernel_rfl) (by simp) ?_
        refine AllReadyH.cons rfl (fun K hK => ?_) AllReadyH.nil
        go_simp
        refine hK.out _ _ ?_ (fun hHeld => ?_)
        · exact ⟨(far4 hnxg).trans xg0, (far4 hnxg).trans xg1, (far4 hnxg).trans xg2, (far4 hnxg).trans xg3⟩
        clear hK K
        try simp only [Act.put, List.getElem_toArray, List.getElem_cons_zero, List.getElem_cons_succ, List.setIfInBounds_toArray, List.set_cons_zero, List.set_cons_succ]
        have hbgn : ((((w4q.setCell ⟨gx, 0, none⟩ (.float .f64 lv)).setCell ⟨gx, 1, none⟩ (.float .f64 mo)).setCell ⟨gx, 2, none⟩ (.float .f64 ro)).setCell ⟨gx, 3, none⟩ (.int .u32 la)).heap[gg]? = some (.cells #[.float .f64 lv, .float .f64 mo, .float .f64 ro, .int .u32 la] 52 (0, 0)) := (blk_far (blk_far (blk_far (blk_far hbg.out (fun e => hnxg e.symm) _) (fun e => hnxg e.symm) _) (fun e => hnxg e.symm) _) (fun e => hnxg e.symm) _)
        have hbxn : ((((w4q.setCell ⟨gx, 0, none⟩ (.float .f64 lv)).setCell ⟨gx, 1, none⟩ (.float .f64 mo)).setCell ⟨gx, 2, none⟩ (.float .f64 ro)).setCell ⟨gx, 3, none⟩ (.int .u32 la)).heap[gx]? = some (.cells #[.float .f64 lv, .float .f64 mo, .float .f64 ro, .int .u32 la] 54 (0, 0)) := (blk_set (blk_set (blk_set (blk_set hbx.out 0 _) 1 _) 2 _) 3 _)
        have hbyn : ((((w4q.setCell ⟨gx, 0, none⟩ (.float .f64 lv)).setCell ⟨gx, 1, none⟩ (.float .f64 mo)).setCell ⟨gx, 2, none⟩ (.float .f64 ro)).setCell ⟨gx, 3, none⟩ (.int .u32 la)).heap[gy]? = some (.cells #[.float .f64 0, .float .f64 0, .float .f64 0, .int .u32 0] 52 (0, 0)) := (blk_far (blk_far (blk_far (blk_far hby.out hnyx _) hnyx _) hnyx _) hnyx _)
        have HBn : Below w.heap.size w ((((w4q.setCell ⟨gx, 0, none⟩ (.float .f64 lv)).setCell ⟨gx, 1, none⟩ (.float .f64 mo)).setCell ⟨gx, 2, none⟩ (.float .f64 ro)).setCell ⟨gx, 3, none⟩ (.int .u32 la)) := (below_set (below_set (below_set (below_set HB.out gex.out) gex.out) gex.out) gex.out)
        clear HB hbg hbx hby xg0 fg0 xg1 fg1 xg2 fg2 xg3 fg3 xx0 fx0 xx1 fx1 xx2 fx2 xx3 fx3 xy0 fy0 xy1 fy1 xy2 fy2 xy3 fy3
        generalize ((((w4q.setCell ⟨gx, 0, none⟩ (.float .f64 lv)).setCell ⟨gx, 1, none⟩ (.float .f64 mo)).setCell ⟨gx, 2, none⟩ (.float .f64 ro)).setCell ⟨gx, 3, none⟩ (.int .u32 la)) = w5q at *
        have hbg := Aside0.mk hbgn
        have hbx := Aside0.mk hbxn
        have hby := Aside0.mk hbyn
        have HB := Aside0.mk HBn
        clear HBn hbgn hbxn hbyn
        have xg0 : w5q.cell? ⟨gg, 0, none⟩ = some (.float .f64 lv) := (blk_cell hbg.out 0).trans rfl
        have fg0 := blk_frozen hbg.out 0
        have xg1 : w5q.cell? ⟨gg, 1, none⟩ = some (.float .f64 mo) := (blk_cell hbg.out 1).trans rfl
        have fg1 := blk_frozen hbg.out 1
        have xg2 : w5q.cell? ⟨gg, 2, none⟩ = some (.float .f64 ro) := (blk_cell hbg.out 2).trans rfl
        have fg2 := blk_frozen hbg.out 2
        have xg3 : w5q.cell? ⟨gg, 3, none⟩ = some (.int .u32 la) := (blk_cell hbg.out 3).trans rfl
        have fg3 := blk_frozen hbg.out 3
        have xx0 : w5q.cell? ⟨gx, 0, none⟩ = some (.float .f64 lv) := (blk_cell hbx.out 0).trans rfl
        have fx0 := blk_frozen hbx.out 0
        have xx1 : w5q.cell? ⟨gx, 1, none⟩ = some (.float .f64 mo) := (blk_cell hbx.out 1).trans rfl
        have fx1 := blk_frozen hbx.out 1
        have xx2 : w5q.cell? ⟨gx, 2, none⟩ = some (.float .f64 ro) := (blk_cell hbx.out 2).trans rfl
        have fx2 := blk_frozen hbx.out 2
        have xx3 : w5q.cell? ⟨gx, 3, none⟩ = some (.int .u32 la) := (blk_cell hbx.out 3).trans rfl
        have fx3 := blk_frozen hbx.out 3
        have xy0 : w5q.cell? ⟨gy, 0, none⟩ = some (.float .f64 0) := (blk_cell hby.out 0).trans rfl
        have fy0 := blk_frozen hby.out 0
        have xy1 : w5q.cell? ⟨gy, 1, none⟩ = some (.float .f64 0) := (blk_cell hby.out 1).trans rfl
        have fy1 := blk_frozen hby.out 1
        have xy2 : w5q.cell? ⟨gy, 2, none⟩ = some (.float .f64 0) := (blk_cell hby.out 2).trans rfl
        have fy2 := blk_frozen hby.out 2
        have xy3 : w5q.cell? ⟨gy, 3, none⟩ = some (.int .u32 0) := (blk_cell hby.out 3).trans rfl
        have fy3 := blk_frozen hby.out 3
        refine wpAnyH_ready (rs := [6]) (by kernel_rfl) (by simp) ?_
        refine AllReadyH.cons rfl (fun K hK => ?_) AllReadyH.nil
        go_simp
        refine hK.out _ _ ?_ (fun hHeld => ?_)
        · exact ⟨(far4 hnyg).trans xg0, (far4 hnyg).trans xg1, (far4 hnyg).trans xg2, (far4 hnyg).trans xg3⟩
        clear hK K
        try simp only [Act.put, List.getElem_toArray, List.getElem_cons_zero, List.getElem_cons_succ, List.setIfInBounds_toArray, List.set_cons_zero, List.set_cons_succ]
        have hbgn : ((((w5q.setCell ⟨gy, 0, none⟩ (.float .f64 lv)).setCell ⟨gy, 1, none⟩ (.float .f64 mo)).setCell ⟨gy, 2, none⟩ (.float .f64 ro)).setCell ⟨gy, 3, none⟩ (.int .u32 la)).heap[gg]? = some (.cells #[.float .f64 lv, .float .f64 mo, .float .f64 ro, .int .u32 la] 52 (0, 0)) := (blk_far (blk_far (blk_far (blk_far hbg.out (fun e => hnyg e.symm) _) (fun e => hnyg e.symm) _) (fun e => hnyg e.symm) _) (fun e => hnyg e.symm) _)
        have hbxn : ((((w5q.setCell ⟨gy, 0, none⟩ (.float .f64 lv)).setCell ⟨gy, 1, none⟩ (.float .f64 mo)).setCell ⟨gy, 2, none⟩ (.float .f64 ro)).setCell ⟨gy, 3, none⟩ (.int .u32 la)).heap[gx]? = some (.cells #[.float .f64 lv, .float .f64 mo, .float .f64 ro, .int .u32 la] 54 (0, 0)) := (blk_far (blk_far (blk_far (blk_far hbx.out (fun e => hnyx e.symm) _) (fun e => hnyx e.symm) _) (fun e => hnyx e.symm) _) (fun e => hnyx e.symm) _)
        have hbyn : ((((w5q.setCell ⟨gy, 0, none⟩ (.float .f64 lv)).setCell ⟨gy, 1, none⟩ (.float .f64 mo)).setCell ⟨gy, 2, none⟩ (.float .f64 ro)).setCell ⟨gy, 3, none⟩ (.int .u32 la)).heap[gy]? = some (.cells #[.float .f64 lv, .float .f64 mo, .float .f64 ro, .int .u32 la] 52 (0, 0)) := (blk_set (blk_set (blk_set (blk_set hby.out 0 _) 1 _) 2 _) 3 _)
        have HBn : Below w.heap.size w ((((w5q.setCell ⟨gy, 0, none⟩ (.float .f64 lv)).setCell ⟨gy, 1, none⟩ (.float .f64 mo)).setCell ⟨gy, 2, none⟩ (.float .f64 ro)).setCell ⟨gy, 3, none⟩ (.int .u32 la)) := (below_set (below_set (below_set (below_set HB.out gey.out) gey.out) gey.out) gey.out)
        clear HB hbg hbx hby xg0 fg0 xg1 fg1 xg2 fg2 xg3 fg3 xx0 fx0 xx1 fx1 xx2 fx2 xx3 fx3 xy0 fy0 xy1 fy1 xy2 fy2 xy3 fy3
        generalize ((((w5q.setCell ⟨gy, 0, none⟩ (.float .f64 lv)).setCell ⟨gy, 1, none⟩ (.float .f64 mo)).setCell ⟨gy, 2, none⟩ (.float .f64 ro)).setCell ⟨gy, 3, none⟩ (.int .u32 la)) = w6q at *
        have hbg := Aside0.mk hbgn
        have hbx := Aside0.mk hbxn
        have hby := Aside0.mk hbyn
        have HB := Aside0.mk HBn
        clear HBn hbgn hbxn hbyn
        have xg0 : w6q.cell? ⟨gg, 0, none⟩ = some (.float .f64 lv) := (blk_cell hbg.out 0).trans rfl
        have fg0 := blk_frozen hbg.out 0
        have xg1 : w6q.cell? ⟨gg, 1, none⟩ = some (.float .f64 mo) := (blk_cell hbg.out 1).trans rfl
        have fg1 := blk_frozen hbg.out 1
        have xg2 : w6q.cell? ⟨gg, 2, none⟩ = some (.float .f64 ro) := (blk_cell hbg.out 2).trans rfl
        have fg2 := blk_frozen hbg.out 2
        have xg3 : w6q.cell? ⟨gg, 3, none⟩ = some (.int .u32 la) := (blk_cell hbg.out 3).trans rfl
        have fg3 := blk_frozen hbg.out 3
        have xx0 : w6q.cell? ⟨gx, 0, none⟩ = some (.float .f64 lv) := (blk_cell hbx.out 0).trans rfl
        have fx0 := blk_frozen hbx.out 0
        have xx1 : w6q.cell? ⟨gx, 1, none⟩ = some (.float .f64 mo) := (blk_cell hbx.out 1).trans rfl
        have fx1 := blk_frozen hbx.out 1
        have xx2 : w6q.cell? ⟨gx, 2, none⟩ = some (.float .f64 ro) := (blk_cell hbx.out 2).trans rfl
        have fx2 := blk_frozen hbx.out 2
        have xx3 : w6q.cell? ⟨gx, 3, none⟩ = some (.int .u32 la) := (blk_cell hbx.out 3).trans rfl
        have fx3 := blk_frozen hbx.out 3
        have xy0 : w6q.cell? ⟨gy, 0, none⟩ = some (.float .f64 lv) := (blk_cell hby.out 0).trans rfl
        have fy0 := blk_frozen hby.out 0
        have xy1 : w6q.cell? ⟨gy, 1, none⟩ = some (.float .f64 mo) := (blk_cell hby.out 1).trans rfl
        have fy1 := blk_frozen hby.out 1
        have xy2 : w6q.cell? ⟨gy, 2, none⟩ = some (.float .f64 ro) := (blk_cell hby.out 2).trans rfl
        have fy2 := blk_frozen hby.out 2
        have xy3 : w6q.cell? ⟨gy, 3, none⟩ = some (.int .u32 la) := (blk_cell hby.out 3).trans rfl
        have fy3 := blk_frozen hby.out 3
        refine wpAnyH_done (by kernel_rfl) ?_ _
        go_wp2
        go_meet
        case rel => exact ⟨gx, gy, rfl, rfl, gex, gey, hnxg, hnyx, hnyg, hbg, hbx, hby, HB⟩
      · skip
        refine box_step (by rfl) (N := 6) rfl (cs := #[.float .f64 0, .float .f64 0, .float .f64 0, .int .u32 0]) (t := 52) (by go_simp; first | done | rfl | exact ⟨rfl, rfl⟩) ?_
        intro gy hgy w7q hby0 hb
        have gey := Aside0.mk (show w.heap.size ≤ gy from by rw [hgy]; exact below_size HB.out)
        have hnyg : gy ≠ gg := (by rw [hgy]; exact Nat.ne_of_gt (blk_lt hbg.out))
        have HBn := Aside0.mk (below_step HB.out hb)
        clear HB
        have HB := HBn
        clear HBn
        have hbgn := Aside0.mk ((hb.block gg (blk_lt hbg.out)).trans hbg.out)
        clear hbg xg0 fg0 xg1 fg1 xg2 fg2 xg3 fg3
        have hbg := hbgn
        clear hbgn
        have xg0 : w7q.cell? ⟨gg, 0, none⟩ = some (.float .f64 lv) := (blk_cell hbg.out 0).trans rfl
        have fg0 := blk_frozen hbg.out 0
        have xg1 : w7q.cell? ⟨gg, 1, none⟩ = some (.float .f64 mo) := (blk_cell hbg.out 1).trans rfl
        have fg1 := blk_frozen hbg.out 1
        have xg2 : w7q.cell? ⟨gg, 2, none⟩ = some (.float .f64 ro) := (blk_cell hbg.out 2).trans rfl
        have fg2 := blk_frozen hbg.out 2
        have xg3 : w7q.cell? ⟨gg, 3, none⟩ = some (.int .u32 la) := (blk_cell hbg.out 3).trans rfl
        have fg3 := blk_frozen hbg.out 3
        have hby := Aside0.mk hby0
        clear hby0 hgy hb
        have xy0 : w7q.cell? ⟨gy, 0, none⟩ = some (.float .f64 0) := (blk_cell hby.out 0).trans rfl
        have fy0 := blk_frozen hby.out 0
        have xy1 : w7q.cell? ⟨gy, 1, none⟩ = some (.float .f64 0) := (blk_cell hby.out 1).trans rfl
        have fy1 := blk_frozen hby.out 1
        have xy2 : w7q.cell? ⟨gy, 2, none⟩ = some (.float .f64 0) := (blk_cell hby.out 2).trans rfl
        have fy2 := blk_frozen hby.out 2
        have xy3 : w7q.cell? ⟨gy, 3, none⟩ = some (.int .u32 0) := (blk_cell hby.out 3).trans rfl
        have fy3 := blk_frozen hby.out 3
        refine hK.out _ _ ?_ (fun hHeld => ?_)
        · exact ⟨xg0, xg1, xg2, xg3⟩
        clear hK K
        try simp only [Act.put, List.getElem_toArray, List.getElem_cons_zero, List.getElem_cons_succ, List.setIfInBounds_toArray, List.set_cons_zero, List.set_cons_succ]
        refine wpAnyH_ready (rs := [3]) (by kernel_rfl) (by simp) ?_
        refine AllReadyH.cons rfl (fun K hK => ?_) AllReadyH.nil
        refine box_step (by rfl) (N := 5) rfl (cs := #[.float .f64 0, .float .f64 0, .float .f64 0, .int .u32 0]) (t := 54) (by go_simp; first | done | rfl | exact ⟨rfl, rfl⟩) ?_
        intro gx hgx w8q hbx0 hb
        have gex := Aside0.mk (show w.heap.size ≤ gx from by rw [hgx]; exact below_size HB.out)
        have hnxg : gx ≠ gg := (by rw [hgx]; exact Nat.ne_of_gt (blk_lt hbg.out))
        have hnyx : gy ≠ gx := (by rw [hgx]; exact Nat.ne_of_lt (blk_lt hby.out))
        have HBn := Aside0.mk (below_step HB.out hb)
        clear HB
        have HB := HBn
        clear HBn
        have hbgn := Aside0.mk ((hb.block gg (blk_lt hbg.out)).trans hbg.out)
        clear hbg xg0 fg0 xg1 fg1 xg2 fg2 xg3 fg3
        have hbg := hbgn
        clear hbgn
        have xg0 : w8q.cell? ⟨gg, 0, none⟩ = some (.float .f64 lv) := (blk_cell hbg.out 0).trans rfl
        have fg0 := blk_frozen hbg.out 0
        have xg1 : w8q.cell? ⟨gg, 1, none⟩ = some (.float .f64 mo) := (blk_cell hbg.out 1).trans rfl
        have fg1 := blk_frozen hbg.out 1
        have xg2 : w8q.cell? ⟨gg, 2, none⟩ = some (.float .f64 ro) := (blk_cell hbg.out 2).trans rfl
        have fg2 := blk_frozen hbg.out 2
        have xg3 : w8q.cell? ⟨gg, 3, none⟩ = some (.int .u32 la) := (blk_cell hbg.out 3).trans rfl
        have fg3 := blk_frozen hbg.out 3
        have hbyn := Aside0.mk ((hb.block gy (blk_lt hby.out)).trans hby.out)
        clear hby xy0 fy0 xy1 fy1 xy2 fy2 xy3 fy3
        have hby := hbyn
        clear hbyn
        have xy0 : w8q.cell? ⟨gy, 0, none⟩ = some (.float .f64 0) := (blk_cell hby.out 0).trans rfl
        have fy0 := blk_frozen hby.out 0
        have xy1 : w8q.cell? ⟨gy, 1, none⟩ = some (.float .f64 0) := (blk_cell hby.out 1).trans rfl
        have fy1 := blk_frozen hby.out 1
        have xy2 : w8q.cell? ⟨gy, 2, none⟩ = some (.float .f64 0) := (blk_cell hby.out 2).trans rfl
        have fy2 := blk_frozen hby.out 2
        have xy3 : w8q.cell? ⟨gy, 3, none⟩ = some (.int .u32 0) := (blk_cell hby.out 3).trans rfl
        have fy3 := blk_frozen hby.out 3
        have hbx := Aside0.mk hbx0
        clear hbx0 hgx hb
        have xx0 : w8q.cell? ⟨gx, 0, none⟩ = some (.float .f64 0) := (blk_cell hbx.out 0).trans rfl
        have fx0 := blk_frozen hbx.out 0
        have xx1 : w8q.cell? ⟨gx, 1, none⟩ = some (.float .f64 0) := (blk_cell hbx.out 1).trans rfl
        have fx1 := blk_frozen hbx.out 1
        have xx2 : w8q.cell? ⟨gx, 2, none⟩ = some (.float .f64 0) := (blk_cell hbx.out 2).trans rfl
        have fx2 := blk_frozen hbx.out 2
        have xx3 : w8q.cell? ⟨gx, 3, none⟩ = some (.int .u32 0) := (blk_cell hbx.out 3).trans rfl
        have fx3 := blk_frozen hbx.out 3
        refine hK.out _ _ ?_ (fun hHeld => ?_)
        · exact ⟨xg0, xg1, xg2, xg3⟩
        clear hK K
        try simp only [Act.put, List.getElem_toArray, List.getElem_cons_zero, List.getElem_cons_succ, List.setIfInBounds_toArray, List.set_cons_zero, List.set_cons_succ]
        refine wpAnyH_ready (rs := [5]) (by kernel_rfl) (by simp) ?_
        refine AllReadyH.cons rfl (fun K hK => ?_) AllReadyH.nil
        go_simp
        refine hK.out _ _ ?_ (fun hHeld => ?_)
        · exact ⟨(far4 hnxg).trans xg0, (far4 hnxg).trans xg1, (far4 hnxg).trans xg2, (far4 hnxg).trans xg3⟩
        clear hK K
        try simp only [Act.put, List.getElem_toArray, List.getElem_cons_zero, List.getElem_cons_succ, List.setIfInBounds_toArray, List.set_cons_zero, List.set_cons_succ]
        have hbgn : ((((w8q.setCell ⟨gx, 0, none⟩ (.float .f64 lv)).setCell ⟨gx, 1, none⟩ (.float .f64 mo)).setCell ⟨gx, 2, none⟩ (.float .f64 ro)).setCell ⟨gx, 3, none⟩ (.int .u32 la)).heap[gg]? = some (.cells #[.float .f64 lv, .float .f64 mo, .float .f64 ro, .int .u32 la] 52 (0, 0)) := (blk_far (blk_far (blk_far (blk_far hbg.out (fun e => hnxg e.symm) _) (fun e => hnxg e.symm) _) (fun e => hnxg e.symm) _) (fun e => hnxg e.symm) _)
        have hbyn : ((((w8q.setCell ⟨gx, 0, none⟩ (.float .f64 lv)).setCell ⟨gx, 1, none⟩ (.float .f64 mo)).setCell ⟨gx, 2, none⟩ (.float .f64 ro)).setCell ⟨gx, 3, none⟩ (.int .u32 la)).heap[gy]? = some (.cells #[.float .f64 0, .float .f64 0, .float .f64 0, .int .u32 0] 52 (0, 0)) := (blk_far (blk_far (blk_far (blk_far hby.out hnyx _) hnyx _) hnyx _) hnyx _)
        have hbxn : ((((w8q.setCell ⟨gx, 0, none⟩ (.float .f64 lv)).setCell ⟨gx, 1, none⟩ (.float .f64 mo)).setCell ⟨gx, 2, none⟩ (.float .f64 ro)).setCell ⟨gx, 3, none⟩ (.int .u32 la)).heap[gx]? = some (.cells #[.float .f64 lv, .float .f64 mo, .float .f64 ro, .int .u32 la] 54 (0, 0)) := (blk_set (blk_set (blk_set (blk_set hbx.out 0 _) 1 _) 2 _) 3 _)
        have HBn : Below w.heap.size w ((((w8q.setCell ⟨gx, 0, none⟩ (.float .f64 lv)).setCell ⟨gx, 1, none⟩ (.float .f64 mo)).setCell ⟨gx, 2, none⟩ (.float .f64 ro)).setCell ⟨gx, 3, none⟩ (.int .u32 la)) := (below_set (below_set (below_set (below_set HB.out gex.out) gex.out) gex.out) gex.out)
        clear HB hbg hby hbx xg0 fg0 xg1 fg1 xg2 fg2 xg3 fg3 xy0 fy0 xy1 fy1 xy2 fy2 xy3 fy3 xx0 fx0 xx1 fx1 xx2 fx2 xx3 fx3
        generalize ((((w8q.setCell ⟨gx, 0, none⟩ (.float .f64 lv)).setCell ⟨gx, 1, none⟩ (.float .f64 mo)).setCell ⟨gx, 2, none⟩ (.float .f64 ro)).setCell ⟨gx, 3, none⟩ (.int .u32 la)) = w9q at *
        have hbg := Aside0.mk hbgn
        have hby := Aside0.mk hbyn
        have hbx := Aside0.mk hbxn
        have HB := Aside0.mk HBn
        clear HBn hbgn hbyn hbxn
        have xg0 : w9q.cell? ⟨gg, 0, none⟩ = some (.float .f64 lv) := (blk_cell hbg.out 0).trans rfl
        have fg0 := blk_frozen hbg.out 0
        have xg1 : w9q.cell? ⟨gg, 1, none⟩ = some (.float .f64 mo) := (blk_cell hbg.out 1).trans rfl
        have fg1 := blk_frozen hbg.out 1
        have xg2 : w9q.cell? ⟨gg, 2, none⟩ = some (.float .f64 ro) := (blk_cell hbg.out 2).trans rfl
        have fg2 := blk_frozen hbg.out 2
        have xg3 : w9q.cell? ⟨gg, 3, none⟩ = some (.int .u32 la) := (blk_cell hbg.out 3).trans rfl
        have fg3 := blk_frozen hbg.out 3
        have xy0 : w9q.cell? ⟨gy, 0, none⟩ = some (.float .f64 0) := (blk_cell hby.out 0).trans rfl
        have fy0 := blk_frozen hby.out 0
        have xy1 : w9q.cell? ⟨gy, 1, none⟩ = some (.float .f64 0) := (blk_cell hby.out 1).trans rfl
        have fy1 := blk_frozen hby.out 1
        have xy2 : w9q.cell? ⟨gy, 2, none⟩ = some (.float .f64 0) := (blk_cell hby.out 2).trans rfl
        have fy2 := blk_frozen hby.out 2
        have xy3 : w9q.cell? ⟨gy, 3, none⟩ = some (.int .u32 0) := (blk_cell hby.out 3).trans rfl
        have fy3 := blk_frozen hby.out 3
        have xx0 : w9q.cell? ⟨gx, 0, none⟩ = some (.float .f64 lv) := (blk_cell hbx.out 0).trans rfl
        have fx0 := blk_frozen hbx.out 0
        have xx1 : w9q.cell? ⟨gx, 1, none⟩ = some (.float .f64 mo) := (blk_cell hbx.out 1).trans rfl
        have fx1 := blk_frozen hbx.out 1
        have xx2 : w9q.cell? ⟨gx, 2, none⟩ = some (.float .f64 ro) := (blk_cell hbx.out 2).trans rfl
        have fx2 := blk_frozen hbx.out 2
        have xx3 : w9q.cell? ⟨gx, 3, none⟩ = some (.int .u32 la) := (blk_cell hbx.out 3).trans rfl
        have fx3 := blk_frozen hbx.out 3
        refine wpAnyH_ready (rs := [6]) (by kernel_rfl) (by simp) ?_
        refine AllReadyH.cons rfl (fun K hK => ?_) AllReadyH.nil
        go_simp
        refine hK.out _ _ ?_ (fun hHeld => ?_)
        · exact ⟨(far4 hnyg).trans xg0, (far4 hnyg).trans xg1, (far4 hnyg).trans xg2, (far4 hnyg).trans xg3⟩
        clear hK K
        try simp only [Act.put, List.getElem_toArray, List.getElem_cons_zero, List.getElem_cons_succ, List.setIfInBounds_toArray, List.set_cons_zero, List.set_cons_succ]
        have hbgn : ((((w9q.setCell ⟨gy, 0, none⟩ (.float .f64 lv)).setCell ⟨gy, 1, none⟩ (.float .f64 mo)).setCell ⟨gy, 2, none⟩ (.float .f64 ro)).setCell ⟨gy, 3, none⟩ (.int .u32 la)).heap[gg]? = some (.cells #[.float .f64 lv, .float .f64 mo, .float .f64 ro, .int .u32 la] 52 (0, 0)) := (blk_far (blk_far (blk_far (blk_far hbg.out (fun e => hnyg e.symm) _) (fun e => hnyg e.symm) _) (fun e => hnyg e.symm) _) (fun e => hnyg e.symm) _)
        have hbyn : ((((w9q.setCell ⟨gy, 0, none⟩ (.float .f64 lv)).setCell ⟨gy, 1, none⟩ (.float .f64 mo)).setCell ⟨gy, 2, none⟩ (.float .f64 ro)).setCell ⟨gy, 3, none⟩ (.int .u32 la)).heap[gy]? = some (.cells #[.float .f64 lv, .float .f64 mo, .float .f64 ro, .int .u32 la] 52 (0, 0)) := (blk_set (blk_set (blk_set (blk_set hby.out 0 _) 1 _) 2 _) 3 _)
        have hbxn : ((((w9q.setCell ⟨gy, 0, none⟩ (.float .f64 lv)).setCell ⟨gy, 1, none⟩ (.float .f64 mo)).setCell ⟨gy, 2, none⟩ (.float .f64 ro)).setCell ⟨gy, 3, none⟩ (.int .u32 la)).heap[gx]? = some (.cells #[.float .f64 lv, .float .f64 mo, .float .f64 ro, .int .u32 la] 54 (0, 0)) := (blk_far (blk_far (blk_far (blk_far hbx.out (fun e => hnyx e.symm) _) (fun e => hnyx e.symm) _) (fun e => hnyx e.symm) _) (fun e => hnyx e.symm) _)
        have HBn : Below w.heap.size w ((((w9q.setCell ⟨gy, 0, none⟩ (.float .f64 lv)).setCell ⟨gy, 1, none⟩ (.float .f64 mo)).setCell ⟨gy, 2, none⟩ (.float .f64 ro)).setCell ⟨gy, 3, none⟩ (.int .u32 la)) := (below_set (below_set (below_set (below_set HB.out gey.out) gey.out) gey.out) gey.out)
        clear HB hbg hby hbx xg0 fg0 xg1 fg1 xg2 fg2 xg3 fg3 xy0 fy0 xy1 fy1 xy2 fy2 xy3 fy3 xx0 fx0 xx1 fx1 xx2 fx2 xx3 fx3
        generalize ((((w9q.setCell ⟨gy, 0, none⟩ (.float .f64 lv)).setCell ⟨gy, 1, none⟩ (.float .f64 mo)).setCell ⟨gy, 2, none⟩ (.float .f64 ro)).setCell ⟨gy, 3, none⟩ (.int .u32 la)) = w10q at *
        have hbg := Aside0.mk hbgn
        have hby := Aside0.mk hbyn
        have hbx := Aside0.mk hbxn
        have HB := Aside0.mk HBn
        clear HBn hbgn hbyn hbxn
        have xg0 : w10q.cell? ⟨gg, 0, none⟩ = some (.float .f64 lv) := (blk_cell hbg.out 0).trans rfl
        have fg0 := blk_frozen hbg.out 0
        have xg1 : w10q.cell? ⟨gg, 1, none⟩ = some (.float .f64 mo) := (blk_cell hbg.out 1).trans rfl
        have fg1 := blk_frozen hbg.out 1
        have xg2 : w10q.cell? ⟨gg, 2, none⟩ = some (.float .f64 ro) := (blk_cell hbg.out 2).trans rfl
        have fg2 := blk_frozen hbg.out 2
        have xg3 : w10q.cell? ⟨gg, 3, none⟩ = some (.int .u32 la) := (blk_cell hbg.out 3).trans rfl
        have fg3 := blk_frozen hbg.out 3
        have xy0 : w10q.cell? ⟨gy, 0, none⟩ = some (.float .f64 lv) := (blk_cell hby.out 0).trans rfl
        have fy0 := blk_frozen hby.out 0
        have xy1 : w10q.cell? ⟨gy, 1, none⟩ = some (.float .f64 mo) := (blk_cell hby.out 1).trans rfl
        have fy1 := blk_frozen hby.out 1
        have xy2 : w10q.cell? ⟨gy, 2, none⟩ = some (.float .f64 ro) := (blk_cell hby.out 2).trans rfl
        have fy2 := blk_frozen hby.out 2
        have xy3 : w10q.cell? ⟨gy, 3, none⟩ = some (.int .u32 la) := (blk_cell hby.out 3).trans rfl
        have fy3 := blk_frozen hby.out 3
        have xx0 : w10q.cell? ⟨gx, 0, none⟩ = some (.float .f64 lv) := (blk_cell hbx.out 0).trans rfl
        have fx0 := blk_frozen hbx.out 0
        have xx1 : w10q.cell? ⟨gx, 1, none⟩ = some (.float .f64 mo) := (blk_cell hbx.out 1).trans rfl
        have fx1 := blk_frozen hbx.out 1
        have xx2 : w10q.cell? ⟨gx, 2, none⟩ = some (.float .f64 ro) := (blk_cell hbx.out 2).trans rfl
        have fx2 := blk_frozen hbx.out 2
        have xx3 : w10q.cell? ⟨gx, 3, none⟩ = some (.int .u32 la) := (blk_cell hbx.out 3).trans rfl
        have fx3 := blk_frozen hbx.out 3
        refine wpAnyH_done (by kernel_rfl) ?_ _
        go_wp2
        go_meet
        case rel => exact ⟨gx, gy, rfl, rfl, gex, gey, hnxg, hnyx, hnyg, hbg, hbx, hby, HB⟩
    · skip
      refine box_step (by rfl) (N := 5) rfl (cs := #[.float .f64 0, .float .f64 0, .float .f64 0, .int .u32 0]) (t := 54) (by go_simp; first | done | rfl | exact ⟨rfl, rfl⟩) ?_
      intro gx hgx w11q hbx0 hb
      have gex := Aside0.mk (show w.heap.size ≤ gx from by rw [hgx]; exact below_size HB.out)
      have hnxg : gx ≠ gg := (by rw [hgx]; exact Nat.ne_of_gt (blk_lt hbg.out))
      have HBn := Aside0.mk (below_step HB.out hb)
      clear HB
      have HB := HBn
      clear HBn
      have hbgn := Aside0.mk ((hb.block gg (blk_lt hbg.out)).trans hbg.out)
      clear hbg xg0 fg0 xg1 fg1 xg2 fg2 xg3 fg3
      have hbg := hbgn
      clear hbgn
      have xg0 : w11q.cell? ⟨gg, 0, none⟩ = some (.float .f64 lv) := (blk_cell hbg.out 0).trans rfl
      have fg0 := blk_frozen hbg.out 0
      have xg1 : w11q.cell? ⟨gg, 1, none⟩ = some (.float .f64 mo) := (blk_cell hbg.out 1).trans rfl
      have fg1 := blk_frozen hbg.out 1
      have xg2 : w11q.cell? ⟨gg, 2, none⟩ = some (.float .f64 ro) := (blk_cell hbg.out 2).trans rfl
      have fg2 := blk_frozen hbg.out 2
      have xg3 : w11q.cell? ⟨gg, 3, none⟩ = some (.int .u32 la) := (blk_cell hbg.out 3).trans rfl
      have fg3 := blk_frozen hbg.out 3
      have hbx := Aside0.mk hbx0
      clear hbx0 hgx hb
      have xx0 : w11q.cell? ⟨gx, 0, none⟩ = some (.float .f64 0) := (blk_cell hbx.out 0).trans rfl
      have fx0 := blk_frozen hbx.out 0
      have xx1 : w11q.cell? ⟨gx, 1, none⟩ = some (.float .f64 0) := (blk_cell hbx.out 1).trans rfl
      have fx1 := blk_frozen hbx.out 1
      have xx2 : w11q.cell? ⟨gx, 2, none⟩ = some (.float .f64 0) := (blk_cell hbx.out 2).trans rfl
      have fx2 := blk_frozen hbx.out 2
      have xx3 : w11q.cell? ⟨gx, 3, none⟩ = some (.int .u32 0) := (blk_cell hbx.out 3).trans rfl
      have fx3 := blk_frozen hbx.out 3
      refine hK.out _ _ ?_ (fun hHeld => ?_)
      · exact ⟨xg0, xg1, xg2, xg3⟩
      clear hK K
      try simp only [Act.put, List.getElem_toArray, List.getElem_cons_zero, List.getElem_cons_succ, List.setIfInBounds_toArray, List.set_cons_zero, List.set_cons_succ]
      refine wpAnyH_ready (rs := [1, 4]) (by kernel_rfl) (by simp) ?_
      refine AllReadyH.cons rfl (fun K hK => ?_) (AllReadyH.cons rfl (fun K hK => ?_) AllReadyH.nil)
      · skip
        go_simp
        go_wp2_with (go_at_call 28; (with_reducible refine (to_ _ _ _ _ _).mono ?_); rintro e w12q ⟨rfl, hb⟩; have HBn := Aside0.mk (below_step HB.out hb); clear HB; have HB := HBn; clear HBn; have hbgn := Aside0.mk ((hb.block gg (blk_lt hbg.out)).trans hbg.out); clear hbg xg0 fg0 xg1 fg1 xg2 fg2 xg3 fg3; have hbg := hbgn; clear hbgn; have xg0 : w12q.cell? ⟨gg, 0, none⟩ = some (.float .f64 lv) := (blk_cell hbg.out 0).trans rfl; have fg0 := blk_frozen hbg.out 0; have xg1 : w12q.cell? ⟨gg, 1, none⟩ = some (.float .f64 mo) := (blk_cell hbg.out 1).trans rfl; have fg1 := blk_frozen hbg.out 1; have xg2 : w12q.cell? ⟨gg, 2, none⟩ = some (.float .f64 ro) := (blk_cell hbg.out 2).trans rfl; have fg2 := blk_frozen hbg.out 2; have xg3 : w12q.cell? ⟨gg, 3, none⟩ = some (.int .u32 la) := (blk_cell hbg.out 3).trans rfl; have fg3 := blk_frozen hbg.out 3; have hbxn := Aside0.mk ((hb.block gx (blk_lt hbx.out)).trans hbx.out); clear hbx xx0 fx0 xx1 fx1 xx2 fx2 xx3 fx3; have hbx := hbxn; clear hbxn; have xx0 : w12q.cell? ⟨gx, 0, none⟩ = some (.float .f64 0) := (blk_cell hbx.out 0).trans rfl; have fx0 := blk_frozen hbx.out 0; have xx1 : w12q.cell? ⟨gx, 1, none⟩ = some (.float .f64 0) := (blk_cell hbx.out 1).trans rfl; have fx1 := blk_frozen hbx.out 1; have xx2 : w12q.cell? ⟨gx, 2, none⟩ = some (.float .f64 0) := (blk_cell hbx.out 2).trans rfl; have fx2 := blk_frozen hbx.out 2; have xx3 : w12q.cell? ⟨gx, 3, none⟩ = some (.int .u32 0) := (blk_cell hbx.out 3).trans rfl; have fx3 := blk_frozen hbx.out 3; clear hb)
        refine hK.out _ _ ?_ (fun hHeld => ?_)
        · exact ⟨xg0, xg1, xg2, xg3⟩
        clear hK K
        try simp only [Act.put, List.getElem_toArray, List.getElem_cons_zero, List.getElem_cons_succ, List.setIfInBounds_toArray, List.set_cons_zero, List.set_cons_succ]
        refine wpAnyH_ready (rs := [4]) (by kernel_rfl) (by simp) ?_
        refine AllReadyH.cons rfl (fun K hK => ?_) AllReadyH.nil
        refine box_step (by rfl) (N := 6) rfl (cs := #[.float .f64 0, .float .f64 0, .float .f64 0, .int .u32 0]) (t := 52) (by go_simp; first | done | rfl | exact ⟨rfl, rfl⟩) ?_
        intro gy hgy w13q hby0 hb
        have gey := Aside0.mk (show w.heap.size ≤ gy from by rw [hgy]; exact below_size HB.out)
        have hnyg : gy ≠ gg := (by rw [hgy]; exact Nat.ne_of_gt (blk_lt hbg.out))
        have hnyx : gy ≠ gx := (by rw [hgy]; exact Nat.ne_of_gt (blk_lt hbx.out))
        have HBn := Aside0.mk (below_step HB.out hb)
        clear HB
        have HB := HBn
        clear HBn
        have hbgn := Aside0.mk ((hb.block gg (blk_lt hbg.out)).trans hbg.out)
        clear hbg xg0 fg0 xg1 fg1 xg2 fg2 xg3 fg3
        have hbg := hbgn
        clear hbgn
        have xg0 : w13q.cell? ⟨gg, 0, none⟩ = some (.float .f64 lv) := (blk_cell hbg.out 0).trans rfl
        have fg0 := blk_frozen hbg.out 0
        have xg1 : w13q.cell? ⟨gg, 1, none⟩ = some (.float .f64 mo) := (blk_cell hbg.out 1).trans rfl
        have fg1 := blk_frozen hbg.out 1
        have xg2 : w13q.cell? ⟨gg, 2, none⟩ = some (.float .f64 ro) := (blk_cell hbg.out 2).trans rfl
        have fg2 := blk_frozen hbg.out 2
        have xg3 : w13q.cell? ⟨gg, 3, none⟩ = some (.int .u32 la) := (blk_cell hbg.out 3).trans rfl
        have fg3 := blk_frozen hbg.out 3
        have hbxn := Aside0.mk ((hb.block gx (blk_lt hbx.out)).trans hbx.out)
        clear hbx xx0 fx0 xx1 fx1 xx2 fx2 xx3 fx3
        have hbx := hbxn
        clear hbxn
        have xx0 : w13q.cell? ⟨gx, 0, none⟩ = some (.float .f64 0) := (blk_cell hbx.out 0).trans rfl
        have fx0 := blk_frozen hbx.out 0
        have xx1 : w13q.cell? ⟨gx, 1, none⟩ = some (.float .f64 0) := (blk_cell hbx.out 1).trans rfl
        have fx1 := blk_frozen hbx.out 1
        have xx2 : w13q.cell? ⟨gx, 2, none⟩ = some (.float .f64 0) := (blk_cell hbx.out 2).trans rfl
        have fx2 := blk_frozen hbx.out 2
        have xx3 : w13q.cell? ⟨gx, 3, none⟩ = some (.int .u32 0) := (blk_cell hbx.out 3).trans rfl
        have fx3 := blk_frozen hbx.out 3
        have hby := Aside0.mk hby0
        clear hby0 hgy hb
        have xy0 : w13q.cell? ⟨gy, 0, none⟩ = some (.float .f64 0) := (blk_cell hby.out 0).trans rfl
        have fy0 := blk_frozen hby.out 0
        have xy1 : w13q.cell? ⟨gy, 1, none⟩ = some (.float .f64 0) := (blk_cell hby.out 1).trans rfl
        have fy1 := blk_frozen hby.out 1
        have xy2 : w13q.cell? ⟨gy, 2, none⟩ = some (.float .f64 0) := (blk_cell hby.out 2).trans rfl
        have fy2 := blk_frozen hby.out 2
        have xy3 : w13q.cell? ⟨gy, 3, none⟩ = some (.int .u32 0) := (blk_cell hby.out 3).trans rfl
        have fy3 := blk_frozen hby.out 3
        refine hK.out _ _ ?_ (fun hHeld => ?_)
        · exact ⟨xg0, xg1, xg2, xg3⟩
        clear hK K
        try simp only [Act.put, List.getElem_toArray, List.getElem_cons_zero, List.getElem_cons_succ, List.setIfInBounds_toArray, List.set_cons_zero, List.set_cons_succ]
        refine wpAnyH_ready (rs := [5]) (by kernel_rfl) (by simp) ?_
        refine AllReadyH.cons rfl (fun K hK => ?_) AllReadyH.nil
        go_simp
        refine hK.out _ _ ?_ (fun hHeld => ?_)
        · exact ⟨(far4 hnxg).trans xg0, (far4 hnxg).trans xg1, (far4 hnxg).trans xg2, (far4 hnxg).trans xg3⟩
        clear hK K
        try simp only [Act.put, List.getElem_toArray, List.getElem_cons_zero, List.getElem_cons_succ, List.setIfInBounds_toArray, List.set_cons_zero, List.set_cons_succ]
        have hbgn : ((((w13q.setCell ⟨gx, 0, none⟩ (.float .f64 lv)).setCell ⟨gx, 1, none⟩ (.float .f64 mo)).setCell ⟨gx, 2, none⟩ (.float .f64 ro)).setCell ⟨gx, 3, none⟩ (.int .u32 la)).heap[gg]? = some (.cells #[.float .f64 lv, .float .f64 mo, .float .f64 ro, .int .u32 la] 52 (0, 0)) := (blk_far (blk_far (blk_far (blk_far hbg.out (fun e => hnxg e.symm) _) (fun e => hnxg e.symm) _) (fun e => hnxg e.symm) _) (fun e => hnxg e.symm) _)
        have hbxn : ((((w13q.setCell ⟨gx, 0, none⟩ (.float .f64 lv)).setCell ⟨gx, 1, none⟩ (.float .f64 mo)).setCell ⟨gx, 2, none⟩ (.float .f64 ro)).setCell ⟨gx, 3, none⟩ (.int .u32 la)).heap[gx]? = some (.cells #[.float .f64 lv, .float .f64 mo, .float .f64 ro, .int .u32 la] 54 (0, 0)) := (blk_set (blk_set (blk_set (blk_set hbx.out 0 _) 1 _) 2 _) 3 _)
        have hbyn : ((((w13q.setCell ⟨gx, 0, none⟩ (.float .f64 lv)).setCell ⟨gx, 1, none⟩ (.float .f64 mo)).setCell ⟨gx, 2, none⟩ (.float .f64 ro)).setCell ⟨gx, 3, none⟩ (.int .u32 la)).heap[gy]? = some (.cells #[.float .f64 0, .float .f64 0, .float .f64 0, .int .u32 0] 52 (0, 0)) := (blk_far (blk_far (blk_far (blk_far hby.out hnyx _) hnyx _) hnyx _) hnyx _)
        have HBn : Below w.heap.size w ((((w13q.setCell ⟨gx, 0, none⟩ (.float .f64 lv)).setCell ⟨gx, 1, none⟩ (.float .f64 mo)).setCell ⟨gx, 2, none⟩ (.float .f64 ro)).setCell ⟨gx, 3, none⟩ (.int .u32 la)) := (below_set (below_set (below_set (below_set HB.out gex.out) gex.out) gex.out) gex.out)
        clear HB hbg hbx hby xg0 fg0 xg1 fg1 xg2 fg2 xg3 fg3 xx0 fx0 xx1 fx1 xx2 fx2 xx3 fx3 xy0 fy0 xy1 fy1 xy2 fy2 xy3 fy3
        generalize ((((w13q.setCell ⟨gx, 0, none⟩ (.float .f64 lv)).setCell ⟨gx, 1, none⟩ (.float .f64 mo)).setCell ⟨gx, 2, none⟩ (.float .f64 ro)).setCell ⟨gx, 3, none⟩ (.int .u32 la)) = w14q at *
        have hbg := Aside0.mk hbgn
        have hbx := Aside0.mk hbxn
        have hby := Aside0.mk hbyn
        have HB := Aside0.mk HBn
        clear HBn hbgn hbxn hbyn
        have xg0 : w14q.cell? ⟨gg, 0, none⟩ = some (.float .f64 lv) := (blk_cell hbg.out 0).trans rfl
        have fg0 := blk_frozen hbg.out 0
        have xg1 : w14q.cell? ⟨gg, 1, none⟩ = some (.float .f64 mo) := (blk_cell hbg.out 1).trans rfl
        have fg1 := blk_frozen hbg.out 1
        have xg2 : w14q.cell? ⟨gg, 2, none⟩ = some (.float .f64 ro) := (blk_cell hbg.out 2).trans rfl
        have fg2 := blk_frozen hbg.out 2
        have xg3 : w14q.cell? ⟨gg, 3, none⟩ = some (.int .u32 la) := (blk_cell hbg.out 3).trans rfl
        have fg3 := blk_frozen hbg.out 3
        have xx0 : w14q.cell? ⟨gx, 0, none⟩ = some (.float .f64 lv) := (blk_cell hbx.out 0).trans rfl
        have fx0 := blk_frozen hbx.out 0
        have xx1 : w14q.cell? ⟨gx, 1, none⟩ = some (.float .f64 mo) := (blk_cell hbx.out 1).trans rfl
        have fx1 := blk_frozen hbx.out 1
        have xx2 : w14q.cell? ⟨gx, 2, none⟩ = some (.float .f64 ro) := (blk_cell hbx.out 2).trans rfl
        have fx2 := blk_frozen hbx.out 2
        have xx3 : w14q.cell? ⟨gx, 3, none⟩ = some (.int .u32 la) := (blk_cell hbx.out 3).trans rfl
        have fx3 := blk_frozen hbx.out 3
        have xy0 : w14q.cell? ⟨gy, 0, none⟩ = some (.float .f64 0) := (blk_cell hby.out 0).trans rfl
        have fy0 := blk_frozen hby.out 0
        have xy1 : w14q.cell? ⟨gy, 1, none⟩ = some (.float .f64 0) := (blk_cell hby.out 1).trans rfl
        have fy1 := blk_frozen hby.out 1
        have xy2 : w14q.cell? ⟨gy, 2, none⟩ = some (.float .f64 0) := (blk_cell hby.out 2).trans rfl
        have fy2 := blk_frozen hby.out 2
        have xy3 : w14q.cell? ⟨gy, 3, none⟩ = some (.int .u32 0) := (blk_cell hby.out 3).trans rfl
        have fy3 := blk_frozen hby.out 3
        refine wpAnyH_ready (rs := [6]) (by kernel_rfl) (by simp) ?_
        refine AllReadyH.cons rfl (fun K hK => ?_) AllReadyH.nil
        go_simp
        refine hK.out _ _ ?_ (fun hHeld => ?_)
        · exact ⟨(far4 hnyg).trans xg0, (far4 hnyg).trans xg1, (far4 hnyg).trans xg2, (far4 hnyg).trans xg3⟩
        clear hK K
        try simp only [Act.put, List.getElem_toArray, List.getElem_cons_zero, List.getElem_cons_succ, List.setIfInBounds_toArray, List.set_cons_zero, List.set_cons_succ]
        have hbgn : ((((w14q.setCell ⟨gy, 0, none⟩ (.float .f64 lv)).setCell ⟨gy, 1, none⟩ (.float .f64 mo)).setCell ⟨gy, 2, none⟩ (.float .f64 ro)).setCell ⟨gy, 3, none⟩ (.int .u32 la)).heap[gg]? = some (.cells #[.float .f64 lv, .float .f64 mo, .float .f64 ro, .int .u32 la] 52 (0, 0)) := (blk_far (blk_far (blk_far (blk_far hbg.out (fun e => hnyg e.symm) _) (fun e => hnyg e.symm) _) (fun e => hnyg e.symm) _) (fun e => hnyg e.symm) _)
        have hbxn : ((((w14q.setCell ⟨gy, 0, none⟩ (.float .f64 lv)).setCell ⟨gy, 1, none⟩ (.float .f64 mo)).setCell ⟨gy, 2, none⟩ (.float .f64 ro)).setCell ⟨gy, 3, none⟩ (.int .u32 la)).heap[gx]? = some (.cells #[.float .f64 lv, .float .f64 mo, .float .f64 ro, .int .u32 la] 54 (0, 0)) := (blk_far (blk_far (blk_far (blk_far hbx.out (fun e => hnyx e.symm) _) (fun e => hnyx e.symm) _) (fun e => hnyx e.symm) _) (fun e => hnyx e.symm) _)
        have hbyn : ((((w14q.setCell ⟨gy, 0, none⟩ (.float .f64 lv)).setCell ⟨gy, 1, none⟩ (.float .f64 mo)).setCell ⟨gy, 2, none⟩ (.float .f64 ro)).setCell ⟨gy, 3, none⟩ (.int .u32 la)).heap[gy]? = some (.cells #[.float .f64 lv, .float .f64 mo, .float .f64 ro, .int .u32 la] 52 (0, 0)) := (blk_set (blk_set (blk_set (blk_set hby.out 0 _) 1 _) 2 _) 3 _)
        have HBn : Below w.heap.size w ((((w14q.setCell ⟨gy, 0, none⟩ (.float .f64 lv)).setCell ⟨gy, 1, none⟩ (.float .f64 mo)).setCell ⟨gy, 2, none⟩ (.float .f64 ro)).setCell ⟨gy, 3, none⟩ (.int .u32 la)) := (below_set (below_set (below_set (below_set HB.out gey.out) gey.out) gey.out) gey.out)
        clear HB hbg hbx hby xg0 fg0 xg1 fg1 xg2 fg2 xg3 fg3 xx0 fx0 xx1 fx1 xx2 fx2 xx3 fx3 xy0 fy0 xy1 fy1 xy2 fy2 xy3 fy3
        generalize ((((w14q.setCell ⟨gy, 0, none⟩ (.float .f64 lv)).setCell ⟨gy, 1, none⟩ (.float .f64 mo)).setCell ⟨gy, 2, none⟩ (.float .f64 ro)).setCell ⟨gy, 3, none⟩ (.int .u32 la)) = w15q at *
        have hbg := Aside0.mk hbgn
        have hbx := Aside0.mk hbxn
        have hby := Aside0.mk hbyn
        have HB := Aside0.mk HBn
        clear HBn hbgn hbxn hbyn
        have xg0 : w15q.cell? ⟨gg, 0, none⟩ = some (.float .f64 lv) := (blk_cell hbg.out 0).trans rfl
        have fg0 := blk_frozen hbg.out 0
        have xg1 : w15q.cell? ⟨gg, 1, none⟩ = some (.float .f64 mo) := (blk_cell hbg.out 1).trans rfl
        have fg1 := blk_frozen hbg.out 1
        have xg2 : w15q.cell? ⟨gg, 2, none⟩ = some (.float .f64 ro) := (blk_cell hbg.out 2).trans rfl
        have fg2 := blk_frozen hbg.out 2
        have xg3 : w15q.cell? ⟨gg, 3, none⟩ = some (.int .u32 la) := (blk_cell hbg.out 3).trans rfl
        have fg3 := blk_frozen hbg.out 3
        have xx0 : w15q.cell? ⟨gx, 0, none⟩ = some (.float .f64 lv) := (blk_cell hbx.out 0).trans rfl
        have fx0 := blk_frozen hbx.out 0
        have xx1 : w15q.cell? ⟨gx, 1, none⟩ = some (.float .f64 mo) := (blk_cell hbx.out 1).trans rfl
        have fx1 := blk_frozen hbx.out 1
        have xx2 : w15q.cell? ⟨gx, 2, none⟩ = some (.float .f64 ro) := (blk_cell hbx.out 2).trans rfl
        have fx2 := blk_frozen hbx.out 2
        have xx3 : w15q.cell? ⟨gx, 3, none⟩ = some (.int .u32 la) := (blk_cell hbx.out 3).trans rfl
        have fx3 := blk_frozen hbx.out 3
        have xy0 : w15q.cell? ⟨gy, 0, none⟩ = some (.float .f64 lv) := (blk_cell hby.out 0).trans rfl
        have fy0 := blk_frozen hby.out 0
        have xy1 : w15q.cell? ⟨gy, 1, none⟩ = some (.float .f64 mo) := (blk_cell hby.out 1).trans rfl
        have fy1 := blk_frozen hby.out 1
        have xy2 : w15q.cell? ⟨gy, 2, none⟩ = some (.float .f64 ro) := (blk_cell hby.out 2).trans rfl
        have fy2 := blk_frozen hby.out 2
        have xy3 : w15q.cell? ⟨gy, 3, none⟩ = some (.int .u32 la) := (blk_cell hby.out 3).trans rfl
        have fy3 := blk_frozen hby.out 3
        refine wpAnyH_done (by kernel_rfl) ?_ _
        go_wp2
        go_meet
        case rel => exact ⟨gx, gy, rfl, rfl, gex, gey, hnxg, hnyx, hnyg, hbg, hbx, hby, HB⟩
      · skip
        refine box_step (by rfl) (N := 6) rfl (cs := #[.float .f64 0, .float .f64 0, .float .f64 0, .int .u32 0]) (t := 52) (by go_simp; first | done | rfl | exact ⟨rfl, rfl⟩) ?_
        intro gy hgy w16q hby0 hb
        have gey := Aside0.mk (show w.heap.size ≤ gy from by rw [hgy]; exact below_size HB.out)
        have hnyg : gy ≠ gg := (by rw [hgy]; exact Nat.ne_of_gt (blk_lt hbg.out))
        have hnyx : gy ≠ gx := (by rw [hgy]; exact Nat.ne_of_gt (blk_lt hbx.out))
        have HBn := Aside0.mk (below_step HB.out hb)
        clear HB
        have HB := HBn
        clear HBn
        have hbgn := Aside0.mk ((hb.block gg (blk_lt hbg.out)).trans hbg.out)
        clear hbg xg0 fg0 xg1 fg1 xg2 fg2 xg3 fg3
        have hbg := hbgn
        clear hbgn
        have xg0 : w16q.cell? ⟨gg, 0, none⟩ = some (.float .f64 lv) := (blk_cell hbg.out 0).trans rfl
        have fg0 := blk_frozen hbg.out 0
        have xg1 : w16q.cell? ⟨gg, 1, none⟩ = some (.float .f64 mo) := (blk_cell hbg.out 1).trans rfl
        have fg1 := blk_frozen hbg.out 1
        have xg2 : w16q.cell? ⟨gg, 2, none⟩ = some (.float .f64 ro) := (blk_cell hbg.out 2).trans rfl
        have fg2 := blk_frozen hbg.out 2
        have xg3 : w16q.cell? ⟨gg, 3, none⟩ = some (.int .u32 la) := (blk_cell hbg.out 3).trans rfl
        have fg3 := blk_frozen hbg.out 3
        have hbxn := Aside0.mk ((hb.block gx (blk_lt hbx.out)).trans hbx.out)
        clear hbx xx0 fx0 xx1 fx1 xx2 fx2 xx3 fx3
        have hbx := hbxn
        clear hbxn
        have xx0 : w16q.cell? ⟨gx, 0, none⟩ = some (.float .f64 0) := (blk_cell hbx.out 0).trans rfl
        have fx0 := blk_frozen hbx.out 0
        have xx1 : w16q.cell? ⟨gx, 1, none⟩ = some (.float .f64 0) := (blk_cell hbx.out 1).trans rfl
        have fx1 := blk_frozen hbx.out 1
        have xx2 : w16q.cell? ⟨gx, 2, none⟩ = some (.float .f64 0) := (blk_cell hbx.out 2).trans rfl
        have fx2 := blk_frozen hbx.out 2
        have xx3 : w16q.cell? ⟨gx, 3, none⟩ = some (.int .u32 0) := (blk_cell hbx.out 3).trans rfl
        have fx3 := blk_frozen hbx.out 3
        have hby := Aside0.mk hby0
        clear hby0 hgy hb
        have xy0 : w16q.cell? ⟨gy, 0, none⟩ = some (.float .f64 0) := (blk_cell hby.out 0).trans rfl
        have fy0 := blk_frozen hby.out 0
        have xy1 : w16q.cell? ⟨gy, 1, none⟩ = some (.float .f64 0) := (blk_cell hby.out 1).trans rfl
        have fy1 := blk_frozen hby.out 1
        have xy2 : w16q.cell? ⟨gy, 2, none⟩ = some (.float .f64 0) := (blk_cell hby.out 2).trans rfl
        have fy2 := blk_frozen hby.out 2
        have xy3 : w16q.cell? ⟨gy, 3, none⟩ = some (.int .u32 0) := (blk_cell hby.out 3).trans rfl
        have fy3 := blk_frozen hby.out 3
        refine hK.out _ _ ?_ (fun hHeld => ?_)
        · exact ⟨xg0, xg1, xg2, xg3⟩
        clear hK K
        try simp only [Act.put, List.getElem_toArray, List.getElem_cons_zero, List.getElem_cons_succ, List.setIfInBounds_toArray, List.set_cons_zero, List.set_cons_succ]
        refine wpAnyH_ready (rs := [1]) (by kernel_rfl) (by simp) ?_
        refine AllReadyH.cons rfl (fun K hK => ?_) AllReadyH.nil
        go_simp
        go_wp2_with (go_at_call 28; (with_reducible refine (to_ _ _ _ _ _).mono ?_); rintro e w17q ⟨rfl, hb⟩; have HBn := Aside0.mk (below_step HB.out hb); clear HB; have HB := HBn; clear HBn; have hbgn := Aside0.mk ((hb.block gg (blk_lt hbg.out)).trans hbg.out); clear hbg xg0 fg0 xg1 fg1 xg2 fg2 xg3 fg3; have hbg := hbgn; clear hbgn; have xg0 : w17q.cell? ⟨gg, 0, none⟩ = some (.float .f64 lv) := (blk_cell hbg.out 0).trans rfl; have fg0 := blk_frozen hbg.out 0; have xg1 : w17q.cell? ⟨gg, 1, none⟩ = some (.float .f64 mo) := (blk_cell hbg.out 1).trans rfl; have fg1 := blk_frozen hbg.out 1; have xg2 : w17q.cell? ⟨gg, 2, none⟩ = some (.float .f64 ro) := (blk_cell hbg.out 2).trans rfl; have fg2 := blk_frozen hbg.out 2; have xg3 : w17q.cell? ⟨gg, 3, none⟩ = some (.int .u32 la) := (blk_cell hbg.out 3).trans rfl; have fg3 := blk_frozen hbg.out 3; have hbxn := Aside0.mk ((hb.block gx (blk_lt hbx.out)).trans hbx.out); clear hbx xx0 fx0 xx1 fx1 xx2 fx2 xx3 fx3; have hbx := hbxn; clear hbxn; have xx0 : w17q.cell? ⟨gx, 0, none⟩ = some (.float .f64 0) := (blk_cell hbx.out 0).trans rfl; have fx0 := blk_frozen hbx.out 0; have xx1 : w17q.cell? ⟨gx, 1, none⟩ = some (.float .f64 0) := (blk_cell hbx.out 1).trans rfl; have fx1 := blk_frozen hbx.out 1; have xx2 : w17q.cell? ⟨gx, 2, none⟩ = some (.float .f64 0) := (blk_cell hbx.out 2).trans rfl; have fx2 := blk_frozen hbx.out 2; have xx3 : w17q.cell? ⟨gx, 3, none⟩ = some (.int .u32 0) := (blk_cell hbx.out 3).trans rfl; have fx3 := blk_frozen hbx.out 3; have hbyn := Aside0.mk ((hb.block gy (blk_lt hby.out)).trans hby.out); clear hby xy0 fy0 xy1 fy1 xy2 fy2 xy3 fy3; have hby := hbyn; clear hbyn; have xy0 : w17q.cell? ⟨gy, 0, none⟩ = some (.float .f64 0) := (blk_cell hby.out 0).trans rfl; have fy0 := blk_frozen hby.out 0; have xy1 : w17q.cell? ⟨gy, 1, none⟩ = some (.float .f64 0) := (blk_cell hby.out 1).trans rfl; have fy1 := blk_frozen hby.out 1; have xy2 : w17q.cell? ⟨gy, 2, none⟩ = some (.float .f64 0) := (blk_cell hby.out 2).trans rfl; have fy2 := blk_frozen hby.out 2; have xy3 : w17q.cell? ⟨gy, 3, none⟩ = some (.int .u32 0) := (blk_cell hby.out 3).trans rfl; have fy3 := blk_frozen hby.out 3; clear hb)
        refine hK.out _ _ ?_ (fun hHeld => ?_)
        · exact ⟨xg0, xg1, xg2, xg3⟩
        clear hK K
        try simp only [Act.put, List.getElem_toArray, List.getElem_cons_zero, List.getElem_cons_succ, List.setIfInBounds_toArray, List.set_cons_zero, List.set_cons_succ]
        refine wpAnyH_ready (rs := [5]) (by kernel_rfl) (by simp) ?_
        refine AllReadyH.cons rfl (fun K hK => ?_) AllReadyH.nil
        go_simp
        refine hK.out _ _ ?_ (fun hHeld => ?_)
        · exact ⟨(far4 hnxg).trans xg0, (far4 hnxg).trans xg1, (far4 hnxg).trans xg2, (far4 hnxg).trans xg3⟩
        clear hK K
        try simp only [Act.put, List.getElem_toArray, List.getElem_cons_zero, List.getElem_cons_succ, List.setIfInBounds_toArray, List.set_cons_zero, List.set_cons_succ]
        have hbgn : ((((w17q.setCell ⟨gx, 0, none⟩ (.float .f64 lv)).setCell ⟨gx, 1, none⟩ (.float .f64 mo)).setCell ⟨gx, 2, none⟩ (.float .f64 ro)).setCell ⟨gx, 3, none⟩ (.int .u32 la)).heap[gg]? = some (.cells #[.float .f64 lv, .float .f64 mo, .float .f64 ro, .int .u32 la] 52 (0, 0)) := (blk_far (blk_far (blk_far (blk_far hbg.out (fun e => hnxg e.symm) _) (fun e => hnxg e.symm) _) (fun e => hnxg e.symm) _) (fun e => hnxg e.symm) _)
        have hbxn : ((((w17q.setCell ⟨gx, 0, none⟩ (.float .f64 lv)).setCell ⟨gx, 1, none⟩ (.float .f64 mo)).setCell ⟨gx, 2, none⟩ (.float .f64 ro)).setCell ⟨gx, 3, none⟩ (.int .u32 la)).heap[gx]? = some (.cells #[.float .f64 lv, .float .f64 mo, .float .f64 ro, .int .u32 la] 54 (0, 0)) := (blk_set (blk_set (blk_set (blk_set hbx.out 0 _) 1 _) 2 _) 3 _)
        have hbyn : ((((w17q.setCell ⟨gx, 0, none⟩ (.float .f64 lv)).setCell ⟨gx, 1, none⟩ (.float .f64 mo)).setCell ⟨gx, 2, none⟩ (.float .f64 ro)).setCell ⟨gx, 3, none⟩ (.int .u32 la)).heap[gy]? = some (.cells #[.float .f64 0, .float .f64 0, .float .f64 0, .int .u32 0] 52 (0, 0)) := (blk_far (blk_far (blk_far (blk_far hby.out hnyx _) hnyx _) hnyx _) hnyx _)
        have HBn : Below w.heap.size w ((((w17q.setCell ⟨gx, 0, none⟩ (.float .f64 lv)).setCell ⟨gx, 1, none⟩ (.float .f64 mo)).setCell ⟨gx, 2, none⟩ (.float .f64 ro)).setCell ⟨gx, 3, none⟩ (.int .u32 la)) := (below_set (below_set (below_set (below_set HB.out gex.out) gex.out) gex.out) gex.out)
        clear HB hbg hbx hby xg0 fg0 xg1 fg1 xg2 fg2 xg3 fg3 xx0 fx0 xx1 fx1 xx2 fx2 xx3 fx3 xy0 fy0 xy1 fy1 xy2 fy2 xy3 fy3
        generalize ((((w17q.setCell ⟨gx, 0, none⟩ (.float .f64 lv)).setCell ⟨gx, 1, none⟩ (.float .f64 mo)).setCell ⟨gx, 2, none⟩ (.float .f64 ro)).setCell ⟨gx, 3, none⟩ (.int .u32 la)) = w18q at *
        have hbg := Aside0.mk hbgn
        have hbx := Aside0.mk hbxn
        have hby := Aside0.mk hbyn
        have HB := Aside0.mk HBn
        clear HBn hbgn hbxn hbyn
        have xg0 : w18q.cell? ⟨gg, 0, none⟩ = some (.float .f64 lv) := (blk_cell hbg.out 0).trans rfl
        have fg0 := blk_frozen hbg.out 0
        have xg1 : w18q.cell? ⟨gg, 1, none⟩ = some (.float .f64 mo) := (blk_cell hbg.out 1).trans rfl
        have fg1 := blk_frozen hbg.out 1
        have xg2 : w18q.cell? ⟨gg, 2, none⟩ = some (.float .f64 ro) := (blk_cell hbg.out 2).trans rfl
        have fg2 := blk_frozen hbg.out 2
        have xg3 : w18q.cell? ⟨gg, 3, none⟩ = some (.int .u32 la) := (blk_cell hbg.out 3).trans rfl
        have fg3 := blk_frozen hbg.out 3
        have xx0 : w18q.cell? ⟨gx, 0, none⟩ = some (.float .f64 lv) := (blk_cell hbx.out 0).trans rfl
        have fx0 := blk_frozen hbx.out 0
        have xx1 : w18q.cell? ⟨gx, 1, none⟩ = some (.float .f64 mo) := (blk_cell hbx.out 1).trans rfl
        have fx1 := blk_frozen hbx.out 1
        have xx2 : w18q.cell? ⟨gx, 2, none⟩ = some (.float .f64 ro) := (blk_cell hbx.out 2).trans rfl
        have fx2 := blk_frozen hbx.out 2
        have xx3 : w18q.cell? ⟨gx, 3, none⟩ = some (.int .u32 la) := (blk_cell hbx.out 3).trans rfl
        have fx3 := blk_frozen hbx.out 3
        have xy0 : w18q.cell? ⟨gy, 0, none⟩ = some (.float .f64 0) := (blk_cell hby.out 0).trans rfl
        have fy0 := blk_frozen hby.out 0
        have xy1 : w18q.cell? ⟨gy, 1, none⟩ = some (.float .f64 0) := (blk_cell hby.out 1).trans rfl
        have fy1 := blk_frozen hby.out 1
        have xy2 : w18q.cell? ⟨gy, 2, none⟩ = some (.float .f64 0) := (blk_cell hby.out 2).trans rfl
        have fy2 := blk_frozen hby.out 2
        have xy3 : w18q.cell? ⟨gy, 3, none⟩ = some (.int .u32 0) := (blk_cell hby.out 3).trans rfl
        have fy3 := blk_frozen hby.out 3
        refine wpAnyH_ready (rs := [6]) (by kernel_rfl) (by simp) ?_
        refine AllReadyH.cons rfl (fun K hK => ?_) AllReadyH.nil
        go_simp
        refine hK.out _ _ ?_ (fun hHeld => ?_)
        · exact ⟨(far4 hnyg).trans xg0, (far4 hnyg).trans xg1, (far4 hnyg).trans xg2, (far4 hnyg).trans xg3⟩
        clear hK K
        try simp only [Act.put, List.getElem_toArray, List.getElem_cons_zero, List.getElem_cons_succ, List.setIfInBounds_toArray, List.set_cons_zero, List.set_cons_succ]
        have hbgn : ((((w18q.setCell ⟨gy, 0, none⟩ (.float .f64 lv)).setCell ⟨gy, 1, none⟩ (.float .f64 mo)).setCell ⟨gy, 2, none⟩ (.float .f64 ro)).setCell ⟨gy, 3, none⟩ (.int .u32 la)).heap[gg]? = some (.cells #[.float .f64 lv, .float .f64 mo, .float .f64 ro, .int .u32 la] 52 (0, 0)) := (blk_far (blk_far (blk_far (blk_far hbg.out (fun e => hnyg e.symm) _) (fun e => hnyg e.symm) _) (fun e => hnyg e.symm) _) (fun e => hnyg e.symm) _)
        have hbxn : ((((w18q.setCell ⟨gy, 0, none⟩ (.float .f64 lv)).setCell ⟨gy, 1, none⟩ (.float .f64 mo)).setCell ⟨gy, 2, none⟩ (.float .f64 ro)).setCell ⟨gy, 3, none⟩ (.int .u32 la)).heap[gx]? = some (.cells #[.float .f64 lv, .float .f64 mo, .float .f64 ro, .int .u32 la] 54 (0, 0)) := (blk_far (blk_far (blk_far (blk_far hbx.out (fun e => hnyx e.symm) _) (fun e => hnyx e.symm) _) (fun e => hnyx e.symm) _) (fun e => hnyx e.symm) _)
        have hbyn : ((((w18q.setCell ⟨gy, 0, none⟩ (.float .f64 lv)).setCell ⟨gy, 1, none⟩ (.float .f64 mo)).setCell ⟨gy, 2, none⟩ (.float .f64 ro)).setCell ⟨gy, 3, none⟩ (.int .u32 la)).heap[gy]? = some (.cells #[.float .f64 lv, .float .f64 mo, .float .f64 ro, .int .u32 la] 52 (0, 0)) := (blk_set (blk_set (blk_set (blk_set hby.out 0 _) 1 _) 2 _) 3 _)
        have HBn : Below w.heap.size w ((((w18q.setCell ⟨gy, 0, none⟩ (.float .f64 lv)).setCell ⟨gy, 1, none⟩ (.float .f64 mo)).setCell ⟨gy, 2, none⟩ (.float .f64 ro)).setCell ⟨gy, 3, none⟩ (.int .u32 la)) := (below_set (below_set (below_set (below_set HB.out gey.out) gey.out) gey.out) gey.out)
        clear HB hbg hbx hby xg0 fg0 xg1 fg1 xg2 fg2 xg3 fg3 xx0 fx0 xx1 fx1 xx2 fx2 xx3 fx3 xy0 fy0 xy1 fy1 xy2 fy2 xy3 fy3
        generalize ((((w18q.setCell ⟨gy, 0, none⟩ (.float .f64 lv)).setCell ⟨gy, 1, none⟩ (.float .f64 mo)).setCell ⟨gy, 2, none⟩ (.float .f64 ro)).setCell ⟨gy, 3, none⟩ (.int .u32 la)) = w19q at *
        have hbg := Aside0.mk hbgn
        have hbx := Aside0.mk hbxn
        have hby := Aside0.mk hbyn
        have HB := Aside0.mk HBn
        clear HBn hbgn hbxn hbyn
        have xg0 : w19q.cell? ⟨gg, 0, none⟩ = some (.float .f64 lv) := (blk_cell hbg.out 0).trans rfl
        have fg0 := blk_frozen hbg.out 0
        have xg1 : w19q.cell? ⟨gg, 1, none⟩ = some (.float .f64 mo) := (blk_cell hbg.out 1).trans rfl
        have fg1 := blk_frozen hbg.out 1
        have xg2 : w19q.cell? ⟨gg, 2, none⟩ = some (.float .f64 ro) := (blk_cell hbg.out 2).trans rfl
        have fg2 := blk_frozen hbg.out 2
        have xg3 : w19q.cell? ⟨gg, 3, none⟩ = some (.int .u32 la) := (blk_cell hbg.out 3).trans rfl
        have fg3 := blk_frozen hbg.out 3
        have xx0 : w19q.cell? ⟨gx, 0, none⟩ = some (.float .f64 lv) := (blk_cell hbx.out 0).trans rfl
        have fx0 := blk_frozen hbx.out 0
        have xx1 : w19q.cell? ⟨gx, 1, none⟩ = some (.float .f64 mo) := (blk_cell hbx.out 1).trans rfl
        have fx1 := blk_frozen hbx.out 1
        have xx2 : w19q.cell? ⟨gx, 2, none⟩ = some (.float .f64 ro) := (blk_cell hbx.out 2).trans rfl
        have fx2 := blk_frozen hbx.out 2
        have xx3 : w19q.cell? ⟨gx, 3, none⟩ = some (.int .u32 la) := (blk_cell hbx.out 3).trans rfl
        have fx3 := blk_frozen hbx.out 3
        have xy0 : w19q.cell? ⟨gy, 0, none⟩ = some (.float .f64 lv) := (blk_cell hby.out 0).trans rfl
        have fy0 := blk_frozen hby.out 0
        have xy1 : w19q.cell? ⟨gy, 1, none⟩ = some (.float .f64 mo) := (blk_cell hby.out 1).trans rfl
        have fy1 := blk_frozen hby.out 1
        have xy2 : w19q.cell? ⟨gy, 2, none⟩ = some (.float .f64 ro) := (blk_cell hby.out 2).trans rfl
        have fy2 := blk_frozen hby.out 2
        have xy3 : w19q.cell? ⟨gy, 3, none⟩ = some (.int .u32 la) := (blk_cell hby.out 3).trans rfl
        have fy3 := blk_frozen hby.out 3
        refine wpAnyH_done (by kernel_rfl) ?_ _
        go_wp2
        go_meet
        case rel => exact ⟨gx, gy, rfl, rfl, gex, gey, hnxg, hnyx, hnyg, hbg, hbx, hby, HB⟩
    · skip
      refine box_step (by rfl) (N := 6) rfl (cs := #[.float .f64 0, .float .f64 0, .float .f64 0, .int .u32 0]) (t := 52) (by go_simp; first | done | rfl | exact ⟨rfl, rfl⟩) ?_
      intro gy hgy w20q hby0 hb
      have gey := Aside0.mk (show w.heap.size ≤ gy from by rw [hgy]; exact below_size HB.out)
      have hnyg : gy ≠ gg := (by rw [hgy]; exact Nat.ne_of_gt (blk_lt hbg.out))
      have HBn := Aside0.mk (below_step HB.out hb)
      clear HB
      have HB := HBn
      clear HBn
      have hbgn := Aside0.mk ((hb.block gg (blk_lt hbg.out)).trans hbg.out)
      clear hbg xg0 fg0 xg1 fg1 xg2 fg2 xg3 fg3
      have hbg := hbgn
      clear hbgn
      have xg0 : w20q.cell? ⟨gg, 0, none⟩ = some (.float .f64 lv) := (blk_cell hbg.out 0).trans rfl
      have fg0 := blk_frozen hbg.out 0
      have xg1 : w20q.cell? ⟨gg, 1, none⟩ = some (.float .f64 mo) := (blk_cell hbg.out 1).trans rfl
      have fg1 := blk_frozen hbg.out 1
      have xg2 : w20q.cell? ⟨gg, 2, none⟩ = some (.float .f64 ro) := (blk_cell hbg.out 2).trans rfl
      have fg2 := blk_frozen hbg.out 2
      have xg3 : w20q.cell? ⟨gg, 3, none⟩ = some (.int .u32 la) := (blk_cell hbg.out 3).trans rfl
      have fg3 := blk_frozen hbg.out 3
      have hby := Aside0.mk hby0
      clear hby0 hgy hb
      have xy0 : w20q.cell? ⟨gy, 0, none⟩ = some (.float .f64 0) := (blk_cell hby.out 0).trans rfl
      have fy0 := blk_frozen hby.out 0
      have xy1 : w20q.cell? ⟨gy, 1, none⟩ = some (.float .f64 0) := (blk_cell hby.out 1).trans rfl
      have fy1 := blk_frozen hby.out 1
      have xy2 : w20q.cell? ⟨gy, 2, none⟩ = some (.float .f64 0) := (blk_cell hby.out 2).trans rfl
      have fy2 := blk_frozen hby.out 2
      have xy3 : w20q.cell? ⟨gy, 3, none⟩ = some (.int .u32 0) := (blk_cell hby.out 3).trans rfl
      have fy3 := blk_frozen hby.out 3
      refine hK.out _ _ ?_ (fun hHeld => ?_)
      · exact ⟨xg0, xg1, xg2, xg3⟩
      clear hK K
      try simp only [Act.put, List.getElem_toArray, List.getElem_cons_zero, List.getElem_cons_succ, List.setIfInBounds_toArray, List.set_cons_zero, List.set_cons_succ]
      refine wpAnyH_ready (rs := [1, 3]) (by kernel_rfl) (by simp) ?_
      refine AllReadyH.cons rfl (fun K hK => ?_) (AllReadyH.cons rfl (fun K hK => ?_) AllReadyH.nil)
      · skip
        go_simp
        go_wp2_with (go_at_call 28; (with_reducible refine (to_ _ _ _ _ _).mono ?_); rintro e w21q ⟨rfl, hb⟩; have HBn := Aside0.mk (below_step HB.out hb); clear HB; have HB := HBn; clear HBn; have hbgn := Aside0.mk ((hb.block gg (blk_lt hbg.out)).trans hbg.out); clear hbg xg0 fg0 xg1 fg1 xg2 fg2 xg3 fg3; have hbg := hbgn; clear hbgn; have xg0 : w21q.cell? ⟨gg, 0, none⟩ = some (.float .f64 lv) := (blk_cell hbg.out 0).trans rfl; have fg0 := blk_frozen hbg.out 0; have xg1 : w21q.cell? ⟨gg, 1, none⟩ = some (.float .f64 mo) := (blk_cell hbg.out 1).trans rfl; have fg1 := blk_frozen hbg.out 1; have xg2 : w21q.cell? ⟨gg, 2, none⟩ = some (.float .f64 ro) := (blk_cell hbg.out 2).trans rfl; have fg2 := blk_frozen hbg.out 2; have xg3 : w21q.cell? ⟨gg, 3, none⟩ = some (.int .u32 la) := (blk_cell hbg.out 3).trans rfl; have fg3 := blk_frozen hbg.out 3; have hbyn := Aside0.mk ((hb.block gy (blk_lt hby.out)).trans hby.out); clear hby xy0 fy0 xy1 fy1 xy2 fy2 xy3 fy3; have hby := hbyn; clear hbyn; have xy0 : w21q.cell? ⟨gy, 0, none⟩ = some (.float .f64 0) := (blk_cell hby.out 0).trans rfl; have fy0 := blk_frozen hby.out 0; have xy1 : w21q.cell? ⟨gy, 1, none⟩ = some (.float .f64 0) := (blk_cell hby.out 1).trans rfl; have fy1 := blk_frozen hby.out 1; have xy2 : w21q.cell? ⟨gy, 2, none⟩ = some (.float .f64 0) := (blk_cell hby.out 2).trans rfl; have fy2 := blk_frozen hby.out 2; have xy3 : w21q.cell? ⟨gy, 3, none⟩ = some (.int .u32 0) := (blk_cell hby.out 3).trans rfl; have fy3 := blk_frozen hby.out 3; clear hb)
        refine hK.out _ _ ?_ (fun hHeld => ?_)
        · exact ⟨xg0, xg1, xg2, xg3⟩
        clear hK K
        try simp only [Act.put, List.getElem_toArray, List.getElem_cons_zero, List.getElem_cons_succ, List.setIfInBounds_toArray, List.set_cons_zero, List.set_cons_succ]
        refine wpAnyH_ready (rs := [3]) (by kernel_rfl) (by simp) ?_
        refine AllReadyH.cons rfl (fun K hK => ?_) AllReadyH.nil
        refine box_step (by rfl) (N := 5) rfl (cs := #[.float .f64 0, .float .f64 0, .float .f64 0, .int .u32 0]) (t := 54) (by go_simp; first | done | rfl | exact ⟨rfl, rfl⟩) ?_
        intro gx hgx w22q hbx0 hb
        have gex := Aside0.mk (show w.heap.size ≤ gx from by rw [hgx]; exact below_size HB.out)
        have hnxg : gx ≠ gg := (by rw [hgx]; exact Nat.ne_of_gt (blk_lt hbg.out))
        have hnyx : gy ≠ gx := (by rw [hgx]; exact Nat.ne_of_lt (blk_lt hby.out))
        have HBn := Aside0.mk (below_step HB.out hb)
        clear HB
        have HB := HBn
        clear HBn
        have hbgn := Aside0.mk ((hb.block gg (blk_lt hbg.out)).trans hbg.out)
        clear hbg xg0 fg0 xg1 fg1 xg2 fg2 xg3 fg3
        have hbg := hbgn
        clear hbgn
        have xg0 : w22q.cell? ⟨gg, 0, none⟩ = some (.float .f64 lv) := (blk_cell hbg.out 0).trans rfl
        have fg0 := blk_frozen hbg.out 0
        have xg1 : w22q.cell? ⟨gg, 1, none⟩ = some (.float .f64 mo) := (blk_cell hbg.out 1).trans rfl
        have fg1 := blk_frozen hbg.out 1
        have xg2 : w22q.cell? ⟨gg, 2, none⟩ = some (.float .f64 ro) := (blk_cell hbg.out 2).trans rfl
        have fg2 := blk_frozen hbg.out 2
        have xg3 : w22q.cell? ⟨gg, 3, none⟩ = some (.int .u32 la) := (blk_cell hbg.out 3).trans rfl
        have fg3 := blk_frozen hbg.out 3
        have hbyn := Aside0.mk ((hb.block gy (blk_lt hby.out)).trans hby.out)
        clear hby xy0 fy0 xy1 fy1 xy2 fy2 xy3 fy3
        have hby := hbyn
        clear hbyn
        have xy0 : w22q.cell? ⟨gy, 0, none⟩ = some (.float .f64 0) := (blk_cell hby.out 0).trans rfl
        have fy0 := blk_frozen hby.out 0
        have xy1 : w22q.cell? ⟨gy, 1, none⟩ = some (.float .f64 0) := (blk_cell hby.out 1).trans rfl
        have fy1 := blk_frozen hby.out 1
        have xy2 : w22q.cell? ⟨gy, 2, none⟩ = some (.float .f64 0) := (blk_cell hby.out 2).trans rfl
        have fy2 := blk_frozen hby.out 2
        have xy3 : w22q.cell? ⟨gy, 3, none⟩ = some (.int .u32 0) := (blk_cell hby.out 3).trans rfl
        have fy3 := blk_frozen hby.out 3
        have hbx := Aside0.mk hbx0
        clear hbx0 hgx hb
        have xx0 : w22q.cell? ⟨gx, 0, none⟩ = some (.float .f64 0) := (blk_cell hbx.out 0).trans rfl
        have fx0 := blk_frozen hbx.out 0
        have xx1 : w22q.cell? ⟨gx, 1, none⟩ = some (.float .f64 0) := (blk_cell hbx.out 1).trans rfl
        have fx1 := blk_frozen hbx.out 1
        have xx2 : w22q.cell? ⟨gx, 2, none⟩ = some (.float .f64 0) := (blk_cell hbx.out 2).trans rfl
        have fx2 := blk_frozen hbx.out 2
        have xx3 : w22q.cell? ⟨gx, 3, none⟩ = some (.int .u32 0) := (blk_cell hbx.out 3).trans rfl
        have fx3 := blk_frozen hbx.out 3
        refine hK.out _ _ ?_ (fun hHeld => ?_)
        · exact ⟨xg0, xg1, xg2, xg3⟩
        clear hK K
        try simp only [Act.put, List.getElem_toArray, List.getElem_cons_zero, List.getElem_cons_succ, List.setIfInBounds_toArray, List.set_cons_zero, List.set_cons_succ]
        refine wpAnyH_ready (rs := [5]) (by kernel_rfl) (by simp) ?_
        refine AllReadyH.cons rfl (fun K hK => ?_) AllReadyH.nil
        go_simp
        refine hK.out _ _ ?_ (fun hHeld => ?_)
        · exact ⟨(far4 hnxg).trans xg0, (far4 hnxg).trans xg1, (far4 hnxg).trans xg2, (far4 hnxg).trans xg3⟩
        clear hK K
        try simp only [Act.put, List.getElem_toArray, List.getElem_cons_zero, List.getElem_cons_succ, List.setIfInBounds_toArray, List.set_cons_zero, List.set_cons_succ]
        have hbgn : ((((w22q.setCell ⟨gx, 0, none⟩ (.float .f64 lv)).setCell ⟨gx, 1, none⟩ (.float .f64 mo)).setCell ⟨gx, 2, none⟩ (.float .f64 ro)).setCell ⟨gx, 3, none⟩ (.int .u32 la)).heap[gg]? = some (.cells #[.float .f64 lv, .float .f64 mo, .float .f64 ro, .int .u32 la] 52 (0, 0)) := (blk_far (blk_far (blk_far (blk_far hbg.out (fun e => hnxg e.symm) _) (fun e => hnxg e.symm) _) (fun e => hnxg e.symm) _) (fun e => hnxg e.symm) _)
        have hbyn : ((((w22q.setCell ⟨gx, 0, none⟩ (.float .f64 lv)).setCell ⟨gx, 1, none⟩ (.float .f64 mo)).setCell ⟨gx, 2, none⟩ (.float .f64 ro)).setCell ⟨gx, 3, none⟩ (.int .u32 la)).heap[gy]? = some (.cells #[.float .f64 0, .float .f64 0, .float .f64 0, .int .u32 0] 52 (0, 0)) := (blk_far (blk_far (blk_far (blk_far hby.out hnyx _) hnyx _) hnyx _) hnyx _)
        have hbxn : ((((w22q.setCell ⟨gx, 0, none⟩ (.float .f64 lv)).setCell ⟨gx, 1, none⟩ (.float .f64 mo)).setCell ⟨gx, 2, none⟩ (.float .f64 ro)).setCell ⟨gx, 3, none⟩ (.int .u32 la)).heap[gx]? = some (.cells #[.float .f64 lv, .float .f64 mo, .float .f64 ro, .int .u32 la] 54 (0, 0)) := (blk_set (blk_set (blk_set (blk_set hbx.out 0 _) 1 _) 2 _) 3 _)
        have HBn : Below w.heap.size w ((((w22q.setCell ⟨gx, 0, none⟩ (.float .f64 lv)).setCell ⟨gx, 1, none⟩ (.float .f64 mo)).setCell ⟨gx, 2, none⟩ (.float .f64 ro)).setCell ⟨gx, 3, none⟩ (.int .u32 la)) := (below_set (below_set (below_set (below_set HB.out gex.out) gex.out) gex.out) gex.out)
        clear HB hbg hby hbx xg0 fg0 xg1 fg1 xg2 fg2 xg3 fg3 xy0 fy0 xy1 fy1 xy2 fy2 xy3 fy3 xx0 fx0 xx1 fx1 xx2 fx2 xx3 fx3
        generalize ((((w22q.setCell ⟨gx, 0, none⟩ (.float .f64 lv)).setCell ⟨gx, 1, none⟩ (.float .f64 mo)).setCell ⟨gx, 2, none⟩ (.float .f64 ro)).setCell ⟨gx, 3, none⟩ (.int .u32 la)) = w23q at *
        have hbg := Aside0.mk hbgn
        have hby := Aside0.mk hbyn
        have hbx := Aside0.mk hbxn
        have HB := Aside0.mk HBn
        clear HBn hbgn hbyn hbxn
        have xg0 : w23q.cell? ⟨gg, 0, none⟩ = some (.float .f64 lv) := (blk_cell hbg.out 0).trans rfl
        have fg0 := blk_frozen hbg.out 0
        have xg1 : w23q.cell? ⟨gg, 1, none⟩ = some (.float .f64 mo) := (blk_cell hbg.out 1).trans rfl
        have fg1 := blk_frozen hbg.out 1
        have xg2 : w23q.cell? ⟨gg, 2, none⟩ = some (.float .f64 ro) := (blk_cell hbg.out 2).trans rfl
        have fg2 := blk_frozen hbg.out 2
        have xg3 : w23q.cell? ⟨gg, 3, none⟩ = some (.int .u32 la) := (blk_cell hbg.out 3).trans rfl
        have fg3 := blk_frozen hbg.out 3
        have xy0 : w23q.cell? ⟨gy, 0, none⟩ = some (.float .f64 0) := (blk_cell hby.out 0).trans rfl
        have fy0 := blk_frozen hby.out 0
        have xy1 : w23q.cell? ⟨gy, 1, none⟩ = some (.float .f64 0) := (blk_cell hby.out 1).trans rfl
        have fy1 := blk_frozen hby.out 1
        have xy2 : w23q.cell? ⟨gy, 2, none⟩ = some (.float .f64 0) := (blk_cell hby.out 2).trans rfl
        have fy2 := blk_frozen hby.out 2
        have xy3 : w23q.cell? ⟨gy, 3, none⟩ = some (.int .u32 0) := (blk_cell hby.out 3).trans rfl
        have fy3 := blk_frozen hby.out 3
        have xx0 : w23q.cell? ⟨gx, 0, none⟩ = some (.float .f64 lv) := (blk_cell hbx.out 0).trans rfl
        have fx0 := blk_frozen hbx.out 0
        have xx1 : w23q.cell? ⟨gx, 1, none⟩ = some (.float .f64 mo) := (blk_cell hbx.out 1).trans rfl
        have fx1 := blk_frozen hbx.out 1
        have xx2 : w23q.cell? ⟨gx, 2, none⟩ = some (.float .f64 ro) := (blk_cell hbx.out 2).trans rfl
        have fx2 := blk_frozen hbx.out 2
        have xx3 : w23q.cell? ⟨gx, 3, none⟩ = some (.int .u32 la) := (blk_cell hbx.out 3).trans rfl
        have fx3 := blk_frozen hbx.out 3
        refine wpAnyH_ready (rs := [6]) (by kernel_rfl) (by simp) ?_
        refine AllReadyH.cons rfl (fun K hK => ?_) AllReadyH.nil
        go_simp
        refine hK.out _ _ ?_ (fun hHeld => ?_)
        · exact ⟨(far4 hnyg).trans xg0, (far4 hnyg).trans xg1, (far4 hnyg).trans xg2, (far4 hnyg).trans xg3⟩
        clear hK K
        try simp only [Act.put, List.getElem_toArray, List.getElem_cons_zero, List.getElem_cons_succ, List.setIfInBounds_toArray, List.set_cons_zero, List.set_cons_succ]
        have hbgn : ((((w23q.setCell ⟨gy, 0, none⟩ (.float .f64 lv)).setCell ⟨gy, 1, none⟩ (.float .f64 mo)).setCell ⟨gy, 2, none⟩ (.float .f64 ro)).setCell ⟨gy, 3, none⟩ (.int .u32 la)).heap[gg]? = some (.cells #[.float .f64 lv, .float .f64 mo, .float .f64 ro, .int .u32 la] 52 (0, 0)) := (blk_far (blk_far (blk_far (blk_far hbg.out (fun e => hnyg e.symm) _) (fun e => hnyg e.symm) _) (fun e => hnyg e.symm) _) (fun e => hnyg e.symm) _)
        have hbyn : ((((w23q.setCell ⟨gy, 0, none⟩ (.float .f64 lv)).setCell ⟨gy, 1, none⟩ (.float .f64 mo)).setCell ⟨gy, 2, none⟩ (.float .f64 ro)).setCell ⟨gy, 3, none⟩ (.int .u32 la)).heap[gy]? = some (.cells #[.float .f64 lv, .float .f64 mo, .float .f64 ro, .int .u32 la] 52 (0, 0)) := (blk_set (blk_set (blk_set (blk_set hby.out 0 _) 1 _) 2 _) 3 _)
        have hbxn : ((((w23q.setCell ⟨gy, 0, none⟩ (.float .f64 lv)).setCell ⟨gy, 1, none⟩ (.float .f64 mo)).setCell ⟨gy, 2, none⟩ (.float .f64 ro)).setCell ⟨gy, 3, none⟩ (.int .u32 la)).heap[gx]? = some (.cells #[.float .f64 lv, .float .f64 mo, .float .f64 ro, .int .u32 la] 54 (0, 0)) := (blk_far (blk_far (blk_far (blk_far hbx.out (fun e => hnyx e.symm) _) (fun e => hnyx e.symm) _) (fun e => hnyx e.symm) _) (fun e => hnyx e.symm) _)
        have HBn : Below w.heap.size w ((((w23q.setCell ⟨gy, 0, none⟩ (.float .f64 lv)).setCell ⟨gy, 1, none⟩ (.float .f64 mo)).setCell ⟨gy, 2, none⟩ (.float .f64 ro)).setCell ⟨gy, 3, none⟩ (.int .u32 la)) := (below_set (below_set (below_set (below_set HB.out gey.out) gey.out) gey.out) gey.out)
        clear HB hbg hby hbx xg0 fg0 xg1 fg1 xg2 fg2 xg3 fg3 xy0 fy0 xy1 fy1 xy2 fy2 xy3 fy3 xx0 fx0 xx1 fx1 xx2 fx2 xx3 fx3
        generalize ((((w23q.setCell ⟨gy, 0, none⟩ (.float .f64 lv)).setCell ⟨gy, 1, none⟩ (.float .f64 mo)).setCell ⟨gy, 2, none⟩ (.float .f64 ro)).setCell ⟨gy, 3, none⟩ (.int .u32 la)) = w24q at *
        have hbg := Aside0.mk hbgn
        have hby := Aside0.mk hbyn
        have hbx := Aside0.mk hbxn
        have HB := Aside0.mk HBn
        clear HBn hbgn hbyn hbxn
        have xg0 : w24q.cell? ⟨gg, 0, none⟩ = some (.float .f64 lv) := (blk_cell hbg.out 0).trans rfl
        have fg0 := blk_frozen hbg.out 0
        have xg1 : w24q.cell? ⟨gg, 1, none⟩ = some (.float .f64 mo) := (blk_cell hbg.out 1).trans rfl
        have fg1 := blk_frozen hbg.out 1
        have xg2 : w24q.cell? ⟨gg, 2, none⟩ = some (.float .f64 ro) := (blk_cell hbg.out 2).trans rfl
        have fg2 := blk_frozen hbg.out 2
        have xg3 : w24q.cell? ⟨gg, 3, none⟩ = some (.int .u32 la) := (blk_cell hbg.out 3).trans rfl
        have fg3 := blk_frozen hbg.out 3
        have xy0 : w24q.cell? ⟨gy, 0, none⟩ = some (.float .f64 lv) := (blk_cell hby.out 0).trans rfl
        have fy0 := blk_frozen hby.out 0
        have xy1 : w24q.cell? ⟨gy, 1, none⟩ = some (.float .f64 mo) := (blk_cell hby.out 1).trans rfl
        have fy1 := blk_frozen hby.out 1
        have xy2 : w24q.cell? ⟨gy, 2, none⟩ = some (.float .f64 ro) := (blk_cell hby.out 2).trans rfl
        have fy2 := blk_frozen hby.out 2
        have xy3 : w24q.cell? ⟨gy, 3, none⟩ = some (.int .u32 la) := (blk_cell hby.out 3).trans rfl
        have fy3 := blk_frozen hby.out 3
        have xx0 : w24q.cell? ⟨gx, 0, none⟩ = some (.float .f64 lv) := (blk_cell hbx.out 0).trans rfl
        have fx0 := blk_frozen hbx.out 0
        have xx1 : w24q.cell? ⟨gx, 1, none⟩ = some (.float .f64 mo) := (blk_cell hbx.out 1).trans rfl
        have fx1 := blk_frozen hbx.out 1
        have xx2 : w24q.cell? ⟨gx, 2, none⟩ = some (.float .f64 ro) := (blk_cell hbx.out 2).trans rfl
        have fx2 := blk_frozen hbx.out 2
        have xx3 : w24q.cell? ⟨gx, 3, none⟩ = some (.int .u32 la) := (blk_cell hbx.out 3).trans rfl
        have fx3 := blk_frozen hbx.out 3
        refine wpAnyH_done (by kernel_rfl) ?_ _
        go_wp2
        go_meet
        case rel => exact ⟨gx, gy, rfl, rfl, gex, gey, hnxg, hnyx, hnyg, hbg, hbx, hby, HB⟩
      · skip
        refine box_step (by rfl) (N := 5) rfl (cs := #[.float .f64 0, .float .f64 0, .float .f64 0, .int .u32 0]) (t := 54) (by go_simp; first | done | rfl | exact ⟨rfl, rfl⟩) ?_
        intro gx hgx w25q hbx0 hb
        have gex := Aside0.mk (show w.heap.size ≤ gx from by rw [hgx]; exact below_size HB.out)
        have hnxg : gx ≠ gg := (by rw [hgx]; exact Nat.ne_of_gt (blk_lt hbg.out))
        have hnyx : gy ≠ gx := (by rw [hgx]; exact Nat.ne_of_lt (blk_lt hby.out))
        have HBn := Aside0.mk (below_step HB.out hb)
        clear HB
        have HB := HBn
        clear HBn
        have hbgn := Aside0.mk ((hb.block gg (blk_lt hbg.out)).trans hbg.out)
        clear hbg xg0 fg0 xg1 fg1 xg2 fg2 xg3 fg3
        have hbg := hbgn
        clear hbgn
        have xg0 : w25q.cell? ⟨gg, 0, none⟩ = some (.float .f64 lv) := (blk_cell hbg.out 0).trans rfl
        have fg0 := blk_frozen hbg.out 0
        have xg1 : w25q.cell? ⟨gg, 1, none⟩ = some (.float .f64 mo) := (blk_cell hbg.out 1).trans rfl
        have fg1 := blk_frozen hbg.out 1
        have xg2 : w25q.cell? ⟨gg, 2, none⟩ = some (.float .f64 ro) := (blk_cell hbg.out 2).trans rfl
        have fg2 := blk_frozen hbg.out 2
        have xg3 : w25q.cell? ⟨gg, 3, none⟩ = some (.int .u32 la) := (blk_cell hbg.out 3).trans rfl
        have fg3 := blk_frozen hbg.out 3
        have hbyn := Aside0.mk ((hb.block gy (blk_lt hby.out)).trans hby.out)
        clear hby xy0 fy0 xy1 fy1 xy2 fy2 xy3 fy3
        have hby := hbyn
        clear hbyn
        have xy0 : w25q.cell? ⟨gy, 0, none⟩ = some (.float .f64 0) := (blk_cell hby.out 0).trans rfl
        have fy0 := blk_frozen hby.out 0
        have xy1 : w25q.cell? ⟨gy, 1, none⟩ = some (.float .f64 0) := (blk_cell hby.out 1).trans rfl
        have fy1 := blk_frozen hby.out 1
        have xy2 : w25q.cell? ⟨gy, 2, none⟩ = some (.float .f64 0) := (blk_cell hby.out 2).trans rfl
        have fy2 := blk_frozen hby.out 2
        have xy3 : w25q.cell? ⟨gy, 3, none⟩ = some (.int .u32 0) := (blk_cell hby.out 3).trans rfl
        have fy3 := blk_frozen hby.out 3
        have hbx := Aside0.mk hbx0
        clear hbx0 hgx hb
        have xx0 : w25q.cell? ⟨gx, 0, none⟩ = some (.float .f64 0) := (blk_cell hbx.out 0).trans rfl
        have fx0 := blk_frozen hbx.out 0
        have xx1 : w25q.cell? ⟨gx, 1, none⟩ = some (.float .f64 0) := (blk_cell hbx.out 1).trans rfl
        have fx1 := blk_frozen hbx.out 1
        have xx2 : w25q.cell? ⟨gx, 2, none⟩ = some (.float .f64 0) := (blk_cell hbx.out 2).trans rfl
        have fx2 := blk_frozen hbx.out 2
        have xx3 : w25q.cell? ⟨gx, 3, none⟩ = some (.int .u32 0) := (blk_cell hbx.out 3).trans rfl
        have fx3 := blk_frozen hbx.out 3
        refine hK.out _ _ ?_ (fun hHeld => ?_)
        · exact ⟨xg0, xg1, xg2, xg3⟩
        clear hK K
        try simp only [Act.put, List.getElem_toArray, List.getElem_cons_zero, List.getElem_cons_succ, List.setIfInBounds_toArray, List.set_cons_zero, List.set_cons_succ]
        refine wpAnyH_ready (rs := [1]) (by kernel_rfl) (by simp) ?_
        refine AllReadyH.cons rfl (fun K hK => ?_) AllReadyH.nil
        go_simp
        go_wp2_with (go_at_call 28; (with_reducible refine (to_ _ _ _ _ _).mono ?_); rintro e w26q ⟨rfl, hb⟩; have HBn := Aside0.mk (below_step HB.out hb); clear HB; have HB := HBn; clear HBn; have hbgn := Aside0.mk ((hb.block gg (blk_lt hbg.out)).trans hbg.out); clear hbg xg0 fg0 xg1 fg1 xg2 fg2 xg3 fg3; have hbg := hbgn; clear hbgn; have xg0 : w26q.cell? ⟨gg, 0, none⟩ = some (.float .f64 lv) := (blk_cell hbg.out 0).trans rfl; have fg0 := blk_frozen hbg.out 0; have xg1 : w26q.cell? ⟨gg, 1, none⟩ = some (.float .f64 mo) := (blk_cell hbg.out 1).trans rfl; have fg1 := blk_frozen hbg.out 1; have xg2 : w26q.cell? ⟨gg, 2, none⟩ = some (.float .f64 ro) := (blk_cell hbg.out 2).trans rfl; have fg2 := blk_frozen hbg.out 2; have xg3 : w26q.cell? ⟨gg, 3, none⟩ = some (.int .u32 la) := (blk_cell hbg.out 3).trans rfl; have fg3 := blk_frozen hbg.out 3; have hbyn := Aside0.mk ((hb.block gy (blk_lt hby.out)).trans hby.out); clear hby xy0 fy0 xy1 fy1 xy2 fy2 xy3 fy3; have hby := hbyn; clear hbyn; have xy0 : w26q.cell? ⟨gy, 0, none⟩ = some (.float .f64 0) := (blk_cell hby.out 0).trans rfl; have fy0 := blk_frozen hby.out 0; have xy1 : w26q.cell? ⟨gy, 1, none⟩ = some (.float .f64 0) := (blk_cell hby.out 1).trans rfl; have fy1 := blk_frozen hby.out 1; have xy2 : w26q.cell? ⟨gy, 2, none⟩ = some (.float .f64 0) := (blk_cell hby.out 2).trans rfl; have fy2 := blk_frozen hby.out 2; have xy3 : w26q.cell? ⟨gy, 3, none⟩ = some (.int .u32 0) := (blk_cell hby.out 3).trans rfl; have fy3 := blk_frozen hby.out 3; have hbxn := Aside0.mk ((hb.block gx (blk_lt hbx.out)).trans hbx.out); clear hbx xx0 fx0 xx1 fx1 xx2 fx2 xx3 fx3; have hbx := hbxn; clear hbxn; have xx0 : w26q.cell? ⟨gx, 0, none⟩ = some (.float .f64 0) := (blk_cell hbx.out 0).trans rfl; have fx0 := blk_frozen hbx.out 0; have xx1 : w26q.cell? ⟨gx, 1, none⟩ = some (.float .f64 0) := (blk_cell hbx.out 1).trans rfl; have fx1 := blk_frozen hbx.out 1; have xx2 : w26q.cell? ⟨gx, 2, none⟩ = some (.float .f64 0) := (blk_cell hbx.out 2).trans rfl; have fx2 := blk_frozen hbx.out 2; have xx3 : w26q.cell? ⟨gx, 3, none⟩ = some (.int .u32 0) := (blk_cell hbx.out 3).trans rfl; have fx3 := blk_frozen hbx.out 3; clear hb)
        refine hK.out _ _ ?_ (fun hHeld => ?_)
        · exact ⟨xg0, xg1, xg2, xg3⟩
        clear hK K
        try simp only [Act.put, List.getElem_toArray, List.getElem_cons_zero, List.getElem_cons_succ, List.setIfInBounds_toArray, List.set_cons_zero, List.set_cons_succ]
        refine wpAnyH_ready (rs := [5]) (by kernel_rfl) (by simp) ?_
        refine AllReadyH.cons rfl (fun K hK => ?_) AllReadyH.nil
        go_simp
        refine hK.out _ _ ?_ (fun hHeld => ?_)
        · exact ⟨(far4 hnxg).trans xg0, (far4 hnxg).trans xg1, (far4 hnxg).trans xg2, (far4 hnxg).trans xg3⟩
        clear hK K
        try simp only [Act.put, List.getElem_toArray, List.getElem_cons_zero, List.getElem_cons_succ, List.setIfInBounds_toArray, List.set_cons_zero, List.set_cons_succ]
        have hbgn : ((((w26q.setCell ⟨gx, 0, none⟩ (.float .f64 lv)).setCell ⟨gx, 1, none⟩ (.float .f64 mo)).setCell ⟨gx, 2, none⟩ (.float .f64 ro)).setCell ⟨gx, 3, none⟩ (.int .u32 la)).heap[gg]? = some (.cells #[.float .f64 lv, .float .f64 mo, .float .f64 ro, .int .u32 la] 52 (0, 0)) := (blk_far (blk_far (blk_far (blk_far hbg.out (fun e => hnxg e.symm) _) (fun e => hnxg e.symm) _) (fun e => hnxg e.symm) _) (fun e => hnxg e.symm) _)
        have hbyn : ((((w26q.setCell ⟨gx, 0, none⟩ (.float .f64 lv)).setCell ⟨gx, 1, none⟩ (.float .f64 mo)).setCell ⟨gx, 2, none⟩ (.float .f64 ro)).setCell ⟨gx, 3, none⟩ (.int .u32 la)).heap[gy]? = some (.cells #[.float .f64 0, .float .f64 0, .float .f64 0, .int .u32 0] 52 (0, 0)) := (blk_far (blk_far (blk_far (blk_far hby.out hnyx _) hnyx _) hnyx _) hnyx _)
        have hbxn : ((((w26q.setCell ⟨gx, 0, none⟩ (.float .f64 lv)).setCell ⟨gx, 1, none⟩ (.float .f64 mo)).setCell ⟨gx, 2, none⟩ (.float .f64 ro)).setCell ⟨gx, 3, none⟩ (.int .u32 la)).heap[gx]? = some (.cells #[.float .f64 lv, .float .f64 mo, .float .f64 ro, .int .u32 la] 54 (0, 0)) := (blk_set (blk_set (blk_set (blk_set hbx.out 0 _) 1 _) 2 _) 3 _)
        have HBn : Below w.heap.size w ((((w26q.setCell ⟨gx, 0, none⟩ (.float .f64 lv)).setCell ⟨gx, 1, none⟩ (.float .f64 mo)).setCell ⟨gx, 2, none⟩ (.float .f64 ro)).setCell ⟨gx, 3, none⟩ (.int .u32 la)) := (below_set (below_set (below_set (below_set HB.out gex.out) gex.out) gex.out) gex.out)
        clear HB hbg hby hbx xg0 fg0 xg1 fg1 xg2 fg2 xg3 fg3 xy0 fy0 xy1 fy1 xy2 fy2 xy3 fy3 xx0 fx0 xx1 fx1 xx2 fx2 xx3 fx3
        generalize ((((w26q.setCell ⟨gx, 0, none⟩ (.float .f64 lv)).setCell ⟨gx, 1, none⟩ (.float .f64 mo)).setCell ⟨gx, 2, none⟩ (.float .f64 ro)).setCell ⟨gx, 3, none⟩ (.int .u32 la)) = w27q at *
        have hbg := Aside0.mk hbgn
        have hby := Aside0.mk hbyn
        have hbx := Aside0.mk hbxn
        have HB := Aside0.mk HBn
        clear HBn hbgn hbyn hbxn
        have xg0 : w27q.cell? ⟨gg, 0, none⟩ = some (.float .f64 lv) := (blk_cell hbg.out 0).trans rfl
        have fg0 := blk_frozen hbg.out 0
        have xg1 : w27q.cell? ⟨gg, 1, none⟩ = some (.float .f64 mo) := (blk_cell hbg.out 1).trans rfl
        have fg1 := blk_frozen hbg.out 1
        have xg2 : w27q.cell? ⟨gg, 2, none⟩ = some (.float .f64 ro) := (blk_cell hbg.out 2).trans rfl
        have fg2 := blk_frozen hbg.out 2
        have xg3 : w27q.cell? ⟨gg, 3, none⟩ = some (.int .u32 la) := (blk_cell hbg.out 3).trans rfl
        have fg3 := blk_frozen hbg.out 3
        have xy0 : w27q.cell? ⟨gy, 0, none⟩ = some (.float .f64 0) := (blk_cell hby.out 0).trans rfl
        have fy0 := blk_frozen hby.out 0
        have xy1 : w27q.cell? ⟨gy, 1, none⟩ = some (.float .f64 0) := (blk_cell hby.out 1).trans rfl
        have fy1 := blk_frozen hby.out 1
        have xy2 : w27q.cell? ⟨gy, 2, none⟩ = some (.float .f64 0) := (blk_cell hby.out 2).trans rfl
        have fy2 := blk_frozen hby.out 2
        have xy3 : w27q.cell? ⟨gy, 3, none⟩ = some (.int .u32 0) := (blk_cell hby.out 3).trans rfl
        have fy3 := blk_frozen hby.out 3
        have xx0 : w27q.cell? ⟨gx, 0, none⟩ = some (.float .f64 lv) := (blk_cell hbx.out 0).trans rfl
        have fx0 := blk_frozen hbx.out 0
        have xx1 : w27q.cell? ⟨gx, 1, none⟩ = some (.float .f64 mo) := (blk_cell hbx.out 1).trans rfl
        have fx1 := blk_frozen hbx.out 1
        have xx2 : w27q.cell? ⟨gx, 2, none⟩ = some (.float .f64 ro) := (blk_cell hbx.out 2).trans rfl
        have fx2 := blk_frozen hbx.out 2
        have xx3 : w27q.cell? ⟨gx, 3, none⟩ = some (.int .u32 la) := (blk_cell hbx.out 3).trans rfl
        have fx3 := blk_frozen hbx.out 3
        refine wpAnyH_ready (rs := [6]) (by kernel_rfl) (by simp) ?_
        refine AllReadyH.cons rfl (fun K hK => ?_) AllReadyH.nil
        go_simp
        refine hK.out _ _ ?_ (fun hHeld => ?_)
        · exact ⟨(far4 hnyg).trans xg0, (far4 hnyg).trans xg1, (far4 hnyg).trans xg2, (far4 hnyg).trans xg3⟩
        clear hK K
        try simp only [Act.put, List.getElem_toArray, List.getElem_cons_zero, List.getElem_cons_succ, List.setIfInBounds_toArray, List.set_cons_zero, List.set_cons_succ]
        have hbgn : ((((w27q.setCell ⟨gy, 0, none⟩ (.float .f64 lv)).setCell ⟨gy, 1, none⟩ (.float .f64 mo)).setCell ⟨gy, 2, none⟩ (.float .f64 ro)).setCell ⟨gy, 3, none⟩ (.int .u32 la)).heap[gg]? = some (.cells #[.float .f64 lv, .float .f64 mo, .float .f64 ro, .int .u32 la] 52 (0, 0)) := (blk_far (blk_far (blk_far (blk_far hbg.out (fun e => hnyg e.symm) _) (fun e => hnyg e.symm) _) (fun e => hnyg e.symm) _) (fun e => hnyg e.symm) _)
        have hbyn : ((((w27q.setCell ⟨gy, 0, none⟩ (.float .f64 lv)).setCell ⟨gy, 1, none⟩ (.float .f64 mo)).setCell ⟨gy, 2, none⟩ (.float .f64 ro)).setCell ⟨gy, 3, none⟩ (.int .u32 la)).heap[gy]? = some (.cells #[.float .f64 lv, .float .f64 mo, .float .f64 ro, .int .u32 la] 52 (0, 0)) := (blk_set (blk_set (blk_set (blk_set hby.out 0 _) 1 _) 2 _) 3 _)
        have hbxn : ((((w27q.setCell ⟨gy, 0, none⟩ (.float .f64 lv)).setCell ⟨gy, 1, none⟩ (.float .f64 mo)).setCell ⟨gy, 2, none⟩ (.float .f64 ro)).setCell ⟨gy, 3, none⟩ (.int .u32 la)).heap[gx]? = some (.cells #[.float .f64 lv, .float .f64 mo, .float .f64 ro, .int .u32 la] 54 (0, 0)) := (blk_far (blk_far (blk_far (blk_far hbx.out (fun e => hnyx e.symm) _) (fun e => hnyx e.symm) _) (fun e => hnyx e.symm) _) (fun e => hnyx e.symm) _)
        have HBn : Below w.heap.size w ((((w27q.setCell ⟨gy, 0, none⟩ (.float .f64 lv)).setCell ⟨gy, 1, none⟩ (.float .f64 mo)).setCell ⟨gy, 2, none⟩ (.float .f64 ro)).setCell ⟨gy, 3, none⟩ (.int .u32 la)) := (below_set (below_set (below_set (below_set HB.out gey.out) gey.out) gey.out) gey.out)
        clear HB hbg hby hbx xg0 fg0 xg1 fg1 xg2 fg2 xg3 fg3 xy0 fy0 xy1 fy1 xy2 fy2 xy3 fy3 xx0 fx0 xx1 fx1 xx2 fx2 xx3 fx3
        generalize ((((w27q.setCell ⟨gy, 0, none⟩ (.float .f64 lv)).setCell ⟨gy, 1, none⟩ (.float .f64 mo)).setCell ⟨gy, 2, none⟩ (.float .f64 ro)).setCell ⟨gy, 3, none⟩ (.int .u32 la)) = w28q at *
        have hbg := Aside0.mk hbgn
        have hby := Aside0.mk hbyn
        have hbx := Aside0.mk hbxn
        have HB := Aside0.mk HBn
        clear HBn hbgn hbyn hbxn
        have xg0 : w28q.cell? ⟨gg, 0, none⟩ = some (.float .f64 lv) := (blk_cell hbg.out 0).trans rfl
        have fg0 := blk_frozen hbg.out 0
        have xg1 : w28q.cell? ⟨gg, 1, none⟩ = some (.float .f64 mo) := (blk_cell hbg.out 1).trans rfl
        have fg1 := blk_frozen hbg.out 1
        have xg2 : w28q.cell? ⟨gg, 2, none⟩ = some (.float .f64 ro) := (blk_cell hbg.out 2).trans rfl
        have fg2 := blk_frozen hbg.out 2
        have xg3 : w28q.cell? ⟨gg, 3, none⟩ = some (.int .u32 la) := (blk_cell hbg.out 3).trans rfl
        have fg3 := blk_frozen hbg.out 3
        have xy0 : w28q.cell? ⟨gy, 0, none⟩ = some (.float .f64 lv) := (blk_cell hby.out 0).trans rfl
        have fy0 := blk_frozen hby.out 0
        have xy1 : w28q.cell? ⟨gy, 1, none⟩ = some (.float .f64 mo) := (blk_cell hby.out 1).trans rfl
        have fy1 := blk_frozen hby.out 1
        have xy2 : w28q.cell? ⟨gy, 2, none⟩ = some (.float .f64 ro) := (blk_cell hby.out 2).trans rfl
        have fy2 := blk_frozen hby.out 2
        have xy3 : w28q.cell? ⟨gy, 3, none⟩ = some (.int .u32 la) := (blk_cell hby.out 3).trans rfl
        have fy3 := blk_frozen hby.out 3
        have xx0 : w28q.cell? ⟨gx, 0, none⟩ = some (.float .f64 lv) := (blk_cell hbx.out 0).trans rfl
        have fx0 := blk_frozen hbx.out 0
        have xx1 : w28q.cell? ⟨gx, 1, none⟩ = some (.float .f64 mo) := (blk_cell hbx.out 1).trans rfl
        have fx1 := blk_frozen hbx.out 1
        have xx2 : w28q.cell? ⟨gx, 2, none⟩ = some (.float .f64 ro) := (blk_cell hbx.out 2).trans rfl
        have fx2 := blk_frozen hbx.out 2
        have xx3 : w28q.cell? ⟨gx, 3, none⟩ = some (.int .u32 la) := (blk_cell hbx.out 3).trans rfl
        have fx3 := blk_frozen hbx.out 3
        refine wpAnyH_done (by kernel_rfl) ?_ _
        go_wp2
        go_meet
        case rel => exact ⟨gx, gy, rfl, rfl, gex, gey, hnxg, hnyx, hnyg, hbg, hbx, hby, HB⟩
  case rest =>
    clear HB hbg xg0 fg0 xg1 fg1 xg2 fg2 xg3 fg3
    obtain ⟨gx, gy, rfl, rfl, gex, gey, hnxg, hnyx, hnyg, hbg, hbx, hby, HB⟩ := hcut
    have xg0 : wc.cell? ⟨gg, 0, none⟩ = some (.float .f64 lv) := (blk_cell hbg.out 0).trans rfl
    have fg0 := blk_frozen hbg.out 0
    have xg1 : wc.cell? ⟨gg, 1, none⟩ = some (.float .f64 mo) := (blk_cell hbg.out 1).trans rfl
    have fg1 := blk_frozen hbg.out 1
    have xg2 : wc.cell? ⟨gg, 2, none⟩ = some (.float .f64 ro) := (blk_cell hbg.out 2).trans rfl
    have fg2 := blk_frozen hbg.out 2
    have xg3 : wc.cell? ⟨gg, 3, none⟩ = some (.int .u32 la) := (blk_cell hbg.out 3).trans rfl
    have fg3 := blk_frozen hbg.out 3
    have xx0 : wc.cell? ⟨gx, 0, none⟩ = some (.float .f64 lv) := (blk_cell hbx.out 0).trans rfl
    have fx0 := blk_frozen hbx.out 0
    have xx1 : wc.cell? ⟨gx, 1, none⟩ = some (.float .f64 mo) := (blk_cell hbx.out 1).trans rfl
    have fx1 := blk_frozen hbx.out 1
    have xx2 : wc.cell? ⟨gx, 2, none⟩ = some (.float .f64 ro) := (blk_cell hbx.out 2).trans rfl
    have fx2 := blk_frozen hbx.out 2
    have xx3 : wc.cell? ⟨gx, 3, none⟩ = some (.int .u32 la) := (blk_cell hbx.out 3).trans rfl
    have fx3 := blk_frozen hbx.out 3
    have xy0 : wc.cell? ⟨gy, 0, none⟩ = some (.float .f64 lv) := (blk_cell hby.out 0).trans rfl
    have fy0 := blk_frozen hby.out 0
    have xy1 : wc.cell? ⟨gy, 1, none⟩ = some (.float .f64 mo) := (blk_cell hby.out 1).trans rfl
    have fy1 := blk_frozen hby.out 1
    have xy2 : wc.cell? ⟨gy, 2, none⟩ = some (.float .f64 ro) := (blk_cell hby.out 2).trans rfl
    have fy2 := blk_frozen hby.out 2
    have xy3 : wc.cell? ⟨gy, 3, none⟩ = some (.int .u32 la) := (blk_cell hby.out 3).trans rfl
    have fy3 := blk_frozen hby.out 3
    go_upto_region 2 with fail
    refine wp_region_held_drew (S := (fun W => W.cell? ⟨gg, 0, none⟩ = some (.float .f64 lv) ∧ W.cell? ⟨gg, 1, none⟩ = some (.float .f64 mo) ∧ W.cell? ⟨gg, 2, none⟩ = some (.float .f64 ro) ∧ W.cell? ⟨gg, 3, none⟩ = some (.int .u32 la) ∧ W.cell? ⟨gx, 0, none⟩ = some (.float .f64 lv) ∧ W.cell? ⟨gx, 1, none⟩ = some (.float .f64 mo) ∧ W.cell? ⟨gx, 2, none⟩ = some (.float .f64 ro) ∧ W.cell? ⟨gx, 3, none⟩ = some (.int .u32 la))) (by kernel_rfl) ?_ (fun hHeld => ?_)
    · exact ⟨xg0, xg1, xg2, xg3, xx0, xx1, xx2, xx3⟩
    have hbgn := Aside0.mk (blk_drew hbg.out)
    clear hbg
    have hbg := hbgn
    clear hbgn
    have hbxn := Aside0.mk (blk_drew hbx.out)
    clear hbx
    have hbx := hbxn
    clear hbxn
    have hbyn := Aside0.mk (blk_drew hby.out)
    clear hby
    have hby := hbyn
    clear hbyn
    have HBn := Aside0.mk (below_drew1 HB.out)
    clear HB
    have HB := HBn
    clear HBn
    clear xg0 fg0 xg1 fg1 xg2 fg2 xg3 fg3 xx0 fx0 xx1 fx1 xx2 fx2 xx3 fx3 xy0 fy0 xy1 fy1 xy2 fy2 xy3 fy3
    generalize wc.drew = w29q at *
    have xg0 : w29q.cell? ⟨gg, 0, none⟩ = some (.float .f64 lv) := (blk_cell hbg.out 0).trans rfl
    have fg0 := blk_frozen hbg.out 0
    have xg1 : w29q.cell? ⟨gg, 1, none⟩ = some (.float .f64 mo) := (blk_cell hbg.out 1).trans rfl
    have fg1 := blk_frozen hbg.out 1
    have xg2 : w29q.cell? ⟨gg, 2, none⟩ = some (.float .f64 ro) := (blk_cell hbg.out 2).trans rfl
    have fg2 := blk_frozen hbg.out 2
    have xg3 : w29q.cell? ⟨gg, 3, none⟩ = some (.int .u32 la) := (blk_cell hbg.out 3).trans rfl
    have fg3 := blk_frozen hbg.out 3
    have xx0 : w29q.cell? ⟨gx, 0, none⟩ = some (.float .f64 lv) := (blk_cell hbx.out 0).trans rfl
    have fx0 := blk_frozen hbx.out 0
    have xx1 : w29q.cell? ⟨gx, 1, none⟩ = some (.float .f64 mo) := (blk_cell hbx.out 1).trans rfl
    have fx1 := blk_frozen hbx.out 1
    have xx2 : w29q.cell? ⟨gx, 2, none⟩ = some (.float .f64 ro) := (blk_cell hbx.out 2).trans rfl
    have fx2 := blk_frozen hbx.out 2
    have xx3 : w29q.cell? ⟨gx, 3, none⟩ = some (.int .u32 la) := (blk_cell hbx.out 3).trans rfl
    have fx3 := blk_frozen hbx.out 3
    have xy0 : w29q.cell? ⟨gy, 0, none⟩ = some (.float .f64 lv) := (blk_cell hby.out 0).trans rfl
    have fy0 := blk_frozen hby.out 0
    have xy1 : w29q.cell? ⟨gy, 1, none⟩ = some (.float .f64 mo) := (blk_cell hby.out 1).trans rfl
    have fy1 := blk_frozen hby.out 1
    have xy2 : w29q.cell? ⟨gy, 2, none⟩ = some (.float .f64 ro) := (blk_cell hby.out 2).trans rfl
    have fy2 := blk_frozen hby.out 2
    have xy3 : w29q.cell? ⟨gy, 3, none⟩ = some (.int .u32 la) := (blk_cell hby.out 3).trans rfl
    have fy3 := blk_frozen hby.out 3
    refine wpAnyH_ready (rs := [0]) (by kernel_rfl) (by simp) ?_
    refine AllReadyH.cons rfl (fun K hK => ?_) AllReadyH.nil
    go_simp
    go_wp2_with (go_at_call 29; (with_reducible refine (told_ _).mono ?_); rintro e w30q ⟨rfl, hb⟩; have HBn := Aside0.mk (below_step HB.out hb); clear HB; have HB := HBn; clear HBn; have hbgn := Aside0.mk ((hb.block gg (blk_lt hbg.out)).trans hbg.out); clear hbg xg0 fg0 xg1 fg1 xg2 fg2 xg3 fg3; have hbg := hbgn; clear hbgn; have xg0 : w30q.cell? ⟨gg, 0, none⟩ = some (.float .f64 lv) := (blk_cell hbg.out 0).trans rfl; have fg0 := blk_frozen hbg.out 0; have xg1 : w30q.cell? ⟨gg, 1, none⟩ = some (.float .f64 mo) := (blk_cell hbg.out 1).trans rfl; have fg1 := blk_frozen hbg.out 1; have xg2 : w30q.cell? ⟨gg, 2, none⟩ = some (.float .f64 ro) := (blk_cell hbg.out 2).trans rfl; have fg2 := blk_frozen hbg.out 2; have xg3 : w30q.cell? ⟨gg, 3, none⟩ = some (.int .u32 la) := (blk_cell hbg.out 3).trans rfl; have fg3 := blk_frozen hbg.out 3; have hbxn := Aside0.mk ((hb.block gx (blk_lt hbx.out)).trans hbx.out); clear hbx xx0 fx0 xx1 fx1 xx2 fx2 xx3 fx3; have hbx := hbxn; clear hbxn; have xx0 : w30q.cell? ⟨gx, 0, none⟩ = some (.float .f64 lv) := (blk_cell hbx.out 0).trans rfl; have fx0 := blk_frozen hbx.out 0; have xx1 : w30q.cell? ⟨gx, 1, none⟩ = some (.float .f64 mo) := (blk_cell hbx.out 1).trans rfl; have fx1 := blk_frozen hbx.out 1; have xx2 : w30q.cell? ⟨gx, 2, none⟩ = some (.float .f64 ro) := (blk_cell hbx.out 2).trans rfl; have fx2 := blk_frozen hbx.out 2; have xx3 : w30q.cell? ⟨gx, 3, none⟩ = some (.int .u32 la) := (blk_cell hbx.out 3).trans rfl; have fx3 := blk_frozen hbx.out 3; have hbyn := Aside0.mk ((hb.block gy (blk_lt hby.out)).trans hby.out); clear hby xy0 fy0 xy1 fy1 xy2 fy2 xy3 fy3; have hby := hbyn; clear hbyn; have xy0 : w30q.cell? ⟨gy, 0, none⟩ = some (.float .f64 lv) := (blk_cell hby.out 0).trans rfl; have fy0 := blk_frozen hby.out 0; have xy1 : w30q.cell? ⟨gy, 1, none⟩ = some (.float .f64 mo) := (blk_cell hby.out 1).trans rfl; have fy1 := blk_frozen hby.out 1; have xy2 : w30q.cell? ⟨gy, 2, none⟩ = some (.float .f64 ro) := (blk_cell hby.out 2).trans rfl; have fy2 := blk_frozen hby.out 2; have xy3 : w30q.cell? ⟨gy, 3, none⟩ = some (.int .u32 la) := (blk_cell hby.out 3).trans rfl; have fy3 := blk_frozen hby.out 3; clear hb)
    refine hK.out _ _ ?_ (fun hHeld => ?_)
    · exact ⟨xg0, xg1, xg2, xg3, xx0, xx1, xx2, xx3⟩
    clear hK K
    try simp only [Act.put, List.getElem_toArray, List.getElem_cons_zero, List.getElem_cons_succ, List.setIfInBounds_toArray, List.set_cons_zero, List.set_cons_succ]
    refine wpAnyH_take (i := 1) (v := ?v3_) rfl (by kernel_rfl) (by kernel_rfl) (by kernel_rfl) (fun _ _ _ h => h) (Or.inl ⟨by kernel_rfl, ?hy3_⟩) (by assumption) ?rest3_
    case hy3_ => (intro w hSw; (try dsimp only at hSw); obtain ⟨hS0, hS1, hS2, hS3, hS4, hS5, hS6, hS7⟩ := hSw; go_simp; try with_reducible rfl)
    try simp only [Act.put, List.getElem_toArray, List.getElem_cons_zero, List.getElem_cons_succ, List.setIfInBounds_toArray, List.set_cons_zero, List.set_cons_succ]
    refine wpAnyH_take (i := 2) (v := ?v4_) rfl (by kernel_rfl) (by kernel_rfl) (by kernel_rfl) (fun _ _ _ h => h) (Or.inl ⟨by kernel_rfl, ?hy4_⟩) (by assumption) ?rest4_
    case hy4_ => (intro w hSw; (try dsimp only at hSw); obtain ⟨hS0, hS1, hS2, hS3, hS4, hS5, hS6, hS7⟩ := hSw; go_simp; try with_reducible rfl)
    try simp only [Act.put, List.getElem_toArray, List.getElem_cons_zero, List.getElem_cons_succ, List.setIfInBounds_toArray, List.set_cons_zero, List.set_cons_succ]
    refine wpAnyH_take (i := 3) (v := ?v5_) rfl (by kernel_rfl) (by kernel_rfl) (by kernel_rfl) (fun _ _ _ h => h) (Or.inl ⟨by kernel_rfl, ?hy5_⟩) (by assumption) ?rest5_
    case hy5_ => (intro w hSw; (try dsimp only at hSw); obtain ⟨hS0, hS1, hS2, hS3, hS4, hS5, hS6, hS7⟩ := hSw; go_simp; try with_reducible rfl)
    try simp only [Act.put, List.getElem_toArray, List.getElem_cons_zero, List.getElem_cons_succ, List.setIfInBounds_toArray, List.set_cons_zero, List.set_cons_succ]
    refine wpAnyH_take (i := 4) (v := ?v6_) rfl (by kernel_rfl) (by kernel_rfl) (by kernel_rfl) (fun _ _ _ h => h) (Or.inl ⟨by kernel_rfl, ?hy6_⟩) (by assumption) ?rest6_
    case hy6_ => (intro w hSw; (try dsimp only at hSw); obtain ⟨hS0, hS1, hS2, hS3, hS4, hS5, hS6, hS7⟩ := hSw; go_simp; try with_reducible rfl)
    try simp only [Act.put, List.getElem_toArray, List.getElem_cons_zero, List.getElem_cons_succ, List.setIfInBounds_toArray, List.set_cons_zero, List.set_cons_succ]
    refine wpAnyH_take (i := 5) (v := ?v7_) rfl (by kernel_rfl) (by kernel_rfl) (by kernel_rfl) (fun _ _ _ h => h) (Or.inl ⟨by kernel_rfl, ?hy7_⟩) (by assumption) ?rest7_
    case hy7_ => (intro w hSw; (try dsimp only at hSw); obtain ⟨hS0, hS1, hS2, hS3, hS4, hS5, hS6, hS7⟩ := hSw; go_simp; try with_reducible rfl)
    try simp only [Act.put, List.getElem_toArray, List.getElem_cons_zero, List.getElem_cons_succ, List.setIfInBounds_toArray, List.set_cons_zero, List.set_cons_succ]
    refine wpAnyH_take (i := 6) (v := ?v8_) rfl (by kernel_rfl) (by kernel_rfl) (by kernel_rfl) (fun _ _ _ h => h) (Or.inl ⟨by kernel_rfl, ?hy8_⟩) (by assumption) ?rest8_
    case hy8_ => (intro w hSw; (try dsimp only at hSw); obtain ⟨hS0, hS1, hS2, hS3, hS4, hS5, hS6, hS7⟩ := hSw; go_simp; try with_reducible rfl)
    try simp only [Act.put, List.getElem_toArray, List.getElem_cons_zero, List.getElem_cons_succ, List.setIfInBounds_toArray, List.set_cons_zero, List.set_cons_succ]
    refine wpAnyH_take (i := 7) (v := ?v9_) rfl (by kernel_rfl) (by kernel_rfl) (by kernel_rfl) (fun _ _ _ h => h) (Or.inl ⟨by kernel_rfl, ?hy9_⟩) (by assumption) ?rest9_
    case hy9_ => (intro w hSw; (try dsimp only at hSw); obtain ⟨hS0, hS1, hS2, hS3, hS4, hS5, hS6, hS7⟩ := hSw; go_simp; try with_reducible rfl)
    try simp only [Act.put, List.getElem_toArray, List.getElem_cons_zero, List.getElem_cons_succ, List.setIfInBounds_toArray, List.set_cons_zero, List.set_cons_succ]
    refine wpAnyH_take (i := 8) (v := ?v10_) rfl (by kernel_rfl) (by kernel_rfl) (by kernel_rfl) (fun _ _ _ h => h) (Or.inl ⟨by kernel_rfl, ?hy10_⟩) (by assumption) ?rest10_
    case hy10_ => (intro w hSw; (try dsimp only at hSw); obtain ⟨hS0, hS1, hS2, hS3, hS4, hS5, hS6, hS7⟩ := hSw; go_simp; try with_reducible rfl)
    try simp only [Act.put, List.getElem_toArray, List.getElem_cons_zero, List.getElem_cons_succ, List.setIfInBounds_toArray, List.set_cons_zero, List.set_cons_succ]
    refine wpAnyH_take (i := 11) (v := ?v11_) rfl (by kernel_rfl) (by kernel_rfl) (by kernel_rfl) (fun _ _ _ h => h) (Or.inl ⟨by kernel_rfl, ?hy11_⟩) (by assumption) ?rest11_
    case hy11_ => (intro w hSw; (try dsimp only at hSw); obtain ⟨hS0, hS1, hS2, hS3, hS4, hS5, hS6, hS7⟩ := hSw; go_simp; try with_reducible rfl)
    try simp only [Act.put, List.getElem_toArray, List.getElem_cons_zero, List.getElem_cons_succ, List.setIfInBounds_toArray, List.set_cons_zero, List.set_cons_succ]
    refine wpAnyH_take (i := 12) (v := ?v12_) rfl (by kernel_rfl) (by kernel_rfl) (by kernel_rfl) (fun _ _ _ h => h) (Or.inl ⟨by kernel_rfl, ?hy12_⟩) (by assumption) ?rest12_
    case hy12_ => (intro w hSw; (try dsimp only at hSw); obtain ⟨hS0, hS1, hS2, hS3, hS4, hS5, hS6, hS7⟩ := hSw; go_simp; try with_reducible rfl)
    try simp only [Act.put, List.getElem_toArray, List.getElem_cons_zero, List.getElem_cons_succ, List.setIfInBounds_toArray, List.set_cons_zero, List.set_cons_succ]
    refine wpAnyH_take (i := 13) (v := ?v13_) rfl (by kernel_rfl) (by kernel_rfl) (by kernel_rfl) (fun _ _ _ h => h) (Or.inl ⟨by kernel_rfl, ?hy13_⟩) (by assumption) ?rest13_
    case hy13_ => (intro w hSw; (try dsimp only at hSw); obtain ⟨hS0, hS1, hS2, hS3, hS4, hS5, hS6, hS7⟩ := hSw; go_simp; try with_reducible rfl)
    try simp only [Act.put, List.getElem_toArray, List.getElem_cons_zero, List.getElem_cons_succ, List.setIfInBounds_toArray, List.set_cons_zero, List.set_cons_succ]
    refine wpAnyH_take (i := 14) (v := ?v14_) rfl (by kernel_rfl) (by kernel_rfl) (by kernel_rfl) (fun _ _ _ h => h) (Or.inl ⟨by kernel_rfl, ?hy14_⟩) (by assumption) ?rest14_
    case hy14_ => (intro w hSw; (try dsimp only at hSw); obtain ⟨hS0, hS1, hS2, hS3, hS4, hS5, hS6, hS7⟩ := hSw; go_simp; try with_reducible rfl)
    try simp only [Act.put, List.getElem_toArray, List.getElem_cons_zero, List.getElem_cons_succ, List.setIfInBounds_toArray, List.set_cons_zero, List.set_cons_succ]
    refine wpAnyH_take (i := 15) (v := ?v15_) rfl (by kernel_rfl) (by kernel_rfl) (by kernel_rfl) (fun _ _ _ h => h) (Or.inl ⟨by kernel_rfl, ?hy15_⟩) (by assumption) ?rest15_
    case hy15_ => (intro w hSw; (try dsimp only at hSw); obtain ⟨hS0, hS1, hS2, hS3, hS4, hS5, hS6, hS7⟩ := hSw; go_simp; try with_reducible rfl)
    try simp only [Act.put, List.getElem_toArray, List.getElem_cons_zero, List.getElem_cons_succ, List.setIfInBounds_toArray, List.set_cons_zero, List.set_cons_succ]
    refine wpAnyH_take (i := 16) (v := ?v16_) rfl (by kernel_rfl) (by kernel_rfl) (by kernel_rfl) (fun _ _ _ h => h) (Or.inl ⟨by kernel_rfl, ?hy16_⟩) (by assumption) ?rest16_
    case hy16_ => (intro w hSw; (try dsimp only at hSw); obtain ⟨hS0, hS1, hS2, hS3, hS4, hS5, hS6, hS7⟩ := hSw; go_simp; try with_reducible rfl)
    try simp only [Act.put, List.getElem_toArray, List.getElem_cons_zero, List.getElem_cons_succ, List.setIfInBounds_toArray, List.set_cons_zero, List.set_cons_succ]
    refine wpAnyH_take (i := 17) (v := ?v17_) rfl (by kernel_rfl) (by kernel_rfl) (by kernel_rfl) (fun _ _ _ h => h) (Or.inl ⟨by kernel_rfl, ?hy17_⟩) (by assumption) ?rest17_
    case hy17_ => (intro w hSw; (try dsimp only at hSw); obtain ⟨hS0, hS1, hS2, hS3, hS4, hS5, hS6, hS7⟩ := hSw; go_simp; try with_reducible rfl)
    try simp only [Act.put, List.getElem_toArray, List.getElem_cons_zero, List.getElem_cons_succ, List.setIfInBounds_toArray, List.set_cons_zero, List.set_cons_succ]
    refine wpAnyH_take (i := 18) (v := ?v18_) rfl (by kernel_rfl) (by kernel_rfl) (by kernel_rfl) (fun _ _ _ h => h) (Or.inl ⟨by kernel_rfl, ?hy18_⟩) (by assumption) ?rest18_
    case hy18_ => (intro w hSw; (try dsimp only at hSw); obtain ⟨hS0, hS1, hS2, hS3, hS4, hS5, hS6, hS7⟩ := hSw; go_simp; try with_reducible rfl)
    try simp only [Act.put, List.getElem_toArray, List.getElem_cons_zero, List.getElem_cons_succ, List.setIfInBounds_toArray, List.set_cons_zero, List.set_cons_succ]
    refine wpAnyH_take (i := 19) (v := ?v19_) rfl (by kernel_rfl) (by kernel_rfl) (by kernel_rfl) (fun _ _ _ h => h) (Or.inl ⟨by kernel_rfl, ?hy19_⟩) (by assumption) ?rest19_
    case hy19_ => (intro w hSw; (try dsimp only at hSw); obtain ⟨hS0, hS1, hS2, hS3, hS4, hS5, hS6, hS7⟩ := hSw; go_simp; try with_reducible rfl)
    try simp only [Act.put, List.getElem_toArray, List.getElem_cons_zero, List.getElem_cons_succ, List.setIfInBounds_toArray, List.set_cons_zero, List.set_cons_succ]
    refine wpAnyH_ready (rs := [9]) (by kernel_rfl) (by simp) ?_
    refine AllReadyH.cons rfl (fun K hK => ?_) AllReadyH.nil
    go_simp
    go_wp2_with (go_at_call 32; (with_reducible refine (new_ _ _ _ _).mono ?_); rintro e w31q ⟨rfl, hb⟩; have HBn := Aside0.mk (below_step HB.out hb); clear HB; have HB := HBn; clear HBn; have hbgn := Aside0.mk ((hb.block gg (blk_lt hbg.out)).trans hbg.out); clear hbg xg0 fg0 xg1 fg1 xg2 fg2 xg3 fg3; have hbg := hbgn; clear hbgn; have xg0 : w31q.cell? ⟨gg, 0, none⟩ = some (.float .f64 lv) := (blk_cell hbg.out 0).trans rfl; have fg0 := blk_frozen hbg.out 0; have xg1 : w31q.cell? ⟨gg, 1, none⟩ = some (.float .f64 mo) := (blk_cell hbg.out 1).trans rfl; have fg1 := blk_frozen hbg.out 1; have xg2 : w31q.cell? ⟨gg, 2, none⟩ = some (.float .f64 ro) := (blk_cell hbg.out 2).trans rfl; have fg2 := blk_frozen hbg.out 2; have xg3 : w31q.cell? ⟨gg, 3, none⟩ = some (.int .u32 la) := (blk_cell hbg.out 3).trans rfl; have fg3 := blk_frozen hbg.out 3; have hbxn := Aside0.mk ((hb.block gx (blk_lt hbx.out)).trans hbx.out); clear hbx xx0 fx0 xx1 fx1 xx2 fx2 xx3 fx3; have hbx := hbxn; clear hbxn; have xx0 : w31q.cell? ⟨gx, 0, none⟩ = some (.float .f64 lv) := (blk_cell hbx.out 0).trans rfl; have fx0 := blk_frozen hbx.out 0; have xx1 : w31q.cell? ⟨gx, 1, none⟩ = some (.float .f64 mo) := (blk_cell hbx.out 1).trans rfl; have fx1 := blk_frozen hbx.out 1; have xx2 : w31q.cell? ⟨gx, 2, none⟩ = some (.float .f64 ro) := (blk_cell hbx.out 2).trans rfl; have fx2 := blk_frozen hbx.out 2; have xx3 : w31q.cell? ⟨gx, 3, none⟩ = some (.int .u32 la) := (blk_cell hbx.out 3).trans rfl; have fx3 := blk_frozen hbx.out 3; have hbyn := Aside0.mk ((hb.block gy (blk_lt hby.out)).trans hby.out); clear hby xy0 fy0 xy1 fy1 xy2 fy2 xy3 fy3; have hby := hbyn; clear hbyn; have xy0 : w31q.cell? ⟨gy, 0, none⟩ = some (.float .f64 lv) := (blk_cell hby.out 0).trans rfl; have fy0 := blk_frozen hby.out 0; have xy1 : w31q.cell? ⟨gy, 1, none⟩ = some (.float .f64 mo) := (blk_cell hby.out 1).trans rfl; have fy1 := blk_frozen hby.out 1; have xy2 : w31q.cell? ⟨gy, 2, none⟩ = some (.float .f64 ro) := (blk_cell hby.out 2).trans rfl; have fy2 := blk_frozen hby.out 2; have xy3 : w31q.cell? ⟨gy, 3, none⟩ = some (.int .u32 la) := (blk_cell hby.out 3).trans rfl; have fy3 := blk_frozen hby.out 3; clear hb)
    refine hK.out _ _ ?_ (fun hHeld => ?_)
    · exact ⟨xg0, xg1, xg2, xg3, xx0, xx1, xx2, xx3⟩
    clear hK K
    try simp only [Act.put, List.getElem_toArray, List.getElem_cons_zero, List.getElem_cons_succ, List.setIfInBounds_toArray, List.set_cons_zero, List.set_cons_succ]
    refine wpAnyH_ready (rs := [10]) (by kernel_rfl) (by simp) ?_
    refine AllReadyH.cons rfl (fun K hK => ?_) AllReadyH.nil
    go_simp
    go_wp2_with (go_at_call 31; (with_reducible refine (from_ _ _ _ _ _).mono ?_); rintro e w32q ⟨rfl, hb⟩; have HBn := Aside0.mk (below_step HB.out hb); clear HB; have HB := HBn; clear HBn; have hbgn := Aside0.mk ((hb.block gg (blk_lt hbg.out)).trans hbg.out); clear hbg xg0 fg0 xg1 fg1 xg2 fg2 xg3 fg3; have hbg := hbgn; clear hbgn; have xg0 : w32q.cell? ⟨gg, 0, none⟩ = some (.float .f64 lv) := (blk_cell hbg.out 0).trans rfl; have fg0 := blk_frozen hbg.out 0; have xg1 : w32q.cell? ⟨gg, 1, none⟩ = some (.float .f64 mo) := (blk_cell hbg.out 1).trans rfl; have fg1 := blk_frozen hbg.out 1; have xg2 : w32q.cell? ⟨gg, 2, none⟩ = some (.float .f64 ro) := (blk_cell hbg.out 2).trans rfl; have fg2 := blk_frozen hbg.out 2; have xg3 : w32q.cell? ⟨gg, 3, none⟩ = some (.int .u32 la) := (blk_cell hbg.out 3).trans rfl; have fg3 := blk_frozen hbg.out 3; have hbxn := Aside0.mk ((hb.block gx (blk_lt hbx.out)).trans hbx.out); clear hbx xx0 fx0 xx1 fx1 xx2 fx2 xx3 fx3; have hbx := hbxn; clear hbxn; have xx0 : w32q.cell? ⟨gx, 0, none⟩ = some (.float .f64 lv) := (blk_cell hbx.out 0).trans rfl; have fx0 := blk_frozen hbx.out 0; have xx1 : w32q.cell? ⟨gx, 1, none⟩ = some (.float .f64 mo) := (blk_cell hbx.out 1).trans rfl; have fx1 := blk_frozen hbx.out 1; have xx2 : w32q.cell? ⟨gx, 2, none⟩ = some (.float .f64 ro) := (blk_cell hbx.out 2).trans rfl; have fx2 := blk_frozen hbx.out 2; have xx3 : w32q.cell? ⟨gx, 3, none⟩ = some (.int .u32 la) := (blk_cell hbx.out 3).trans rfl; have fx3 := blk_frozen hbx.out 3; have hbyn := Aside0.mk ((hb.block gy (blk_lt hby.out)).trans hby.out); clear hby xy0 fy0 xy1 fy1 xy2 fy2 xy3 fy3; have hby := hbyn; clear hbyn; have xy0 : w32q.cell? ⟨gy, 0, none⟩ = some (.float .f64 lv) := (blk_cell hby.out 0).trans rfl; have fy0 := blk_frozen hby.out 0; have xy1 : w32q.cell? ⟨gy, 1, none⟩ = some (.float .f64 mo) := (blk_cell hby.out 1).trans rfl; have fy1 := blk_frozen hby.out 1; have xy2 : w32q.cell? ⟨gy, 2, none⟩ = some (.float .f64 ro) := (blk_cell hby.out 2).trans rfl; have fy2 := blk_frozen hby.out 2; have xy3 : w32q.cell? ⟨gy, 3, none⟩ = some (.int .u32 la) := (blk_cell hby.out 3).trans rfl; have fy3 := blk_frozen hby.out 3; clear hb)
    refine hK.out _ _ ?_ (fun hHeld => ?_)
    · exact ⟨xg0, xg1, xg2, xg3, xx0, xx1, xx2, xx3⟩
    clear hK K
    try simp only [Act.put, List.getElem_toArray, List.getElem_cons_zero, List.getElem_cons_succ, List.setIfInBounds_toArray, List.set_cons_zero, List.set_cons_succ]
    refine wpAnyH_ready (rs := [20]) (by kernel_rfl) (by simp) ?_
    refine AllReadyH.cons rfl (fun K hK => ?_) AllReadyH.nil
    go_simp
    go_wp2_with (go_at_call 30; (with_reducible refine (requal_ _ _ _ _ _ _ _ _ (E.refl _) (E.refl _) (E.refl _) HL1.out HL2.out HL2.out HL1.out HL2.out HL2.out).mono ?_); rintro e w33q ⟨rfl, hb⟩; have HBn := Aside0.mk (below_step HB.out hb); clear HB; have HB := HBn; clear HBn; have hbgn := Aside0.mk ((hb.block gg (blk_lt hbg.out)).trans hbg.out); clear hbg xg0 fg0 xg1 fg1 xg2 fg2 xg3 fg3; have hbg := hbgn; clear hbgn; have xg0 : w33q.cell? ⟨gg, 0, none⟩ = some (.float .f64 lv) := (blk_cell hbg.out 0).trans rfl; have fg0 := blk_frozen hbg.out 0; have xg1 : w33q.cell? ⟨gg, 1, none⟩ = some (.float .f64 mo) := (blk_cell hbg.out 1).trans rfl; have fg1 := blk_frozen hbg.out 1; have xg2 : w33q.cell? ⟨gg, 2, none⟩ = some (.float .f64 ro) := (blk_cell hbg.out 2).trans rfl; have fg2 := blk_frozen hbg.out 2; have xg3 : w33q.cell? ⟨gg, 3, none⟩ = some (.int .u32 la) := (blk_cell hbg.out 3).trans rfl; have fg3 := blk_frozen hbg.out 3; have hbxn := Aside0.mk ((hb.block gx (blk_lt hbx.out)).trans hbx.out); clear hbx xx0 fx0 xx1 fx1 xx2 fx2 xx3 fx3; have hbx := hbxn; clear hbxn; have xx0 : w33q.cell? ⟨gx, 0, none⟩ = some (.float .f64 lv) := (blk_cell hbx.out 0).trans rfl; have fx0 := blk_frozen hbx.out 0; have xx1 : w33q.cell? ⟨gx, 1, none⟩ = some (.float .f64 mo) := (blk_cell hbx.out 1).trans rfl; have fx1 := blk_frozen hbx.out 1; have xx2 : w33q.cell? ⟨gx, 2, none⟩ = some (.float .f64 ro) := (blk_cell hbx.out 2).trans rfl; have fx2 := blk_frozen hbx.out 2; have xx3 : w33q.cell? ⟨gx, 3, none⟩ = some (.int .u32 la) := (blk_cell hbx.out 3).trans rfl; have fx3 := blk_frozen hbx.out 3; have hbyn := Aside0.mk ((hb.block gy (blk_lt hby.out)).trans hby.out); clear hby xy0 fy0 xy1 fy1 xy2 fy2 xy3 fy3; have hby := hbyn; clear hbyn; have xy0 : w33q.cell? ⟨gy, 0, none⟩ = some (.float .f64 lv) := (blk_cell hby.out 0).trans rfl; have fy0 := blk_frozen hby.out 0; have xy1 : w33q.cell? ⟨gy, 1, none⟩ = some (.float .f64 mo) := (blk_cell hby.out 1).trans rfl; have fy1 := blk_frozen hby.out 1; have xy2 : w33q.cell? ⟨gy, 2, none⟩ = some (.float .f64 ro) := (blk_cell hby.out 2).trans rfl; have fy2 := blk_frozen hby.out 2; have xy3 : w33q.cell? ⟨gy, 3, none⟩ = some (.int .u32 la) := (blk_cell hby.out 3).trans rfl; have fy3 := blk_frozen hby.out 3; clear hb)
    refine hK.out _ _ ?_ (fun hHeld => ?_)
    · exact ⟨xg0, xg1, xg2, xg3, xx0, xx1, xx2, xx3⟩
    clear hK K
    try simp only [Act.put, List.getElem_toArray, List.getElem_cons_zero, List.getElem_cons_succ, List.setIfInBounds_toArray, List.set_cons_zero, List.set_cons_succ]
    refine wpAnyH_take (i := 21) (v := ?v20_) rfl (by kernel_rfl) (by kernel_rfl) (by kernel_rfl) (fun _ _ _ h => h) (Or.inl ⟨by kernel_rfl, ?hy20_⟩) (by assumption) ?rest20_
    case hy20_ => (intro w hSw; (try dsimp only at hSw); obtain ⟨hS0, hS1, hS2, hS3, hS4, hS5, hS6, hS7⟩ := hSw; go_simp; try with_reducible rfl)
    try simp only [Act.put, List.getElem_toArray, List.getElem_cons_zero, List.getElem_cons_succ, List.setIfInBounds_toArray, List.set_cons_zero, List.set_cons_succ]
    refine wpAnyH_take (i := 22) (v := ?v21_) rfl (by kernel_rfl) (by kernel_rfl) (by kernel_rfl) (fun _ _ _ h => h) (Or.inl ⟨by kernel_rfl, ?hy21_⟩) (by assumption) ?rest21_
    case hy21_ => (intro w hSw; (try dsimp only at hSw); obtain ⟨hS0, hS1, hS2, hS3, hS4, hS5, hS6, hS7⟩ := hSw; go_simp; try with_reducible rfl)
    try simp only [Act.put, List.getElem_toArray, List.getElem_cons_zero, List.getElem_cons_succ, List.setIfInBounds_toArray, List.set_cons_zero, List.set_cons_succ]
    refine wpAnyH_take (i := 23) (v := ?v22_) rfl (by kernel_rfl) (by kernel_rfl) (by kernel_rfl) (fun _ _ _ h => h) (Or.inl ⟨by kernel_rfl, ?hy22_⟩) (by assumption) ?rest22_
    case hy22_ => (intro w hSw; (try dsimp only at hSw); obtain ⟨hS0, hS1, hS2, hS3, hS4, hS5, hS6, hS7⟩ := hSw; go_simp; try with_reducible rfl)
    try simp only [Act.put, List.getElem_toArray, List.getElem_cons_zero, List.getElem_cons_succ, List.setIfInBounds_toArray, List.set_cons_zero, List.set_cons_succ]
    refine wpAnyH_take (i := 24) (v := ?v23_) rfl (by kernel_rfl) (by kernel_rfl) (by kernel_rfl) (fun _ _ _ h => h) (Or.inl ⟨by kernel_rfl, ?hy23_⟩) (by assumption) ?rest23_
    case hy23_ => (intro w hSw; (try dsimp only at hSw); obtain ⟨hS0, hS1, hS2, hS3, hS4, hS5, hS6, hS7⟩ := hSw; go_simp; try with_reducible rfl)
    try simp only [Act.put, List.getElem_toArray, List.getElem_cons_zero, List.getElem_cons_succ, List.setIfInBounds_toArray, List.set_cons_zero, List.set_cons_succ]
    refine wpAnyH_take (i := 26) (v := ?v24_) rfl (by kernel_rfl) (by kernel_rfl) (by kernel_rfl) (fun _ _ _ h => h) (Or.inl ⟨by kernel_rfl, ?hy24_⟩) (by assumption) ?rest24_
    case hy24_ => (intro w hSw; (try dsimp only at hSw); obtain ⟨hS0, hS1, hS2, hS3, hS4, hS5, hS6, hS7⟩ := hSw; go_simp; try with_reducible rfl)
    try simp only [Act.put, List.getElem_toArray, List.getElem_cons_zero, List.getElem_cons_succ, List.setIfInBounds_toArray, List.set_cons_zero, List.set_cons_succ]
    refine wpAnyH_ready (rs := [25]) (by kernel_rfl) (by simp) ?_
    refine AllReadyH.cons rfl (fun K hK => ?_) AllReadyH.nil
    go_simp
    go_wp2_with (go_at_call 33; (with_reducible refine (open_ _ _ _ _ _).mono ?_); rintro e w34q ⟨rfl, hb⟩; have HBn := Aside0.mk (below_step HB.out hb); clear HB; have HB := HBn; clear HBn; have hbgn := Aside0.mk ((hb.block gg (blk_lt hbg.out)).trans hbg.out); clear hbg xg0 fg0 xg1 fg1 xg2 fg2 xg3 fg3; have hbg := hbgn; clear hbgn; have xg0 : w34q.cell? ⟨gg, 0, none⟩ = some (.float .f64 lv) := (blk_cell hbg.out 0).trans rfl; have fg0 := blk_frozen hbg.out 0; have xg1 : w34q.cell? ⟨gg, 1, none⟩ = some (.float .f64 mo) := (blk_cell hbg.out 1).trans rfl; have fg1 := blk_frozen hbg.out 1; have xg2 : w34q.cell? ⟨gg, 2, none⟩ = some (.float .f64 ro) := (blk_cell hbg.out 2).trans rfl; have fg2 := blk_frozen hbg.out 2; have xg3 : w34q.cell? ⟨gg, 3, none⟩ = some (.int .u32 la) := (blk_cell hbg.out 3).trans rfl; have fg3 := blk_frozen hbg.out 3; have hbxn := Aside0.mk ((hb.block gx (blk_lt hbx.out)).trans hbx.out); clear hbx xx0 fx0 xx1 fx1 xx2 fx2 xx3 fx3; have hbx := hbxn; clear hbxn; have xx0 : w34q.cell? ⟨gx, 0, none⟩ = some (.float .f64 lv) := (blk_cell hbx.out 0).trans rfl; have fx0 := blk_frozen hbx.out 0; have xx1 : w34q.cell? ⟨gx, 1, none⟩ = some (.float .f64 mo) := (blk_cell hbx.out 1).trans rfl; have fx1 := blk_frozen hbx.out 1; have xx2 : w34q.cell? ⟨gx, 2, none⟩ = some (.float .f64 ro) := (blk_cell hbx.out 2).trans rfl; have fx2 := blk_frozen hbx.out 2; have xx3 : w34q.cell? ⟨gx, 3, none⟩ = some (.int .u32 la) := (blk_cell hbx.out 3).trans rfl; have fx3 := blk_frozen hbx.out 3; have hbyn := Aside0.mk ((hb.block gy (blk_lt hby.out)).trans hby.out); clear hby xy0 fy0 xy1 fy1 xy2 fy2 xy3 fy3; have hby := hbyn; clear hbyn; have xy0 : w34q.cell? ⟨gy, 0, none⟩ = some (.float .f64 lv) := (blk_cell hby.out 0).trans rfl; have fy0 := blk_frozen hby.out 0; have xy1 : w34q.cell? ⟨gy, 1, none⟩ = some (.float .f64 mo) := (blk_cell hby.out 1).trans rfl; have fy1 := blk_frozen hby.out 1; have xy2 : w34q.cell? ⟨gy, 2, none⟩ = some (.float .f64 ro) := (blk_cell hby.out 2).trans rfl; have fy2 := blk_frozen hby.out 2; have xy3 : w34q.cell? ⟨gy, 3, none⟩ = some (.int .u32 la) := (blk_cell hby.out 3).trans rfl; have fy3 := blk_frozen hby.out 3; clear hb)
    refine hK.out _ _ ?_ (fun hHeld => ?_)
    · exact ⟨xg0, xg1, xg2, xg3, xx0, xx1, xx2, xx3⟩
    clear hK K
    try simp only [Act.put, List.getElem_toArray, List.getElem_cons_zero, List.getElem_cons_succ, List.setIfInBounds_toArray, List.set_cons_zero, List.set_cons_succ]
    refine wpAnyH_ready (rs := [27]) (by kernel_rfl) (by simp) ?_
    refine AllReadyH.cons rfl (fun K hK => ?_) AllReadyH.nil
    go_simp
    go_wp2_with (go_at_call 34; (with_reducible refine (ropen_ _ _ _ _ HL1.out _).mono ?_); rintro e w35q ⟨rfl, hb⟩; have HBn := Aside0.mk (below_step HB.out hb); clear HB; have HB := HBn; clear HBn; have hbgn := Aside0.mk ((hb.block gg (blk_lt hbg.out)).trans hbg.out); clear hbg xg0 fg0 xg1 fg1 xg2 fg2 xg3 fg3; have hbg := hbgn; clear hbgn; have xg0 : w35q.cell? ⟨gg, 0, none⟩ = some (.float .f64 lv) := (blk_cell hbg.out 0).trans rfl; have fg0 := blk_frozen hbg.out 0; have xg1 : w35q.cell? ⟨gg, 1, none⟩ = some (.float .f64 mo) := (blk_cell hbg.out 1).trans rfl; have fg1 := blk_frozen hbg.out 1; have xg2 : w35q.cell? ⟨gg, 2, none⟩ = some (.float .f64 ro) := (blk_cell hbg.out 2).trans rfl; have fg2 := blk_frozen hbg.out 2; have xg3 : w35q.cell? ⟨gg, 3, none⟩ = some (.int .u32 la) := (blk_cell hbg.out 3).trans rfl; have fg3 := blk_frozen hbg.out 3; have hbxn := Aside0.mk ((hb.block gx (blk_lt hbx.out)).trans hbx.out); clear hbx xx0 fx0 xx1 fx1 xx2 fx2 xx3 fx3; have hbx := hbxn; clear hbxn; have xx0 : w35q.cell? ⟨gx, 0, none⟩ = some (.float .f64 lv) := (blk_cell hbx.out 0).trans rfl; have fx0 := blk_frozen hbx.out 0; have xx1 : w35q.cell? ⟨gx, 1, none⟩ = some (.float .f64 mo) := (blk_cell hbx.out 1).trans rfl; have fx1 := blk_frozen hbx.out 1; have xx2 : w35q.cell? ⟨gx, 2, none⟩ = some (.float .f64 ro) := (blk_cell hbx.out 2).trans rfl; have fx2 := blk_frozen hbx.out 2; have xx3 : w35q.cell? ⟨gx, 3, none⟩ = some (.int .u32 la) := (blk_cell hbx.out 3).trans rfl; have fx3 := blk_frozen hbx.out 3; have hbyn := Aside0.mk ((hb.block gy (blk_lt hby.out)).trans hby.out); clear hby xy0 fy0 xy1 fy1 xy2 fy2 xy3 fy3; have hby := hbyn; clear hbyn; have xy0 : w35q.cell? ⟨gy, 0, none⟩ = some (.float .f64 lv) := (blk_cell hby.out 0).trans rfl; have fy0 := blk_frozen hby.out 0; have xy1 : w35q.cell? ⟨gy, 1, none⟩ = some (.float .f64 mo) := (blk_cell hby.out 1).trans rfl; have fy1 := blk_frozen hby.out 1; have xy2 : w35q.cell? ⟨gy, 2, none⟩ = some (.float .f64 ro) := (blk_cell hby.out 2).trans rfl; have fy2 := blk_frozen hby.out 2; have xy3 : w35q.cell? ⟨gy, 3, none⟩ = some (.int .u32 la) := (blk_cell hby.out 3).trans rfl; have fy3 := blk_frozen hby.out 3; clear hb)
    refine hK.out _ _ ?_ (fun hHeld => ?_)
    · exact ⟨xg0, xg1, xg2, xg3, xx0, xx1, xx2, xx3⟩
    clear hK K
    try simp only [Act.put, List.getElem_toArray, List.getElem_cons_zero, List.getElem_cons_succ, List.setIfInBounds_toArray, List.set_cons_zero, List.set_cons_succ]
    refine wpAnyH_take (i := 28) (v := ?v25_) rfl (by kernel_rfl) (by kernel_rfl) (by kernel_rfl) (fun _ _ _ h => h) (Or.inl ⟨by kernel_rfl, ?hy25_⟩) (by assumption) ?rest25_
    case hy25_ => (intro w hSw; (try dsimp only at hSw); obtain ⟨hS0, hS1, hS2, hS3, hS4, hS5, hS6, hS7⟩ := hSw; go_simp; try with_reducible rfl)
    try simp only [Act.put, List.getElem_toArray, List.getElem_cons_zero, List.getElem_cons_succ, List.setIfInBounds_toArray, List.set_cons_zero, List.set_cons_succ]
    refine wpAnyH_take (i := 29) (v := ?v26_) rfl (by kernel_rfl) (by kernel_rfl) (by kernel_rfl) (fun _ _ _ h => h) (Or.inl ⟨by kernel_rfl, ?hy26_⟩) (by assumption) ?rest26_
    case hy26_ => (intro w hSw; (try dsimp only at hSw); obtain ⟨hS0, hS1, hS2, hS3, hS4, hS5, hS6, hS7⟩ := hSw; go_simp; try with_reducible rfl)
    try simp only [Act.put, List.getElem_toArray, List.getElem_cons_zero, List.getElem_cons_succ, List.setIfInBounds_toArray, List.set_cons_zero, List.set_cons_succ]
    refine wpAnyH_done (by kernel_rfl) ?_ _
    go_wp2_with fail
    go_loopg [7] l.length (fun kq v7 wr => ∃ (i R S : Nat) (li : Int), Aside0 (kq = l.length - i) ∧ i ≤ l.length ∧ i ≤ 200 ∧ v7 = .int .i64 (i : Int) ∧ Aside0 (E R S) ∧ Aside0 (R < 18446744073709551616) ∧ Aside0 (S < 18446744073709551616) ∧ Aside0 (0 ≤ li ∧ li < 4294967296) ∧ Aside0 (wr.heap[gx]? = some (.cells #[.float .f64 lv, .float .f64 mo, .float .f64 R, .int .u32 li] 54 (0, 0))) ∧ Aside0 (wr.heap[gy]? = some (.cells #[.float .f64 lv, .float .f64 mo, .float .f64 S, .int .u32 li] 52 (0, 0))) ∧ Aside0 (Below w.heap.size w wr))
    case atStart => exact ⟨0, ro, ro, la, ⟨by omega⟩, Nat.zero_le _, Nat.zero_le _, rfl, ⟨E.refl _⟩, HL3, HL3, HLA, hbx, hby, HB⟩
    case round =>
      clear HB hbg hbx hby xg0 fg0 xg1 fg1 xg2 fg2 xg3 fg3 xx0 fx0 xx1 fx1 xx2 fx2 xx3 fx3 xy0 fy0 xy1 fy1 xy2 fy2 xy3 fy3
      obtain ⟨i, R, S, li, HKQ, hi, hi4, rfl, HE, HR1, HR2, HLI, hbx, hby, HB⟩ := hrel
      have xx0 : wr.cell? ⟨gx, 0, none⟩ = some (.float .f64 lv) := (blk_cell hbx.out 0).trans rfl
      have fx0 := blk_frozen hbx.out 0
      have xx1 : wr.cell? ⟨gx, 1, none⟩ = some (.float .f64 mo) := (blk_cell hbx.out 1).trans rfl
      have fx1 := blk_frozen hbx.out 1
      have xx2 : wr.cell? ⟨gx, 2, none⟩ = some (.float .f64 R) := (blk_cell hbx.out 2).trans rfl
      have fx2 := blk_frozen hbx.out 2
      have xx3 : wr.cell? ⟨gx, 3, none⟩ = some (.int .u32 li) := (blk_cell hbx.out 3).trans rfl
      have fx3 := blk_frozen hbx.out 3
      have xy0 : wr.cell? ⟨gy, 0, none⟩ = some (.float .f64 lv) := (blk_cell hby.out 0).trans rfl
      have fy0 := blk_frozen hby.out 0
      have xy1 : wr.cell? ⟨gy, 1, none⟩ = some (.float .f64 mo) := (blk_cell hby.out 1).trans rfl
      have fy1 := blk_frozen hby.out 1
      have xy2 : wr.cell? ⟨gy, 2, none⟩ = some (.float .f64 S) := (blk_cell hby.out 2).trans rfl
      have fy2 := blk_frozen hby.out 2
      have xy3 : wr.cell? ⟨gy, 3, none⟩ = some (.int .u32 li) := (blk_cell hby.out 3).trans rfl
      have fy3 := blk_frozen hby.out 3
      by_cases hlt : i < l.length ∧ i < 200
      · obtain ⟨hl0, hl4⟩ := hlt
        obtain ⟨ad, e0, x0⟩ := Opens.RowC.one (v := fun x => Value.int .u32 x) HX.out i hl0
        cases e0
        have xt := (HB.out.cell (World.block_lt_of_cell? w _ x0)).trans x0
        have X0 := Aside0.mk x0
        have HYB := Aside0.mk (show 0 ≤ l[i] ∧ l[i] < 4294967296 from by have := bounds_u32 (HQ.out l[i] (List.getElem_mem hl0)); omega)
        clear x0
        generalize l[i] = y at *
        have hntx : gx ≠ (ad.add i).block := fun e => absurd (World.block_lt_of_cell? w _ X0.out) (by rw [← e]; exact Nat.not_lt.2 gex.out)
        have hnty : gy ≠ (ad.add i).block := fun e => absurd (World.block_lt_of_cell? w _ X0.out) (by rw [← e]; exact Nat.not_lt.2 gey.out)
        go_upto_region 7 with fail
        refine wp_region_held_drew (S := (fun W => W.cell? ⟨gx, 0, none⟩ = some (.float .f64 lv) ∧ W.cell? ⟨gx, 1, none⟩ = some (.float .f64 mo) ∧ W.cell? ⟨gx, 2, none⟩ = some (.float .f64 R) ∧ W.cell? ⟨gx, 3, none⟩ = some (.int .u32 li) ∧ W.cell? ⟨gy, 0, none⟩ = some (.float .f64 lv) ∧ W.cell? ⟨gy, 1, none⟩ = some (.float .f64 mo) ∧ W.cell? ⟨gy, 2, none⟩ = some (.float .f64 S) ∧ W.cell? ⟨gy, 3, none⟩ = some (.int .u32 li) ∧ W.cell? (ad.add i) = some (.int .u32 y))) (by kernel_rfl) ?_ (fun hHeld => ?_)
        · exact ⟨xx0, xx1, xx2, xx3, xy0, xy1, xy2, xy3, xt⟩
        have hbxn := Aside0.mk (blk_drew hbx.out)
        clear hbx
        have hbx := hbxn
        clear hbxn
        have hbyn := Aside0.mk (blk_drew hby.out)
        clear hby
        have hby := hbyn
        clear hbyn
        have HBn := Aside0.mk (below_drew1 HB.out)
        clear HB
        have HB := HBn
        clear HBn
        have xtn : (wr.drew).cell? (ad.add i) = some (.int .u32 y) := (by first | (go_simp; done) | (go_simp; exact xt))
        clear xt
        have xt := xtn
        clear xtn
        clear xx0 fx0 xx1 fx1 xx2 fx2 xx3 fx3 xy0 fy0 xy1 fy1 xy2 fy2 xy3 fy3
        generalize wr.drew = w36q at *
        have xx0 : w36q.cell? ⟨gx, 0, none⟩ = some (.float .f64 lv) := (blk_cell hbx.out 0).trans rfl
        have fx0 := blk_frozen hbx.out 0
        have xx1 : w36q.cell? ⟨gx, 1, none⟩ = some (.float .f64 mo) := (blk_cell hbx.out 1).trans rfl
        have fx1 := blk_frozen hbx.out 1
        have xx2 : w36q.cell? ⟨gx, 2, none⟩ = some (.float .f64 R) := (blk_cell hbx.out 2).trans rfl
        have fx2 := blk_frozen hbx.out 2
        have xx3 : w36q.cell? ⟨gx, 3, none⟩ = some (.int .u32 li) := (blk_cell hbx.out 3).trans rfl
        have fx3 := blk_frozen hbx.out 3
        have xy0 : w36q.cell? ⟨gy, 0, none⟩ = some (.float .f64 lv) := (blk_cell hby.out 0).trans rfl
        have fy0 := blk_frozen hby.out 0
        have xy1 : w36q.cell? ⟨gy, 1, none⟩ = some (.float .f64 mo) := (blk_cell hby.out 1).trans rfl
        have fy1 := blk_frozen hby.out 1
        have xy2 : w36q.cell? ⟨gy, 2, none⟩ = some (.float .f64 S) := (blk_cell hby.out 2).trans rfl
        have fy2 := blk_frozen hby.out 2
        have xy3 : w36q.cell? ⟨gy, 3, none⟩ = some (.int .u32 li) := (blk_cell hby.out 3).trans rfl
        have fy3 := blk_frozen hby.out 3
        refine wpAnyH_take (i := 0) (v := ?v27_) rfl (by kernel_rfl) (by kernel_rfl) (by kernel_rfl) (fun _ _ _ h => h) (Or.inl ⟨by kernel_rfl, ?hy27_⟩) (by assumption) ?rest27_
        case hy27_ => (intro w hSw; (try dsimp only at hSw); obtain ⟨hS0, hS1, hS2, hS3, hS4, hS5, hS6, hS7, hS8⟩ := hSw; go_simp; try with_reducible rfl)
        try simp only [Act.put, List.getElem_toArray, List.getElem_cons_zero, List.getElem_cons_succ, List.setIfInBounds_toArray, List.set_cons_zero, List.set_cons_succ]
        refine wpAnyH_take (i := 1) (v := ?v28_) rfl (by kernel_rfl) (by kernel_rfl) (by kernel_rfl) (fun _ _ _ h => h) (Or.inl ⟨by kernel_rfl, ?hy28_⟩) (by assumption) ?rest28_
        case hy28_ => (intro w hSw; (try dsimp only at hSw); obtain ⟨hS0, hS1, hS2, hS3, hS4, hS5, hS6, hS7, hS8⟩ := hSw; go_simp; try with_reducible rfl)
        try simp only [Act.put, List.getElem_toArray, List.getElem_cons_zero, List.getElem_cons_succ, List.setIfInBounds_toArray, List.set_cons_zero, List.set_cons_succ]
        refine wpAnyH_take (i := 2) (v := ?v29_) rfl (by kernel_rfl) (by kernel_rfl) (by kernel_rfl) (fun _ _ _ h => h) (Or.inl ⟨by kernel_rfl, ?hy29_⟩) (by assumption) ?rest29_
        case hy29_ => (intro w hSw; (try dsimp only at hSw); obtain ⟨hS0, hS1, hS2, hS3, hS4, hS5, hS6, hS7, hS8⟩ := hSw; go_simp; try with_reducible rfl)
        try simp only [Act.put, List.getElem_toArray, List.getElem_cons_zero, List.getElem_cons_succ, List.setIfInBounds_toArray, List.set_cons_zero, List.set_cons_succ]
        refine wpAnyH_take (i := 3) (v := ?v30_) rfl (by kernel_rfl) (by kernel_rfl) (by kernel_rfl) (fun _ _ _ h => h) (Or.inl ⟨by kernel_rfl, ?hy30_⟩) (by assumption) ?rest30_
        case hy30_ => (intro w hSw; (try dsimp only at hSw); obtain ⟨hS0, hS1, hS2, hS3, hS4, hS5, hS6, hS7, hS8⟩ := hSw; go_simp; try with_reducible rfl)
        try simp only [Act.put, List.getElem_toArray, List.getElem_cons_zero, List.getElem_cons_succ, List.setIfInBounds_toArray, List.set_cons_zero, List.set_cons_succ]
        refine wpAnyH_take (i := 4) (v := ?v31_) rfl (by kernel_rfl) (by kernel_rfl) (by kernel_rfl) (fun _ _ _ h => h) (Or.inl ⟨by kernel_rfl, ?hy31_⟩) (by assumption) ?rest31_
        case hy31_ => (intro w hSw; (try dsimp only at hSw); obtain ⟨hS0, hS1, hS2, hS3, hS4, hS5, hS6, hS7, hS8⟩ := hSw; go_simp; try with_reducible rfl)
        try simp only [Act.put, List.getElem_toArray, List.getElem_cons_zero, List.getElem_cons_succ, List.setIfInBounds_toArray, List.set_cons_zero, List.set_cons_succ]
        refine wpAnyH_take (i := 7) (v := ?v32_) rfl (by kernel_rfl) (by kernel_rfl) (by kernel_rfl) (fun _ _ _ h => h) (Or.inl ⟨by kernel_rfl, ?hy32_⟩) (by assumption) ?rest32_
        case hy32_ => (intro w hSw; (try dsimp only at hSw); obtain ⟨hS0, hS1, hS2, hS3, hS4, hS5, hS6, hS7, hS8⟩ := hSw; go_simp; try with_reducible rfl)
        try simp only [Act.put, List.getElem_toArray, List.getElem_cons_zero, List.getElem_cons_succ, List.setIfInBounds_toArray, List.set_cons_zero, List.set_cons_succ]
        refine wpAnyH_take (i := 8) (v := ?v33_) rfl (by kernel_rfl) (by kernel_rfl) (by kernel_rfl) (fun _ _ _ h => h) (Or.inl ⟨by kernel_rfl, ?hy33_⟩) (by assumption) ?rest33_
        case hy33_ => (intro w hSw; (try dsimp only at hSw); obtain ⟨hS0, hS1, hS2, hS3, hS4, hS5, hS6, hS7, hS8⟩ := hSw; go_simp; try with_reducible rfl)
        try simp only [Act.put, List.getElem_toArray, List.getElem_cons_zero, List.getElem_cons_succ, List.setIfInBounds_toArray, List.set_cons_zero, List.set_cons_succ]
        refine wpAnyH_take (i := 9) (v := ?v34_) rfl (by kernel_rfl) (by kernel_rfl) (by kernel_rfl) (fun _ _ _ h => h) (Or.inl ⟨by kernel_rfl, ?hy34_⟩) (by assumption) ?rest34_
        case hy34_ => (intro w hSw; (try dsimp only at hSw); obtain ⟨hS0, hS1, hS2, hS3, hS4, hS5, hS6, hS7, hS8⟩ := hSw; go_simp; try with_reducible rfl)
        try simp only [Act.put, List.getElem_toArray, List.getElem_cons_zero, List.getElem_cons_succ, List.setIfInBounds_toArray, List.set_cons_zero, List.set_cons_succ]
        refine wpAnyH_take (i := 10) (v := ?v35_) rfl (by kernel_rfl) (by kernel_rfl) (by kernel_rfl) (fun _ _ _ h => h) (Or.inl ⟨by kernel_rfl, ?hy35_⟩) (by assumption) ?rest35_
        case hy35_ => (intro w hSw; (try dsimp only at hSw); obtain ⟨hS0, hS1, hS2, hS3, hS4, hS5, hS6, hS7, hS8⟩ := hSw; go_simp; try with_reducible rfl)
        try simp only [Act.put, List.getElem_toArray, List.getElem_cons_zero, List.getElem_cons_succ, List.setIfInBounds_toArray, List.set_cons_zero, List.set_cons_succ]
        refine wpAnyH_take (i := 11) (v := ?v36_) rfl (by kernel_rfl) (by kernel_rfl) (by kernel_rfl) (fun _ _ _ h => h) (Or.inl ⟨by kernel_rfl, ?hy36_⟩) (by assumption) ?rest36_
        case hy36_ => (intro w hSw; (try dsimp only at hSw); obtain ⟨hS0, hS1, hS2, hS3, hS4, hS5, hS6, hS7, hS8⟩ := hSw; go_simp; try with_reducible rfl)
        try simp only [Act.put, List.getElem_toArray, List.getElem_cons_zero, List.getElem_cons_succ, List.setIfInBounds_toArray, List.set_cons_zero, List.set_cons_succ]
        refine wpAnyH_ready (rs := [5]) (by kernel_rfl) (by simp) ?_
        refine AllReadyH.cons rfl (fun K hK => ?_) AllReadyH.nil
        go_simp
        go_wp2_with (go_at_call 35; (with_reducible refine (fill_ _ _ _ _ _ _).mono ?_); rintro e w37q ⟨r1, rfl, hf1, hb⟩; have HBn := Aside0.mk (below_step HB.out hb); clear HB; have HB := HBn; clear HBn; have hbxn := Aside0.mk ((hb.block gx (blk_lt hbx.out)).trans hbx.out); clear hbx xx0 fx0 xx1 fx1 xx2 fx2 xx3 fx3; have hbx := hbxn; clear hbxn; have xx0 : w37q.cell? ⟨gx, 0, none⟩ = some (.float .f64 lv) := (blk_cell hbx.out 0).trans rfl; have fx0 := blk_frozen hbx.out 0; have xx1 : w37q.cell? ⟨gx, 1, none⟩ = some (.float .f64 mo) := (blk_cell hbx.out 1).trans rfl; have fx1 := blk_frozen hbx.out 1; have xx2 : w37q.cell? ⟨gx, 2, none⟩ = some (.float .f64 R) := (blk_cell hbx.out 2).trans rfl; have fx2 := blk_frozen hbx.out 2; have xx3 : w37q.cell? ⟨gx, 3, none⟩ = some (.int .u32 li) := (blk_cell hbx.out 3).trans rfl; have fx3 := blk_frozen hbx.out 3; have hbyn := Aside0.mk ((hb.block gy (blk_lt hby.out)).trans hby.out); clear hby xy0 fy0 xy1 fy1 xy2 fy2 xy3 fy3; have hby := hbyn; clear hbyn; have xy0 : w37q.cell? ⟨gy, 0, none⟩ = some (.float .f64 lv) := (blk_cell hby.out 0).trans rfl; have fy0 := blk_frozen hby.out 0; have xy1 : w37q.cell? ⟨gy, 1, none⟩ = some (.float .f64 mo) := (blk_cell hby.out 1).trans rfl; have fy1 := blk_frozen hby.out 1; have xy2 : w37q.cell? ⟨gy, 2, none⟩ = some (.float .f64 S) := (blk_cell hby.out 2).trans rfl; have fy2 := blk_frozen hby.out 2; have xy3 : w37q.cell? ⟨gy, 3, none⟩ = some (.int .u32 li) := (blk_cell hby.out 3).trans rfl; have fy3 := blk_frozen hby.out 3; have xtn := (hb.cell (World.block_lt_of_cell? _ _ xt)).trans xt; clear xt; have xt := xtn; clear xtn; clear hb; have HF1 := Aside0.mk hf1; clear hf1)
        refine hK.out _ _ ?_ (fun hHeld => ?_)
        · exact ⟨xx0, xx1, xx2, xx3, xy0, xy1, xy2, xy3, xt⟩
        clear hK K
        try simp only [Act.put, List.getElem_toArray, List.getElem_cons_zero, List.getElem_cons_succ, List.setIfInBounds_toArray, List.set_cons_zero, List.set_cons_succ]
        refine wpAnyH_ready (rs := [6]) (by kernel_rfl) (by simp) ?_
        refine AllReadyH.cons rfl (fun K hK => ?_) AllReadyH.nil
        go_simp
        go_wp2_with (go_at_call 31; (with_reducible refine (from_ _ _ _ _ _).mono ?_); rintro e w38q ⟨rfl, hb⟩; have HBn := Aside0.mk (below_step HB.out hb); clear HB; have HB := HBn; clear HBn; have hbxn := Aside0.mk ((hb.block gx (blk_lt hbx.out)).trans hbx.out); clear hbx xx0 fx0 xx1 fx1 xx2 fx2 xx3 fx3; have hbx := hbxn; clear hbxn; have xx0 : w38q.cell? ⟨gx, 0, none⟩ = some (.float .f64 lv) := (blk_cell hbx.out 0).trans rfl; have fx0 := blk_frozen hbx.out 0; have xx1 : w38q.cell? ⟨gx, 1, none⟩ = some (.float .f64 mo) := (blk_cell hbx.out 1).trans rfl; have fx1 := blk_frozen hbx.out 1; have xx2 : w38q.cell? ⟨gx, 2, none⟩ = some (.float .f64 R) := (blk_cell hbx.out 2).trans rfl; have fx2 := blk_frozen hbx.out 2; have xx3 : w38q.cell? ⟨gx, 3, none⟩ = some (.int .u32 li) := (blk_cell hbx.out 3).trans rfl; have fx3 := blk_frozen hbx.out 3; have hbyn := Aside0.mk ((hb.block gy (blk_lt hby.out)).trans hby.out); clear hby xy0 fy0 xy1 fy1 xy2 fy2 xy3 fy3; have hby := hbyn; clear hbyn; have xy0 : w38q.cell? ⟨gy, 0, none⟩ = some (.float .f64 lv) := (blk_cell hby.out 0).trans rfl; have fy0 := blk_frozen hby.out 0; have xy1 : w38q.cell? ⟨gy, 1, none⟩ = some (.float .f64 mo) := (blk_cell hby.out 1).trans rfl; have fy1 := blk_frozen hby.out 1; have xy2 : w38q.cell? ⟨gy, 2, none⟩ = some (.float .f64 S) := (blk_cell hby.out 2).trans rfl; have fy2 := blk_frozen hby.out 2; have xy3 : w38q.cell? ⟨gy, 3, none⟩ = some (.int .u32 li) := (blk_cell hby.out 3).trans rfl; have fy3 := blk_frozen hby.out 3; have xtn := (hb.cell (World.block_lt_of_cell? _ _ xt)).trans xt; clear xt; have xt := xtn; clear xtn; clear hb)
        refine hK.out _ _ ?_ (fun hHeld => ?_)
        · exact ⟨xx0, xx1, xx2, xx3, xy0, xy1, xy2, xy3, xt⟩
        clear hK K
        try simp only [Act.put, List.getElem_toArray, List.getElem_cons_zero, List.getElem_cons_succ, List.setIfInBounds_toArray, List.set_cons_zero, List.set_cons_succ]
        refine wpAnyH_ready (rs := [12]) (by kernel_rfl) (by simp) ?_
        refine AllReadyH.cons rfl (fun K hK => ?_) AllReadyH.nil
        go_simp
        go_wp2_with (go_at_call 36; (with_reducible refine (rfill_ _ _ _ _ _ _ HL1.out HYB.out HLI.out).mono ?_); rintro e w39q ⟨r2, rfl, hf2, hb⟩; have HBn := Aside0.mk (below_step HB.out hb); clear HB; have HB := HBn; clear HBn; have hbxn := Aside0.mk ((hb.block gx (blk_lt hbx.out)).trans hbx.out); clear hbx xx0 fx0 xx1 fx1 xx2 fx2 xx3 fx3; have hbx := hbxn; clear hbxn; have xx0 : w39q.cell? ⟨gx, 0, none⟩ = some (.float .f64 lv) := (blk_cell hbx.out 0).trans rfl; have fx0 := blk_frozen hbx.out 0; have xx1 : w39q.cell? ⟨gx, 1, none⟩ = some (.float .f64 mo) := (blk_cell hbx.out 1).trans rfl; have fx1 := blk_frozen hbx.out 1; have xx2 : w39q.cell? ⟨gx, 2, none⟩ = some (.float .f64 R) := (blk_cell hbx.out 2).trans rfl; have fx2 := blk_frozen hbx.out 2; have xx3 : w39q.cell? ⟨gx, 3, none⟩ = some (.int .u32 li) := (blk_cell hbx.out 3).trans rfl; have fx3 := blk_frozen hbx.out 3; have hbyn := Aside0.mk ((hb.block gy (blk_lt hby.out)).trans hby.out); clear hby xy0 fy0 xy1 fy1 xy2 fy2 xy3 fy3; have hby := hbyn; clear hbyn; have xy0 : w39q.cell? ⟨gy, 0, none⟩ = some (.float .f64 lv) := (blk_cell hby.out 0).trans rfl; have fy0 := blk_frozen hby.out 0; have xy1 : w39q.cell? ⟨gy, 1, none⟩ = some (.float .f64 mo) := (blk_cell hby.out 1).trans rfl; have fy1 := blk_frozen hby.out 1; have xy2 : w39q.cell? ⟨gy, 2, none⟩ = some (.float .f64 S) := (blk_cell hby.out 2).trans rfl; have fy2 := blk_frozen hby.out 2; have xy3 : w39q.cell? ⟨gy, 3, none⟩ = some (.int .u32 li) := (blk_cell hby.out 3).trans rfl; have fy3 := blk_frozen hby.out 3; have xtn := (hb.cell (World.block_lt_of_cell? _ _ xt)).trans xt; clear xt; have xt := xtn; clear xtn; clear hb; have HF2 := Aside0.mk hf2; clear hf2)
        refine hK.out _ _ ?_ (fun hHeld => ?_)
        · exact ⟨xx0, xx1, xx2, xx3, xy0, xy1, xy2, xy3, xt⟩
        clear hK K
        try simp only [Act.put, List.getElem_toArray, List.getElem_cons_zero, List.getElem_cons_succ, List.setIfInBounds_toArray, List.set_cons_zero, List.set_cons_succ]
        refine wpAnyH_ready (rs := [13]) (by kernel_rfl) (by simp) ?_
        refine AllReadyH.cons rfl (fun K hK => ?_) AllReadyH.nil
        go_simp
        go_wp2_with (go_at_call 30; (with_reducible refine (requal_ _ _ _ _ _ _ _ _ (E.refl _) (E.refl _) (fill_E HE.out HF1.out HF2.out) HL1.out HL2.out (fill_lt HL2.out HR1.out HF1.out) HL1.out HL2.out (fill_lt HL2.out HR2.out HF2.out)).mono ?_); rintro e w40q ⟨rfl, hb⟩; have HBn := Aside0.mk (below_step HB.out hb); clear HB; have HB := HBn; clear HBn; have hbxn := Aside0.mk ((hb.block gx (blk_lt hbx.out)).trans hbx.out); clear hbx xx0 fx0 xx1 fx1 xx2 fx2 xx3 fx3; have hbx := hbxn; clear hbxn; have xx0 : w40q.cell? ⟨gx, 0, none⟩ = some (.float .f64 lv) := (blk_cell hbx.out 0).trans rfl; have fx0 := blk_frozen hbx.out 0; have xx1 : w40q.cell? ⟨gx, 1, none⟩ = some (.float .f64 mo) := (blk_cell hbx.out 1).trans rfl; have fx1 := blk_frozen hbx.out 1; have xx2 : w40q.cell? ⟨gx, 2, none⟩ = some (.float .f64 R) := (blk_cell hbx.out 2).trans rfl; have fx2 := blk_frozen hbx.out 2; have xx3 : w40q.cell? ⟨gx, 3, none⟩ = some (.int .u32 li) := (blk_cell hbx.out 3).trans rfl; have fx3 := blk_frozen hbx.out 3; have hbyn := Aside0.mk ((hb.block gy (blk_lt hby.out)).trans hby.out); clear hby xy0 fy0 xy1 fy1 xy2 fy2 xy3 fy3; have hby := hbyn; clear hbyn; have xy0 : w40q.cell? ⟨gy, 0, none⟩ = some (.float .f64 lv) := (blk_cell hby.out 0).trans rfl; have fy0 := blk_frozen hby.out 0; have xy1 : w40q.cell? ⟨gy, 1, none⟩ = some (.float .f64 mo) := (blk_cell hby.out 1).trans rfl; have fy1 := blk_frozen hby.out 1; have xy2 : w40q.cell? ⟨gy, 2, none⟩ = some (.float .f64 S) := (blk_cell hby.out 2).trans rfl; have fy2 := blk_frozen hby.out 2; have xy3 : w40q.cell? ⟨gy, 3, none⟩ = some (.int .u32 li) := (blk_cell hby.out 3).trans rfl; have fy3 := blk_frozen hby.out 3; have xtn := (hb.cell (World.block_lt_of_cell? _ _ xt)).trans xt; clear xt; have xt := xtn; clear xtn; clear hb)
        refine hK.out _ _ ?_ (fun hHeld => ?_)
        · exact ⟨xx0, xx1, xx2, xx3, xy0, xy1, xy2, xy3, xt⟩
        clear hK K
        try simp only [Act.put, List.getElem_toArray, List.getElem_cons_zero, List.getElem_cons_succ, List.setIfInBounds_toArray, List.set_cons_zero, List.set_cons_succ]
        refine wpAnyH_take (i := 14) (v := ?v37_) rfl (by kernel_rfl) (by kernel_rfl) (by kernel_rfl) (fun _ _ _ h => h) (Or.inl ⟨by kernel_rfl, ?hy37_⟩) (by assumption) ?rest37_
        case hy37_ => (intro w hSw; (try dsimp only at hSw); obtain ⟨hS0, hS1, hS2, hS3, hS4, hS5, hS6, hS7, hS8⟩ := hSw; go_simp; try with_reducible rfl)
        try simp only [Act.put, List.getElem_toArray, List.getElem_cons_zero, List.getElem_cons_succ, List.setIfInBounds_toArray, List.set_cons_zero, List.set_cons_succ]
        refine wpAnyH_done (by kernel_rfl) ?_ _
        clear HF1 HF2
        go_upto_region 9 with fail
        go_cut [8, 9] from 45 to 99 (fun v8 v9 wd => ∃ (gp r3 : Nat) (ok : Bool), v8 = .pointer (some ⟨gp, 0, none⟩) ∧ v9 = .bool ok ∧ Aside0 (w.heap.size ≤ gp) ∧ gx ≠ gp ∧ gy ≠ gp ∧ Aside0 (TakeR lv mo R li y r3 ok) ∧ Aside0 (wd.heap[gx]? = some (.cells #[.float .f64 lv, .float .f64 mo, .float .f64 R, .int .u32 li] 54 (0, 0))) ∧ Aside0 (wd.heap[gy]? = some (.cells #[.float .f64 lv, .float .f64 mo, .float .f64 S, .int .u32 li] 52 (0, 0))) ∧ Aside0 (wd.heap[gp]? = some (.cells #[.float .f64 lv, .float .f64 mo, .float .f64 r3, .int .u32 y] 54 (0, 0))) ∧ Aside0 (wd.cell? (ad.add i) = some (.int .u32 y)) ∧ Aside0 (Below w.heap.size w wd))
        case first =>
          refine wp_region_held_drew (S := (fun W => W.cell? ⟨gx, 0, none⟩ = some (.float .f64 lv) ∧ W.cell? ⟨gx, 1, none⟩ = some (.float .f64 mo) ∧ W.cell? ⟨gx, 2, none⟩ = some (.float .f64 R) ∧ W.cell? ⟨gx, 3, none⟩ = some (.int .u32 li) ∧ W.cell? (ad.add i) = some (.int .u32 y))) (by kernel_rfl) ?_ (fun hHeld => ?_)
          · exact ⟨xx0, xx1, xx2, xx3, xt⟩
          have hbxn := Aside0.mk (blk_drew hbx.out)
          clear hbx
          have hbx := hbxn
          clear hbxn
          have hbyn := Aside0.mk (blk_drew hby.out)
          clear hby
          have hby := hbyn
          clear hbyn
          have HBn := Aside0.mk (below_drew1 HB.out)
          clear HB
          have HB := HBn
          clear HBn
          have xtn : (w40q.drew).cell? (ad.add i) = some (.int .u32 y) := (by first | (go_simp; done) | (go_simp; exact xt))
          clear xt
          have xt := xtn
          clear xtn
          clear xx0 fx0 xx1 fx1 xx2 fx2 xx3 fx3 xy0 fy0 xy1 fy1 xy2 fy2 xy3 fy3
          generalize w40q.drew = w41q at *
          have xx0 : w41q.cell? ⟨gx, 0, none⟩ = some (.float .f64 lv) := (blk_cell hbx.out 0).trans rfl
          have fx0 := blk_frozen hbx.out 0
          have xx1 : w41q.cell? ⟨gx, 1, none⟩ = some (.float .f64 mo) := (blk_cell hbx.out 1).trans rfl
          have fx1 := blk_frozen hbx.out 1
          have xx2 : w41q.cell? ⟨gx, 2, none⟩ = some (.float .f64 R) := (blk_cell hbx.out 2).trans rfl
          have fx2 := blk_frozen hbx.out 2
          have xx3 : w41q.cell? ⟨gx, 3, none⟩ = some (.int .u32 li) := (blk_cell hbx.out 3).trans rfl
          have fx3 := blk_frozen hbx.out 3
          have xy0 : w41q.cell? ⟨gy, 0, none⟩ = some (.float .f64 lv) := (blk_cell hby.out 0).trans rfl
          have fy0 := blk_frozen hby.out 0
          have xy1 : w41q.cell? ⟨gy, 1, none⟩ = some (.float .f64 mo) := (blk_cell hby.out 1).trans rfl
          have fy1 := blk_frozen hby.out 1
          have xy2 : w41q.cell? ⟨gy, 2, none⟩ = some (.float .f64 S) := (blk_cell hby.out 2).trans rfl
          have fy2 := blk_frozen hby.out 2
          have xy3 : w41q.cell? ⟨gy, 3, none⟩ = some (.int .u32 li) := (blk_cell hby.out 3).trans rfl
          have fy3 := blk_frozen hby.out 3
          refine wpAnyH_take (i := 0) (v := ?v38_) rfl (by kernel_rfl) (by kernel_rfl) (by kernel_rfl) (fun _ _ _ h => h) (Or.inl ⟨by kernel_rfl, ?hy38_⟩) (by assumption) ?rest38_
          case hy38_ => (intro w hSw; (try dsimp only at hSw); obtain ⟨hS0, hS1, hS2, hS3, hS4⟩ := hSw; go_simp; try with_reducible rfl)
          try simp only [Act.put, List.getElem_toArray, List.getElem_cons_zero, List.getElem_cons_succ, List.setIfInBounds_toArray, List.set_cons_zero, List.set_cons_succ]
          refine wpAnyH_take (i := 1) (v := ?v39_) rfl (by kernel_rfl) (by kernel_rfl) (by kernel_rfl) (fun _ _ _ h => h) (Or.inl ⟨by kernel_rfl, ?hy39_⟩) (by assumption) ?rest39_
          case hy39_ => (intro w hSw; (try dsimp only at hSw); obtain ⟨hS0, hS1, hS2, hS3, hS4⟩ := hSw; go_simp; try with_reducible rfl)
          try simp only [Act.put, List.getElem_toArray, List.getElem_cons_zero, List.getElem_cons_succ, List.setIfInBounds_toArray, List.set_cons_zero, List.set_cons_succ]
          refine wpAnyH_take (i := 2) (v := ?v40_) rfl (by kernel_rfl) (by kernel_rfl) (by kernel_rfl) (fun _ _ _ h => h) (Or.inl ⟨by kernel_rfl, ?hy40_⟩) (by assumption) ?rest40_
          case hy40_ => (intro w hSw; (try dsimp only at hSw); obtain ⟨hS0, hS1, hS2, hS3, hS4⟩ := hSw; go_simp; try with_reducible rfl)
          try simp only [Act.put, List.getElem_toArray, List.getElem_cons_zero, List.getElem_cons_succ, List.setIfInBounds_toArray, List.set_cons_zero, List.set_cons_succ]
          refine wpAnyH_take (i := 3) (v := ?v41_) rfl (by kernel_rfl) (by kernel_rfl) (by kernel_rfl) (fun _ _ _ h => h) (Or.inl ⟨by kernel_rfl, ?hy41_⟩) (by assumption) ?rest41_
          case hy41_ => (intro w hSw; (try dsimp only at hSw); obtain ⟨hS0, hS1, hS2, hS3, hS4⟩ := hSw; go_simp; try with_reducible rfl)
          try simp only [Act.put, List.getElem_toArray, List.getElem_cons_zero, List.getElem_cons_succ, List.setIfInBounds_toArray, List.set_cons_zero, List.set_cons_succ]
          refine wpAnyH_take (i := 4) (v := ?v42_) rfl (by kernel_rfl) (by kernel_rfl) (by kernel_rfl) (fun _ _ _ h => h) (Or.inl ⟨by kernel_rfl, ?hy42_⟩) (by assumption) ?rest42_
          case hy42_ => (intro w hSw; (try dsimp only at hSw); obtain ⟨hS0, hS1, hS2, hS3, hS4⟩ := hSw; go_simp; try with_reducible rfl)
          try simp only [Act.put, List.getElem_toArray, List.getElem_cons_zero, List.getElem_cons_succ, List.setIfInBounds_toArray, List.set_cons_zero, List.set_cons_succ]
          refine wpAnyH_ready (rs := [5, 9]) (by kernel_rfl) (by simp) ?_
          refine AllReadyH.cons rfl (fun K hK => ?_) (AllReadyH.cons rfl (fun K hK => ?_) AllReadyH.nil)
          · skip
            go_simp
            go_wp2_with (go_at_call 37; (with_reducible refine (take_ _ _ _ _ _ _).mono ?_); rintro e w42q ⟨r3, ok, rfl, ht3, hb⟩; have HBn := Aside0.mk (below_step HB.out hb); clear HB; have HB := HBn; clear HBn; have hbxn := Aside0.mk ((hb.block gx (blk_lt hbx.out)).trans hbx.out); clear hbx xx0 fx0 xx1 fx1 xx2 fx2 xx3 fx3; have hbx := hbxn; clear hbxn; have xx0 : w42q.cell? ⟨gx, 0, none⟩ = some (.float .f64 lv) := (blk_cell hbx.out 0).trans rfl; have fx0 := blk_frozen hbx.out 0; have xx1 : w42q.cell? ⟨gx, 1, none⟩ = some (.float .f64 mo) := (blk_cell hbx.out 1).trans rfl; have fx1 := blk_frozen hbx.out 1; have xx2 : w42q.cell? ⟨gx, 2, none⟩ = some (.float .f64 R) := (blk_cell hbx.out 2).trans rfl; have fx2 := blk_frozen hbx.out 2; have xx3 : w42q.cell? ⟨gx, 3, none⟩ = some (.int .u32 li) := (blk_cell hbx.out 3).trans rfl; have fx3 := blk_frozen hbx.out 3; have hbyn := Aside0.mk ((hb.block gy (blk_lt hby.out)).trans hby.out); clear hby xy0 fy0 xy1 fy1 xy2 fy2 xy3 fy3; have hby := hbyn; clear hbyn; have xy0 : w42q.cell? ⟨gy, 0, none⟩ = some (.float .f64 lv) := (blk_cell hby.out 0).trans rfl; have fy0 := blk_frozen hby.out 0; have xy1 : w42q.cell? ⟨gy, 1, none⟩ = some (.float .f64 mo) := (blk_cell hby.out 1).trans rfl; have fy1 := blk_frozen hby.out 1; have xy2 : w42q.cell? ⟨gy, 2, none⟩ = some (.float .f64 S) := (blk_cell hby.out 2).trans rfl; have fy2 := blk_frozen hby.out 2; have xy3 : w42q.cell? ⟨gy, 3, none⟩ = some (.int .u32 li) := (blk_cell hby.out 3).trans rfl; have fy3 := blk_frozen hby.out 3; have xtn := (hb.cell (World.block_lt_of_cell? _ _ xt)).trans xt; clear xt; have xt := xtn; clear xtn; clear hb; have HT3 := Aside0.mk ht3; clear ht3)
            refine hK.out _ _ ?_ (fun hHeld => ?_)
            · exact ⟨xx0, xx1, xx2, xx3, xt⟩
            clear hK K
            try simp only [Act.put, List.getElem_toArray, List.getElem_cons_zero, List.getElem_cons_succ, List.setIfInBounds_toArray, List.set_cons_zero, List.set_cons_succ]
            refine wpAnyH_take (i := 6) (v := ?v43_) rfl (by kernel_rfl) (by kernel_rfl) (by kernel_rfl) (fun _ _ _ h => h) (Or.inl ⟨by kernel_rfl, ?hy43_⟩) (by assumption) ?rest43_
            case hy43_ => (intro w hSw; (try dsimp only at hSw); obtain ⟨hS0, hS1, hS2, hS3, hS4⟩ := hSw; go_simp; try with_reducible rfl)
            try simp only [Act.put, List.getElem_toArray, List.getElem_cons_zero, List.getElem_cons_succ, List.setIfInBounds_toArray, List.set_cons_zero, List.set_cons_succ]
            refine wpAnyH_take (i := 7) (v := ?v44_) rfl (by kernel_rfl) (by kernel_rfl) (by kernel_rfl) (fun _ _ _ h => h) (Or.inl ⟨by kernel_rfl, ?hy44_⟩) (by assumption) ?rest44_
            case hy44_ => (intro w hSw; (try dsimp only at hSw); obtain ⟨hS0, hS1, hS2, hS3, hS4⟩ := hSw; go_simp; try with_reducible rfl)
            try simp only [Act.put, List.getElem_toArray, List.getElem_cons_zero, List.getElem_cons_succ, List.setIfInBounds_toArray, List.set_cons_zero, List.set_cons_succ]
            refine wpAnyH_take (i := 8) (v := ?v45_) rfl (by kernel_rfl) (by kernel_rfl) (by kernel_rfl) (fun _ _ _ h => h) (Or.inl ⟨by kernel_rfl, ?hy45_⟩) (by assumption) ?rest45_
            case hy45_ => (intro w hSw; (try dsimp only at hSw); obtain ⟨hS0, hS1, hS2, hS3, hS4⟩ := hSw; go_simp; try with_reducible rfl)
            try simp only [Act.put, List.getElem_toArray, List.getElem_cons_zero, List.getElem_cons_succ, List.setIfInBounds_toArray, List.set_cons_zero, List.set_cons_succ]
            refine wpAnyH_ready (rs := [9]) (by kernel_rfl) (by simp) ?_
            refine AllReadyH.cons rfl (fun K hK => ?_) AllReadyH.nil
            refine box_step (by rfl) (N := 8) rfl (cs := #[.float .f64 0, .float .f64 0, .float .f64 0, .int .u32 0]) (t := 54) (by go_simp; first | done | rfl | exact ⟨rfl, rfl⟩) ?_
            intro gp hgp w43q hbp0 hb
            have gep := Aside0.mk (show w.heap.size ≤ gp from by rw [hgp]; exact below_size HB.out)
            have hnxp : gx ≠ gp := (by rw [hgp]; exact Nat.ne_of_lt (blk_lt hbx.out))
            have hnyp : gy ≠ gp := (by rw [hgp]; exact Nat.ne_of_lt (blk_lt hby.out))
            have hntp : gp ≠ (ad.add i).block := fun e => absurd (World.block_lt_of_cell? w _ X0.out) (by rw [← e]; exact Nat.not_lt.2 gep.out)
            have HBn := Aside0.mk (below_step HB.out hb)
            clear HB
            have HB := HBn
            clear HBn
            have hbxn := Aside0.mk ((hb.block gx (blk_lt hbx.out)).trans hbx.out)
            clear hbx xx0 fx0 xx1 fx1 xx2 fx2 xx3 fx3
            have hbx := hbxn
            clear hbxn
            have xx0 : w43q.cell? ⟨gx, 0, none⟩ = some (.float .f64 lv) := (blk_cell hbx.out 0).trans rfl
            have fx0 := blk_frozen hbx.out 0
            have xx1 : w43q.cell? ⟨gx, 1, none⟩ = some (.float .f64 mo) := (blk_cell hbx.out 1).trans rfl
            have fx1 := blk_frozen hbx.out 1
            have xx2 : w43q.cell? ⟨gx, 2, none⟩ = some (.float .f64 R) := (blk_cell hbx.out 2).trans rfl
            have fx2 := blk_frozen hbx.out 2
            have xx3 : w43q.cell? ⟨gx, 3, none⟩ = some (.int .u32 li) := (blk_cell hbx.out 3).trans rfl
            have fx3 := blk_frozen hbx.out 3
            have hbyn := Aside0.mk ((hb.block gy (blk_lt hby.out)).trans hby.out)
            clear hby xy0 fy0 xy1 fy1 xy2 fy2 xy3 fy3
            have hby := hbyn
            clear hbyn
            have xy0 : w43q.cell? ⟨gy, 0, none⟩ = some (.float .f64 lv) := (blk_cell hby.out 0).trans rfl
            have fy0 := blk_frozen hby.out 0
            have xy1 : w43q.cell? ⟨gy, 1, none⟩ = some (.float .f64 mo) := (blk_cell hby.out 1).trans rfl
            have fy1 := blk_frozen hby.out 1
            have xy2 : w43q.cell? ⟨gy, 2, none⟩ = some (.float .f64 S) := (blk_cell hby.out 2).trans rfl
            have fy2 := blk_frozen hby.out 2
            have xy3 : w43q.cell? ⟨gy, 3, none⟩ = some (.int .u32 li) := (blk_cell hby.out 3).trans rfl
            have fy3 := blk_frozen hby.out 3
            have xtn := (hb.cell (World.block_lt_of_cell? _ _ xt)).trans xt
            clear xt
            have xt := xtn
            clear xtn
            have hbp := Aside0.mk hbp0
            clear hbp0 hgp hb
            have xp0 : w43q.cell? ⟨gp, 0, none⟩ = some (.float .f64 0) := (blk_cell hbp.out 0).trans rfl
            have fp0 := blk_frozen hbp.out 0
            have xp1 : w43q.cell? ⟨gp, 1, none⟩ = some (.float .f64 0) := (blk_cell hbp.out 1).trans rfl
            have fp1 := blk_frozen hbp.out 1
            have xp2 : w43q.cell? ⟨gp, 2, none⟩ = some (.float .f64 0) := (blk_cell hbp.out 2).trans rfl
            have fp2 := blk_frozen hbp.out 2
            have xp3 : w43q.cell? ⟨gp, 3, none⟩ = some (.int .u32 0) := (blk_cell hbp.out 3).trans rfl
            have fp3 := blk_frozen hbp.out 3
            refine hK.out _ _ ?_ (fun hHeld => ?_)
            · exact ⟨xx0, xx1, xx2, xx3, xt⟩
            clear hK K
            try simp only [Act.put, List.getElem_toArray, List.getElem_cons_zero, List.getElem_cons_succ, List.setIfInBounds_toArray, List.set_cons_zero, List.set_cons_succ]
            refine wpAnyH_ready (rs := [10]) (by kernel_rfl) (by simp) ?_
            refine AllReadyH.cons rfl (fun K hK => ?_) AllReadyH.nil
            go_simp
            refine hK.out _ _ ?_ (fun hHeld => ?_)
            · exact ⟨(far4 (fun e => hnxp e.symm)).trans xx0, (far4 (fun e => hnxp e.symm)).trans xx1, (far4 (fun e => hnxp e.symm)).trans xx2, (far4 (fun e => hnxp e.symm)).trans xx3, (far4 hntp).trans xt⟩
            clear hK K
            try simp only [Act.put, List.getElem_toArray, List.getElem_cons_zero, List.getElem_cons_succ, List.setIfInBounds_toArray, List.set_cons_zero, List.set_cons_succ]
            have hbxn : ((((w43q.setCell ⟨gp, 0, none⟩ (.float .f64 lv)).setCell ⟨gp, 1, none⟩ (.float .f64 mo)).setCell ⟨gp, 2, none⟩ (.float .f64 r3)).setCell ⟨gp, 3, none⟩ (.int .u32 y)).heap[gx]? = some (.cells #[.float .f64 lv, .float .f64 mo, .float .f64 R, .int .u32 li] 54 (0, 0)) := (blk_far (blk_far (blk_far (blk_far hbx.out hnxp _) hnxp _) hnxp _) hnxp _)
            have hbyn : ((((w43q.setCell ⟨gp, 0, none⟩ (.float .f64 lv)).setCell ⟨gp, 1, none⟩ (.float .f64 mo)).setCell ⟨gp, 2, none⟩ (.float .f64 r3)).setCell ⟨gp, 3, none⟩ (.int .u32 y)).heap[gy]? = some (.cells #[.float .f64 lv, .float .f64 mo, .float .f64 S, .int .u32 li] 52 (0, 0)) := (blk_far (blk_far (blk_far (blk_far hby.out hnyp _) hnyp _) hnyp _) hnyp _)
            have hbpn : ((((w43q.setCell ⟨gp, 0, none⟩ (.float .f64 lv)).setCell ⟨gp, 1, none⟩ (.float .f64 mo)).setCell ⟨gp, 2, none⟩ (.float .f64 r3)).setCell ⟨gp, 3, none⟩ (.int .u32 y)).heap[gp]? = some (.cells #[.float .f64 lv, .float .f64 mo, .float .f64 r3, .int .u32 y] 54 (0, 0)) := (blk_set (blk_set (blk_set (blk_set hbp.out 0 _) 1 _) 2 _) 3 _)
            have HBn : Below w.heap.size w ((((w43q.setCell ⟨gp, 0, none⟩ (.float .f64 lv)).setCell ⟨gp, 1, none⟩ (.float .f64 mo)).setCell ⟨gp, 2, none⟩ (.float .f64 r3)).setCell ⟨gp, 3, none⟩ (.int .u32 y)) := (below_set (below_set (below_set (below_set HB.out gep.out) gep.out) gep.out) gep.out)
            have xtn : ((((w43q.setCell ⟨gp, 0, none⟩ (.float .f64 lv)).setCell ⟨gp, 1, none⟩ (.float .f64 mo)).setCell ⟨gp, 2, none⟩ (.float .f64 r3)).setCell ⟨gp, 3, none⟩ (.int .u32 y)).cell? (ad.add i) = some (.int .u32 y) := (far4 hntp).trans xt
            clear HB hbx hby hbp xx0 fx0 xx1 fx1 xx2 fx2 xx3 fx3 xy0 fy0 xy1 fy1 xy2 fy2 xy3 fy3 xp0 fp0 xp1 fp1 xp2 fp2 xp3 fp3 xt
            generalize ((((w43q.setCell ⟨gp, 0, none⟩ (.float .f64 lv)).setCell ⟨gp, 1, none⟩ (.float .f64 mo)).setCell ⟨gp, 2, none⟩ (.float .f64 r3)).setCell ⟨gp, 3, none⟩ (.int .u32 y)) = w44q at *
            have hbx := Aside0.mk hbxn
            have hby := Aside0.mk hbyn
            have hbp := Aside0.mk hbpn
            have HB := Aside0.mk HBn
            have xt := xtn
            clear xtn
            clear HBn hbxn hbyn hbpn
            have xx0 : w44q.cell? ⟨gx, 0, none⟩ = some (.float .f64 lv) := (blk_cell hbx.out 0).trans rfl
            have fx0 := blk_frozen hbx.out 0
            have xx1 : w44q.cell? ⟨gx, 1, none⟩ = some (.float .f64 mo) := (blk_cell hbx.out 1).trans rfl
            have fx1 := blk_frozen hbx.out 1
            have xx2 : w44q.cell? ⟨gx, 2, none⟩ = some (.float .f64 R) := (blk_cell hbx.out 2).trans rfl
            have fx2 := blk_frozen hbx.out 2
            have xx3 : w44q.cell? ⟨gx, 3, none⟩ = some (.int .u32 li) := (blk_cell hbx.out 3).trans rfl
            have fx3 := blk_frozen hbx.out 3
            have xy0 : w44q.cell? ⟨gy, 0, none⟩ = some (.float .f64 lv) := (blk_cell hby.out 0).trans rfl
            have fy0 := blk_frozen hby.out 0
            have xy1 : w44q.cell? ⟨gy, 1, none⟩ = some (.float .f64 mo) := (blk_cell hby.out 1).trans rfl
            have fy1 := blk_frozen hby.out 1
            have xy2 : w44q.cell? ⟨gy, 2, none⟩ = some (.float .f64 S) := (blk_cell hby.out 2).trans rfl
            have fy2 := blk_frozen hby.out 2
            have xy3 : w44q.cell? ⟨gy, 3, none⟩ = some (.int .u32 li) := (blk_cell hby.out 3).trans rfl
            have fy3 := blk_frozen hby.out 3
            have xp0 : w44q.cell? ⟨gp, 0, none⟩ = some (.float .f64 lv) := (blk_cell hbp.out 0).trans rfl
            have fp0 := blk_frozen hbp.out 0
            have xp1 : w44q.cell? ⟨gp, 1, none⟩ = some (.float .f64 mo) := (blk_cell hbp.out 1).trans rfl
            have fp1 := blk_frozen hbp.out 1
            have xp2 : w44q.cell? ⟨gp, 2, none⟩ = some (.float .f64 r3) := (blk_cell hbp.out 2).trans rfl
            have fp2 := blk_frozen hbp.out 2
            have xp3 : w44q.cell? ⟨gp, 3, none⟩ = some (.int .u32 y) := (blk_cell hbp.out 3).trans rfl
            have fp3 := blk_frozen hbp.out 3
            refine wpAnyH_take (i := 11) (v := ?v46_) rfl (by kernel_rfl) (by kernel_rfl) (by kernel_rfl) (fun _ _ _ h => h) (Or.inl ⟨by kernel_rfl, ?hy46_⟩) (by assumption) ?rest46_
            case hy46_ => (intro w hSw; (try dsimp only at hSw); obtain ⟨hS0, hS1, hS2, hS3, hS4⟩ := hSw; go_simp; try with_reducible rfl)
            try simp only [Act.put, List.getElem_toArray, List.getElem_cons_zero, List.getElem_cons_succ, List.setIfInBounds_toArray, List.set_cons_zero, List.set_cons_succ]
            refine wpAnyH_done (by kernel_rfl) ?_ _
            go_wp2
            go_meet
            case rel => exact ⟨gp, r3, ok, rfl, rfl, gep, hnxp, hnyp, HT3, hbx, hby, hbp, ⟨xt⟩, HB⟩
          · skip
            refine box_step (by rfl) (N := 8) rfl (cs := #[.float .f64 0, .float .f64 0, .float .f64 0, .int .u32 0]) (t := 54) (by go_simp; first | done | rfl | exact ⟨rfl, rfl⟩) ?_
            intro gp hgp w45q hbp0 hb
            have gep := Aside0.mk (show w.heap.size ≤ gp from by rw [hgp]; exact below_size HB.out)
            have hnxp : gx ≠ gp := (by rw [hgp]; exact Nat.ne_of_lt (blk_lt hbx.out))
            have hnyp : gy ≠ gp := (by rw [hgp]; exact Nat.ne_of_lt (blk_lt hby.out))
            have hntp : gp ≠ (ad.add i).block := fun e => absurd (World.block_lt_of_cell? w _ X0.out) (by rw [← e]; exact Nat.not_lt.2 gep.out)
            have HBn := Aside0.mk (below_step HB.out hb)
            clear HB
            have HB := HBn
            clear HBn
            have hbxn := Aside0.mk ((hb.block gx (blk_lt hbx.out)).trans hbx.out)
            clear hbx xx0 fx0 xx1 fx1 xx2 fx2 xx3 fx3
            have hbx := hbxn
            clear hbxn
            have xx0 : w45q.cell? ⟨gx, 0, none⟩ = some (.float .f64 lv) := (blk_cell hbx.out 0).trans rfl
            have fx0 := blk_frozen hbx.out 0
            have xx1 : w45q.cell? ⟨gx, 1, none⟩ = some (.float .f64 mo) := (blk_cell hbx.out 1).trans rfl
            have fx1 := blk_frozen hbx.out 1
            have xx2 : w45q.cell? ⟨gx, 2, none⟩ = some (.float .f64 R) := (blk_cell hbx.out 2).trans rfl
            have fx2 := blk_frozen hbx.out 2
            have xx3 : w45q.cell? ⟨gx, 3, none⟩ = some (.int .u32 li) := (blk_cell hbx.out 3).trans rfl
            have fx3 := blk_frozen hbx.out 3
            have hbyn := Aside0.mk ((hb.block gy (blk_lt hby.out)).trans hby.out)
            clear hby xy0 fy0 xy1 fy1 xy2 fy2 xy3 fy3
            have hby := hbyn
            clear hbyn
            have xy0 : w45q.cell? ⟨gy, 0, none⟩ = some (.float .f64 lv) := (blk_cell hby.out 0).trans rfl
            have fy0 := blk_frozen hby.out 0
            have xy1 : w45q.cell? ⟨gy, 1, none⟩ = some (.float .f64 mo) := (blk_cell hby.out 1).trans rfl
            have fy1 := blk_frozen hby.out 1
            have xy2 : w45q.cell? ⟨gy, 2, none⟩ = some (.float .f64 S) := (blk_cell hby.out 2).trans rfl
            have fy2 := blk_frozen hby.out 2
            have xy3 : w45q.cell? ⟨gy, 3, none⟩ = some (.int .u32 li) := (blk_cell hby.out 3).trans rfl
            have fy3 := blk_frozen hby.out 3
            have xtn := (hb.cell (World.block_lt_of_cell? _ _ xt)).trans xt
            clear xt
            have xt := xtn
            clear xtn
            have hbp := Aside0.mk hbp0
            clear hbp0 hgp hb
            have xp0 : w45q.cell? ⟨gp, 0, none⟩ = some (.float .f64 0) := (blk_cell hbp.out 0).trans rfl
            have fp0 := blk_frozen hbp.out 0
            have xp1 : w45q.cell? ⟨gp, 1, none⟩ = some (.float .f64 0) := (blk_cell hbp.out 1).trans rfl
            have fp1 := blk_frozen hbp.out 1
            have xp2 : w45q.cell? ⟨gp, 2, none⟩ = some (.float .f64 0) := (blk_cell hbp.out 2).trans rfl
            have fp2 := blk_frozen hbp.out 2
            have xp3 : w45q.cell? ⟨gp, 3, none⟩ = some (.int .u32 0) := (blk_cell hbp.out 3).trans rfl
            have fp3 := blk_frozen hbp.out 3
            refine hK.out _ _ ?_ (fun hHeld => ?_)
            · exact ⟨xx0, xx1, xx2, xx3, xt⟩
            clear hK K
            try simp only [Act.put, List.getElem_toArray, List.getElem_cons_zero, List.getElem_cons_succ, List.setIfInBounds_toArray, List.set_cons_zero, List.set_cons_succ]
            refine wpAnyH_ready (rs := [5]) (by kernel_rfl) (by simp) ?_
            refine AllReadyH.cons rfl (fun K hK => ?_) AllReadyH.nil
            go_simp
            go_wp2_with (go_at_call 37; (with_reducible refine (take_ _ _ _ _ _ _).mono ?_); rintro e w46q ⟨r3, ok, rfl, ht3, hb⟩; have HBn := Aside0.mk (below_step HB.out hb); clear HB; have HB := HBn; clear HBn; have hbxn := Aside0.mk ((hb.block gx (blk_lt hbx.out)).trans hbx.out); clear hbx xx0 fx0 xx1 fx1 xx2 fx2 xx3 fx3; have hbx := hbxn; clear hbxn; have xx0 : w46q.cell? ⟨gx, 0, none⟩ = some (.float .f64 lv) := (blk_cell hbx.out 0).trans rfl; have fx0 := blk_frozen hbx.out 0; have xx1 : w46q.cell? ⟨gx, 1, none⟩ = some (.float .f64 mo) := (blk_cell hbx.out 1).trans rfl; have fx1 := blk_frozen hbx.out 1; have xx2 : w46q.cell? ⟨gx, 2, none⟩ = some (.float .f64 R) := (blk_cell hbx.out 2).trans rfl; have fx2 := blk_frozen hbx.out 2; have xx3 : w46q.cell? ⟨gx, 3, none⟩ = some (.int .u32 li) := (blk_cell hbx.out 3).trans rfl; have fx3 := blk_frozen hbx.out 3; have hbyn := Aside0.mk ((hb.block gy (blk_lt hby.out)).trans hby.out); clear hby xy0 fy0 xy1 fy1 xy2 fy2 xy3 fy3; have hby := hbyn; clear hbyn; have xy0 : w46q.cell? ⟨gy, 0, none⟩ = some (.float .f64 lv) := (blk_cell hby.out 0).trans rfl; have fy0 := blk_frozen hby.out 0; have xy1 : w46q.cell? ⟨gy, 1, none⟩ = some (.float .f64 mo) := (blk_cell hby.out 1).trans rfl; have fy1 := blk_frozen hby.out 1; have xy2 : w46q.cell? ⟨gy, 2, none⟩ = some (.float .f64 S) := (blk_cell hby.out 2).trans rfl; have fy2 := blk_frozen hby.out 2; have xy3 : w46q.cell? ⟨gy, 3, none⟩ = some (.int .u32 li) := (blk_cell hby.out 3).trans rfl; have fy3 := blk_frozen hby.out 3; have hbpn := Aside0.mk ((hb.block gp (blk_lt hbp.out)).trans hbp.out); clear hbp xp0 fp0 xp1 fp1 xp2 fp2 xp3 fp3; have hbp := hbpn; clear hbpn; have xp0 : w46q.cell? ⟨gp, 0, none⟩ = some (.float .f64 0) := (blk_cell hbp.out 0).trans rfl; have fp0 := blk_frozen hbp.out 0; have xp1 : w46q.cell? ⟨gp, 1, none⟩ = some (.float .f64 0) := (blk_cell hbp.out 1).trans rfl; have fp1 := blk_frozen hbp.out 1; have xp2 : w46q.cell? ⟨gp, 2, none⟩ = some (.float .f64 0) := (blk_cell hbp.out 2).trans rfl; have fp2 := blk_frozen hbp.out 2; have xp3 : w46q.cell? ⟨gp, 3, none⟩ = some (.int .u32 0) := (blk_cell hbp.out 3).trans rfl; have fp3 := blk_frozen hbp.out 3; have xtn := (hb.cell (World.block_lt_of_cell? _ _ xt)).trans xt; clear xt; have xt := xtn; clear xtn; clear hb; have HT3 := Aside0.mk ht3; clear ht3)
            refine hK.out _ _ ?_ (fun hHeld => ?_)
            · exact ⟨xx0, xx1, xx2, xx3, xt⟩
            clear hK K
            try simp only [Act.put, List.getElem_toArray, List.getElem_cons_zero, List.getElem_cons_succ, List.setIfInBounds_toArray, List.set_cons_zero, List.set_cons_succ]
            refine wpAnyH_take (i := 6) (v := ?v47_) rfl (by kernel_rfl) (by kernel_rfl) (by kernel_rfl) (fun _ _ _ h => h) (Or.inl ⟨by kernel_rfl, ?hy47_⟩) (by assumption) ?rest47_
            case hy47_ => (intro w hSw; (try dsimp only at hSw); obtain ⟨hS0, hS1, hS2, hS3, hS4⟩ := hSw; go_simp; try with_reducible rfl)
            try simp only [Act.put, List.getElem_toArray, List.getElem_cons_zero, List.getElem_cons_succ, List.setIfInBounds_toArray, List.set_cons_zero, List.set_cons_succ]
            refine wpAnyH_take (i := 7) (v := ?v48_) rfl (by kernel_rfl) (by kernel_rfl) (by kernel_rfl) (fun _ _ _ h => h) (Or.inl ⟨by kernel_rfl, ?hy48_⟩) (by assumption) ?rest48_
            case hy48_ => (intro w hSw; (try dsimp only at hSw); obtain ⟨hS0, hS1, hS2, hS3, hS4⟩ := hSw; go_simp; try with_reducible rfl)
            try simp only [Act.put, List.getElem_toArray, List.getElem_cons_zero, List.getElem_cons_succ, List.setIfInBounds_toArray, List.set_cons_zero, List.set_cons_succ]
            refine wpAnyH_take (i := 8) (v := ?v49_) rfl (by kernel_rfl) (by kernel_rfl) (by kernel_rfl) (fun _ _ _ h => h) (Or.inl ⟨by kernel_rfl, ?hy49_⟩) (by assumption) ?rest49_
            case hy49_ => (intro w hSw; (try dsimp only at hSw); obtain ⟨hS0, hS1, hS2, hS3, hS4⟩ := hSw; go_simp; try with_reducible rfl)
            try simp only [Act.put, List.getElem_toArray, List.getElem_cons_zero, List.getElem_cons_succ, List.setIfInBounds_toArray, List.set_cons_zero, List.set_cons_succ]
            refine wpAnyH_ready (rs := [10]) (by kernel_rfl) (by simp) ?_
            refine AllReadyH.cons rfl (fun K hK => ?_) AllReadyH.nil
            go_simp
            refine hK.out _ _ ?_ (fun hHeld => ?_)
            · exact ⟨(far4 (fun e => hnxp e.symm)).trans xx0, (far4 (fun e => hnxp e.symm)).trans xx1, (far4 (fun e => hnxp e.symm)).trans xx2, (far4 (fun e => hnxp e.symm)).trans xx3, (far4 hntp).trans xt⟩
            clear hK K
            try simp only [Act.put, List.getElem_toArray, List.getElem_cons_zero, List.getElem_cons_succ, List.setIfInBounds_toArray, List.set_cons_zero, List.set_cons_succ]
            have hbxn : ((((w46q.setCell ⟨gp, 0, none⟩ (.float .f64 lv)).setCell ⟨gp, 1, none⟩ (.float .f64 mo)).setCell ⟨gp, 2, none⟩ (.float .f64 r3)).setCell ⟨gp, 3, none⟩ (.int .u32 y)).heap[gx]? = some (.cells #[.float .f64 lv, .float .f64 mo, .float .f64 R, .int .u32 li] 54 (0, 0)) := (blk_far (blk_far (blk_far (blk_far hbx.out hnxp _) hnxp _) hnxp _) hnxp _)
            have hbyn : ((((w46q.setCell ⟨gp, 0, none⟩ (.float .f64 lv)).setCell ⟨gp, 1, none⟩ (.float .f64 mo)).setCell ⟨gp, 2, none⟩ (.float .f64 r3)).setCell ⟨gp, 3, none⟩ (.int .u32 y)).heap[gy]? = some (.cells #[.float .f64 lv, .float .f64 mo, .float .f64 S, .int .u32 li] 52 (0, 0)) := (blk_far (blk_far (blk_far (blk_far hby.out hnyp _) hnyp _) hnyp _) hnyp _)
            have hbpn : ((((w46q.setCell ⟨gp, 0, none⟩ (.float .f64 lv)).setCell ⟨gp, 1, none⟩ (.float .f64 mo)).setCell ⟨gp, 2, none⟩ (.float .f64 r3)).setCell ⟨gp, 3, none⟩ (.int .u32 y)).heap[gp]? = some (.cells #[.float .f64 lv, .float .f64 mo, .float .f64 r3, .int .u32 y] 54 (0, 0)) := (blk_set (blk_set (blk_set (blk_set hbp.out 0 _) 1 _) 2 _) 3 _)
            have HBn : Below w.heap.size w ((((w46q.setCell ⟨gp, 0, none⟩ (.float .f64 lv)).setCell ⟨gp, 1, none⟩ (.float .f64 mo)).setCell ⟨gp, 2, none⟩ (.float .f64 r3)).setCell ⟨gp, 3, none⟩ (.int .u32 y)) := (below_set (below_set (below_set (below_set HB.out gep.out) gep.out) gep.out) gep.out)
            have xtn : ((((w46q.setCell ⟨gp, 0, none⟩ (.float .f64 lv)).setCell ⟨gp, 1, none⟩ (.float .f64 mo)).setCell ⟨gp, 2, none⟩ (.float .f64 r3)).setCell ⟨gp, 3, none⟩ (.int .u32 y)).cell? (ad.add i) = some (.int .u32 y) := (far4 hntp).trans xt
            clear HB hbx hby hbp xx0 fx0 xx1 fx1 xx2 fx2 xx3 fx3 xy0 fy0 xy1 fy1 xy2 fy2 xy3 fy3 xp0 fp0 xp1 fp1 xp2 fp2 xp3 fp3 xt
            generalize ((((w46q.setCell ⟨gp, 0, none⟩ (.float .f64 lv)).setCell ⟨gp, 1, none⟩ (.float .f64 mo)).setCell ⟨gp, 2, none⟩ (.float .f64 r3)).setCell ⟨gp, 3, none⟩ (.int .u32 y)) = w47q at *
            have hbx := Aside0.mk hbxn
            have hby := Aside0.mk hbyn
            have hbp := Aside0.mk hbpn
            have HB := Aside0.mk HBn
            have xt := xtn
            clear xtn
            clear HBn hbxn hbyn hbpn
            have xx0 : w47q.cell? ⟨gx, 0, none⟩ = some (.float .f64 lv) := (blk_cell hbx.out 0).trans rfl
            have fx0 := blk_frozen hbx.out 0
            have xx1 : w47q.cell? ⟨gx, 1, none⟩ = some (.float .f64 mo) := (blk_cell hbx.out 1).trans rfl
            have fx1 := blk_frozen hbx.out 1
            have xx2 : w47q.cell? ⟨gx, 2, none⟩ = some (.float .f64 R) := (blk_cell hbx.out 2).trans rfl
            have fx2 := blk_frozen hbx.out 2
            have xx3 : w47q.cell? ⟨gx, 3, none⟩ = some (.int .u32 li) := (blk_cell hbx.out 3).trans rfl
            have fx3 := blk_frozen hbx.out 3
            have xy0 : w47q.cell? ⟨gy, 0, none⟩ = some (.float .f64 lv) := (blk_cell hby.out 0).trans rfl
            have fy0 := blk_frozen hby.out 0
            have xy1 : w47q.cell? ⟨gy, 1, none⟩ = some (.float .f64 mo) := (blk_cell hby.out 1).trans rfl
            have fy1 := blk_frozen hby.out 1
            have xy2 : w47q.cell? ⟨gy, 2, none⟩ = some (.float .f64 S) := (blk_cell hby.out 2).trans rfl
            have fy2 := blk_frozen hby.out 2
            have xy3 : w47q.cell? ⟨gy, 3, none⟩ = some (.int .u32 li) := (blk_cell hby.out 3).trans rfl
            have fy3 := blk_frozen hby.out 3
            have xp0 : w47q.cell? ⟨gp, 0, none⟩ = some (.float .f64 lv) := (blk_cell hbp.out 0).trans rfl
            have fp0 := blk_frozen hbp.out 0
            have xp1 : w47q.cell? ⟨gp, 1, none⟩ = some (.float .f64 mo) := (blk_cell hbp.out 1).trans rfl
            have fp1 := blk_frozen hbp.out 1
            have xp2 : w47q.cell? ⟨gp, 2, none⟩ = some (.float .f64 r3) := (blk_cell hbp.out 2).trans rfl
            have fp2 := blk_frozen hbp.out 2
            have xp3 : w47q.cell? ⟨gp, 3, none⟩ = some (.int .u32 y) := (blk_cell hbp.out 3).trans rfl
            have fp3 := blk_frozen hbp.out 3
            refine wpAnyH_take (i := 11) (v := ?v50_) rfl (by kernel_rfl) (by kernel_rfl) (by kernel_rfl) (fun _ _ _ h => h) (Or.inl ⟨by kernel_rfl, ?hy50_⟩) (by assumption) ?rest50_
            case hy50_ => (intro w hSw; (try dsimp only at hSw); obtain ⟨hS0, hS1, hS2, hS3, hS4⟩ := hSw; go_simp; try with_reducible rfl)
            try simp only [Act.put, List.getElem_toArray, List.getElem_cons_zero, List.getElem_cons_succ, List.setIfInBounds_toArray, List.set_cons_zero, List.set_cons_succ]
            refine wpAnyH_done (by kernel_rfl) ?_ _
            go_wp2
            go_meet
            case rel => exact ⟨gp, r3, ok, rfl, rfl, gep, hnxp, hnyp, HT3, hbx, hby, hbp, ⟨xt⟩, HB⟩
        case rest =>
          clear HB hbx hby xt xx0 fx0 xx1 fx1 xx2 fx2 xx3 fx3 xy0 fy0 xy1 fy1 xy2 fy2 xy3 fy3
          obtain ⟨gp, r3, ok, rfl, rfl, gep, hnxp, hnyp, HT3, hbx, hby, hbp, xtn, HB⟩ := hcut
          have xt := xtn.out
          clear xtn
          have xx0 : wc.cell? ⟨gx, 0, none⟩ = some (.float .f64 lv) := (blk_cell hbx.out 0).trans rfl
          have fx0 := blk_frozen hbx.out 0
          have xx1 : wc.cell? ⟨gx, 1, none⟩ = some (.float .f64 mo) := (blk_cell hbx.out 1).trans rfl
          have fx1 := blk_frozen hbx.out 1
          have xx2 : wc.cell? ⟨gx, 2, none⟩ = some (.float .f64 R) := (blk_cell hbx.out 2).trans rfl
          have fx2 := blk_frozen hbx.out 2
          have xx3 : wc.cell? ⟨gx, 3, none⟩ = some (.int .u32 li) := (blk_cell hbx.out 3).trans rfl
          have fx3 := blk_frozen hbx.out 3
          have xy0 : wc.cell? ⟨gy, 0, none⟩ = some (.float .f64 lv) := (blk_cell hby.out 0).trans rfl
          have fy0 := blk_frozen hby.out 0
          have xy1 : wc.cell? ⟨gy, 1, none⟩ = some (.float .f64 mo) := (blk_cell hby.out 1).trans rfl
          have fy1 := blk_frozen hby.out 1
          have xy2 : wc.cell? ⟨gy, 2, none⟩ = some (.float .f64 S) := (blk_cell hby.out 2).trans rfl
          have fy2 := blk_frozen hby.out 2
          have xy3 : wc.cell? ⟨gy, 3, none⟩ = some (.int .u32 li) := (blk_cell hby.out 3).trans rfl
          have fy3 := blk_frozen hby.out 3
          have xp0 : wc.cell? ⟨gp, 0, none⟩ = some (.float .f64 lv) := (blk_cell hbp.out 0).trans rfl
          have fp0 := blk_frozen hbp.out 0
          have xp1 : wc.cell? ⟨gp, 1, none⟩ = some (.float .f64 mo) := (blk_cell hbp.out 1).trans rfl
          have fp1 := blk_frozen hbp.out 1
          have xp2 : wc.cell? ⟨gp, 2, none⟩ = some (.float .f64 r3) := (blk_cell hbp.out 2).trans rfl
          have fp2 := blk_frozen hbp.out 2
          have xp3 : wc.cell? ⟨gp, 3, none⟩ = some (.int .u32 y) := (blk_cell hbp.out 3).trans rfl
          have fp3 := blk_frozen hbp.out 3
          go_upto_region 10 with fail
          go_cut [10, 11] from 45 to 99 (fun v10 v11 we => ∃ (gq r4 : Nat), v10 = .pointer (some ⟨gq, 0, none⟩) ∧ v11 = .bool ok ∧ Aside0 (w.heap.size ≤ gq) ∧ gx ≠ gq ∧ gy ≠ gq ∧ gq ≠ gp ∧ Aside0 (E r3 r4) ∧ Aside0 (TakeR lv mo S li y r4 ok) ∧ Aside0 (we.heap[gx]? = some (.cells #[.float .f64 lv, .float .f64 mo, .float .f64 R, .int .u32 li] 54 (0, 0))) ∧ Aside0 (we.heap[gy]? = some (.cells #[.float .f64 lv, .float .f64 mo, .float .f64 S, .int .u32 li] 52 (0, 0))) ∧ Aside0 (we.heap[gp]? = some (.cells #[.float .f64 lv, .float .f64 mo, .float .f64 r3, .int .u32 y] 54 (0, 0))) ∧ Aside0 (we.heap[gq]? = some (.cells #[.float .f64 lv, .float .f64 mo, .float .f64 r4, .int .u32 y] 52 (0, 0))) ∧ Aside0 (we.cell? (ad.add i) = some (.int .u32 y)) ∧ Aside0 (Below w.heap.size w we))
          case first =>
            refine wp_region_held_drew (S := (fun W => W.cell? ⟨gy, 0, none⟩ = some (.float .f64 lv) ∧ W.cell? ⟨gy, 1, none⟩ = some (.float .f64 mo) ∧ W.cell? ⟨gy, 2, none⟩ = some (.float .f64 S) ∧ W.cell? ⟨gy, 3, none⟩ = some (.int .u32 li) ∧ W.cell? (ad.add i) = some (.int .u32 y))) (by kernel_rfl) ?_ (fun hHeld => ?_)
            · exact ⟨xy0, xy1, xy2, xy3, xt⟩
            have hbxn := Aside0.mk (blk_drew hbx.out)
            clear hbx
            have hbx := hbxn
            clear hbxn
            have hbyn := Aside0.mk (blk_drew hby.out)
            clear hby
            have hby := hbyn
            clear hbyn
            have hbpn := Aside0.mk (blk_drew hbp.out)
            clear hbp
            have hbp := hbpn
            clear hbpn
            have HBn := Aside0.mk (below_drew1 HB.out)
            clear HB
            have HB := HBn
            clear HBn
            have xtn : (wc.drew).cell? (ad.add i) = some (.int .u32 y) := (by first | (go_simp; done) | (go_simp; exact xt))
            clear xt
            have xt := xtn
            clear xtn
            clear xx0 fx0 xx1 fx1 xx2 fx2 xx3 fx3 xy0 fy0 xy1 fy1 xy2 fy2 xy3 fy3 xp0 fp0 xp1 fp1 xp2 fp2 xp3 fp3
            generalize wc.drew = w48q at *
            have xx0 : w48q.cell? ⟨gx, 0, none⟩ = some (.float .f64 lv) := (blk_cell hbx.out 0).trans rfl
            have fx0 := blk_frozen hbx.out 0
            have xx1 : w48q.cell? ⟨gx, 1, none⟩ = some (.float .f64 mo) := (blk_cell hbx.out 1).trans rfl
            have fx1 := blk_frozen hbx.out 1
            have xx2 : w48q.cell? ⟨gx, 2, none⟩ = some (.float .f64 R) := (blk_cell hbx.out 2).trans rfl
            have fx2 := blk_frozen hbx.out 2
            have xx3 : w48q.cell? ⟨gx, 3, none⟩ = some (.int .u32 li) := (blk_cell hbx.out 3).trans rfl
            have fx3 := blk_frozen hbx.out 3
            have xy0 : w48q.cell? ⟨gy, 0, none⟩ = some (.float .f64 lv) := (blk_cell hby.out 0).trans rfl
            have fy0 := blk_frozen hby.out 0
            have xy1 : w48q.cell? ⟨gy, 1, none⟩ = some (.float .f64 mo) := (blk_cell hby.out 1).trans rfl
            have fy1 := blk_frozen hby.out 1
            have xy2 : w48q.cell? ⟨gy, 2, none⟩ = some (.float .f64 S) := (blk_cell hby.out 2).trans rfl
            have fy2 := blk_frozen hby.out 2
            have xy3 : w48q.cell? ⟨gy, 3, none⟩ = some (.int .u32 li) := (blk_cell hby.out 3).trans rfl
            have fy3 := blk_frozen hby.out 3
            have xp0 : w48q.cell? ⟨gp, 0, none⟩ = some (.float .f64 lv) := (blk_cell hbp.out 0).trans rfl
            have fp0 := blk_frozen hbp.out 0
            have xp1 : w48q.cell? ⟨gp, 1, none⟩ = some (.float .f64 mo) := (blk_cell hbp.out 1).trans rfl
            have fp1 := blk_frozen hbp.out 1
            have xp2 : w48q.cell? ⟨gp, 2, none⟩ = some (.float .f64 r3) := (blk_cell hbp.out 2).trans rfl
            have fp2 := blk_frozen hbp.out 2
            have xp3 : w48q.cell? ⟨gp, 3, none⟩ = some (.int .u32 y) := (blk_cell hbp.out 3).trans rfl
            have fp3 := blk_frozen hbp.out 3
            refine wpAnyH_take (i := 0) (v := ?v51_) rfl (by kernel_rfl) (by kernel_rfl) (by kernel_rfl) (fun _ _ _ h => h) (Or.inl ⟨by kernel_rfl, ?hy51_⟩) (by assumption) ?rest51_
            case hy51_ => (intro w hSw; (try dsimp only at hSw); obtain ⟨hS0, hS1, hS2, hS3, hS4⟩ := hSw; go_simp; try with_reducible rfl)
            try simp only [Act.put, List.getElem_toArray, List.getElem_cons_zero, List.getElem_cons_succ, List.setIfInBounds_toArray, List.set_cons_zero, List.set_cons_succ]
            refine wpAnyH_take (i := 1) (v := ?v52_) rfl (by kernel_rfl) (by kernel_rfl) (by kernel_rfl) (fun _ _ _ h => h) (Or.inl ⟨by kernel_rfl, ?hy52_⟩) (by assumption) ?rest52_
            case hy52_ => (intro w hSw; (try dsimp only at hSw); obtain ⟨hS0, hS1, hS2, hS3, hS4⟩ := hSw; go_simp; try with_reducible rfl)
            try simp only [Act.put, List.getElem_toArray, List.getElem_cons_zero, List.getElem_cons_succ, List.setIfInBounds_toArray, List.set_cons_zero, List.set_cons_succ]
            refine wpAnyH_take (i := 2) (v := ?v53_) rfl (by kernel_rfl) (by kernel_rfl) (by kernel_rfl) (fun _ _ _ h => h) (Or.inl ⟨by kernel_rfl, ?hy53_⟩) (by assumption) ?rest53_
            case hy53_ => (intro w hSw; (try dsimp only at hSw); obtain ⟨hS0, hS1, hS2, hS3, hS4⟩ := hSw; go_simp; try with_reducible rfl)
            try simp only [Act.put, List.getElem_toArray, List.getElem_cons_zero, List.getElem_cons_succ, List.setIfInBounds_toArray, List.set_cons_zero, List.set_cons_succ]
            refine wpAnyH_take (i := 3) (v := ?v54_) rfl (by kernel_rfl) (by kernel_rfl) (by kernel_rfl) (fun _ _ _ h => h) (Or.inl ⟨by kernel_rfl, ?hy54_⟩) (by assumption) ?rest54_
            case hy54_ => (intro w hSw; (try dsimp only at hSw); obtain ⟨hS0, hS1, hS2, hS3, hS4⟩ := hSw; go_simp; try with_reducible rfl)
            try simp only [Act.put, List.getElem_toArray, List.getElem_cons_zero, List.getElem_cons_succ, List.setIfInBounds_toArray, List.set_cons_zero, List.set_cons_succ]
            refine wpAnyH_take (i := 4) (v := ?v55_) rfl (by kernel_rfl) (by kernel_rfl) (by kernel_rfl) (fun _ _ _ h => h) (Or.inl ⟨by kernel_rfl, ?hy55_⟩) (by assumption) ?rest55_
            case hy55_ => (intro w hSw; (try dsimp only at hSw); obtain ⟨hS0, hS1, hS2, hS3, hS4⟩ := hSw; go_simp; try with_reducible rfl)
            try simp only [Act.put, List.getElem_toArray, List.getElem_cons_zero, List.getElem_cons_succ, List.setIfInBounds_toArray, List.set_cons_zero, List.set_cons_succ]
            refine wpAnyH_ready (rs := [5, 9]) (by kernel_rfl) (by simp) ?_
            refine AllReadyH.cons rfl (fun K hK => ?_) (AllReadyH.cons rfl (fun K hK => ?_) AllReadyH.nil)
            · skip
              go_simp
              go_wp2_with (go_at_call 38; (with_reducible refine (rtake_ _ _ _ _ _ _ HL1.out HYB.out HLI.out).mono ?_); rintro e w49q ⟨r4, ok2, rfl, ht4, hb⟩; have HBn := Aside0.mk (below_step HB.out hb); clear HB; have HB := HBn; clear HBn; have hbxn := Aside0.mk ((hb.block gx (blk_lt hbx.out)).trans hbx.out); clear hbx xx0 fx0 xx1 fx1 xx2 fx2 xx3 fx3; have hbx := hbxn; clear hbxn; have xx0 : w49q.cell? ⟨gx, 0, none⟩ = some (.float .f64 lv) := (blk_cell hbx.out 0).trans rfl; have fx0 := blk_frozen hbx.out 0; have xx1 : w49q.cell? ⟨gx, 1, none⟩ = some (.float .f64 mo) := (blk_cell hbx.out 1).trans rfl; have fx1 := blk_frozen hbx.out 1; have xx2 : w49q.cell? ⟨gx, 2, none⟩ = some (.float .f64 R) := (blk_cell hbx.out 2).trans rfl; have fx2 := blk_frozen hbx.out 2; have xx3 : w49q.cell? ⟨gx, 3, none⟩ = some (.int .u32 li) := (blk_cell hbx.out 3).trans rfl; have fx3 := blk_frozen hbx.out 3; have hbyn := Aside0.mk ((hb.block gy (blk_lt hby.out)).trans hby.out); clear hby xy0 fy0 xy1 fy1 xy2 fy2 xy3 fy3; have hby := hbyn; clear hbyn; have xy0 : w49q.cell? ⟨gy, 0, none⟩ = some (.float .f64 lv) := (blk_cell hby.out 0).trans rfl; have fy0 := blk_frozen hby.out 0; have xy1 : w49q.cell? ⟨gy, 1, none⟩ = some (.float .f64 mo) := (blk_cell hby.out 1).trans rfl; have fy1 := blk_frozen hby.out 1; have xy2 : w49q.cell? ⟨gy, 2, none⟩ = some (.float .f64 S) := (blk_cell hby.out 2).trans rfl; have fy2 := blk_frozen hby.out 2; have xy3 : w49q.cell? ⟨gy, 3, none⟩ = some (.int .u32 li) := (blk_cell hby.out 3).trans rfl; have fy3 := blk_frozen hby.out 3; have hbpn := Aside0.mk ((hb.block gp (blk_lt hbp.out)).trans hbp.out); clear hbp xp0 fp0 xp1 fp1 xp2 fp2 xp3 fp3; have hbp := hbpn; clear hbpn; have xp0 : w49q.cell? ⟨gp, 0, none⟩ = some (.float .f64 lv) := (blk_cell hbp.out 0).trans rfl; have fp0 := blk_frozen hbp.out 0; have xp1 : w49q.cell? ⟨gp, 1, none⟩ = some (.float .f64 mo) := (blk_cell hbp.out 1).trans rfl; have fp1 := blk_frozen hbp.out 1; have xp2 : w49q.cell? ⟨gp, 2, none⟩ = some (.float .f64 r3) := (blk_cell hbp.out 2).trans rfl; have fp2 := blk_frozen hbp.out 2; have xp3 : w49q.cell? ⟨gp, 3, none⟩ = some (.int .u32 y) := (blk_cell hbp.out 3).trans rfl; have fp3 := blk_frozen hbp.out 3; have xtn := (hb.cell (World.block_lt_of_cell? _ _ xt)).trans xt; clear xt; have xt := xtn; clear xtn; clear hb; have he := take_E HE.out HT3.out ht4; have hok2 := he.2; subst hok2; have HE4 := Aside0.mk he.1; have HT4 := Aside0.mk ht4; clear he ht4)
              refine hK.out _ _ ?_ (fun hHeld => ?_)
              · exact ⟨xy0, xy1, xy2, xy3, xt⟩
              clear hK K
              try simp only [Act.put, List.getElem_toArray, List.getElem_cons_zero, List.getElem_cons_succ, List.setIfInBounds_toArray, List.set_cons_zero, List.set_cons_succ]
              refine wpAnyH_take (i := 6) (v := ?v56_) rfl (by kernel_rfl) (by kernel_rfl) (by kernel_rfl) (fun _ _ _ h => h) (Or.inl ⟨by kernel_rfl, ?hy56_⟩) (by assumption) ?rest56_
              case hy56_ => (intro w hSw; (try dsimp only at hSw); obtain ⟨hS0, hS1, hS2, hS3, hS4⟩ := hSw; go_simp; try with_reducible rfl)
              try simp only [Act.put, List.getElem_toArray, List.getElem_cons_zero, List.getElem_cons_succ, List.setIfInBounds_toArray, List.set_cons_zero, List.set_cons_succ]
              refine wpAnyH_take (i := 7) (v := ?v57_) rfl (by kernel_rfl) (by kernel_rfl) (by kernel_rfl) (fun _ _ _ h => h) (Or.inl ⟨by kernel_rfl, ?hy57_⟩) (by assumption) ?rest57_
              case hy57_ => (intro w hSw; (try dsimp only at hSw); obtain ⟨hS0, hS1, hS2, hS3, hS4⟩ := hSw; go_simp; try with_reducible rfl)
              try simp only [Act.put, List.getElem_toArray, List.getElem_cons_zero, List.getElem_cons_succ, List.setIfInBounds_toArray, List.set_cons_zero, List.set_cons_succ]
              refine wpAnyH_take (i := 8) (v := ?v58_) rfl (by kernel_rfl) (by kernel_rfl) (by kernel_rfl) (fun _ _ _ h => h) (Or.inl ⟨by kernel_rfl, ?hy58_⟩) (by assumption) ?rest58_
              case hy58_ => (intro w hSw; (try dsimp only at hSw); obtain ⟨hS0, hS1, hS2, hS3, hS4⟩ := hSw; go_simp; try with_reducible rfl)
              try simp only [Act.put, List.getElem_toArray, List.getElem_cons_zero, List.getElem_cons_succ, List.setIfInBounds_toArray, List.set_cons_zero, List.set_cons_succ]
              refine wpAnyH_ready (rs := [9]) (by kernel_rfl) (by simp) ?_
              refine AllReadyH.cons rfl (fun K hK => ?_) AllReadyH.nil
              refine box_step (by rfl) (N := 10) rfl (cs := #[.float .f64 0, .float .f64 0, .float .f64 0, .int .u32 0]) (t := 52) (by go_simp; first | done | rfl | exact ⟨rfl, rfl⟩) ?_
              intro gq hgq w50q hbq0 hb
              have geq := Aside0.mk (show w.heap.size ≤ gq from by rw [hgq]; exact below_size HB.out)
              have hnxq : gx ≠ gq := (by rw [hgq]; exact Nat.ne_of_lt (blk_lt hbx.out))
              have hnyq : gy ≠ gq := (by rw [hgq]; exact Nat.ne_of_lt (blk_lt hby.out))
              have hnqp : gq ≠ gp := (by rw [hgq]; exact Nat.ne_of_gt (blk_lt hbp.out))
              have hntq : gq ≠ (ad.add i).block := fun e => absurd (World.block_lt_of_cell? w _ X0.out) (by rw [← e]; exact Nat.not_lt.2 geq.out)
              have HBn := Aside0.mk (below_step HB.out hb)
              clear HB
              have HB := HBn
              clear HBn
              have hbxn := Aside0.mk ((hb.block gx (blk_lt hbx.out)).trans hbx.out)
              clear hbx xx0 fx0 xx1 fx1 xx2 fx2 xx3 fx3
              have hbx := hbxn
              clear hbxn
              have xx0 : w50q.cell? ⟨gx, 0, none⟩ = some (.float .f64 lv) := (blk_cell hbx.out 0).trans rfl
              have fx0 := blk_frozen hbx.out 0
              have xx1 : w50q.cell? ⟨gx, 1, none⟩ = some (.float .f64 mo) := (blk_cell hbx.out 1).trans rfl
              have fx1 := blk_frozen hbx.out 1
              have xx2 : w50q.cell? ⟨gx, 2, none⟩ = some (.float .f64 R) := (blk_cell hbx.out 2).trans rfl
              have fx2 := blk_frozen hbx.out 2
              have xx3 : w50q.cell? ⟨gx, 3, none⟩ = some (.int .u32 li) := (blk_cell hbx.out 3).trans rfl
              have fx3 := blk_frozen hbx.out 3
              have hbyn := Aside0.mk ((hb.block gy (blk_lt hby.out)).trans hby.out)
              clear hby xy0 fy0 xy1 fy1 xy2 fy2 xy3 fy3
              have hby := hbyn
              clear hbyn
              have xy0 : w50q.cell? ⟨gy, 0, none⟩ = some (.float .f64 lv) := (blk_cell hby.out 0).trans rfl
              have fy0 := blk_frozen hby.out 0
              have xy1 : w50q.cell? ⟨gy, 1, none⟩ = some (.float .f64 mo) := (blk_cell hby.out 1).trans rfl
              have fy1 := blk_frozen hby.out 1
              have xy2 : w50q.cell? ⟨gy, 2, none⟩ = some (.float .f64 S) := (blk_cell hby.out 2).trans rfl
              have fy2 := blk_frozen hby.out 2
              have xy3 : w50q.cell? ⟨gy, 3, none⟩ = some (.int .u32 li) := (blk_cell hby.out 3).trans rfl
              have fy3 := blk_frozen hby.out 3
              have hbpn := Aside0.mk ((hb.block gp (blk_lt hbp.out)).trans hbp.out)
              clear hbp xp0 fp0 xp1 fp1 xp2 fp2 xp3 fp3
              have hbp := hbpn
              clear hbpn
              have xp0 : w50q.cell? ⟨gp, 0, none⟩ = some (.float .f64 lv) := (blk_cell hbp.out 0).trans rfl
              have fp0 := blk_frozen hbp.out 0
              have xp1 : w50q.cell? ⟨gp, 1, none⟩ = some (.float .f64 mo) := (blk_cell hbp.out 1).trans rfl
              have fp1 := blk_frozen hbp.out 1
              have xp2 : w50q.cell? ⟨gp, 2, none⟩ = some (.float .f64 r3) := (blk_cell hbp.out 2).trans rfl
              have fp2 := blk_frozen hbp.out 2
              have xp3 : w50q.cell? ⟨gp, 3, none⟩ = some (.int .u32 y) := (blk_cell hbp.out 3).trans rfl
              have fp3 := blk_frozen hbp.out 3
              have xtn := (hb.cell (World.block_lt_of_cell? _ _ xt)).trans xt
              clear xt
              have xt := xtn
              clear xtn
              have hbq := Aside0.mk hbq0
              clear hbq0 hgq hb
              have xq0 : w50q.cell? ⟨gq, 0, none⟩ = some (.float .f64 0) := (blk_cell hbq.out 0).trans rfl
              have fq0 := blk_frozen hbq.out 0
              have xq1 : w50q.cell? ⟨gq, 1, none⟩ = some (.float .f64 0) := (blk_cell hbq.out 1).trans rfl
              have fq1 := blk_frozen hbq.out 1
              have xq2 : w50q.cell? ⟨gq, 2, none⟩ = some (.float .f64 0) := (blk_cell hbq.out 2).trans rfl
              have fq2 := blk_frozen hbq.out 2
              have xq3 : w50q.cell? ⟨gq, 3, none⟩ = some (.int .u32 0) := (blk_cell hbq.out 3).trans rfl
              have fq3 := blk_frozen hbq.out 3
              refine hK.out _ _ ?_ (fun hHeld => ?_)
              · exact ⟨xy0, xy1, xy2, xy3, xt⟩
              clear hK K
              try simp only [Act.put, List.getElem_toArray, List.getElem_cons_zero, List.getElem_cons_succ, List.setIfInBounds_toArray, List.set_cons_zero, List.set_cons_succ]
              refine wpAnyH_ready (rs := [10]) (by kernel_rfl) (by simp) ?_
              refine AllReadyH.cons rfl (fun K hK => ?_) AllReadyH.nil
              go_simp
              refine hK.out _ _ ?_ (fun hHeld => ?_)
              · exact ⟨(far4 (fun e => hnyq e.symm)).trans xy0, (far4 (fun e => hnyq e.symm)).trans xy1, (far4 (fun e => hnyq e.symm)).trans xy2, (far4 (fun e => hnyq e.symm)).trans xy3, (far4 hntq).trans xt⟩
              clear hK K
              try simp only [Act.put, List.getElem_toArray, List.getElem_cons_zero, List.getElem_cons_succ, List.setIfInBounds_toArray, List.set_cons_zero, List.set_cons_succ]
              have hbxn : ((((w50q.setCell ⟨gq, 0, none⟩ (.float .f64 lv)).setCell ⟨gq, 1, none⟩ (.float .f64 mo)).setCell ⟨gq, 2, none⟩ (.float .f64 r4)).setCell ⟨gq, 3, none⟩ (.int .u32 y)).heap[gx]? = some (.cells #[.float .f64 lv, .float .f64 mo, .float .f64 R, .int .u32 li] 54 (0, 0)) := (blk_far (blk_far (blk_far (blk_far hbx.out hnxq _) hnxq _) hnxq _) hnxq _)
              have hbyn : ((((w50q.setCell ⟨gq, 0, none⟩ (.float .f64 lv)).setCell ⟨gq, 1, none⟩ (.float .f64 mo)).setCell ⟨gq, 2, none⟩ (.float .f64 r4)).setCell ⟨gq, 3, none⟩ (.int .u32 y)).heap[gy]? = some (.cells #[.float .f64 lv, .float .f64 mo, .float .f64 S, .int .u32 li] 52 (0, 0)) := (blk_far (blk_far (blk_far (blk_far hby.out hnyq _) hnyq _) hnyq _) hnyq _)
              have hbpn : ((((w50q.setCell ⟨gq, 0, none⟩ (.float .f64 lv)).setCell ⟨gq, 1, none⟩ (.float .f64 mo)).setCell ⟨gq, 2, none⟩ (.float .f64 r4)).setCell ⟨gq, 3, none⟩ (.int .u32 y)).heap[gp]? = some (.cells #[.float .f64 lv, .float .f64 mo, .float .f64 r3, .int .u32 y] 54 (0, 0)) := (blk_far (blk_far (blk_far (blk_far hbp.out (fun e => hnqp e.symm) _) (fun e => hnqp e.symm) _) (fun e => hnqp e.symm) _) (fun e => hnqp e.symm) _)
              have hbqn : ((((w50q.setCell ⟨gq, 0, none⟩ (.float .f64 lv)).setCell ⟨gq, 1, none⟩ (.float .f64 mo)).setCell ⟨gq, 2, none⟩ (.float .f64 r4)).setCell ⟨gq, 3, none⟩ (.int .u32 y)).heap[gq]? = some (.cells #[.float .f64 lv, .float .f64 mo, .float .f64 r4, .int .u32 y] 52 (0, 0)) := (blk_set (blk_set (blk_set (blk_set hbq.out 0 _) 1 _) 2 _) 3 _)
              have HBn : Below w.heap.size w ((((w50q.setCell ⟨gq, 0, none⟩ (.float .f64 lv)).setCell ⟨gq, 1, none⟩ (.float .f64 mo)).setCell ⟨gq, 2, none⟩ (.float .f64 r4)).setCell ⟨gq, 3, none⟩ (.int .u32 y)) := (below_set (below_set (below_set (below_set HB.out geq.out) geq.out) geq.out) geq.out)
              have xtn : ((((w50q.setCell ⟨gq, 0, none⟩ (.float .f64 lv)).setCell ⟨gq, 1, none⟩ (.float .f64 mo)).setCell ⟨gq, 2, none⟩ (.float .f64 r4)).setCell ⟨gq, 3, none⟩ (.int .u32 y)).cell? (ad.add i) = some (.int .u32 y) := (far4 hntq).trans xt
              clear HB hbx hby hbp hbq xx0 fx0 xx1 fx1 xx2 fx2 xx3 fx3 xy0 fy0 xy1 fy1 xy2 fy2 xy3 fy3 xp0 fp0 xp1 fp1 xp2 fp2 xp3 fp3 xq0 fq0 xq1 fq1 xq2 fq2 xq3 fq3 xt
              generalize ((((w50q.setCell ⟨gq, 0, none⟩ (.float .f64 lv)).setCell ⟨gq, 1, none⟩ (.float .f64 mo)).setCell ⟨gq, 2, none⟩ (.float .f64 r4)).setCell ⟨gq, 3, none⟩ (.int .u32 y)) = w51q at *
              have hbx := Aside0.mk hbxn
              have hby := Aside0.mk hbyn
              have hbp := Aside0.mk hbpn
              have hbq := Aside0.mk hbqn
              have HB := Aside0.mk HBn
              have xt := xtn
              clear xtn
              clear HBn hbxn hbyn hbpn hbqn
              have xx0 : w51q.cell? ⟨gx, 0, none⟩ = some (.float .f64 lv) := (blk_cell hbx.out 0).trans rfl
              have fx0 := blk_frozen hbx.out 0
              have xx1 : w51q.cell? ⟨gx, 1, none⟩ = some (.float .f64 mo) := (blk_cell hbx.out 1).trans rfl
              have fx1 := blk_frozen hbx.out 1
              have xx2 : w51q.cell? ⟨gx, 2, none⟩ = some (.float .f64 R) := (blk_cell hbx.out 2).trans rfl
              have fx2 := blk_frozen hbx.out 2
              have xx3 : w51q.cell? ⟨gx, 3, none⟩ = some (.int .u32 li) := (blk_cell hbx.out 3).trans rfl
              have fx3 := blk_frozen hbx.out 3
              have xy0 : w51q.cell? ⟨gy, 0, none⟩ = some (.float .f64 lv) := (blk_cell hby.out 0).trans rfl
              have fy0 := blk_frozen hby.out 0
              have xy1 : w51q.cell? ⟨gy, 1, none⟩ = some (.float .f64 mo) := (blk_cell hby.out 1).trans rfl
              have fy1 := blk_frozen hby.out 1
              have xy2 : w51q.cell? ⟨gy, 2, none⟩ = some (.float .f64 S) := (blk_cell hby.out 2).trans rfl
              have fy2 := blk_frozen hby.out 2
              have xy3 : w51q.cell? ⟨gy, 3, none⟩ = some (.int .u32 li) := (blk_cell hby.out 3).trans rfl
              have fy3 := blk_frozen hby.out 3
              have xp0 : w51q.cell? ⟨gp, 0, none⟩ = some (.float .f64 lv) := (blk_cell hbp.out 0).trans rfl
              have fp0 := blk_frozen hbp.out 0
              have xp1 : w51q.cell? ⟨gp, 1, none⟩ = some (.float .f64 mo) := (blk_cell hbp.out 1).trans rfl
              have fp1 := blk_frozen hbp.out 1
              have xp2 : w51q.cell? ⟨gp, 2, none⟩ = some (.float .f64 r3) := (blk_cell hbp.out 2).trans rfl
              have fp2 := blk_frozen hbp.out 2
              have xp3 : w51q.cell? ⟨gp, 3, none⟩ = some (.int .u32 y) := (blk_cell hbp.out 3).trans rfl
              have fp3 := blk_frozen hbp.out 3
              have xq0 : w51q.cell? ⟨gq, 0, none⟩ = some (.float .f64 lv) := (blk_cell hbq.out 0).trans rfl
              have fq0 := blk_frozen hbq.out 0
              have xq1 : w51q.cell? ⟨gq, 1, none⟩ = some (.float .f64 mo) := (blk_cell hbq.out 1).trans rfl
              have fq1 := blk_frozen hbq.out 1
              have xq2 : w51q.cell? ⟨gq, 2, none⟩ = some (.float .f64 r4) := (blk_cell hbq.out 2).trans rfl
              have fq2 := blk_frozen hbq.out 2
              have xq3 : w51q.cell? ⟨gq, 3, none⟩ = some (.int .u32 y) := (blk_cell hbq.out 3).trans rfl
              have fq3 := blk_frozen hbq.out 3
              refine wpAnyH_take (i := 11) (v := ?v59_) rfl (by kernel_rfl) (by kernel_rfl) (by kernel_rfl) (fun _ _ _ h => h) (Or.inl ⟨by kernel_rfl, ?hy59_⟩) (by assumption) ?rest59_
              case hy59_ => (intro w hSw; (try dsimp only at hSw); obtain ⟨hS0, hS1, hS2, hS3, hS4⟩ := hSw; go_simp; try with_reducible rfl)
              try simp only [Act.put, List.getElem_toArray, List.getElem_cons_zero, List.getElem_cons_succ, List.setIfInBounds_toArray, List.set_cons_zero, List.set_cons_succ]
              refine wpAnyH_done (by kernel_rfl) ?_ _
              go_wp2
              go_meet
              case rel => exact ⟨gq, r4, rfl, rfl, geq, hnxq, hnyq, hnqp, HE4, HT4, hbx, hby, hbp, hbq, ⟨xt⟩, HB⟩
            · skip
              refine box_step (by rfl) (N := 10) rfl (cs := #[.float .f64 0, .float .f64 0, .float .f64 0, .int .u32 0]) (t := 52) (by go_simp; first | done | rfl | exact ⟨rfl, rfl⟩) ?_
              intro gq hgq w52q hbq0 hb
              have geq := Aside0.mk (show w.heap.size ≤ gq from by rw [hgq]; exact below_size HB.out)
              have hnxq : gx ≠ gq := (by rw [hgq]; exact Nat.ne_of_lt (blk_lt hbx.out))
              have hnyq : gy ≠ gq := (by rw [hgq]; exact Nat.ne_of_lt (blk_lt hby.out))
              have hnqp : gq ≠ gp := (by rw [hgq]; exact Nat.ne_of_gt (blk_lt hbp.out))
              have hntq : gq ≠ (ad.add i).block := fun e => absurd (World.block_lt_of_cell? w _ X0.out) (by rw [← e]; exact Nat.not_lt.2 geq.out)
              have HBn := Aside0.mk (below_step HB.out hb)
              clear HB
              have HB := HBn
              clear HBn
              have hbxn := Aside0.mk ((hb.block gx (blk_lt hbx.out)).trans hbx.out)
              clear hbx xx0 fx0 xx1 fx1 xx2 fx2 xx3 fx3
              have hbx := hbxn
              clear hbxn
              have xx0 : w52q.cell? ⟨gx, 0, none⟩ = some (.float .f64 lv) := (blk_cell hbx.out 0).trans rfl
              have fx0 := blk_frozen hbx.out 0
              have xx1 : w52q.cell? ⟨gx, 1, none⟩ = some (.float .f64 mo) := (blk_cell hbx.out 1).trans rfl
              have fx1 := blk_frozen hbx.out 1
              have xx2 : w52q.cell? ⟨gx, 2, none⟩ = some (.float .f64 R) := (blk_cell hbx.out 2).trans rfl
              have fx2 := blk_frozen hbx.out 2
              have xx3 : w52q.cell? ⟨gx, 3, none⟩ = some (.int .u32 li) := (blk_cell hbx.out 3).trans rfl
              have fx3 := blk_frozen hbx.out 3
              have hbyn := Aside0.mk ((hb.block gy (blk_lt hby.out)).trans hby.out)
              clear hby xy0 fy0 xy1 fy1 xy2 fy2 xy3 fy3
              have hby := hbyn
              clear hbyn
              have xy0 : w52q.cell? ⟨gy, 0, none⟩ = some (.float .f64 lv) := (blk_cell hby.out 0).trans rfl
              have fy0 := blk_frozen hby.out 0
              have xy1 : w52q.cell? ⟨gy, 1, none⟩ = some (.float .f64 mo) := (blk_cell hby.out 1).trans rfl
              have fy1 := blk_frozen hby.out 1
              have xy2 : w52q.cell? ⟨gy, 2, none⟩ = some (.float .f64 S) := (blk_cell hby.out 2).trans rfl
              have fy2 := blk_frozen hby.out 2
              have xy3 : w52q.cell? ⟨gy, 3, none⟩ = some (.int .u32 li) := (blk_cell hby.out 3).trans rfl
              have fy3 := blk_frozen hby.out 3
              have hbpn := Aside0.mk ((hb.block gp (blk_lt hbp.out)).trans hbp.out)
              clear hbp xp0 fp0 xp1 fp1 xp2 fp2 xp3 fp3
              have hbp := hbpn
              clear hbpn
              have xp0 : w52q.cell? ⟨gp, 0, none⟩ = some (.float .f64 lv) := (blk_cell hbp.out 0).trans rfl
              have fp0 := blk_frozen hbp.out 0
              have xp1 : w52q.cell? ⟨gp, 1, none⟩ = some (.float .f64 mo) := (blk_cell hbp.out 1).trans rfl
              have fp1 := blk_frozen hbp.out 1
              have xp2 : w52q.cell? ⟨gp, 2, none⟩ = some (.float .f64 r3) := (blk_cell hbp.out 2).trans rfl
              have fp2 := blk_frozen hbp.out 2
              have xp3 : w52q.cell? ⟨gp, 3, none⟩ = some (.int .u32 y) := (blk_cell hbp.out 3).trans rfl
              have fp3 := blk_frozen hbp.out 3
              have xtn := (hb.cell (World.block_lt_of_cell? _ _ xt)).trans xt
              clear xt
              have xt := xtn
              clear xtn
              have hbq := Aside0.mk hbq0
              clear hbq0 hgq hb
              have xq0 : w52q.cell? ⟨gq, 0, none⟩ = some (.float .f64 0) := (blk_cell hbq.out 0).trans rfl
              have fq0 := blk_frozen hbq.out 0
              have xq1 : w52q.cell? ⟨gq, 1, none⟩ = some (.float .f64 0) := (blk_cell hbq.out 1).trans rfl
              have fq1 := blk_frozen hbq.out 1
              have xq2 : w52q.cell? ⟨gq, 2, none⟩ = some (.float .f64 0) := (blk_cell hbq.out 2).trans rfl
              have fq2 := blk_frozen hbq.out 2
              have xq3 : w52q.cell? ⟨gq, 3, none⟩ = some (.int .u32 0) := (blk_cell hbq.out 3).trans rfl
              have fq3 := blk_frozen hbq.out 3
              refine hK.out _ _ ?_ (fun hHeld => ?_)
              · exact ⟨xy0, xy1, xy2, xy3, xt⟩
              clear hK K
              try simp only [Act.put, List.getElem_toArray, List.getElem_cons_zero, List.getElem_cons_succ, List.setIfInBounds_toArray, List.set_cons_zero, List.set_cons_succ]
              refine wpAnyH_ready (rs := [5]) (by kernel_rfl) (by simp) ?_
              refine AllReadyH.cons rfl (fun K hK => ?_) AllReadyH.nil
              go_simp
              go_wp2_with (go_at_call 38; (with_reducible refine (rtake_ _ _ _ _ _ _ HL1.out HYB.out HLI.out).mono ?_); rintro e w53q ⟨r4, ok2, rfl, ht4, hb⟩; have HBn := Aside0.mk (below_step HB.out hb); clear HB; have HB := HBn; clear HBn; have hbxn := Aside0.mk ((hb.block gx (blk_lt hbx.out)).trans hbx.out); clear hbx xx0 fx0 xx1 fx1 xx2 fx2 xx3 fx3; have hbx := hbxn; clear hbxn; have xx0 : w53q.cell? ⟨gx, 0, none⟩ = some (.float .f64 lv) := (blk_cell hbx.out 0).trans rfl; have fx0 := blk_frozen hbx.out 0; have xx1 : w53q.cell? ⟨gx, 1, none⟩ = some (.float .f64 mo) := (blk_cell hbx.out 1).trans rfl; have fx1 := blk_frozen hbx.out 1; have xx2 : w53q.cell? ⟨gx, 2, none⟩ = some (.float .f64 R) := (blk_cell hbx.out 2).trans rfl; have fx2 := blk_frozen hbx.out 2; have xx3 : w53q.cell? ⟨gx, 3, none⟩ = some (.int .u32 li) := (blk_cell hbx.out 3).trans rfl; have fx3 := blk_frozen hbx.out 3; have hbyn := Aside0.mk ((hb.block gy (blk_lt hby.out)).trans hby.out); clear hby xy0 fy0 xy1 fy1 xy2 fy2 xy3 fy3; have hby := hbyn; clear hbyn; have xy0 : w53q.cell? ⟨gy, 0, none⟩ = some (.float .f64 lv) := (blk_cell hby.out 0).trans rfl; have fy0 := blk_frozen hby.out 0; have xy1 : w53q.cell? ⟨gy, 1, none⟩ = some (.float .f64 mo) := (blk_cell hby.out 1).trans rfl; have fy1 := blk_frozen hby.out 1; have xy2 : w53q.cell? ⟨gy, 2, none⟩ = some (.float .f64 S) := (blk_cell hby.out 2).trans rfl; have fy2 := blk_frozen hby.out 2; have xy3 : w53q.cell? ⟨gy, 3, none⟩ = some (.int .u32 li) := (blk_cell hby.out 3).trans rfl; have fy3 := blk_frozen hby.out 3; have hbpn := Aside0.mk ((hb.block gp (blk_lt hbp.out)).trans hbp.out); clear hbp xp0 fp0 xp1 fp1 xp2 fp2 xp3 fp3; have hbp := hbpn; clear hbpn; have xp0 : w53q.cell? ⟨gp, 0, none⟩ = some (.float .f64 lv) := (blk_cell hbp.out 0).trans rfl; have fp0 := blk_frozen hbp.out 0; have xp1 : w53q.cell? ⟨gp, 1, none⟩ = some (.float .f64 mo) := (blk_cell hbp.out 1).trans rfl; have fp1 := blk_frozen hbp.out 1; have xp2 : w53q.cell? ⟨gp, 2, none⟩ = some (.float .f64 r3) := (blk_cell hbp.out 2).trans rfl; have fp2 := blk_frozen hbp.out 2; have xp3 : w53q.cell? ⟨gp, 3, none⟩ = some (.int .u32 y) := (blk_cell hbp.out 3).trans rfl; have fp3 := blk_frozen hbp.out 3; have hbqn := Aside0.mk ((hb.block gq (blk_lt hbq.out)).trans hbq.out); clear hbq xq0 fq0 xq1 fq1 xq2 fq2 xq3 fq3; have hbq := hbqn; clear hbqn; have xq0 : w53q.cell? ⟨gq, 0, none⟩ = some (.float .f64 0) := (blk_cell hbq.out 0).trans rfl; have fq0 := blk_frozen hbq.out 0; have xq1 : w53q.cell? ⟨gq, 1, none⟩ = some (.float .f64 0) := (blk_cell hbq.out 1).trans rfl; have fq1 := blk_frozen hbq.out 1; have xq2 : w53q.cell? ⟨gq, 2, none⟩ = some (.float .f64 0) := (blk_cell hbq.out 2).trans rfl; have fq2 := blk_frozen hbq.out 2; have xq3 : w53q.cell? ⟨gq, 3, none⟩ = some (.int .u32 0) := (blk_cell hbq.out 3).trans rfl; have fq3 := blk_frozen hbq.out 3; have xtn := (hb.cell (World.block_lt_of_cell? _ _ xt)).trans xt; clear xt; have xt := xtn; clear xtn; clear hb; have he := take_E HE.out HT3.out ht4; have hok2 := he.2; subst hok2; have HE4 := Aside0.mk he.1; have HT4 := Aside0.mk ht4; clear he ht4)
              refine hK.out _ _ ?_ (fun hHeld => ?_)
              · exact ⟨xy0, xy1, xy2, xy3, xt⟩
              clear hK K
              try simp only [Act.put, List.getElem_toArray, List.getElem_cons_zero, List.getElem_cons_succ, List.setIfInBounds_toArray, List.set_cons_zero, List.set_cons_succ]
              refine wpAnyH_take (i := 6) (v := ?v60_) rfl (by kernel_rfl) (by kernel_rfl) (by kernel_rfl) (fun _ _ _ h => h) (Or.inl ⟨by kernel_rfl, ?hy60_⟩) (by assumption) ?rest60_
              case hy60_ => (intro w hSw; (try dsimp only at hSw); obtain ⟨hS0, hS1, hS2, hS3, hS4⟩ := hSw; go_simp; try with_reducible rfl)
              try simp only [Act.put, List.getElem_toArray, List.getElem_cons_zero, List.getElem_cons_succ, List.setIfInBounds_toArray, List.set_cons_zero, List.set_cons_succ]
              refine wpAnyH_take (i := 7) (v := ?v61_) rfl (by kernel_rfl) (by kernel_rfl) (by kernel_rfl) (fun _ _ _ h => h) (Or.inl ⟨by kernel_rfl, ?hy61_⟩) (by assumption) ?rest61_
              case hy61_ => (intro w hSw; (try dsimp only at hSw); obtain ⟨hS0, hS1, hS2, hS3, hS4⟩ := hSw; go_simp; try with_reducible rfl)
              try simp only [Act.put, List.getElem_toArray, List.getElem_cons_zero, List.getElem_cons_succ, List.setIfInBounds_toArray, List.set_cons_zero, List.set_cons_succ]
              refine wpAnyH_take (i := 8) (v := ?v62_) rfl (by kernel_rfl) (by kernel_rfl) (by kernel_rfl) (fun _ _ _ h => h) (Or.inl ⟨by kernel_rfl, ?hy62_⟩) (by assumption) ?rest62_
              case hy62_ => (intro w hSw; (try dsimp only at hSw); obtain ⟨hS0, hS1, hS2, hS3, hS4⟩ := hSw; go_simp; try with_reducible rfl)
              try simp only [Act.put, List.getElem_toArray, List.getElem_cons_zero, List.getElem_cons_succ, List.setIfInBounds_toArray, List.set_cons_zero, List.set_cons_succ]
              refine wpAnyH_ready (rs := [10]) (by kernel_rfl) (by simp) ?_
              refine AllReadyH.cons rfl (fun K hK => ?_) AllReadyH.nil
              go_simp
              refine hK.out _ _ ?_ (fun hHeld => ?_)
              · exact ⟨(far4 (fun e => hnyq e.symm)).trans xy0, (far4 (fun e => hnyq e.symm)).trans xy1, (far4 (fun e => hnyq e.symm)).trans xy2, (far4 (fun e => hnyq e.symm)).trans xy3, (far4 hntq).trans xt⟩
              clear hK K
              try simp only [Act.put, List.getElem_toArray, List.getElem_cons_zero, List.getElem_cons_succ, List.setIfInBounds_toArray, List.set_cons_zero, List.set_cons_succ]
              have hbxn : ((((w53q.setCell ⟨gq, 0, none⟩ (.float .f64 lv)).setCell ⟨gq, 1, none⟩ (.float .f64 mo)).setCell ⟨gq, 2, none⟩ (.float .f64 r4)).setCell ⟨gq, 3, none⟩ (.int .u32 y)).heap[gx]? = some (.cells #[.float .f64 lv, .float .f64 mo, .float .f64 R, .int .u32 li] 54 (0, 0)) := (blk_far (blk_far (blk_far (blk_far hbx.out hnxq _) hnxq _) hnxq _) hnxq _)
              have hbyn : ((((w53q.setCell ⟨gq, 0, none⟩ (.float .f64 lv)).setCell ⟨gq, 1, none⟩ (.float .f64 mo)).setCell ⟨gq, 2, none⟩ (.float .f64 r4)).setCell ⟨gq, 3, none⟩ (.int .u32 y)).heap[gy]? = some (.cells #[.float .f64 lv, .float .f64 mo, .float .f64 S, .int .u32 li] 52 (0, 0)) := (blk_far (blk_far (blk_far (blk_far hby.out hnyq _) hnyq _) hnyq _) hnyq _)
              have hbpn : ((((w53q.setCell ⟨gq, 0, none⟩ (.float .f64 lv)).setCell ⟨gq, 1, none⟩ (.float .f64 mo)).setCell ⟨gq, 2, none⟩ (.float .f64 r4)).setCell ⟨gq, 3, none⟩ (.int .u32 y)).heap[gp]? = some (.cells #[.float .f64 lv, .float .f64 mo, .float .f64 r3, .int .u32 y] 54 (0, 0)) := (blk_far (blk_far (blk_far (blk_far hbp.out (fun e => hnqp e.symm) _) (fun e => hnqp e.symm) _) (fun e => hnqp e.symm) _) (fun e => hnqp e.symm) _)
              have hbqn : ((((w53q.setCell ⟨gq, 0, none⟩ (.float .f64 lv)).setCell ⟨gq, 1, none⟩ (.float .f64 mo)).setCell ⟨gq, 2, none⟩ (.float .f64 r4)).setCell ⟨gq, 3, none⟩ (.int .u32 y)).heap[gq]? = some (.cells #[.float .f64 lv, .float .f64 mo, .float .f64 r4, .int .u32 y] 52 (0, 0)) := (blk_set (blk_set (blk_set (blk_set hbq.out 0 _) 1 _) 2 _) 3 _)
              have HBn : Below w.heap.size w ((((w53q.setCell ⟨gq, 0, none⟩ (.float .f64 lv)).setCell ⟨gq, 1, none⟩ (.float .f64 mo)).setCell ⟨gq, 2, none⟩ (.float .f64 r4)).setCell ⟨gq, 3, none⟩ (.int .u32 y)) := (below_set (below_set (below_set (below_set HB.out geq.out) geq.out) geq.out) geq.out)
              have xtn : ((((w53q.setCell ⟨gq, 0, none⟩ (.float .f64 lv)).setCell ⟨gq, 1, none⟩ (.float .f64 mo)).setCell ⟨gq, 2, none⟩ (.float .f64 r4)).setCell ⟨gq, 3, none⟩ (.int .u32 y)).cell? (ad.add i) = some (.int .u32 y) := (far4 hntq).trans xt
              clear HB hbx hby hbp hbq xx0 fx0 xx1 fx1 xx2 fx2 xx3 fx3 xy0 fy0 xy1 fy1 xy2 fy2 xy3 fy3 xp0 fp0 xp1 fp1 xp2 fp2 xp3 fp3 xq0 fq0 xq1 fq1 xq2 fq2 xq3 fq3 xt
              generalize ((((w53q.setCell ⟨gq, 0, none⟩ (.float .f64 lv)).setCell ⟨gq, 1, none⟩ (.float .f64 mo)).setCell ⟨gq, 2, none⟩ (.float .f64 r4)).setCell ⟨gq, 3, none⟩ (.int .u32 y)) = w54q at *
              have hbx := Aside0.mk hbxn
              have hby := Aside0.mk hbyn
              have hbp := Aside0.mk hbpn
              have hbq := Aside0.mk hbqn
              have HB := Aside0.mk HBn
              have xt := xtn
              clear xtn
              clear HBn hbxn hbyn hbpn hbqn
              have xx0 : w54q.cell? ⟨gx, 0, none⟩ = some (.float .f64 lv) := (blk_cell hbx.out 0).trans rfl
              have fx0 := blk_frozen hbx.out 0
              have xx1 : w54q.cell? ⟨gx, 1, none⟩ = some (.float .f64 mo) := (blk_cell hbx.out 1).trans rfl
              have fx1 := blk_frozen hbx.out 1
              have xx2 : w54q.cell? ⟨gx, 2, none⟩ = some (.float .f64 R) := (blk_cell hbx.out 2).trans rfl
              have fx2 := blk_frozen hbx.out 2
              have xx3 : w54q.cell? ⟨gx, 3, none⟩ = some (.int .u32 li) := (blk_cell hbx.out 3).trans rfl
              have fx3 := blk_frozen hbx.out 3
              have xy0 : w54q.cell? ⟨gy, 0, none⟩ = some (.float .f64 lv) := (blk_cell hby.out 0).trans rfl
              have fy0 := blk_frozen hby.out 0
              have xy1 : w54q.cell? ⟨gy, 1, none⟩ = some (.float .f64 mo) := (blk_cell hby.out 1).trans rfl
              have fy1 := blk_frozen hby.out 1
              have xy2 : w54q.cell? ⟨gy, 2, none⟩ = some (.float .f64 S) := (blk_cell hby.out 2).trans rfl
              have fy2 := blk_frozen hby.out 2
              have xy3 : w54q.cell? ⟨gy, 3, none⟩ = some (.int .u32 li) := (blk_cell hby.out 3).trans rfl
              have fy3 := blk_frozen hby.out 3
              have xp0 : w54q.cell? ⟨gp, 0, none⟩ = some (.float .f64 lv) := (blk_cell hbp.out 0).trans rfl
              have fp0 := blk_frozen hbp.out 0
              have xp1 : w54q.cell? ⟨gp, 1, none⟩ = some (.float .f64 mo) := (blk_cell hbp.out 1).trans rfl
              have fp1 := blk_frozen hbp.out 1
              have xp2 : w54q.cell? ⟨gp, 2, none⟩ = some (.float .f64 r3) := (blk_cell hbp.out 2).trans rfl
              have fp2 := blk_frozen hbp.out 2
              have xp3 : w54q.cell? ⟨gp, 3, none⟩ = some (.int .u32 y) := (blk_cell hbp.out 3).trans rfl
              have fp3 := blk_frozen hbp.out 3
              have xq0 : w54q.cell? ⟨gq, 0, none⟩ = some (.float .f64 lv) := (blk_cell hbq.out 0).trans rfl
              have fq0 := blk_frozen hbq.out 0
              have xq1 : w54q.cell? ⟨gq, 1, none⟩ = some (.float .f64 mo) := (blk_cell hbq.out 1).trans rfl
              have fq1 := blk_frozen hbq.out 1
              have xq2 : w54q.cell? ⟨gq, 2, none⟩ = some (.float .f64 r4) := (blk_cell hbq.out 2).trans rfl
              have fq2 := blk_frozen hbq.out 2
              have xq3 : w54q.cell? ⟨gq, 3, none⟩ = some (.int .u32 y) := (blk_cell hbq.out 3).trans rfl
              have fq3 := blk_frozen hbq.out 3
              refine wpAnyH_take (i := 11) (v := ?v63_) rfl (by kernel_rfl) (by kernel_rfl) (by kernel_rfl) (fun _ _ _ h => h) (Or.inl ⟨by kernel_rfl, ?hy63_⟩) (by assumption) ?rest63_
              case hy63_ => (intro w hSw; (try dsimp only at hSw); obtain ⟨hS0, hS1, hS2, hS3, hS4⟩ := hSw; go_simp; try with_reducible rfl)
              try simp only [Act.put, List.getElem_toArray, List.getElem_cons_zero, List.getElem_cons_succ, List.setIfInBounds_toArray, List.set_cons_zero, List.set_cons_succ]
              refine wpAnyH_done (by kernel_rfl) ?_ _
              go_wp2
              go_meet
              case rel => exact ⟨gq, r4, rfl, rfl, geq, hnxq, hnyq, hnqp, HE4, HT4, hbx, hby, hbp, hbq, ⟨xt⟩, HB⟩
          case rest =>
            clear HB hbx hby hbp xt xx0 fx0 xx1 fx1 xx2 fx2 xx3 fx3 xy0 fy0 xy1 fy1 xy2 fy2 xy3 fy3 xp0 fp0 xp1 fp1 xp2 fp2 xp3 fp3
            obtain ⟨gq, r4, rfl, rfl, geq, hnxq, hnyq, hnqp, HE4, HT4, hbx, hby, hbp, hbq, xtn, HB⟩ := hcut
            have xt := xtn.out
            clear xtn
            have xx0 : wc.cell? ⟨gx, 0, none⟩ = some (.float .f64 lv) := (blk_cell hbx.out 0).trans rfl
            have fx0 := blk_frozen hbx.out 0
            have xx1 : wc.cell? ⟨gx, 1, none⟩ = some (.float .f64 mo) := (blk_cell hbx.out 1).trans rfl
            have fx1 := blk_frozen hbx.out 1
            have xx2 : wc.cell? ⟨gx, 2, none⟩ = some (.float .f64 R) := (blk_cell hbx.out 2).trans rfl
            have fx2 := blk_frozen hbx.out 2
            have xx3 : wc.cell? ⟨gx, 3, none⟩ = some (.int .u32 li) := (blk_cell hbx.out 3).trans rfl
            have fx3 := blk_frozen hbx.out 3
            have xy0 : wc.cell? ⟨gy, 0, none⟩ = some (.float .f64 lv) := (blk_cell hby.out 0).trans rfl
            have fy0 := blk_frozen hby.out 0
            have xy1 : wc.cell? ⟨gy, 1, none⟩ = some (.float .f64 mo) := (blk_cell hby.out 1).trans rfl
            have fy1 := blk_frozen hby.out 1
            have xy2 : wc.cell? ⟨gy, 2, none⟩ = some (.float .f64 S) := (blk_cell hby.out 2).trans rfl
            have fy2 := blk_frozen hby.out 2
            have xy3 : wc.cell? ⟨gy, 3, none⟩ = some (.int .u32 li) := (blk_cell hby.out 3).trans rfl
            have fy3 := blk_frozen hby.out 3
            have xp0 : wc.cell? ⟨gp, 0, none⟩ = some (.float .f64 lv) := (blk_cell hbp.out 0).trans rfl
            have fp0 := blk_frozen hbp.out 0
            have xp1 : wc.cell? ⟨gp, 1, none⟩ = some (.float .f64 mo) := (blk_cell hbp.out 1).trans rfl
            have fp1 := blk_frozen hbp.out 1
            have xp2 : wc.cell? ⟨gp, 2, none⟩ = some (.float .f64 r3) := (blk_cell hbp.out 2).trans rfl
            have fp2 := blk_frozen hbp.out 2
            have xp3 : wc.cell? ⟨gp, 3, none⟩ = some (.int .u32 y) := (blk_cell hbp.out 3).trans rfl
            have fp3 := blk_frozen hbp.out 3
            have xq0 : wc.cell? ⟨gq, 0, none⟩ = some (.float .f64 lv) := (blk_cell hbq.out 0).trans rfl
            have fq0 := blk_frozen hbq.out 0
            have xq1 : wc.cell? ⟨gq, 1, none⟩ = some (.float .f64 mo) := (blk_cell hbq.out 1).trans rfl
            have fq1 := blk_frozen hbq.out 1
            have xq2 : wc.cell? ⟨gq, 2, none⟩ = some (.float .f64 r4) := (blk_cell hbq.out 2).trans rfl
            have fq2 := blk_frozen hbq.out 2
            have xq3 : wc.cell? ⟨gq, 3, none⟩ = some (.int .u32 y) := (blk_cell hbq.out 3).trans rfl
            have fq3 := blk_frozen hbq.out 3
            have hokk : (ok != ok) = false := by cases ok <;> rfl
            go_upto_region 11 with fail
            refine wp_region_held_drew (S := (fun W => W.cell? ⟨gp, 0, none⟩ = some (.float .f64 lv) ∧ W.cell? ⟨gp, 1, none⟩ = some (.float .f64 mo) ∧ W.cell? ⟨gp, 2, none⟩ = some (.float .f64 r3) ∧ W.cell? ⟨gp, 3, none⟩ = some (.int .u32 y) ∧ W.cell? ⟨gq, 0, none⟩ = some (.float .f64 lv) ∧ W.cell? ⟨gq, 1, none⟩ = some (.float .f64 mo) ∧ W.cell? ⟨gq, 2, none⟩ = some (.float .f64 r4) ∧ W.cell? ⟨gq, 3, none⟩ = some (.int .u32 y))) (by kernel_rfl) ?_ (fun hHeld => ?_)
            · exact ⟨xp0, xp1, xp2, xp3, xq0, xq1, xq2, xq3⟩
            have hbxn := Aside0.mk (blk_drew hbx.out)
            clear hbx
            have hbx := hbxn
            clear hbxn
            have hbyn := Aside0.mk (blk_drew hby.out)
            clear hby
            have hby := hbyn
            clear hbyn
            have hbpn := Aside0.mk (blk_drew hbp.out)
            clear hbp
            have hbp := hbpn
            clear hbpn
            have hbqn := Aside0.mk (blk_drew hbq.out)
            clear hbq
            have hbq := hbqn
            clear hbqn
            have HBn := Aside0.mk (below_drew1 HB.out)
            clear HB
            have HB := HBn
            clear HBn
            have xtn : (wc.drew).cell? (ad.add i) = some (.int .u32 y) := (by first | (go_simp; done) | (go_simp; exact xt))
            clear xt
            have xt := xtn
            clear xtn
            clear xx0 fx0 xx1 fx1 xx2 fx2 xx3 fx3 xy0 fy0 xy1 fy1 xy2 fy2 xy3 fy3 xp0 fp0 xp1 fp1 xp2 fp2 xp3 fp3 xq0 fq0 xq1 fq1 xq2 fq2 xq3 fq3
            generalize wc.drew = w55q at *
            have xx0 : w55q.cell? ⟨gx, 0, none⟩ = some (.float .f64 lv) := (blk_cell hbx.out 0).trans rfl
            have fx0 := blk_frozen hbx.out 0
            have xx1 : w55q.cell? ⟨gx, 1, none⟩ = some (.float .f64 mo) := (blk_cell hbx.out 1).trans rfl
            have fx1 := blk_frozen hbx.out 1
            have xx2 : w55q.cell? ⟨gx, 2, none⟩ = some (.float .f64 R) := (blk_cell hbx.out 2).trans rfl
            have fx2 := blk_frozen hbx.out 2
            have xx3 : w55q.cell? ⟨gx, 3, none⟩ = some (.int .u32 li) := (blk_cell hbx.out 3).trans rfl
            have fx3 := blk_frozen hbx.out 3
            have xy0 : w55q.cell? ⟨gy, 0, none⟩ = some (.float .f64 lv) := (blk_cell hby.out 0).trans rfl
            have fy0 := blk_frozen hby.out 0
            have xy1 : w55q.cell? ⟨gy, 1, none⟩ = some (.float .f64 mo) := (blk_cell hby.out 1).trans rfl
            have fy1 := blk_frozen hby.out 1
            have xy2 : w55q.cell? ⟨gy, 2, none⟩ = some (.float .f64 S) := (blk_cell hby.out 2).trans rfl
            have fy2 := blk_frozen hby.out 2
            have xy3 : w55q.cell? ⟨gy, 3, none⟩ = some (.int .u32 li) := (blk_cell hby.out 3).trans rfl
            have fy3 := blk_frozen hby.out 3
            have xp0 : w55q.cell? ⟨gp, 0, none⟩ = some (.float .f64 lv) := (blk_cell hbp.out 0).trans rfl
            have fp0 := blk_frozen hbp.out 0
            have xp1 : w55q.cell? ⟨gp, 1, none⟩ = some (.float .f64 mo) := (blk_cell hbp.out 1).trans rfl
            have fp1 := blk_frozen hbp.out 1
            have xp2 : w55q.cell? ⟨gp, 2, none⟩ = some (.float .f64 r3) := (blk_cell hbp.out 2).trans rfl
            have fp2 := blk_frozen hbp.out 2
            have xp3 : w55q.cell? ⟨gp, 3, none⟩ = some (.int .u32 y) := (blk_cell hbp.out 3).trans rfl
            have fp3 := blk_frozen hbp.out 3
            have xq0 : w55q.cell? ⟨gq, 0, none⟩ = some (.float .f64 lv) := (blk_cell hbq.out 0).trans rfl
            have fq0 := blk_frozen hbq.out 0
            have xq1 : w55q.cell? ⟨gq, 1, none⟩ = some (.float .f64 mo) := (blk_cell hbq.out 1).trans rfl
            have fq1 := blk_frozen hbq.out 1
            have xq2 : w55q.cell? ⟨gq, 2, none⟩ = some (.float .f64 r4) := (blk_cell hbq.out 2).trans rfl
            have fq2 := blk_frozen hbq.out 2
            have xq3 : w55q.cell? ⟨gq, 3, none⟩ = some (.int .u32 y) := (blk_cell hbq.out 3).trans rfl
            have fq3 := blk_frozen hbq.out 3
            refine wpAnyH_take (i := 0) (v := ?v64_) rfl (by kernel_rfl) (by kernel_rfl) (by kernel_rfl) (fun _ _ _ h => h) (Or.inl ⟨by kernel_rfl, ?hy64_⟩) (by assumption) ?rest64_
            case hy64_ => (intro w hSw; (try dsimp only at hSw); obtain ⟨hS0, hS1, hS2, hS3, hS4, hS5, hS6, hS7⟩ := hSw; go_simp; try with_reducible rfl)
            try simp only [Act.put, List.getElem_toArray, List.getElem_cons_zero, List.getElem_cons_succ, List.setIfInBounds_toArray, List.set_cons_zero, List.set_cons_succ]
            refine wpAnyH_take (i := 1) (v := ?v65_) rfl (by kernel_rfl) (by kernel_rfl) (by kernel_rfl) (fun _ _ _ h => h) (Or.inl ⟨by kernel_rfl, ?hy65_⟩) (by assumption) ?rest65_
            case hy65_ => (intro w hSw; (try dsimp only at hSw); obtain ⟨hS0, hS1, hS2, hS3, hS4, hS5, hS6, hS7⟩ := hSw; go_simp; try with_reducible rfl)
            try simp only [Act.put, List.getElem_toArray, List.getElem_cons_zero, List.getElem_cons_succ, List.setIfInBounds_toArray, List.set_cons_zero, List.set_cons_succ]
            refine wpAnyH_take (i := 2) (v := ?v66_) rfl (by kernel_rfl) (by kernel_rfl) (by kernel_rfl) (fun _ _ _ h => h) (Or.inl ⟨by kernel_rfl, ?hy66_⟩) (by assumption) ?rest66_
            case hy66_ => (intro w hSw; (try dsimp only at hSw); obtain ⟨hS0, hS1, hS2, hS3, hS4, hS5, hS6, hS7⟩ := hSw; go_simp; try with_reducible rfl)
            try simp only [Act.put, List.getElem_toArray, List.getElem_cons_zero, List.getElem_cons_succ, List.setIfInBounds_toArray, List.set_cons_zero, List.set_cons_succ]
            refine wpAnyH_take (i := 3) (v := ?v67_) rfl (by kernel_rfl) (by kernel_rfl) (by kernel_rfl) (fun _ _ _ h => h) (Or.inl ⟨by kernel_rfl, ?hy67_⟩) (by assumption) ?rest67_
            case hy67_ => (intro w hSw; (try dsimp only at hSw); obtain ⟨hS0, hS1, hS2, hS3, hS4, hS5, hS6, hS7⟩ := hSw; go_simp; try with_reducible rfl)
            try simp only [Act.put, List.getElem_toArray, List.getElem_cons_zero, List.getElem_cons_succ, List.setIfInBounds_toArray, List.set_cons_zero, List.set_cons_succ]
            refine wpAnyH_take (i := 4) (v := ?v68_) rfl (by kernel_rfl) (by kernel_rfl) (by kernel_rfl) (fun _ _ _ h => h) (Or.inl ⟨by kernel_rfl, ?hy68_⟩) (by assumption) ?rest68_
            case hy68_ => (intro w hSw; (try dsimp only at hSw); obtain ⟨hS0, hS1, hS2, hS3, hS4, hS5, hS6, hS7⟩ := hSw; go_simp; try with_reducible rfl)
            try simp only [Act.put, List.getElem_toArray, List.getElem_cons_zero, List.getElem_cons_succ, List.setIfInBounds_toArray, List.set_cons_zero, List.set_cons_succ]
            refine wpAnyH_take (i := 6) (v := ?v69_) rfl (by kernel_rfl) (by kernel_rfl) (by kernel_rfl) (fun _ _ _ h => h) (Or.inl ⟨by kernel_rfl, ?hy69_⟩) (by assumption) ?rest69_
            case hy69_ => (intro w hSw; (try dsimp only at hSw); obtain ⟨hS0, hS1, hS2, hS3, hS4, hS5, hS6, hS7⟩ := hSw; go_simp; try with_reducible rfl)
            try simp only [Act.put, List.getElem_toArray, List.getElem_cons_zero, List.getElem_cons_succ, List.setIfInBounds_toArray, List.set_cons_zero, List.set_cons_succ]
            refine wpAnyH_ready (rs := [5]) (by kernel_rfl) (by simp) ?_
            refine AllReadyH.cons rfl (fun K hK => ?_) AllReadyH.nil
            go_simp
            go_wp2_with (go_at_call 31; (with_reducible refine (from_ _ _ _ _ _).mono ?_); rintro e w56q ⟨rfl, hb⟩; have HBn := Aside0.mk (below_step HB.out hb); clear HB; have HB := HBn; clear HBn; have hbxn := Aside0.mk ((hb.block gx (blk_lt hbx.out)).trans hbx.out); clear hbx xx0 fx0 xx1 fx1 xx2 fx2 xx3 fx3; have hbx := hbxn; clear hbxn; have xx0 : w56q.cell? ⟨gx, 0, none⟩ = some (.float .f64 lv) := (blk_cell hbx.out 0).trans rfl; have fx0 := blk_frozen hbx.out 0; have xx1 : w56q.cell? ⟨gx, 1, none⟩ = some (.float .f64 mo) := (blk_cell hbx.out 1).trans rfl; have fx1 := blk_frozen hbx.out 1; have xx2 : w56q.cell? ⟨gx, 2, none⟩ = some (.float .f64 R) := (blk_cell hbx.out 2).trans rfl; have fx2 := blk_frozen hbx.out 2; have xx3 : w56q.cell? ⟨gx, 3, none⟩ = some (.int .u32 li) := (blk_cell hbx.out 3).trans rfl; have fx3 := blk_frozen hbx.out 3; have hbyn := Aside0.mk ((hb.block gy (blk_lt hby.out)).trans hby.out); clear hby xy0 fy0 xy1 fy1 xy2 fy2 xy3 fy3; have hby := hbyn; clear hbyn; have xy0 : w56q.cell? ⟨gy, 0, none⟩ = some (.float .f64 lv) := (blk_cell hby.out 0).trans rfl; have fy0 := blk_frozen hby.out 0; have xy1 : w56q.cell? ⟨gy, 1, none⟩ = some (.float .f64 mo) := (blk_cell hby.out 1).trans rfl; have fy1 := blk_frozen hby.out 1; have xy2 : w56q.cell? ⟨gy, 2, none⟩ = some (.float .f64 S) := (blk_cell hby.out 2).trans rfl; have fy2 := blk_frozen hby.out 2; have xy3 : w56q.cell? ⟨gy, 3, none⟩ = some (.int .u32 li) := (blk_cell hby.out 3).trans rfl; have fy3 := blk_frozen hby.out 3; have hbpn := Aside0.mk ((hb.block gp (blk_lt hbp.out)).trans hbp.out); clear hbp xp0 fp0 xp1 fp1 xp2 fp2 xp3 fp3; have hbp := hbpn; clear hbpn; have xp0 : w56q.cell? ⟨gp, 0, none⟩ = some (.float .f64 lv) := (blk_cell hbp.out 0).trans rfl; have fp0 := blk_frozen hbp.out 0; have xp1 : w56q.cell? ⟨gp, 1, none⟩ = some (.float .f64 mo) := (blk_cell hbp.out 1).trans rfl; have fp1 := blk_frozen hbp.out 1; have xp2 : w56q.cell? ⟨gp, 2, none⟩ = some (.float .f64 r3) := (blk_cell hbp.out 2).trans rfl; have fp2 := blk_frozen hbp.out 2; have xp3 : w56q.cell? ⟨gp, 3, none⟩ = some (.int .u32 y) := (blk_cell hbp.out 3).trans rfl; have fp3 := blk_frozen hbp.out 3; have hbqn := Aside0.mk ((hb.block gq (blk_lt hbq.out)).trans hbq.out); clear hbq xq0 fq0 xq1 fq1 xq2 fq2 xq3 fq3; have hbq := hbqn; clear hbqn; have xq0 : w56q.cell? ⟨gq, 0, none⟩ = some (.float .f64 lv) := (blk_cell hbq.out 0).trans rfl; have fq0 := blk_frozen hbq.out 0; have xq1 : w56q.cell? ⟨gq, 1, none⟩ = some (.float .f64 mo) := (blk_cell hbq.out 1).trans rfl; have fq1 := blk_frozen hbq.out 1; have xq2 : w56q.cell? ⟨gq, 2, none⟩ = some (.float .f64 r4) := (blk_cell hbq.out 2).trans rfl; have fq2 := blk_frozen hbq.out 2; have xq3 : w56q.cell? ⟨gq, 3, none⟩ = some (.int .u32 y) := (blk_cell hbq.out 3).trans rfl; have fq3 := blk_frozen hbq.out 3; have xtn := (hb.cell (World.block_lt_of_cell? _ _ xt)).trans xt; clear xt; have xt := xtn; clear xtn; clear hb)
            refine hK.out _ _ ?_ (fun hHeld => ?_)
            · exact ⟨xp0, xp1, xp2, xp3, xq0, xq1, xq2, xq3⟩
            clear hK K
            try simp only [Act.put, List.getElem_toArray, List.getElem_cons_zero, List.getElem_cons_succ, List.setIfInBounds_toArray, List.set_cons_zero, List.set_cons_succ]
            refine wpAnyH_ready (rs := [7]) (by kernel_rfl) (by simp) ?_
            refine AllReadyH.cons rfl (fun K hK => ?_) AllReadyH.nil
            go_simp
            go_wp2_with (go_at_call 30; (with_reducible refine (requal_ _ _ _ _ _ _ _ _ (E.refl _) (E.refl _) HE4.out HL1.out HL2.out (take_lt HL2.out HR1.out HT3.out) HL1.out HL2.out (take_lt HL2.out HR2.out HT4.out)).mono ?_); rintro e w57q ⟨rfl, hb⟩; have HBn := Aside0.mk (below_step HB.out hb); clear HB; have HB := HBn; clear HBn; have hbxn := Aside0.mk ((hb.block gx (blk_lt hbx.out)).trans hbx.out); clear hbx xx0 fx0 xx1 fx1 xx2 fx2 xx3 fx3; have hbx := hbxn; clear hbxn; have xx0 : w57q.cell? ⟨gx, 0, none⟩ = some (.float .f64 lv) := (blk_cell hbx.out 0).trans rfl; have fx0 := blk_frozen hbx.out 0; have xx1 : w57q.cell? ⟨gx, 1, none⟩ = some (.float .f64 mo) := (blk_cell hbx.out 1).trans rfl; have fx1 := blk_frozen hbx.out 1; have xx2 : w57q.cell? ⟨gx, 2, none⟩ = some (.float .f64 R) := (blk_cell hbx.out 2).trans rfl; have fx2 := blk_frozen hbx.out 2; have xx3 : w57q.cell? ⟨gx, 3, none⟩ = some (.int .u32 li) := (blk_cell hbx.out 3).trans rfl; have fx3 := blk_frozen hbx.out 3; have hbyn := Aside0.mk ((hb.block gy (blk_lt hby.out)).trans hby.out); clear hby xy0 fy0 xy1 fy1 xy2 fy2 xy3 fy3; have hby := hbyn; clear hbyn; have xy0 : w57q.cell? ⟨gy, 0, none⟩ = some (.float .f64 lv) := (blk_cell hby.out 0).trans rfl; have fy0 := blk_frozen hby.out 0; have xy1 : w57q.cell? ⟨gy, 1, none⟩ = some (.float .f64 mo) := (blk_cell hby.out 1).trans rfl; have fy1 := blk_frozen hby.out 1; have xy2 : w57q.cell? ⟨gy, 2, none⟩ = some (.float .f64 S) := (blk_cell hby.out 2).trans rfl; have fy2 := blk_frozen hby.out 2; have xy3 : w57q.cell? ⟨gy, 3, none⟩ = some (.int .u32 li) := (blk_cell hby.out 3).trans rfl; have fy3 := blk_frozen hby.out 3; have hbpn := Aside0.mk ((hb.block gp (blk_lt hbp.out)).trans hbp.out); clear hbp xp0 fp0 xp1 fp1 xp2 fp2 xp3 fp3; have hbp := hbpn; clear hbpn; have xp0 : w57q.cell? ⟨gp, 0, none⟩ = some (.float .f64 lv) := (blk_cell hbp.out 0).trans rfl; have fp0 := blk_frozen hbp.out 0; have xp1 : w57q.cell? ⟨gp, 1, none⟩ = some (.float .f64 mo) := (blk_cell hbp.out 1).trans rfl; have fp1 := blk_frozen hbp.out 1; have xp2 : w57q.cell? ⟨gp, 2, none⟩ = some (.float .f64 r3) := (blk_cell hbp.out 2).trans rfl; have fp2 := blk_frozen hbp.out 2; have xp3 : w57q.cell? ⟨gp, 3, none⟩ = some (.int .u32 y) := (blk_cell hbp.out 3).trans rfl; have fp3 := blk_frozen hbp.out 3; have hbqn := Aside0.mk ((hb.block gq (blk_lt hbq.out)).trans hbq.out); clear hbq xq0 fq0 xq1 fq1 xq2 fq2 xq3 fq3; have hbq := hbqn; clear hbqn; have xq0 : w57q.cell? ⟨gq, 0, none⟩ = some (.float .f64 lv) := (blk_cell hbq.out 0).trans rfl; have fq0 := blk_frozen hbq.out 0; have xq1 : w57q.cell? ⟨gq, 1, none⟩ = some (.float .f64 mo) := (blk_cell hbq.out 1).trans rfl; have fq1 := blk_frozen hbq.out 1; have xq2 : w57q.cell? ⟨gq, 2, none⟩ = some (.float .f64 r4) := (blk_cell hbq.out 2).trans rfl; have fq2 := blk_frozen hbq.out 2; have xq3 : w57q.cell? ⟨gq, 3, none⟩ = some (.int .u32 y) := (blk_cell hbq.out 3).trans rfl; have fq3 := blk_frozen hbq.out 3; have xtn := (hb.cell (World.block_lt_of_cell? _ _ xt)).trans xt; clear xt; have xt := xtn; clear xtn; clear hb)
            refine hK.out _ _ ?_ (fun hHeld => ?_)
            · exact ⟨xp0, xp1, xp2, xp3, xq0, xq1, xq2, xq3⟩
            clear hK K
            try simp only [Act.put, List.getElem_toArray, List.getElem_cons_zero, List.getElem_cons_succ, List.setIfInBounds_toArray, List.set_cons_zero, List.set_cons_succ]
            refine wpAnyH_take (i := 8) (v := ?v70_) rfl (by kernel_rfl) (by kernel_rfl) (by kernel_rfl) (fun _ _ _ h => h) (Or.inl ⟨by kernel_rfl, ?hy70_⟩) (by assumption) ?rest70_
            case hy70_ => (intro w hSw; (try dsimp only at hSw); obtain ⟨hS0, hS1, hS2, hS3, hS4, hS5, hS6, hS7⟩ := hSw; go_simp; try with_reducible rfl)
            try simp only [Act.put, List.getElem_toArray, List.getElem_cons_zero, List.getElem_cons_succ, List.setIfInBounds_toArray, List.set_cons_zero, List.set_cons_succ]
            refine wpAnyH_take (i := 9) (v := ?v71_) rfl (by kernel_rfl) (by kernel_rfl) (by kernel_rfl) (fun _ _ _ h => h) (Or.inl ⟨by kernel_rfl, ?hy71_⟩) (by assumption) ?rest71_
            case hy71_ => (intro w hSw; (try dsimp only at hSw); obtain ⟨hS0, hS1, hS2, hS3, hS4, hS5, hS6, hS7⟩ := hSw; go_simp; try with_reducible rfl)
            try simp only [Act.put, List.getElem_toArray, List.getElem_cons_zero, List.getElem_cons_succ, List.setIfInBounds_toArray, List.set_cons_zero, List.set_cons_succ]
            refine wpAnyH_done (by kernel_rfl) ?_ _
            go_upto_region 13 with fail
            refine wp_region_held_drew (S := (fun W => W.cell? ⟨gp, 0, none⟩ = some (.float .f64 lv) ∧ W.cell? ⟨gp, 1, none⟩ = some (.float .f64 mo) ∧ W.cell? ⟨gp, 2, none⟩ = some (.float .f64 r3) ∧ W.cell? ⟨gp, 3, none⟩ = some (.int .u32 y) ∧ W.cell? ⟨gq, 0, none⟩ = some (.float .f64 lv) ∧ W.cell? ⟨gq, 1, none⟩ = some (.float .f64 mo) ∧ W.cell? ⟨gq, 2, none⟩ = some (.float .f64 r4) ∧ W.cell? ⟨gq, 3, none⟩ = some (.int .u32 y))) (by kernel_rfl) ?_ (fun hHeld => ?_)
            · exact ⟨xp0, xp1, xp2, xp3, xq0, xq1, xq2, xq3⟩
            have hbxn := Aside0.mk (blk_drew hbx.out)
            clear hbx
            have hbx := hbxn
            clear hbxn
            have hbyn := Aside0.mk (blk_drew hby.out)
            clear hby
            have hby := hbyn
            clear hbyn
            have hbpn := Aside0.mk (blk_drew hbp.out)
            clear hbp
            have hbp := hbpn
            clear hbpn
            have hbqn := Aside0.mk (blk_drew hbq.out)
            clear hbq
            have hbq := hbqn
            clear hbqn
            have HBn := Aside0.mk (below_drew1 HB.out)
            clear HB
            have HB := HBn
            clear HBn
            have xtn : (w57q.drew).cell? (ad.add i) = some (.int .u32 y) := (by first | (go_simp; done) | (go_simp; exact xt))
            clear xt
            have xt := xtn
            clear xtn
            clear xx0 fx0 xx1 fx1 xx2 fx2 xx3 fx3 xy0 fy0 xy1 fy1 xy2 fy2 xy3 fy3 xp0 fp0 xp1 fp1 xp2 fp2 xp3 fp3 xq0 fq0 xq1 fq1 xq2 fq2 xq3 fq3
            generalize w57q.drew = w58q at *
            have xx0 : w58q.cell? ⟨gx, 0, none⟩ = some (.float .f64 lv) := (blk_cell hbx.out 0).trans rfl
            have fx0 := blk_frozen hbx.out 0
            have xx1 : w58q.cell? ⟨gx, 1, none⟩ = some (.float .f64 mo) := (blk_cell hbx.out 1).trans rfl
            have fx1 := blk_frozen hbx.out 1
            have xx2 : w58q.cell? ⟨gx, 2, none⟩ = some (.float .f64 R) := (blk_cell hbx.out 2).trans rfl
            have fx2 := blk_frozen hbx.out 2
            have xx3 : w58q.cell? ⟨gx, 3, none⟩ = some (.int .u32 li) := (blk_cell hbx.out 3).trans rfl
            have fx3 := blk_frozen hbx.out 3
            have xy0 : w58q.cell? ⟨gy, 0, none⟩ = some (.float .f64 lv) := (blk_cell hby.out 0).trans rfl
            have fy0 := blk_frozen hby.out 0
            have xy1 : w58q.cell? ⟨gy, 1, none⟩ = some (.float .f64 mo) := (blk_cell hby.out 1).trans rfl
            have fy1 := blk_frozen hby.out 1
            have xy2 : w58q.cell? ⟨gy, 2, none⟩ = some (.float .f64 S) := (blk_cell hby.out 2).trans rfl
            have fy2 := blk_frozen hby.out 2
            have xy3 : w58q.cell? ⟨gy, 3, none⟩ = some (.int .u32 li) := (blk_cell hby.out 3).trans rfl
            have fy3 := blk_frozen hby.out 3
            have xp0 : w58q.cell? ⟨gp, 0, none⟩ = some (.float .f64 lv) := (blk_cell hbp.out 0).trans rfl
            have fp0 := blk_frozen hbp.out 0
            have xp1 : w58q.cell? ⟨gp, 1, none⟩ = some (.float .f64 mo) := (blk_cell hbp.out 1).trans rfl
            have fp1 := blk_frozen hbp.out 1
            have xp2 : w58q.cell? ⟨gp, 2, none⟩ = some (.float .f64 r3) := (blk_cell hbp.out 2).trans rfl
            have fp2 := blk_frozen hbp.out 2
            have xp3 : w58q.cell? ⟨gp, 3, none⟩ = some (.int .u32 y) := (blk_cell hbp.out 3).trans rfl
            have fp3 := blk_frozen hbp.out 3
            have xq0 : w58q.cell? ⟨gq, 0, none⟩ = some (.float .f64 lv) := (blk_cell hbq.out 0).trans rfl
            have fq0 := blk_frozen hbq.out 0
            have xq1 : w58q.cell? ⟨gq, 1, none⟩ = some (.float .f64 mo) := (blk_cell hbq.out 1).trans rfl
            have fq1 := blk_frozen hbq.out 1
            have xq2 : w58q.cell? ⟨gq, 2, none⟩ = some (.float .f64 r4) := (blk_cell hbq.out 2).trans rfl
            have fq2 := blk_frozen hbq.out 2
            have xq3 : w58q.cell? ⟨gq, 3, none⟩ = some (.int .u32 y) := (blk_cell hbq.out 3).trans rfl
            have fq3 := blk_frozen hbq.out 3
            refine wpAnyH_take (i := 0) (v := ?v72_) rfl (by kernel_rfl) (by kernel_rfl) (by kernel_rfl) (fun _ _ _ h => h) (Or.inl ⟨by kernel_rfl, ?hy72_⟩) (by assumption) ?rest72_
            case hy72_ => (intro w hSw; (try dsimp only at hSw); obtain ⟨hS0, hS1, hS2, hS3, hS4, hS5, hS6, hS7⟩ := hSw; go_simp; try with_reducible rfl)
            try simp only [Act.put, List.getElem_toArray, List.getElem_cons_zero, List.getElem_cons_succ, List.setIfInBounds_toArray, List.set_cons_zero, List.set_cons_succ]
            refine wpAnyH_take (i := 1) (v := ?v73_) rfl (by kernel_rfl) (by kernel_rfl) (by kernel_rfl) (fun _ _ _ h => h) (Or.inl ⟨by kernel_rfl, ?hy73_⟩) (by assumption) ?rest73_
            case hy73_ => (intro w hSw; (try dsimp only at hSw); obtain ⟨hS0, hS1, hS2, hS3, hS4, hS5, hS6, hS7⟩ := hSw; go_simp; try with_reducible rfl)
            try simp only [Act.put, List.getElem_toArray, List.getElem_cons_zero, List.getElem_cons_succ, List.setIfInBounds_toArray, List.set_cons_zero, List.set_cons_succ]
            refine wpAnyH_ready (rs := [2]) (by kernel_rfl) (by simp) ?_
            refine AllReadyH.cons rfl (fun K hK => ?_) AllReadyH.nil
            go_simp
            refine hK.out _ _ ?_ (fun hHeld => ?_)
            · exact ⟨(far4 hnxp).trans xp0, (far4 hnxp).trans xp1, (far4 hnxp).trans xp2, (far4 hnxp).trans xp3, (far4 hnxq).trans xq0, (far4 hnxq).trans xq1, (far4 hnxq).trans xq2, (far4 hnxq).trans xq3⟩
            clear hK K
            try simp only [Act.put, List.getElem_toArray, List.getElem_cons_zero, List.getElem_cons_succ, List.setIfInBounds_toArray, List.set_cons_zero, List.set_cons_succ]
            have hbxn : ((((w58q.setCell ⟨gx, 0, none⟩ (.float .f64 lv)).setCell ⟨gx, 1, none⟩ (.float .f64 mo)).setCell ⟨gx, 2, none⟩ (.float .f64 r3)).setCell ⟨gx, 3, none⟩ (.int .u32 y)).heap[gx]? = some (.cells #[.float .f64 lv, .float .f64 mo, .float .f64 r3, .int .u32 y] 54 (0, 0)) := (blk_set (blk_set (blk_set (blk_set hbx.out 0 _) 1 _) 2 _) 3 _)
            have hbyn : ((((w58q.setCell ⟨gx, 0, none⟩ (.float .f64 lv)).setCell ⟨gx, 1, none⟩ (.float .f64 mo)).setCell ⟨gx, 2, none⟩ (.float .f64 r3)).setCell ⟨gx, 3, none⟩ (.int .u32 y)).heap[gy]? = some (.cells #[.float .f64 lv, .float .f64 mo, .float .f64 S, .int .u32 li] 52 (0, 0)) := (blk_far (blk_far (blk_far (blk_far hby.out hnyx _) hnyx _) hnyx _) hnyx _)
            have hbpn : ((((w58q.setCell ⟨gx, 0, none⟩ (.float .f64 lv)).setCell ⟨gx, 1, none⟩ (.float .f64 mo)).setCell ⟨gx, 2, none⟩ (.float .f64 r3)).setCell ⟨gx, 3, none⟩ (.int .u32 y)).heap[gp]? = some (.cells #[.float .f64 lv, .float .f64 mo, .float .f64 r3, .int .u32 y] 54 (0, 0)) := (blk_far (blk_far (blk_far (blk_far hbp.out (fun e => hnxp e.symm) _) (fun e => hnxp e.symm) _) (fun e => hnxp e.symm) _) (fun e => hnxp e.symm) _)
            have hbqn : ((((w58q.setCell ⟨gx, 0, none⟩ (.float .f64 lv)).setCell ⟨gx, 1, none⟩ (.float .f64 mo)).setCell ⟨gx, 2, none⟩ (.float .f64 r3)).setCell ⟨gx, 3, none⟩ (.int .u32 y)).heap[gq]? = some (.cells #[.float .f64 lv, .float .f64 mo, .float .f64 r4, .int .u32 y] 52 (0, 0)) := (blk_far (blk_far (blk_far (blk_far hbq.out (fun e => hnxq e.symm) _) (fun e => hnxq e.symm) _) (fun e => hnxq e.symm) _) (fun e => hnxq e.symm) _)
            have HBn : Below w.heap.size w ((((w58q.setCell ⟨gx, 0, none⟩ (.float .f64 lv)).setCell ⟨gx, 1, none⟩ (.float .f64 mo)).setCell ⟨gx, 2, none⟩ (.float .f64 r3)).setCell ⟨gx, 3, none⟩ (.int .u32 y)) := (below_set (below_set (below_set (below_set HB.out gex.out) gex.out) gex.out) gex.out)
            have xtn : ((((w58q.setCell ⟨gx, 0, none⟩ (.float .f64 lv)).setCell ⟨gx, 1, none⟩ (.float .f64 mo)).setCell ⟨gx, 2, none⟩ (.float .f64 r3)).setCell ⟨gx, 3, none⟩ (.int .u32 y)).cell? (ad.add i) = some (.int .u32 y) := (far4 hntx).trans xt
            clear HB hbx hby hbp hbq xx0 fx0 xx1 fx1 xx2 fx2 xx3 fx3 xy0 fy0 xy1 fy1 xy2 fy2 xy3 fy3 xp0 fp0 xp1 fp1 xp2 fp2 xp3 fp3 xq0 fq0 xq1 fq1 xq2 fq2 xq3 fq3 xt
            generalize ((((w58q.setCell ⟨gx, 0, none⟩ (.float .f64 lv)).setCell ⟨gx, 1, none⟩ (.float .f64 mo)).setCell ⟨gx, 2, none⟩ (.float .f64 r3)).setCell ⟨gx, 3, none⟩ (.int .u32 y)) = w59q at *
            have hbx := Aside0.mk hbxn
            have hby := Aside0.mk hbyn
            have hbp := Aside0.mk hbpn
            have hbq := Aside0.mk hbqn
            have HB := Aside0.mk HBn
            have xt := xtn
            clear xtn
            clear HBn hbxn hbyn hbpn hbqn
            have xx0 : w59q.cell? ⟨gx, 0, none⟩ = some (.float .f64 lv) := (blk_cell hbx.out 0).trans rfl
            have fx0 := blk_frozen hbx.out 0
            have xx1 : w59q.cell? ⟨gx, 1, none⟩ = some (.float .f64 mo) := (blk_cell hbx.out 1).trans rfl
            have fx1 := blk_frozen hbx.out 1
            have xx2 : w59q.cell? ⟨gx, 2, none⟩ = some (.float .f64 r3) := (blk_cell hbx.out 2).trans rfl
            have fx2 := blk_frozen hbx.out 2
            have xx3 : w59q.cell? ⟨gx, 3, none⟩ = some (.int .u32 y) := (blk_cell hbx.out 3).trans rfl
            have fx3 := blk_frozen hbx.out 3
            have xy0 : w59q.cell? ⟨gy, 0, none⟩ = some (.float .f64 lv) := (blk_cell hby.out 0).trans rfl
            have fy0 := blk_frozen hby.out 0
            have xy1 : w59q.cell? ⟨gy, 1, none⟩ = some (.float .f64 mo) := (blk_cell hby.out 1).trans rfl
            have fy1 := blk_frozen hby.out 1
            have xy2 : w59q.cell? ⟨gy, 2, none⟩ = some (.float .f64 S) := (blk_cell hby.out 2).trans rfl
            have fy2 := blk_frozen hby.out 2
            have xy3 : w59q.cell? ⟨gy, 3, none⟩ = some (.int .u32 li) := (blk_cell hby.out 3).trans rfl
            have fy3 := blk_frozen hby.out 3
            have xp0 : w59q.cell? ⟨gp, 0, none⟩ = some (.float .f64 lv) := (blk_cell hbp.out 0).trans rfl
            have fp0 := blk_frozen hbp.out 0
            have xp1 : w59q.cell? ⟨gp, 1, none⟩ = some (.float .f64 mo) := (blk_cell hbp.out 1).trans rfl
            have fp1 := blk_frozen hbp.out 1
            have xp2 : w59q.cell? ⟨gp, 2, none⟩ = some (.float .f64 r3) := (blk_cell hbp.out 2).trans rfl
            have fp2 := blk_frozen hbp.out 2
            have xp3 : w59q.cell? ⟨gp, 3, none⟩ = some (.int .u32 y) := (blk_cell hbp.out 3).trans rfl
            have fp3 := blk_frozen hbp.out 3
            have xq0 : w59q.cell? ⟨gq, 0, none⟩ = some (.float .f64 lv) := (blk_cell hbq.out 0).trans rfl
            have fq0 := blk_frozen hbq.out 0
            have xq1 : w59q.cell? ⟨gq, 1, none⟩ = some (.float .f64 mo) := (blk_cell hbq.out 1).trans rfl
            have fq1 := blk_frozen hbq.out 1
            have xq2 : w59q.cell? ⟨gq, 2, none⟩ = some (.float .f64 r4) := (blk_cell hbq.out 2).trans rfl
            have fq2 := blk_frozen hbq.out 2
            have xq3 : w59q.cell? ⟨gq, 3, none⟩ = some (.int .u32 y) := (blk_cell hbq.out 3).trans rfl
            have fq3 := blk_frozen hbq.out 3
            refine wpAnyH_ready (rs := [3]) (by kernel_rfl) (by simp) ?_
            refine AllReadyH.cons rfl (fun K hK => ?_) AllReadyH.nil
            go_simp
            refine hK.out _ _ ?_ (fun hHeld => ?_)
            · exact ⟨(far4 hnyp).trans xp0, (far4 hnyp).trans xp1, (far4 hnyp).trans xp2, (far4 hnyp).trans xp3, (far4 hnyq).trans xq0, (far4 hnyq).trans xq1, (far4 hnyq).trans xq2, (far4 hnyq).trans xq3⟩
            clear hK K
            try simp only [Act.put, List.getElem_toArray, List.getElem_cons_zero, List.getElem_cons_succ, List.setIfInBounds_toArray, List.set_cons_zero, List.set_cons_succ]
            have hbxn : ((((w59q.setCell ⟨gy, 0, none⟩ (.float .f64 lv)).setCell ⟨gy, 1, none⟩ (.float .f64 mo)).setCell ⟨gy, 2, none⟩ (.float .f64 r4)).setCell ⟨gy, 3, none⟩ (.int .u32 y)).heap[gx]? = some (.cells #[.float .f64 lv, .float .f64 mo, .float .f64 r3, .int .u32 y] 54 (0, 0)) := (blk_far (blk_far (blk_far (blk_far hbx.out (fun e => hnyx e.symm) _) (fun e => hnyx e.symm) _) (fun e => hnyx e.symm) _) (fun e => hnyx e.symm) _)
            have hbyn : ((((w59q.setCell ⟨gy, 0, none⟩ (.float .f64 lv)).setCell ⟨gy, 1, none⟩ (.float .f64 mo)).setCell ⟨gy, 2, none⟩ (.float .f64 r4)).setCell ⟨gy, 3, none⟩ (.int .u32 y)).heap[gy]? = some (.cells #[.float .f64 lv, .float .f64 mo, .float .f64 r4, .int .u32 y] 52 (0, 0)) := (blk_set (blk_set (blk_set (blk_set hby.out 0 _) 1 _) 2 _) 3 _)
            have hbpn : ((((w59q.setCell ⟨gy, 0, none⟩ (.float .f64 lv)).setCell ⟨gy, 1, none⟩ (.float .f64 mo)).setCell ⟨gy, 2, none⟩ (.float .f64 r4)).setCell ⟨gy, 3, none⟩ (.int .u32 y)).heap[gp]? = some (.cells #[.float .f64 lv, .float .f64 mo, .float .f64 r3, .int .u32 y] 54 (0, 0)) := (blk_far (blk_far (blk_far (blk_far hbp.out (fun e => hnyp e.symm) _) (fun e => hnyp e.symm) _) (fun e => hnyp e.symm) _) (fun e => hnyp e.symm) _)
            have hbqn : ((((w59q.setCell ⟨gy, 0, none⟩ (.float .f64 lv)).setCell ⟨gy, 1, none⟩ (.float .f64 mo)).setCell ⟨gy, 2, none⟩ (.float .f64 r4)).setCell ⟨gy, 3, none⟩ (.int .u32 y)).heap[gq]? = some (.cells #[.float .f64 lv, .float .f64 mo, .float .f64 r4, .int .u32 y] 52 (0, 0)) := (blk_far (blk_far (blk_far (blk_far hbq.out (fun e => hnyq e.symm) _) (fun e => hnyq e.symm) _) (fun e => hnyq e.symm) _) (fun e => hnyq e.symm) _)
            have HBn : Below w.heap.size w ((((w59q.setCell ⟨gy, 0, none⟩ (.float .f64 lv)).setCell ⟨gy, 1, none⟩ (.float .f64 mo)).setCell ⟨gy, 2, none⟩ (.float .f64 r4)).setCell ⟨gy, 3, none⟩ (.int .u32 y)) := (below_set (below_set (below_set (below_set HB.out gey.out) gey.out) gey.out) gey.out)
            have xtn : ((((w59q.setCell ⟨gy, 0, none⟩ (.float .f64 lv)).setCell ⟨gy, 1, none⟩ (.float .f64 mo)).setCell ⟨gy, 2, none⟩ (.float .f64 r4)).setCell ⟨gy, 3, none⟩ (.int .u32 y)).cell? (ad.add i) = some (.int .u32 y) := (far4 hnty).trans xt
            clear HB hbx hby hbp hbq xx0 fx0 xx1 fx1 xx2 fx2 xx3 fx3 xy0 fy0 xy1 fy1 xy2 fy2 xy3 fy3 xp0 fp0 xp1 fp1 xp2 fp2 xp3 fp3 xq0 fq0 xq1 fq1 xq2 fq2 xq3 fq3 xt
            generalize ((((w59q.setCell ⟨gy, 0, none⟩ (.float .f64 lv)).setCell ⟨gy, 1, none⟩ (.float .f64 mo)).setCell ⟨gy, 2, none⟩ (.float .f64 r4)).setCell ⟨gy, 3, none⟩ (.int .u32 y)) = w60q at *
            have hbx := Aside0.mk hbxn
            have hby := Aside0.mk hbyn
            have hbp := Aside0.mk hbpn
            have hbq := Aside0.mk hbqn
            have HB := Aside0.mk HBn
            have xt := xtn
            clear xtn
            clear HBn hbxn hbyn hbpn hbqn
            have xx0 : w60q.cell? ⟨gx, 0, none⟩ = some (.float .f64 lv) := (blk_cell hbx.out 0).trans rfl
            have fx0 := blk_frozen hbx.out 0
            have xx1 : w60q.cell? ⟨gx, 1, none⟩ = some (.float .f64 mo) := (blk_cell hbx.out 1).trans rfl
            have fx1 := blk_frozen hbx.out 1
            have xx2 : w60q.cell? ⟨gx, 2, none⟩ = some (.float .f64 r3) := (blk_cell hbx.out 2).trans rfl
            have fx2 := blk_frozen hbx.out 2
            have xx3 : w60q.cell? ⟨gx, 3, none⟩ = some (.int .u32 y) := (blk_cell hbx.out 3).trans rfl
            have fx3 := blk_frozen hbx.out 3
            have xy0 : w60q.cell? ⟨gy, 0, none⟩ = some (.float .f64 lv) := (blk_cell hby.out 0).trans rfl
            have fy0 := blk_frozen hby.out 0
            have xy1 : w60q.cell? ⟨gy, 1, none⟩ = some (.float .f64 mo) := (blk_cell hby.out 1).trans rfl
            have fy1 := blk_frozen hby.out 1
            have xy2 : w60q.cell? ⟨gy, 2, none⟩ = some (.float .f64 r4) := (blk_cell hby.out 2).trans rfl
            have fy2 := blk_frozen hby.out 2
            have xy3 : w60q.cell? ⟨gy, 3, none⟩ = some (.int .u32 y) := (blk_cell hby.out 3).trans rfl
            have fy3 := blk_frozen hby.out 3
            have xp0 : w60q.cell? ⟨gp, 0, none⟩ = some (.float .f64 lv) := (blk_cell hbp.out 0).trans rfl
            have fp0 := blk_frozen hbp.out 0
            have xp1 : w60q.cell? ⟨gp, 1, none⟩ = some (.float .f64 mo) := (blk_cell hbp.out 1).trans rfl
            have fp1 := blk_frozen hbp.out 1
            have xp2 : w60q.cell? ⟨gp, 2, none⟩ = some (.float .f64 r3) := (blk_cell hbp.out 2).trans rfl
            have fp2 := blk_frozen hbp.out 2
            have xp3 : w60q.cell? ⟨gp, 3, none⟩ = some (.int .u32 y) := (blk_cell hbp.out 3).trans rfl
            have fp3 := blk_frozen hbp.out 3
            have xq0 : w60q.cell? ⟨gq, 0, none⟩ = some (.float .f64 lv) := (blk_cell hbq.out 0).trans rfl
            have fq0 := blk_frozen hbq.out 0
            have xq1 : w60q.cell? ⟨gq, 1, none⟩ = some (.float .f64 mo) := (blk_cell hbq.out 1).trans rfl
            have fq1 := blk_frozen hbq.out 1
            have xq2 : w60q.cell? ⟨gq, 2, none⟩ = some (.float .f64 r4) := (blk_cell hbq.out 2).trans rfl
            have fq2 := blk_frozen hbq.out 2
            have xq3 : w60q.cell? ⟨gq, 3, none⟩ = some (.int .u32 y) := (blk_cell hbq.out 3).trans rfl
            have fq3 := blk_frozen hbq.out 3
            refine wpAnyH_done (by kernel_rfl) ?_ _
            go_wp2
            go_roundg (l.length - (i + 1))
            case measure => have := HKQ.out; omega
            case rel => exact ⟨i + 1, r3, r4, y, ⟨rfl⟩, by omega, by omega, by simp, HE4, ⟨take_lt HL2.out HR1.out HT3.out⟩, ⟨take_lt HL2.out HR2.out HT4.out⟩, HYB, hbx, hby, HB⟩
      · have hge : l.length ≤ i ∨ 200 ≤ i := by omega
        clear hlt
        rcases hge with hge | hge
        all_goals (by_cases a0 : i < l.length <;> try omega)
        all_goals (go_wp2; go_ret; exact ⟨rfl, HB.out⟩)
end Go.Proofs.Ytkgghjblfoempaa.GW
