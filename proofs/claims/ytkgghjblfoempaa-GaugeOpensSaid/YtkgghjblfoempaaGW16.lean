/- The law GaugeOpens, no number: its walk, and the law; no condition. -/
import Derived.Test.YtkgghjblfoempaaGW15
import Derived.Deep.RegionHeld
namespace Go.Proofs.Ytkgghjblfoempaa.GW
open Go.RowKit Go.Proofs.YtkgghjblfoempaaW.PrintWords Go.Proofs.Ytkgghjblfoempaa.Fl
set_option linter.unusedVariables false
set_option linter.unusedSimpArgs false
attribute [local go_sem] run_store_float

set_option maxHeartbeats 16000000 in
set_option maxRecDepth 100000 in
theorem opens_nan (lv mo ro : Nat) (la : Int) (A : Option Addr) (c : Nat) (l : List Int) (w : World) (hro : ro < 18446744073709551616) (h : Opens.RowC (Opens.intK .u32) 1 w A l.length l) (h63 : l.length ≤ 9223372036854775807) :
    Calls Try.prog 9 #[agg lv mo ro la, .slice A l.length c, .bool true] w fun e w' => e = .returned (.bool true) ∧ Below w.heap.size w w' := by
  have HB := Aside0.mk (Below.refl w.heap.size w)
  have HX := Aside0.mk h
  clear h
  have hmul := mul_inf
  have hsub := sub_inf
  go_enter Try.func9, Try.ntmps9
  go_wp2_with (first | ((with_reducible refine gate_dst (N := 3) rfl ?_); refine box_event ?hg (N := 3) ?hd (cs := #[.float .f64 lv, .float .f64 mo, .float .f64 ro, .int .u32 la]) (t := 52) ?hr ?_; (case hd => rfl); (case hg => rfl); (case hr => first | (go_simp; done) | (go_simp; rfl)); intro gp hgp wp hbp0 hb; have gep := Aside0.mk (show w.heap.size ≤ gp from by rw [hgp]; exact below_size (by repeat (first | (with_reducible first | exact HB.out | apply below_alloc | apply pw_below_drewN | apply below_drew1 ) | exact HB.out))); have HBn := Aside0.mk (below_step (by repeat (first | (with_reducible first | exact HB.out | apply below_alloc | apply pw_below_drewN | apply below_drew1 ) | exact HB.out)) hb); clear HB; have HB := HBn; clear HBn; have hbp := Aside0.mk hbp0; clear hbp0 hgp; have xp0 : wp.cell? ⟨gp, 0, none⟩ = some (.float .f64 lv) := (blk_cell hbp.out 0).trans rfl; have fp0 := blk_frozen hbp.out 0; have xp1 : wp.cell? ⟨gp, 1, none⟩ = some (.float .f64 mo) := (blk_cell hbp.out 1).trans rfl; have fp1 := blk_frozen hbp.out 1; have xp2 : wp.cell? ⟨gp, 2, none⟩ = some (.float .f64 ro) := (blk_cell hbp.out 2).trans rfl; have fp2 := blk_frozen hbp.out 2; have xp3 : wp.cell? ⟨gp, 3, none⟩ = some (.int .u32 la) := (blk_cell hbp.out 3).trans rfl; have fp3 := blk_frozen hbp.out 3; clear hb))
  obtain ⟨lvv, hlvv⟩ : ∃ lvv, nanw (wp.setCell ⟨gp, 0, none⟩ (.float .f64 9218868437227405312)) = lvv := ⟨_, rfl⟩
  have hop : openw lvv = true := by rw [← hlvv]; unfold openw; rw [(cls_nanw _).1]; rfl
  rw [hlvv]
  clear hlvv hsub
  refine (to_ _ _ _ _ _).mono ?_
  rintro e w' ⟨rfl, hb⟩
  have HBn := Aside0.mk (below_step (by repeat (first | (with_reducible first | exact HB.out | apply below_alloc | apply pw_below_drewN | apply below_drew1 | refine below_set ?_ gep.out ) | exact HB.out)) hb)
  clear HB
  have HB := HBn
  clear HBn
  have hbpn := Aside0.mk ((hb.block gp (by have q := blk_lt hbp.out; simpa [World.setCell] using q)).trans (blk_set (blk_set hbp.out 0 _) 0 _))
  clear hbp xp0 fp0 xp1 fp1 xp2 fp2 xp3 fp3
  have hbp := hbpn
  clear hbpn
  have xp0 : w'.cell? ⟨gp, 0, none⟩ = some (.float .f64 lvv) := (blk_cell hbp.out 0).trans rfl
  have fp0 := blk_frozen hbp.out 0
  have xp1 : w'.cell? ⟨gp, 1, none⟩ = some (.float .f64 mo) := (blk_cell hbp.out 1).trans rfl
  have fp1 := blk_frozen hbp.out 1
  have xp2 : w'.cell? ⟨gp, 2, none⟩ = some (.float .f64 ro) := (blk_cell hbp.out 2).trans rfl
  have fp2 := blk_frozen hbp.out 2
  have xp3 : w'.cell? ⟨gp, 3, none⟩ = some (.int .u32 la) := (blk_cell hbp.out 3).trans rfl
  have fp3 := blk_frozen hbp.out 3
  clear hb
  go_wp2_with (first | ((with_reducible refine gate_dst (N := 9) rfl ?_); refine box_event ?hg (N := 9) ?hd (cs := #[.float .f64 0, .float .f64 0, .float .f64 0, .int .u32 0]) (t := 54) ?hr ?_; (case hd => rfl); (case hg => rfl); (case hr => first | (go_simp; done) | (go_simp; rfl)); intro ga hga wa hba0 hb; have gea := Aside0.mk (show w.heap.size ≤ ga from by rw [hga]; exact below_size (by repeat (first | (with_reducible first | exact HB.out | apply below_alloc | apply pw_below_drewN | apply below_drew1 | refine below_set ?_ gep.out ) | exact HB.out))); have HBn := Aside0.mk (below_step (by repeat (first | (with_reducible first | exact HB.out | apply below_alloc | apply pw_below_drewN | apply below_drew1 | refine below_set ?_ gep.out ) | exact HB.out)) hb); clear HB; have HB := HBn; clear HBn; have hnap : ga ≠ gp := (by rw [hga]; exact Nat.ne_of_gt (blk_lt hbp.out)); have hbpn := Aside0.mk ((hb.block gp (blk_lt hbp.out)).trans hbp.out); clear hbp xp0 fp0 xp1 fp1 xp2 fp2 xp3 fp3; have hbp := hbpn; clear hbpn; have xp0 : wa.cell? ⟨gp, 0, none⟩ = some (.float .f64 lvv) := (blk_cell hbp.out 0).trans rfl; have fp0 := blk_frozen hbp.out 0; have xp1 : wa.cell? ⟨gp, 1, none⟩ = some (.float .f64 mo) := (blk_cell hbp.out 1).trans rfl; have fp1 := blk_frozen hbp.out 1; have xp2 : wa.cell? ⟨gp, 2, none⟩ = some (.float .f64 ro) := (blk_cell hbp.out 2).trans rfl; have fp2 := blk_frozen hbp.out 2; have xp3 : wa.cell? ⟨gp, 3, none⟩ = some (.int .u32 la) := (blk_cell hbp.out 3).trans rfl; have fp3 := blk_frozen hbp.out 3; have hba := Aside0.mk hba0; clear hba0 hga; have xa0 : wa.cell? ⟨ga, 0, none⟩ = some (.float .f64 0) := (blk_cell hba.out 0).trans rfl; have fa0 := blk_frozen hba.out 0; have xa1 : wa.cell? ⟨ga, 1, none⟩ = some (.float .f64 0) := (blk_cell hba.out 1).trans rfl; have fa1 := blk_frozen hba.out 1; have xa2 : wa.cell? ⟨ga, 2, none⟩ = some (.float .f64 0) := (blk_cell hba.out 2).trans rfl; have fa2 := blk_frozen hba.out 2; have xa3 : wa.cell? ⟨ga, 3, none⟩ = some (.int .u32 0) := (blk_cell hba.out 3).trans rfl; have fa3 := blk_frozen hba.out 3; clear hb))
  go_loopg [10] l.length (fun kq v10 wr => ∃ (i : Nat) (li : Int), Aside0 (kq = l.length - i) ∧ i ≤ l.length ∧ i ≤ 100 ∧ v10 = .int .i64 (i : Int) ∧ Aside0 (wr.heap[ga]? = some (.cells #[.float .f64 lvv, .float .f64 mo, .float .f64 ro, .int .u32 li] 54 (0, 0))) ∧ Aside0 (wr.heap[gp]? = some (.cells #[.float .f64 lvv, .float .f64 mo, .float .f64 ro, .int .u32 la] 52 (0, 0))) ∧ Aside0 (Below w.heap.size w wr))
  case atStart => exact ⟨0, la, ⟨by omega⟩, Nat.zero_le _, Nat.zero_le _, rfl, ⟨(blk_set (blk_set (blk_set (blk_set hba.out 0 _) 1 _) 2 _) 3 _)⟩, ⟨(blk_far (blk_far (blk_far (blk_far hbp.out (fun e => hnap e.symm) _) (fun e => hnap e.symm) _) (fun e => hnap e.symm) _) (fun e => hnap e.symm) _)⟩, ⟨(by repeat (first | (with_reducible first | exact HB.out | apply below_alloc | apply pw_below_drewN | apply below_drew1 | refine below_set ?_ gea.out | refine below_set ?_ gep.out ) | exact HB.out))⟩⟩
  case round =>
    clear HB hba hbp xa0 fa0 xa1 fa1 xa2 fa2 xa3 fa3 xp0 fp0 xp1 fp1 xp2 fp2 xp3 fp3
    obtain ⟨i, li, HKQ, hi, hi4, rfl, hba, hbp, HB⟩ := hrel
    have xa0 : wr.cell? ⟨ga, 0, none⟩ = some (.float .f64 lvv) := (blk_cell hba.out 0).trans rfl
    have fa0 := blk_frozen hba.out 0
    have xa1 : wr.cell? ⟨ga, 1, none⟩ = some (.float .f64 mo) := (blk_cell hba.out 1).trans rfl
    have fa1 := blk_frozen hba.out 1
    have xa2 : wr.cell? ⟨ga, 2, none⟩ = some (.float .f64 ro) := (blk_cell hba.out 2).trans rfl
    have fa2 := blk_frozen hba.out 2
    have xa3 : wr.cell? ⟨ga, 3, none⟩ = some (.int .u32 li) := (blk_cell hba.out 3).trans rfl
    have fa3 := blk_frozen hba.out 3
    have xp0 : wr.cell? ⟨gp, 0, none⟩ = some (.float .f64 lvv) := (blk_cell hbp.out 0).trans rfl
    have fp0 := blk_frozen hbp.out 0
    have xp1 : wr.cell? ⟨gp, 1, none⟩ = some (.float .f64 mo) := (blk_cell hbp.out 1).trans rfl
    have fp1 := blk_frozen hbp.out 1
    have xp2 : wr.cell? ⟨gp, 2, none⟩ = some (.float .f64 ro) := (blk_cell hbp.out 2).trans rfl
    have fp2 := blk_frozen hbp.out 2
    have xp3 : wr.cell? ⟨gp, 3, none⟩ = some (.int .u32 la) := (blk_cell hbp.out 3).trans rfl
    have fp3 := blk_frozen hbp.out 3
    have HWR := Aside0.mk HB.out.size
    by_cases hlt : i < l.length ∧ i < 100
    · obtain ⟨hl0, hl4⟩ := hlt
      obtain ⟨ad, e0, x0⟩ := Opens.RowC.one (v := fun x => Value.int .u32 x) HX.out i hl0
      cases e0
      have xt := (HB.out.cell (World.block_lt_of_cell? w _ x0)).trans x0
      have X0 := Aside0.mk x0
      clear x0
      generalize l[i] = y at *
      go_wp2_with fail
      refine wp_region_held_drew (S := (fun W => W.cell? ⟨ga, 0, none⟩ = some (.float .f64 lvv) ∧ W.cell? ⟨ga, 1, none⟩ = some (.float .f64 mo) ∧ W.cell? ⟨ga, 2, none⟩ = some (.float .f64 ro) ∧ W.cell? ⟨ga, 3, none⟩ = some (.int .u32 li) ∧ W.cell? (ad.add i) = some (.int .u32 y))) (by kernel_rfl) ?_ (fun hHeld => ?_)
      · exact ⟨xa0, xa1, xa2, xa3, xt⟩
      refine wpAnyH_take (i := 0) (v := ?v1_) rfl (by kernel_rfl) (by kernel_rfl) (by kernel_rfl) (fun _ _ _ h => h) (Or.inl ⟨by kernel_rfl, ?hy1_⟩) (by assumption) ?rest1_
      case hy1_ => (intro w hSw; (try dsimp only at hSw); (try (obtain ⟨hS0, hS1, hS2, hS3, hS4⟩ := hSw)); go_simp; try with_reducible rfl)
      try simp only [Act.put, List.getElem_toArray, List.getElem_cons_zero, List.getElem_cons_succ, List.setIfInBounds_toArray, List.set_cons_zero, List.set_cons_succ]
      refine wpAnyH_take (i := 1) (v := ?v2_) rfl (by kernel_rfl) (by kernel_rfl) (by kernel_rfl) (fun _ _ _ h => h) (Or.inl ⟨by kernel_rfl, ?hy2_⟩) (by assumption) ?rest2_
      case hy2_ => (intro w hSw; (try dsimp only at hSw); (try (obtain ⟨hS0, hS1, hS2, hS3, hS4⟩ := hSw)); go_simp; try with_reducible rfl)
      try simp only [Act.put, List.getElem_toArray, List.getElem_cons_zero, List.getElem_cons_succ, List.setIfInBounds_toArray, List.set_cons_zero, List.set_cons_succ]
      refine wpAnyH_take (i := 2) (v := ?v3_) rfl (by kernel_rfl) (by kernel_rfl) (by kernel_rfl) (fun _ _ _ h => h) (Or.inl ⟨by kernel_rfl, ?hy3_⟩) (by assumption) ?rest3_
      case hy3_ => (intro w hSw; (try dsimp only at hSw); (try (obtain ⟨hS0, hS1, hS2, hS3, hS4⟩ := hSw)); go_simp; try with_reducible rfl)
      try simp only [Act.put, List.getElem_toArray, List.getElem_cons_zero, List.getElem_cons_succ, List.setIfInBounds_toArray, List.set_cons_zero, List.set_cons_succ]
      refine wpAnyH_take (i := 3) (v := ?v4_) rfl (by kernel_rfl) (by kernel_rfl) (by kernel_rfl) (fun _ _ _ h => h) (Or.inl ⟨by kernel_rfl, ?hy4_⟩) (by assumption) ?rest4_
      case hy4_ => (intro w hSw; (try dsimp only at hSw); (try (obtain ⟨hS0, hS1, hS2, hS3, hS4⟩ := hSw)); go_simp; try with_reducible rfl)
      try simp only [Act.put, List.getElem_toArray, List.getElem_cons_zero, List.getElem_cons_succ, List.setIfInBounds_toArray, List.set_cons_zero, List.set_cons_succ]
      refine wpAnyH_take (i := 4) (v := ?v5_) rfl (by kernel_rfl) (by kernel_rfl) (by kernel_rfl) (fun _ _ _ h => h) (Or.inl ⟨by kernel_rfl, ?hy5_⟩) (by assumption) ?rest5_
      case hy5_ => (intro w hSw; (try dsimp only at hSw); (try (obtain ⟨hS0, hS1, hS2, hS3, hS4⟩ := hSw)); go_simp; try with_reducible rfl)
      try simp only [Act.put, List.getElem_toArray, List.getElem_cons_zero, List.getElem_cons_succ, List.setIfInBounds_toArray, List.set_cons_zero, List.set_cons_succ]
      refine wpAnyH_ready (rs := [5, 9]) (by kernel_rfl) (by simp) ?_
      refine AllReadyH.cons rfl (fun K hK => ?_) (AllReadyH.cons rfl (fun K hK => ?_) AllReadyH.nil)
      · go_simp
        go_wp2_with (go_at_call 37; with_reducible refine (take_ _ _ _ _ _ _).mono ?_; rintro e w' ⟨r, ok, rfl, ht, hb0⟩; obtain ⟨e1, e2⟩ := take_open ht hop; obtain rfl := e1.symm; obtain rfl := e2.symm; clear ht; have hb := below_step (by repeat (first | (with_reducible first | exact Below.refl wr.heap.size wr | apply below_alloc | apply below_drew1 | apply pw_below_drewN) | exact Below.refl wr.heap.size wr)) hb0; have HBn := Aside0.mk (below_step HB.out hb); clear HB; have HB := HBn; clear HBn; have hban := Aside0.mk ((hb.block ga (blk_lt hba.out)).trans hba.out); clear hba xa0 fa0 xa1 fa1 xa2 fa2 xa3 fa3; have hba := hban; clear hban; have xa0 : w'.cell? ⟨ga, 0, none⟩ = some (.float .f64 lvv) := (blk_cell hba.out 0).trans rfl; have fa0 := blk_frozen hba.out 0; have xa1 : w'.cell? ⟨ga, 1, none⟩ = some (.float .f64 mo) := (blk_cell hba.out 1).trans rfl; have fa1 := blk_frozen hba.out 1; have xa2 : w'.cell? ⟨ga, 2, none⟩ = some (.float .f64 ro) := (blk_cell hba.out 2).trans rfl; have fa2 := blk_frozen hba.out 2; have xa3 : w'.cell? ⟨ga, 3, none⟩ = some (.int .u32 li) := (blk_cell hba.out 3).trans rfl; have fa3 := blk_frozen hba.out 3; have hbpn := Aside0.mk ((hb.block gp (blk_lt hbp.out)).trans hbp.out); clear hbp xp0 fp0 xp1 fp1 xp2 fp2 xp3 fp3; have hbp := hbpn; clear hbpn; have xp0 : w'.cell? ⟨gp, 0, none⟩ = some (.float .f64 lvv) := (blk_cell hbp.out 0).trans rfl; have fp0 := blk_frozen hbp.out 0; have xp1 : w'.cell? ⟨gp, 1, none⟩ = some (.float .f64 mo) := (blk_cell hbp.out 1).trans rfl; have fp1 := blk_frozen hbp.out 1; have xp2 : w'.cell? ⟨gp, 2, none⟩ = some (.float .f64 ro) := (blk_cell hbp.out 2).trans rfl; have fp2 := blk_frozen hbp.out 2; have xp3 : w'.cell? ⟨gp, 3, none⟩ = some (.int .u32 la) := (blk_cell hbp.out 3).trans rfl; have fp3 := blk_frozen hbp.out 3; have xtn := (hb.cell (World.block_lt_of_cell? _ _ xt)).trans xt; clear xt; have xt := xtn; clear xtn; have HYB := Aside0.mk (fun k (hk : wr.heap.size ≤ k) => hb0.block k); clear hb0; have HYS := Aside0.mk hb.size; clear hb)
        refine hK.out _ _ ?_ (fun hHeld => ?_)
        · first | go_keep | exact ⟨xa0, xa1, xa2, xa3, xt⟩ | exact ⟨(far4 hna2).trans xa0, (far4 hna2).trans xa1, (far4 hna2).trans xa2, (far4 hna2).trans xa3, (far4 hnt).trans xt⟩ | exact ⟨by simp [*], by simp [*], by simp [*], by simp [*], by simp [*]⟩
        clear hK K
        try simp only [Act.put, List.getElem_toArray, List.getElem_cons_zero, List.getElem_cons_succ, List.setIfInBounds_toArray, List.set_cons_zero, List.set_cons_succ]
        refine wpAnyH_take (i := 6) (v := ?v6_) rfl (by kernel_rfl) (by kernel_rfl) (by kernel_rfl) (fun _ _ _ h => h) (Or.inl ⟨by kernel_rfl, ?hy6_⟩) (by assumption) ?rest6_
        case hy6_ => (intro w hSw; (try dsimp only at hSw); (try (obtain ⟨hS0, hS1, hS2, hS3, hS4⟩ := hSw)); go_simp; try with_reducible rfl)
        try simp only [Act.put, List.getElem_toArray, List.getElem_cons_zero, List.getElem_cons_succ, List.setIfInBounds_toArray, List.set_cons_zero, List.set_cons_succ]
        refine wpAnyH_take (i := 7) (v := ?v7_) rfl (by kernel_rfl) (by kernel_rfl) (by kernel_rfl) (fun _ _ _ h => h) (Or.inl ⟨by kernel_rfl, ?hy7_⟩) (by assumption) ?rest7_
        case hy7_ => (intro w hSw; (try dsimp only at hSw); (try (obtain ⟨hS0, hS1, hS2, hS3, hS4⟩ := hSw)); go_simp; try with_reducible rfl)
        try simp only [Act.put, List.getElem_toArray, List.getElem_cons_zero, List.getElem_cons_succ, List.setIfInBounds_toArray, List.set_cons_zero, List.set_cons_succ]
        refine wpAnyH_take (i := 8) (v := ?v8_) rfl (by kernel_rfl) (by kernel_rfl) (by kernel_rfl) (fun _ _ _ h => h) (Or.inl ⟨by kernel_rfl, ?hy8_⟩) (by assumption) ?rest8_
        case hy8_ => (intro w hSw; (try dsimp only at hSw); (try (obtain ⟨hS0, hS1, hS2, hS3, hS4⟩ := hSw)); go_simp; try with_reducible rfl)
        try simp only [Act.put, List.getElem_toArray, List.getElem_cons_zero, List.getElem_cons_succ, List.setIfInBounds_toArray, List.set_cons_zero, List.set_cons_succ]
        refine wpAnyH_ready (rs := [9]) (by kernel_rfl) (by simp) ?_
        refine AllReadyH.cons rfl (fun K hK => ?_) AllReadyH.nil
        go_simp
        refine hK.out _ _ ?_ (fun hHeld => ?_)
        · first | go_keep | exact ⟨xa0, xa1, xa2, xa3, xt⟩ | exact ⟨(far4 hna2).trans xa0, (far4 hna2).trans xa1, (far4 hna2).trans xa2, (far4 hna2).trans xa3, (far4 hnt).trans xt⟩ | exact ⟨by simp [*], by simp [*], by simp [*], by simp [*], by simp [*]⟩
        clear hK K
        try simp only [Act.put, List.getElem_toArray, List.getElem_cons_zero, List.getElem_cons_succ, List.setIfInBounds_toArray, List.set_cons_zero, List.set_cons_succ]
        refine wpAnyH_ready (rs := [10]) (by kernel_rfl) (by simp) ?_
        refine AllReadyH.cons rfl (fun K hK => ?_) AllReadyH.nil
        go_simp
        refine hK.out _ _ ?_ (fun hHeld => ?_)
        · first | go_keep | exact ⟨xa0, xa1, xa2, xa3, xt⟩ | exact ⟨(far4 hna2).trans xa0, (far4 hna2).trans xa1, (far4 hna2).trans xa2, (far4 hna2).trans xa3, (far4 hnt).trans xt⟩ | exact ⟨by simp [*], by simp [*], by simp [*], by simp [*], by simp [*]⟩
        clear hK K
        try simp only [Act.put, List.getElem_toArray, List.getElem_cons_zero, List.getElem_cons_succ, List.setIfInBounds_toArray, List.set_cons_zero, List.set_cons_succ]
        refine wpAnyH_take (i := 11) (v := ?v9_) rfl (by kernel_rfl) (by kernel_rfl) (by kernel_rfl) (fun _ _ _ h => h) (Or.inl ⟨by kernel_rfl, ?hy9_⟩) (by assumption) ?rest9_
        case hy9_ => (intro w hSw; (try dsimp only at hSw); (try (obtain ⟨hS0, hS1, hS2, hS3, hS4⟩ := hSw)); go_simp; try with_reducible rfl)
        try simp only [Act.put, List.getElem_toArray, List.getElem_cons_zero, List.getElem_cons_succ, List.setIfInBounds_toArray, List.set_cons_zero, List.set_cons_succ]
        refine wpAnyH_done (by kernel_rfl) ?_ _
        have hby : (w'.alloc (.cells #[.float .f64 lvv, .float .f64 mo, .float .f64 ro, .int .u32 y] 54)).heap[w'.heap.size]? = some (.cells #[.float .f64 lvv, .float .f64 mo, .float .f64 ro, .int .u32 y] 54 (0, 0)) := (blk_new w' _)
        have hban : (w'.alloc (.cells #[.float .f64 lvv, .float .f64 mo, .float .f64 ro, .int .u32 y] 54)).heap[ga]? = some (.cells #[.float .f64 lvv, .float .f64 mo, .float .f64 ro, .int .u32 li] 54 (0, 0)) := (blk_alloc hba.out _)
        have hbpn : (w'.alloc (.cells #[.float .f64 lvv, .float .f64 mo, .float .f64 ro, .int .u32 y] 54)).heap[gp]? = some (.cells #[.float .f64 lvv, .float .f64 mo, .float .f64 ro, .int .u32 la] 52 (0, 0)) := (blk_alloc hbp.out _)
        have gey := Aside0.mk (show w.heap.size ≤ w'.heap.size from below_size HB.out)
        have HBz := Aside0.mk (show Below w.heap.size w (w'.alloc (.cells #[.float .f64 lvv, .float .f64 mo, .float .f64 ro, .int .u32 y] 54)) from (by repeat (first | (with_reducible first | exact HB.out | apply below_alloc | apply pw_below_drewN | apply below_drew1 | refine below_set ?_ gey.out ) | exact HB.out)))
        have xtz : (w'.alloc (.cells #[.float .f64 lvv, .float .f64 mo, .float .f64 ro, .int .u32 y] 54)).cell? (ad.add i) = some (.int .u32 y) := (HBz.out.cell (World.block_lt_of_cell? w _ X0.out)).trans X0.out
        have hya : w'.heap.size ≠ ga := Nat.ne_of_gt (blk_lt hba.out)
        clear hba hbp HB xt HYB HYS xa0 fa0 xa1 fa1 xa2 fa2 xa3 fa3 xp0 fp0 xp1 fp1 xp2 fp2 xp3 fp3 hHeld
        skip
        generalize (w'.alloc (.cells #[.float .f64 lvv, .float .f64 mo, .float .f64 ro, .int .u32 y] 54)) = wz at *
        generalize w'.heap.size = gy at *
        have HB := HBz
        clear HBz
        have hba := Aside0.mk hban
        have hbp := Aside0.mk hbpn
        have hbY := Aside0.mk hby
        clear hban hbpn hby
        have xp0 : wz.cell? ⟨gp, 0, none⟩ = some (.float .f64 lvv) := (blk_cell hbp.out 0).trans rfl
        have fp0 := blk_frozen hbp.out 0
        have xp1 : wz.cell? ⟨gp, 1, none⟩ = some (.float .f64 mo) := (blk_cell hbp.out 1).trans rfl
        have fp1 := blk_frozen hbp.out 1
        have xp2 : wz.cell? ⟨gp, 2, none⟩ = some (.float .f64 ro) := (blk_cell hbp.out 2).trans rfl
        have fp2 := blk_frozen hbp.out 2
        have xp3 : wz.cell? ⟨gp, 3, none⟩ = some (.int .u32 la) := (blk_cell hbp.out 3).trans rfl
        have fp3 := blk_frozen hbp.out 3
        have xy0 : wz.cell? ⟨gy, 0, none⟩ = some (.float .f64 lvv) := (blk_cell hbY.out 0).trans rfl
        have xy1 : wz.cell? ⟨gy, 1, none⟩ = some (.float .f64 mo) := (blk_cell hbY.out 1).trans rfl
        have xy2 : wz.cell? ⟨gy, 2, none⟩ = some (.float .f64 ro) := (blk_cell hbY.out 2).trans rfl
        have xy3 : wz.cell? ⟨gy, 3, none⟩ = some (.int .u32 y) := (blk_cell hbY.out 3).trans rfl
        have xa0 : wz.cell? ⟨ga, 0, none⟩ = some (.float .f64 lvv) := (blk_cell hba.out 0).trans rfl
        have fa0 := blk_frozen hba.out 0
        have xa1 : wz.cell? ⟨ga, 1, none⟩ = some (.float .f64 mo) := (blk_cell hba.out 1).trans rfl
        have fa1 := blk_frozen hba.out 1
        have xa2 : wz.cell? ⟨ga, 2, none⟩ = some (.float .f64 ro) := (blk_cell hba.out 2).trans rfl
        have fa2 := blk_frozen hba.out 2
        have xa3 : wz.cell? ⟨ga, 3, none⟩ = some (.int .u32 li) := (blk_cell hba.out 3).trans rfl
        have fa3 := blk_frozen hba.out 3
        go_wp2_with fail
        first | (go_region_held (fun W => W.cell? ⟨gy, 2, none⟩ = some (.float .f64 ro) ∧ W.cell? ⟨gp, 2, none⟩ = some (.float .f64 ro) ∧ W.cell? ⟨gy, 3, none⟩ = some (.int .u32 y) ∧ W.cell? (ad.add i) = some (.int .u32 y)) (first | go_keep | exact ⟨xy2, xp2, xy3, xtz⟩) ((go_at_call 39; (with_reducible refine (rsame_ _ _ hro hro _).mono ?_); rw [cmpw_self]; rintro e w' ⟨rfl, hb⟩; have HBn := Aside0.mk (below_step (by repeat (first | (with_reducible first | exact HB.out | apply below_alloc | apply pw_below_drewN | apply below_drew1 | refine below_set ?_ gey.out ) | exact HB.out)) hb); clear HB; have HB := HBn; clear HBn; have hban := Aside0.mk ((hb.block ga (blk_lt hba.out)).trans hba.out); clear hba xa0 fa0 xa1 fa1 xa2 fa2 xa3 fa3; have hba := hban; clear hban; have xa0 : w'.cell? ⟨ga, 0, none⟩ = some (.float .f64 lvv) := (blk_cell hba.out 0).trans rfl; have fa0 := blk_frozen hba.out 0; have xa1 : w'.cell? ⟨ga, 1, none⟩ = some (.float .f64 mo) := (blk_cell hba.out 1).trans rfl; have fa1 := blk_frozen hba.out 1; have xa2 : w'.cell? ⟨ga, 2, none⟩ = some (.float .f64 ro) := (blk_cell hba.out 2).trans rfl; have fa2 := blk_frozen hba.out 2; have xa3 : w'.cell? ⟨ga, 3, none⟩ = some (.int .u32 li) := (blk_cell hba.out 3).trans rfl; have fa3 := blk_frozen hba.out 3; have hbpn := Aside0.mk ((hb.block gp (blk_lt hbp.out)).trans hbp.out); clear hbp xp0 fp0 xp1 fp1 xp2 fp2 xp3 fp3; have hbp := hbpn; clear hbpn; have xp0 : w'.cell? ⟨gp, 0, none⟩ = some (.float .f64 lvv) := (blk_cell hbp.out 0).trans rfl; have fp0 := blk_frozen hbp.out 0; have xp1 : w'.cell? ⟨gp, 1, none⟩ = some (.float .f64 mo) := (blk_cell hbp.out 1).trans rfl; have fp1 := blk_frozen hbp.out 1; have xp2 : w'.cell? ⟨gp, 2, none⟩ = some (.float .f64 ro) := (blk_cell hbp.out 2).trans rfl; have fp2 := blk_frozen hbp.out 2; have xp3 : w'.cell? ⟨gp, 3, none⟩ = some (.int .u32 la) := (blk_cell hbp.out 3).trans rfl; have fp3 := blk_frozen hbp.out 3; have xyn2 := (hb.cell (blk_lt hbY.out)).trans xy2; have xyn3 := (hb.cell (blk_lt hbY.out)).trans xy3; have hbYn := Aside0.mk ((hb.block gy (blk_lt hbY.out)).trans hbY.out); have xtn := (hb.cell (World.block_lt_of_cell? _ _ xtz)).trans xtz; clear xy0 xy1 xy2 xy3 xtz hbY hb; have xtz := xtn; have hbY := hbYn; clear xyn2 xyn3 xtn hbYn; have xy0 : w'.cell? ⟨gy, 0, none⟩ = some (.float .f64 lvv) := (blk_cell hbY.out 0).trans rfl; have xy1 : w'.cell? ⟨gy, 1, none⟩ = some (.float .f64 mo) := (blk_cell hbY.out 1).trans rfl; have xy2 : w'.cell? ⟨gy, 2, none⟩ = some (.float .f64 ro) := (blk_cell hbY.out 2).trans rfl; have xy3 : w'.cell? ⟨gy, 3, none⟩ = some (.int .u32 y) := (blk_cell hbY.out 3).trans rfl))) | fail
        all_goals go_wp2
        go_roundg (l.length - (i + 1))
        case measure => have := HKQ.out; omega
        case rel => exact ⟨i + 1, y, ⟨rfl⟩, by omega, by omega, by simp, ⟨(blk_set (blk_set (blk_set (blk_set hba.out 0 _) 1 _) 2 _) 3 _)⟩, ⟨(blk_far (blk_far (blk_far (blk_far hbp.out (fun e => hnap e.symm) _) (fun e => hnap e.symm) _) (fun e => hnap e.symm) _) (fun e => hnap e.symm) _)⟩, ⟨(by repeat (first | (with_reducible first | exact HB.out | apply below_alloc | apply pw_below_drewN | apply below_drew1 | refine below_set ?_ gea.out ) | exact HB.out))⟩⟩
      · go_simp
        refine hK.out _ _ ?_ (fun hHeld => ?_)
        · first | go_keep | exact ⟨xa0, xa1, xa2, xa3, xt⟩ | exact ⟨(far4 hna2).trans xa0, (far4 hna2).trans xa1, (far4 hna2).trans xa2, (far4 hna2).trans xa3, (far4 hnt).trans xt⟩ | exact ⟨by simp [*], by simp [*], by simp [*], by simp [*], by simp [*]⟩
        clear hK K
        try simp only [Act.put, List.getElem_toArray, List.getElem_cons_zero, List.getElem_cons_succ, List.setIfInBounds_toArray, List.set_cons_zero, List.set_cons_succ]
        refine wpAnyH_ready (rs := [5]) (by kernel_rfl) (by simp) ?_
        refine AllReadyH.cons rfl (fun K hK => ?_) AllReadyH.nil
        have hla := blk_lt hba.out
        have hlp := blk_lt hbp.out
        have hna2 : wr.heap.size ≠ ga := Nat.ne_of_gt hla
        have hnt : wr.heap.size ≠ (ad.add i).block := Nat.ne_of_gt (Nat.lt_of_lt_of_le (World.block_lt_of_cell? w _ X0.out) HWR.out)
        go_simp
        go_wp2_with (go_at_call 37; with_reducible refine (take_ _ _ _ _ _ _).mono ?_; rintro e w' ⟨r, ok, rfl, ht, hb0⟩; obtain ⟨e1, e2⟩ := take_open ht hop; obtain rfl := e1.symm; obtain rfl := e2.symm; clear ht; have hb := below_step (by repeat (first | (with_reducible first | exact Below.refl wr.heap.size wr | apply below_alloc | apply below_drew1 | apply pw_below_drewN) | exact Below.refl wr.heap.size wr)) hb0; have HBn := Aside0.mk (below_step HB.out hb); clear HB; have HB := HBn; clear HBn; have hban := Aside0.mk ((hb.block ga (blk_lt hba.out)).trans hba.out); clear hba xa0 fa0 xa1 fa1 xa2 fa2 xa3 fa3; have hba := hban; clear hban; have xa0 : w'.cell? ⟨ga, 0, none⟩ = some (.float .f64 lvv) := (blk_cell hba.out 0).trans rfl; have fa0 := blk_frozen hba.out 0; have xa1 : w'.cell? ⟨ga, 1, none⟩ = some (.float .f64 mo) := (blk_cell hba.out 1).trans rfl; have fa1 := blk_frozen hba.out 1; have xa2 : w'.cell? ⟨ga, 2, none⟩ = some (.float .f64 ro) := (blk_cell hba.out 2).trans rfl; have fa2 := blk_frozen hba.out 2; have xa3 : w'.cell? ⟨ga, 3, none⟩ = some (.int .u32 li) := (blk_cell hba.out 3).trans rfl; have fa3 := blk_frozen hba.out 3; have hbpn := Aside0.mk ((hb.block gp (blk_lt hbp.out)).trans hbp.out); clear hbp xp0 fp0 xp1 fp1 xp2 fp2 xp3 fp3; have hbp := hbpn; clear hbpn; have xp0 : w'.cell? ⟨gp, 0, none⟩ = some (.float .f64 lvv) := (blk_cell hbp.out 0).trans rfl; have fp0 := blk_frozen hbp.out 0; have xp1 : w'.cell? ⟨gp, 1, none⟩ = some (.float .f64 mo) := (blk_cell hbp.out 1).trans rfl; have fp1 := blk_frozen hbp.out 1; have xp2 : w'.cell? ⟨gp, 2, none⟩ = some (.float .f64 ro) := (blk_cell hbp.out 2).trans rfl; have fp2 := blk_frozen hbp.out 2; have xp3 : w'.cell? ⟨gp, 3, none⟩ = some (.int .u32 la) := (blk_cell hbp.out 3).trans rfl; have fp3 := blk_frozen hbp.out 3; have xtn := (hb.cell (World.block_lt_of_cell? _ _ xt)).trans xt; clear xt; have xt := xtn; clear xtn; have HYB := Aside0.mk (fun k (hk : wr.heap.size ≤ k) => hb0.block k); clear hb0; have HYS := Aside0.mk hb.size; clear hb)
        refine hK.out _ _ ?_ (fun hHeld => ?_)
        · first | go_keep | exact ⟨xa0, xa1, xa2, xa3, xt⟩ | exact ⟨(far4 hna2).trans xa0, (far4 hna2).trans xa1, (far4 hna2).trans xa2, (far4 hna2).trans xa3, (far4 hnt).trans xt⟩ | exact ⟨by simp [*], by simp [*], by simp [*], by simp [*], by simp [*]⟩
        clear hK K
        try simp only [Act.put, List.getElem_toArray, List.getElem_cons_zero, List.getElem_cons_succ, List.setIfInBounds_toArray, List.set_cons_zero, List.set_cons_succ]
        refine wpAnyH_take (i := 6) (v := ?v10_) rfl (by kernel_rfl) (by kernel_rfl) (by kernel_rfl) (fun _ _ _ h => h) (Or.inl ⟨by kernel_rfl, ?hy10_⟩) (by assumption) ?rest10_
        case hy10_ => (intro w hSw; (try dsimp only at hSw); (try (obtain ⟨hS0, hS1, hS2, hS3, hS4⟩ := hSw)); go_simp; try with_reducible rfl)
        try simp only [Act.put, List.getElem_toArray, List.getElem_cons_zero, List.getElem_cons_succ, List.setIfInBounds_toArray, List.set_cons_zero, List.set_cons_succ]
        refine wpAnyH_take (i := 7) (v := ?v11_) rfl (by kernel_rfl) (by kernel_rfl) (by kernel_rfl) (fun _ _ _ h => h) (Or.inl ⟨by kernel_rfl, ?hy11_⟩) (by assumption) ?rest11_
        case hy11_ => (intro w hSw; (try dsimp only at hSw); (try (obtain ⟨hS0, hS1, hS2, hS3, hS4⟩ := hSw)); go_simp; try with_reducible rfl)
        try simp only [Act.put, List.getElem_toArray, List.getElem_cons_zero, List.getElem_cons_succ, List.setIfInBounds_toArray, List.set_cons_zero, List.set_cons_succ]
        refine wpAnyH_take (i := 8) (v := ?v12_) rfl (by kernel_rfl) (by kernel_rfl) (by kernel_rfl) (fun _ _ _ h => h) (Or.inl ⟨by kernel_rfl, ?hy12_⟩) (by assumption) ?rest12_
        case hy12_ => (intro w hSw; (try dsimp only at hSw); (try (obtain ⟨hS0, hS1, hS2, hS3, hS4⟩ := hSw)); go_simp; try with_reducible rfl)
        try simp only [Act.put, List.getElem_toArray, List.getElem_cons_zero, List.getElem_cons_succ, List.setIfInBounds_toArray, List.set_cons_zero, List.set_cons_succ]
        have hby0 : w'.heap[wr.heap.size]? = some (.cells #[.float .f64 0, .float .f64 0, .float .f64 0, .int .u32 0] 54 (0, 0)) := (HYB.out wr.heap.size (Nat.le_refl _) (by simp)).trans (by simp [World.alloc, World.drew, -World.alloc_eq, -World.drew_eq])
        have zy0 : w'.cell? ⟨wr.heap.size, 0, none⟩ = some (.float .f64 0) := (blk_cell hby0 0).trans rfl
        have zy1 : w'.cell? ⟨wr.heap.size, 1, none⟩ = some (.float .f64 0) := (blk_cell hby0 1).trans rfl
        have zy2 : w'.cell? ⟨wr.heap.size, 2, none⟩ = some (.float .f64 0) := (blk_cell hby0 2).trans rfl
        have zy3 : w'.cell? ⟨wr.heap.size, 3, none⟩ = some (.int .u32 0) := (blk_cell hby0 3).trans rfl
        have zf0 := blk_frozen hby0 0
        have zf1 := blk_frozen hby0 1
        have zf2 := blk_frozen hby0 2
        have zf3 := blk_frozen hby0 3
        refine wpAnyH_ready (rs := [10]) (by kernel_rfl) (by simp) ?_
        refine AllReadyH.cons rfl (fun K hK => ?_) AllReadyH.nil
        go_simp
        refine hK.out _ _ ?_ (fun hHeld => ?_)
        · first | go_keep | exact ⟨xa0, xa1, xa2, xa3, xt⟩ | exact ⟨(far4 hna2).trans xa0, (far4 hna2).trans xa1, (far4 hna2).trans xa2, (far4 hna2).trans xa3, (far4 hnt).trans xt⟩ | exact ⟨by simp [*], by simp [*], by simp [*], by simp [*], by simp [*]⟩
        clear hK K
        try simp only [Act.put, List.getElem_toArray, List.getElem_cons_zero, List.getElem_cons_succ, List.setIfInBounds_toArray, List.set_cons_zero, List.set_cons_succ]
        clear zy0 zy1 zy2 zy3 zf0 zf1 zf2 zf3
        refine wpAnyH_take (i := 11) (v := ?v13_) rfl (by kernel_rfl) (by kernel_rfl) (by kernel_rfl) (fun _ _ _ h => h) (Or.inl ⟨by kernel_rfl, ?hy13_⟩) (by assumption) ?rest13_
        case hy13_ => (intro w hSw; (try dsimp only at hSw); (try (obtain ⟨hS0, hS1, hS2, hS3, hS4⟩ := hSw)); go_simp; try with_reducible rfl)
        try simp only [Act.put, List.getElem_toArray, List.getElem_cons_zero, List.getElem_cons_succ, List.setIfInBounds_toArray, List.set_cons_zero, List.set_cons_succ]
        refine wpAnyH_done (by kernel_rfl) ?_ _
        have hby : ((((w'.setCell ⟨wr.heap.size, 0, none⟩ (.float .f64 lvv)).setCell ⟨wr.heap.size, 1, none⟩ (.float .f64 mo)).setCell ⟨wr.heap.size, 2, none⟩ (.float .f64 ro)).setCell ⟨wr.heap.size, 3, none⟩ (.int .u32 y)).heap[wr.heap.size]? = some (.cells #[.float .f64 lvv, .float .f64 mo, .float .f64 ro, .int .u32 y] 54 (0, 0)) := (blk_set (blk_set (blk_set (blk_set hby0 0 _) 1 _) 2 _) 3 _)
        have hban : ((((w'.setCell ⟨wr.heap.size, 0, none⟩ (.float .f64 lvv)).setCell ⟨wr.heap.size, 1, none⟩ (.float .f64 mo)).setCell ⟨wr.heap.size, 2, none⟩ (.float .f64 ro)).setCell ⟨wr.heap.size, 3, none⟩ (.int .u32 y)).heap[ga]? = some (.cells #[.float .f64 lvv, .float .f64 mo, .float .f64 ro, .int .u32 li] 54 (0, 0)) := (blk_far (blk_far (blk_far (blk_far hba.out (Nat.ne_of_lt hla) _) (Nat.ne_of_lt hla) _) (Nat.ne_of_lt hla) _) (Nat.ne_of_lt hla) _)
        have hbpn : ((((w'.setCell ⟨wr.heap.size, 0, none⟩ (.float .f64 lvv)).setCell ⟨wr.heap.size, 1, none⟩ (.float .f64 mo)).setCell ⟨wr.heap.size, 2, none⟩ (.float .f64 ro)).setCell ⟨wr.heap.size, 3, none⟩ (.int .u32 y)).heap[gp]? = some (.cells #[.float .f64 lvv, .float .f64 mo, .float .f64 ro, .int .u32 la] 52 (0, 0)) := (blk_far (blk_far (blk_far (blk_far hbp.out (Nat.ne_of_lt hlp) _) (Nat.ne_of_lt hlp) _) (Nat.ne_of_lt hlp) _) (Nat.ne_of_lt hlp) _)
        have gey := Aside0.mk (show w.heap.size ≤ wr.heap.size from HWR.out)
        have HBz := Aside0.mk (show Below w.heap.size w ((((w'.setCell ⟨wr.heap.size, 0, none⟩ (.float .f64 lvv)).setCell ⟨wr.heap.size, 1, none⟩ (.float .f64 mo)).setCell ⟨wr.heap.size, 2, none⟩ (.float .f64 ro)).setCell ⟨wr.heap.size, 3, none⟩ (.int .u32 y)) from (by repeat (first | (with_reducible first | exact HB.out | apply below_alloc | apply pw_below_drewN | apply below_drew1 | refine below_set ?_ gey.out ) | exact HB.out)))
        have xtz : ((((w'.setCell ⟨wr.heap.size, 0, none⟩ (.float .f64 lvv)).setCell ⟨wr.heap.size, 1, none⟩ (.float .f64 mo)).setCell ⟨wr.heap.size, 2, none⟩ (.float .f64 ro)).setCell ⟨wr.heap.size, 3, none⟩ (.int .u32 y)).cell? (ad.add i) = some (.int .u32 y) := (HBz.out.cell (World.block_lt_of_cell? w _ X0.out)).trans X0.out
        have hya : wr.heap.size ≠ ga := (Nat.ne_of_gt hla)
        clear hba hbp HB xt HYB HYS xa0 fa0 xa1 fa1 xa2 fa2 xa3 fa3 xp0 fp0 xp1 fp1 xp2 fp2 xp3 fp3 hHeld
        skip
        generalize ((((w'.setCell ⟨wr.heap.size, 0, none⟩ (.float .f64 lvv)).setCell ⟨wr.heap.size, 1, none⟩ (.float .f64 mo)).setCell ⟨wr.heap.size, 2, none⟩ (.float .f64 ro)).setCell ⟨wr.heap.size, 3, none⟩ (.int .u32 y)) = wz at *
        generalize wr.heap.size = gy at *
        have HB := HBz
        clear HBz
        have hba := Aside0.mk hban
        have hbp := Aside0.mk hbpn
        have hbY := Aside0.mk hby
        clear hban hbpn hby
        have xp0 : wz.cell? ⟨gp, 0, none⟩ = some (.float .f64 lvv) := (blk_cell hbp.out 0).trans rfl
        have fp0 := blk_frozen hbp.out 0
        have xp1 : wz.cell? ⟨gp, 1, none⟩ = some (.float .f64 mo) := (blk_cell hbp.out 1).trans rfl
        have fp1 := blk_frozen hbp.out 1
        have xp2 : wz.cell? ⟨gp, 2, none⟩ = some (.float .f64 ro) := (blk_cell hbp.out 2).trans rfl
        have fp2 := blk_frozen hbp.out 2
        have xp3 : wz.cell? ⟨gp, 3, none⟩ = some (.int .u32 la) := (blk_cell hbp.out 3).trans rfl
        have fp3 := blk_frozen hbp.out 3
        have xy0 : wz.cell? ⟨gy, 0, none⟩ = some (.float .f64 lvv) := (blk_cell hbY.out 0).trans rfl
        have xy1 : wz.cell? ⟨gy, 1, none⟩ = some (.float .f64 mo) := (blk_cell hbY.out 1).trans rfl
        have xy2 : wz.cell? ⟨gy, 2, none⟩ = some (.float .f64 ro) := (blk_cell hbY.out 2).trans rfl
        have xy3 : wz.cell? ⟨gy, 3, none⟩ = some (.int .u32 y) := (blk_cell hbY.out 3).trans rfl
        have xa0 : wz.cell? ⟨ga, 0, none⟩ = some (.float .f64 lvv) := (blk_cell hba.out 0).trans rfl
        have fa0 := blk_frozen hba.out 0
        have xa1 : wz.cell? ⟨ga, 1, none⟩ = some (.float .f64 mo) := (blk_cell hba.out 1).trans rfl
        have fa1 := blk_frozen hba.out 1
        have xa2 : wz.cell? ⟨ga, 2, none⟩ = some (.float .f64 ro) := (blk_cell hba.out 2).trans rfl
        have fa2 := blk_frozen hba.out 2
        have xa3 : wz.cell? ⟨ga, 3, none⟩ = some (.int .u32 li) := (blk_cell hba.out 3).trans rfl
        have fa3 := blk_frozen hba.out 3
        go_wp2_with fail
        first | (go_region_held (fun W => W.cell? ⟨gy, 2, none⟩ = some (.float .f64 ro) ∧ W.cell? ⟨gp, 2, none⟩ = some (.float .f64 ro) ∧ W.cell? ⟨gy, 3, none⟩ = some (.int .u32 y) ∧ W.cell? (ad.add i) = some (.int .u32 y)) (first | go_keep | exact ⟨xy2, xp2, xy3, xtz⟩) ((go_at_call 39; (with_reducible refine (rsame_ _ _ hro hro _).mono ?_); rw [cmpw_self]; rintro e w' ⟨rfl, hb⟩; have HBn := Aside0.mk (below_step (by repeat (first | (with_reducible first | exact HB.out | apply below_alloc | apply pw_below_drewN | apply below_drew1 | refine below_set ?_ gey.out ) | exact HB.out)) hb); clear HB; have HB := HBn; clear HBn; have hban := Aside0.mk ((hb.block ga (blk_lt hba.out)).trans hba.out); clear hba xa0 fa0 xa1 fa1 xa2 fa2 xa3 fa3; have hba := hban; clear hban; have xa0 : w'.cell? ⟨ga, 0, none⟩ = some (.float .f64 lvv) := (blk_cell hba.out 0).trans rfl; have fa0 := blk_frozen hba.out 0; have xa1 : w'.cell? ⟨ga, 1, none⟩ = some (.float .f64 mo) := (blk_cell hba.out 1).trans rfl; have fa1 := blk_frozen hba.out 1; have xa2 : w'.cell? ⟨ga, 2, none⟩ = some (.float .f64 ro) := (blk_cell hba.out 2).trans rfl; have fa2 := blk_frozen hba.out 2; have xa3 : w'.cell? ⟨ga, 3, none⟩ = some (.int .u32 li) := (blk_cell hba.out 3).trans rfl; have fa3 := blk_frozen hba.out 3; have hbpn := Aside0.mk ((hb.block gp (blk_lt hbp.out)).trans hbp.out); clear hbp xp0 fp0 xp1 fp1 xp2 fp2 xp3 fp3; have hbp := hbpn; clear hbpn; have xp0 : w'.cell? ⟨gp, 0, none⟩ = some (.float .f64 lvv) := (blk_cell hbp.out 0).trans rfl; have fp0 := blk_frozen hbp.out 0; have xp1 : w'.cell? ⟨gp, 1, none⟩ = some (.float .f64 mo) := (blk_cell hbp.out 1).trans rfl; have fp1 := blk_frozen hbp.out 1; have xp2 : w'.cell? ⟨gp, 2, none⟩ = some (.float .f64 ro) := (blk_cell hbp.out 2).trans rfl; have fp2 := blk_frozen hbp.out 2; have xp3 : w'.cell? ⟨gp, 3, none⟩ = some (.int .u32 la) := (blk_cell hbp.out 3).trans rfl; have fp3 := blk_frozen hbp.out 3; have xyn2 := (hb.cell (blk_lt hbY.out)).trans xy2; have xyn3 := (hb.cell (blk_lt hbY.out)).trans xy3; have hbYn := Aside0.mk ((hb.block gy (blk_lt hbY.out)).trans hbY.out); have xtn := (hb.cell (World.block_lt_of_cell? _ _ xtz)).trans xtz; clear xy0 xy1 xy2 xy3 xtz hbY hb; have xtz := xtn; have hbY := hbYn; clear xyn2 xyn3 xtn hbYn; have xy0 : w'.cell? ⟨gy, 0, none⟩ = some (.float .f64 lvv) := (blk_cell hbY.out 0).trans rfl; have xy1 : w'.cell? ⟨gy, 1, none⟩ = some (.float .f64 mo) := (blk_cell hbY.out 1).trans rfl; have xy2 : w'.cell? ⟨gy, 2, none⟩ = some (.float .f64 ro) := (blk_cell hbY.out 2).trans rfl; have xy3 : w'.cell? ⟨gy, 3, none⟩ = some (.int .u32 y) := (blk_cell hbY.out 3).trans rfl))) | fail
        all_goals go_wp2
        go_roundg (l.length - (i + 1))
        case measure => have := HKQ.out; omega
        case rel => exact ⟨i + 1, y, ⟨rfl⟩, by omega, by omega, by simp, ⟨(blk_set (blk_set (blk_set (blk_set hba.out 0 _) 1 _) 2 _) 3 _)⟩, ⟨(blk_far (blk_far (blk_far (blk_far hbp.out (fun e => hnap e.symm) _) (fun e => hnap e.symm) _) (fun e => hnap e.symm) _) (fun e => hnap e.symm) _)⟩, ⟨(by repeat (first | (with_reducible first | exact HB.out | apply below_alloc | apply pw_below_drewN | apply below_drew1 | refine below_set ?_ gea.out ) | exact HB.out))⟩⟩
    · have hge : l.length ≤ i ∨ 100 ≤ i := by omega
      clear hlt
      rcases hge with hge | hge
      all_goals (by_cases a0 : i < l.length <;> try omega)
      all_goals (go_wp2_with (first | (go_at_call 29; (with_reducible refine (told_ _).mono ?_); rintro e w' ⟨rfl, hb⟩; have HBn := Aside0.mk (below_step (by repeat (first | (with_reducible first | exact HB.out | apply below_alloc | apply pw_below_drewN | apply below_drew1 ) | exact HB.out)) hb); clear HB; have HB := HBn; clear HBn; have hban := Aside0.mk ((hb.block ga (blk_lt hba.out)).trans hba.out); clear hba xa0 fa0 xa1 fa1 xa2 fa2 xa3 fa3; have hba := hban; clear hban; have xa0 : w'.cell? ⟨ga, 0, none⟩ = some (.float .f64 lvv) := (blk_cell hba.out 0).trans rfl; have fa0 := blk_frozen hba.out 0; have xa1 : w'.cell? ⟨ga, 1, none⟩ = some (.float .f64 mo) := (blk_cell hba.out 1).trans rfl; have fa1 := blk_frozen hba.out 1; have xa2 : w'.cell? ⟨ga, 2, none⟩ = some (.float .f64 ro) := (blk_cell hba.out 2).trans rfl; have fa2 := blk_frozen hba.out 2; have xa3 : w'.cell? ⟨ga, 3, none⟩ = some (.int .u32 li) := (blk_cell hba.out 3).trans rfl; have fa3 := blk_frozen hba.out 3; have hbpn := Aside0.mk ((hb.block gp (blk_lt hbp.out)).trans hbp.out); clear hbp xp0 fp0 xp1 fp1 xp2 fp2 xp3 fp3; have hbp := hbpn; clear hbpn; have xp0 : w'.cell? ⟨gp, 0, none⟩ = some (.float .f64 lvv) := (blk_cell hbp.out 0).trans rfl; have fp0 := blk_frozen hbp.out 0; have xp1 : w'.cell? ⟨gp, 1, none⟩ = some (.float .f64 mo) := (blk_cell hbp.out 1).trans rfl; have fp1 := blk_frozen hbp.out 1; have xp2 : w'.cell? ⟨gp, 2, none⟩ = some (.float .f64 ro) := (blk_cell hbp.out 2).trans rfl; have fp2 := blk_frozen hbp.out 2; have xp3 : w'.cell? ⟨gp, 3, none⟩ = some (.int .u32 la) := (blk_cell hbp.out 3).trans rfl; have fp3 := blk_frozen hbp.out 3; clear hb) | (go_at_call 33; (with_reducible refine (open_ _ _ _ _ _).mono ?_); rw [hop]; rintro e w' ⟨rfl, hb⟩; have HBn := Aside0.mk (below_step (by repeat (first | (with_reducible first | exact HB.out | apply below_alloc | apply pw_below_drewN | apply below_drew1 ) | exact HB.out)) hb); clear HB; have HB := HBn; clear HBn; clear hb)); go_ret; exact ⟨rfl, (by repeat (first | (with_reducible first | exact HB.out | apply below_alloc | apply pw_below_drewN | apply below_drew1 ) | exact HB.out))⟩)
theorem wf_f64' {b : Nat} (h : (Lit.float .f64 b).wf = true) : b < 18446744073709551616 := by simpa [Lit.wf] using h
theorem GaugeOpens_calls (lv mo ro : Nat) (la : Int) (A : Option Addr) (c : Nat) (l : List Int) (nan : Bool) (w : World) (hro : (Lit.float .f64 ro).wf = true) (h : Opens.RowC (Opens.intK .u32) 1 w A l.length l) (h63 : l.length ≤ 9223372036854775807) :
    Calls Try.prog 9 #[agg lv mo ro la, .slice A l.length c, .bool nan] w fun e w' => e = .returned (.bool true) ∧ Below w.heap.size w w' := by
  cases nan
  · exact opens_inf lv mo ro _ la A c l w rfl (wf_f64' hro) h h63
  · exact opens_nan lv mo ro la A c l w (wf_f64' hro) h h63
end Go.Proofs.Ytkgghjblfoempaa.GW
