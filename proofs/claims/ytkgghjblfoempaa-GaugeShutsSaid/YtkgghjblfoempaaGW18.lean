/- The law GaugeShuts: its walk; no condition. -/
import Derived.Test.YtkgghjblfoempaaGW17
import Derived.Test.YtkgghjblfoempaaOpen
import Derived.Deep.RegionHeld
namespace Go.Proofs.Ytkgghjblfoempaa.GW
open Go.RowKit Go.Proofs.YtkgghjblfoempaaW.PrintWords Go.Proofs.Ytkgghjblfoempaa.Fl
set_option linter.unusedVariables false
set_option linter.unusedSimpArgs false
attribute [local go_sem] run_store_float

theorem far4 {w : World} {g : Nat} {a : Addr} {v0 v1 v2 v3 : Value} (h : g ≠ a.block) : ((((w.setCell ⟨g, 0, none⟩ v0).setCell ⟨g, 1, none⟩ v1).setCell ⟨g, 2, none⟩ v2).setCell ⟨g, 3, none⟩ v3).cell? a = w.cell? a := by
  rw [World.cell?_setCell_far _ _ _ _ h, World.cell?_setCell_far _ _ _ _ h, World.cell?_setCell_far _ _ _ _ h, World.cell?_setCell_far _ _ _ _ h]

set_option maxHeartbeats 16000000 in
set_option maxRecDepth 100000 in
theorem shuts_walk (lv k : Nat) (A : Option Addr) (c : Nat) (l : List Int) (w : World) (hk : k ≤ 255) (h : Opens.RowC (Opens.intK .u32) 1 w A l.length l) (h63 : l.length ≤ 9223372036854775807) :
    Calls Try.prog 8 #[.float .f64 lv, .int .u8 (k : Int), .slice A l.length c] w fun e w' => e = .returned (.bool true) ∧ Below w.heap.size w w' := by
  have HB := Aside0.mk (Below.refl w.heap.size w)
  have HX := Aside0.mk h
  have HK5 := Aside0.mk hk
  have eK : floatOfInt .f64 (k : Int) = Wn k := rfl
  have hg := pos_iff lv
  have hn := nan_iff lv
  rw [← fmt] at hg hn
  have hc := cls_le lv
  clear h hk
  by_cases c1 : cls lv = 5 ∨ cls lv = 1 ∧ 0 < val lv
  · rw [decide_eq_true c1] at hg
    clear hn hc c1
    go_enter Try.func8, Try.ntmps8
    go_wp2_with (first | (go_at_call 32; with_reducible refine (new_ _ _ _ _).mono ?_; rintro e w' ⟨rfl, hb⟩; have HBn := Aside0.mk (below_step (by repeat (first | (with_reducible first | exact HB.out | apply below_alloc | apply pw_below_drewN | apply below_drew1 ) | exact HB.out)) hb); clear HB; have HB := HBn; clear HBn; clear hb) | ((with_reducible refine gate_dst (N := 7) rfl ?_); refine box_event ?hg (N := 7) ?hd (cs := #[.float .f64 0, .float .f64 0, .float .f64 0, .int .u32 0]) (t := 54) ?hr ?_; (case hd => rfl); (case hg => rfl); (case hr => first | (go_simp; done) | (go_simp; rfl)); intro ga hga wa hba0 hb; have gea := Aside0.mk (show w.heap.size ≤ ga from by rw [hga]; exact below_size (by repeat (first | (with_reducible first | exact HB.out | apply below_alloc | apply pw_below_drewN | apply below_drew1 ) | exact HB.out))); have HBn := Aside0.mk (below_step (by repeat (first | (with_reducible first | exact HB.out | apply below_alloc | apply pw_below_drewN | apply below_drew1 ) | exact HB.out)) hb); clear HB; have HB := HBn; clear HBn; have hba := Aside0.mk hba0; clear hba0 hga; have xa0 : wa.cell? ⟨ga, 0, none⟩ = some (.float .f64 0) := (blk_cell hba.out 0).trans rfl; have fa0 := blk_frozen hba.out 0; have xa1 : wa.cell? ⟨ga, 1, none⟩ = some (.float .f64 0) := (blk_cell hba.out 1).trans rfl; have fa1 := blk_frozen hba.out 1; have xa2 : wa.cell? ⟨ga, 2, none⟩ = some (.float .f64 0) := (blk_cell hba.out 2).trans rfl; have fa2 := blk_frozen hba.out 2; have xa3 : wa.cell? ⟨ga, 3, none⟩ = some (.int .u32 0) := (blk_cell hba.out 3).trans rfl; have fa3 := blk_frozen hba.out 3; clear hb) | (go_at_call 29; (with_reducible refine (told_ _).mono ?_); rintro e w' ⟨rfl, hb⟩; have HBn := Aside0.mk (below_step (by repeat (first | (with_reducible first | exact HB.out | apply below_alloc | apply pw_below_drewN | apply below_drew1 | refine below_set ?_ gea.out ) | exact HB.out)) hb); clear HB; have HB := HBn; clear HBn; clear hb))
    go_ret
    exact ⟨rfl, (by repeat (first | (with_reducible first | exact HB.out | apply below_alloc | apply pw_below_drewN | apply below_drew1 | refine below_set ?_ gea.out ) | exact HB.out))⟩
  · rw [decide_eq_false c1] at hg
    by_cases c2 : cls lv = 6
    · rw [decide_eq_true c2] at hn
      clear hc c1 c2
      go_enter Try.func8, Try.ntmps8
      go_wp2_with (first | (go_at_call 32; with_reducible refine (new_ _ _ _ _).mono ?_; rintro e w' ⟨rfl, hb⟩; have HBn := Aside0.mk (below_step (by repeat (first | (with_reducible first | exact HB.out | apply below_alloc | apply pw_below_drewN | apply below_drew1 ) | exact HB.out)) hb); clear HB; have HB := HBn; clear HBn; clear hb) | ((with_reducible refine gate_dst (N := 7) rfl ?_); refine box_event ?hg (N := 7) ?hd (cs := #[.float .f64 0, .float .f64 0, .float .f64 0, .int .u32 0]) (t := 54) ?hr ?_; (case hd => rfl); (case hg => rfl); (case hr => first | (go_simp; done) | (go_simp; rfl)); intro ga hga wa hba0 hb; have gea := Aside0.mk (show w.heap.size ≤ ga from by rw [hga]; exact below_size (by repeat (first | (with_reducible first | exact HB.out | apply below_alloc | apply pw_below_drewN | apply below_drew1 ) | exact HB.out))); have HBn := Aside0.mk (below_step (by repeat (first | (with_reducible first | exact HB.out | apply below_alloc | apply pw_below_drewN | apply below_drew1 ) | exact HB.out)) hb); clear HB; have HB := HBn; clear HBn; have hba := Aside0.mk hba0; clear hba0 hga; have xa0 : wa.cell? ⟨ga, 0, none⟩ = some (.float .f64 0) := (blk_cell hba.out 0).trans rfl; have fa0 := blk_frozen hba.out 0; have xa1 : wa.cell? ⟨ga, 1, none⟩ = some (.float .f64 0) := (blk_cell hba.out 1).trans rfl; have fa1 := blk_frozen hba.out 1; have xa2 : wa.cell? ⟨ga, 2, none⟩ = some (.float .f64 0) := (blk_cell hba.out 2).trans rfl; have fa2 := blk_frozen hba.out 2; have xa3 : wa.cell? ⟨ga, 3, none⟩ = some (.int .u32 0) := (blk_cell hba.out 3).trans rfl; have fa3 := blk_frozen hba.out 3; clear hb) | (go_at_call 29; (with_reducible refine (told_ _).mono ?_); rintro e w' ⟨rfl, hb⟩; have HBn := Aside0.mk (below_step (by repeat (first | (with_reducible first | exact HB.out | apply below_alloc | apply pw_below_drewN | apply below_drew1 | refine below_set ?_ gea.out ) | exact HB.out)) hb); clear HB; have HB := HBn; clear HBn; clear hb))
      go_ret
      exact ⟨rfl, (by repeat (first | (with_reducible first | exact HB.out | apply below_alloc | apply pw_below_drewN | apply below_drew1 | refine below_set ?_ gea.out ) | exact HB.out))⟩
    · rw [decide_eq_false c2] at hn
      have HLO := Aside0.mk (show cls lv = 0 ∨ (cls lv = 1 ∧ val lv ≤ 0) from by omega)
      clear hc c1 c2
      go_enter Try.func8, Try.ntmps8
      go_wp2_with (first | (go_at_call 32; with_reducible refine (new_ _ _ _ _).mono ?_; rintro e w' ⟨rfl, hb⟩; have HBn := Aside0.mk (below_step (by repeat (first | (with_reducible first | exact HB.out | apply below_alloc | apply pw_below_drewN | apply below_drew1 ) | exact HB.out)) hb); clear HB; have HB := HBn; clear HBn; clear hb) | ((with_reducible refine gate_dst (N := 7) rfl ?_); refine box_event ?hg (N := 7) ?hd (cs := #[.float .f64 0, .float .f64 0, .float .f64 0, .int .u32 0]) (t := 54) ?hr ?_; (case hd => rfl); (case hg => rfl); (case hr => first | (go_simp; done) | (go_simp; rfl)); intro ga hga wa hba0 hb; have gea := Aside0.mk (show w.heap.size ≤ ga from by rw [hga]; exact below_size (by repeat (first | (with_reducible first | exact HB.out | apply below_alloc | apply pw_below_drewN | apply below_drew1 ) | exact HB.out))); have HBn := Aside0.mk (below_step (by repeat (first | (with_reducible first | exact HB.out | apply below_alloc | apply pw_below_drewN | apply below_drew1 ) | exact HB.out)) hb); clear HB; have HB := HBn; clear HBn; have hba := Aside0.mk hba0; clear hba0 hga; have xa0 : wa.cell? ⟨ga, 0, none⟩ = some (.float .f64 0) := (blk_cell hba.out 0).trans rfl; have fa0 := blk_frozen hba.out 0; have xa1 : wa.cell? ⟨ga, 1, none⟩ = some (.float .f64 0) := (blk_cell hba.out 1).trans rfl; have fa1 := blk_frozen hba.out 1; have xa2 : wa.cell? ⟨ga, 2, none⟩ = some (.float .f64 0) := (blk_cell hba.out 2).trans rfl; have fa2 := blk_frozen hba.out 2; have xa3 : wa.cell? ⟨ga, 3, none⟩ = some (.int .u32 0) := (blk_cell hba.out 3).trans rfl; have fa3 := blk_frozen hba.out 3; clear hb) | (go_at_call 29; (with_reducible refine (told_ _).mono ?_); rintro e w' ⟨rfl, hb⟩; have HBn := Aside0.mk (below_step (by repeat (first | (with_reducible first | exact HB.out | apply below_alloc | apply pw_below_drewN | apply below_drew1 | refine below_set ?_ gea.out ) | exact HB.out)) hb); clear HB; have HB := HBn; clear HBn; have hban := Aside0.mk ((hb.block ga (by have q := blk_lt hba.out; simpa [World.setCell] using q)).trans (blk_set (blk_set (blk_set (blk_set hba.out 0 _) 1 _) 2 _) 3 _)); clear hba xa0 fa0 xa1 fa1 xa2 fa2 xa3 fa3; have hba := hban; clear hban; have xa0 : w'.cell? ⟨ga, 0, none⟩ = some (.float .f64 lv) := (blk_cell hba.out 0).trans rfl; have fa0 := blk_frozen hba.out 0; have xa1 : w'.cell? ⟨ga, 1, none⟩ = some (.float .f64 (Wn k)) := (blk_cell hba.out 1).trans rfl; have fa1 := blk_frozen hba.out 1; have xa2 : w'.cell? ⟨ga, 2, none⟩ = some (.float .f64 (Wn k)) := (blk_cell hba.out 2).trans rfl; have fa2 := blk_frozen hba.out 2; have xa3 : w'.cell? ⟨ga, 3, none⟩ = some (.int .u32 0) := (blk_cell hba.out 3).trans rfl; have fa3 := blk_frozen hba.out 3; clear hb))
      clear hg hn
      go_loopg [8, 9] l.length (fun kq v8 v9 wr => ∃ (i n R : Nat) (li : Int), Aside0 (kq = l.length - i) ∧ i ≤ l.length ∧ i ≤ 300 ∧ n ≤ k ∧ v8 = .int .i64 (n : Int) ∧ v9 = .int .i64 (i : Int) ∧ Aside0 (cls R = 1 ∧ 0 ≤ val R ∧ val R ≤ val (Wn (k - n))) ∧ Aside0 (wr.heap[ga]? = some (.cells #[.float .f64 lv, .float .f64 (Wn k), .float .f64 R, .int .u32 li] 54 (0, 0))) ∧ Aside0 (Below w.heap.size w wr))
      case atStart => exact ⟨0, 0, Wn k, 0, ⟨by omega⟩, Nat.zero_le _, Nat.zero_le _, Nat.zero_le _, rfl, rfl, ⟨cls_Wn k (by have := HK5.out; omega), val_Wn_nonneg k (by have := HK5.out; omega), Int.le_refl _⟩, ⟨hba.out⟩, ⟨HB.out⟩⟩
      case round =>
        clear HB hba xa0 fa0 xa1 fa1 xa2 fa2 xa3 fa3
        obtain ⟨i, n, R, li, HKQ, hi, hi4, hn, rfl, rfl, HR, hba, HB⟩ := hrel
        have xa0 : wr.cell? ⟨ga, 0, none⟩ = some (.float .f64 lv) := (blk_cell hba.out 0).trans rfl
        have fa0 := blk_frozen hba.out 0
        have xa1 : wr.cell? ⟨ga, 1, none⟩ = some (.float .f64 (Wn k)) := (blk_cell hba.out 1).trans rfl
        have fa1 := blk_frozen hba.out 1
        have xa2 : wr.cell? ⟨ga, 2, none⟩ = some (.float .f64 R) := (blk_cell hba.out 2).trans rfl
        have fa2 := blk_frozen hba.out 2
        have xa3 : wr.cell? ⟨ga, 3, none⟩ = some (.int .u32 li) := (blk_cell hba.out 3).trans rfl
        have fa3 := blk_frozen hba.out 3
        have HWR := Aside0.mk HB.out.size
        have hnw : IntKind.i64.wrap ((n : Int) + 1) = (n : Int) + 1 := IntWalk.i64_in _ (by have := HK5.out; omega)
        by_cases hlt : i < l.length ∧ i < 300
        · obtain ⟨hl0, hl4⟩ := hlt
          obtain ⟨ad, e0, x0⟩ := Opens.RowC.one (v := fun x => Value.int .u32 x) HX.out i hl0
          cases e0
          have xt := (HB.out.cell (World.block_lt_of_cell? w _ x0)).trans x0
          have X0 := Aside0.mk x0
          clear x0
          generalize l[i] = y at *
          go_wp2_with fail
          refine wp_region_held_drew (S := (fun W => W.cell? ⟨ga, 0, none⟩ = some (.float .f64 lv) ∧ W.cell? ⟨ga, 1, none⟩ = some (.float .f64 (Wn k)) ∧ W.cell? ⟨ga, 2, none⟩ = some (.float .f64 R) ∧ W.cell? ⟨ga, 3, none⟩ = some (.int .u32 li) ∧ W.cell? (ad.add i) = some (.int .u32 y))) (by kernel_rfl) ?_ (fun hHeld => ?_)
          · exact ⟨xa0, xa1, xa2, xa3, xt⟩
          refine wpAnyH_take (i := 0) (v := ?v1_) rfl (by kernel_rfl) (by kernel_rfl) (by kernel_rfl) (fun _ _ _ h => h) (Or.inl ⟨by kernel_rfl, ?hy1_⟩) (by assumption) ?rest1_
          case hy1_ => (intro w hSw; (try dsimp only at hSw); (try (obtain ⟨hS0, hS1, hS2, hS3, hS4⟩ := hSw)); go_simp; try with_reducible rfl)
          try simp only [Act.put, List.getElem_toArray, List.getElem_cons_zero, List.getElem_cons_succ, List.setIfInBounds_toArray, List.set_cons_zero, List.set_cons_succ]
          refine wpAnyH_take (i := 1) (v := ?v2_) rfl (by kernel_rfl) (by kernel_rfl) (by kernel_rfl) (fun _ _ _ h => h) (Or.inl ⟨by kernel_rfl, ?hy2_⟩) (by assumption) ?rest2_
          case hy2_ => (intro w hSw; (try dsimp only at hSw); (try (obtain ⟨hS0, hS1, hS2, hS3, hS4⟩ := hSw)); go_simp; try with_reducible rfl)
          try simp only [Act.put, List.getElem_toArray, List.getElem_cons_zero, List.getElem_cons_succ, List.setIfInBounds_toArray, List.set_cons_zero, List.set_cons_succ]
          refine wpAnyH_take (i := 2) (v := ?v3_) rfl (by kernel_rfl) (by kernel_rfl) (by kernel_rfl) (fun _ _ _ h => h) (Or.inl ⟨by kernel_rfl, ?hy3_⟩) (by assumption) ?rest3_
          case hy3_ => (intro w hSw; (try dsimp only at hSw); (try (obtain ⟨hS0, hS1, hS2, hS3, hS4⟩ := hSw)); go_simp; try with_reducible rfl)
          try simp only [Act.put, List.getElem_toArray, List.getElem_cons_zero, List.getElem_cons_succ, List.setIfInBounds_toArray, List.set_cons_zero, List.set_cons_succ]
          refine wpAnyH_take (i := 3) (v := ?v4_) rfl (by kernel_rfl) (by kernel_rfl) (by kernel_rfl) (fun _ _ _ h => h) (Or.inl ⟨by kernel_rfl, ?hy4_⟩) (by assumption) ?rest4_
          case hy4_ => (intro w hSw; (try dsimp only at hSw); (try (obtain ⟨hS0, hS1, hS2, hS3, hS4⟩ := hSw)); go_simp; try with_reducible rfl)
          try simp only [Act.put, List.getElem_toArray, List.getElem_cons_zero, List.getElem_cons_succ, List.setIfInBounds_toArray, List.set_cons_zero, List.set_cons_succ]
          refine wpAnyH_take (i := 4) (v := ?v5_) rfl (by kernel_rfl) (by kernel_rfl) (by kernel_rfl) (fun _ _ _ h => h) (Or.inl ⟨by kernel_rfl, ?hy5_⟩) (by assumption) ?rest5_
          case hy5_ => (intro w hSw; (try dsimp only at hSw); (try (obtain ⟨hS0, hS1, hS2, hS3, hS4⟩ := hSw)); go_simp; try with_reducible rfl)
          try simp only [Act.put, List.getElem_toArray, List.getElem_cons_zero, List.getElem_cons_succ, List.setIfInBounds_toArray, List.set_cons_zero, List.set_cons_succ]
          refine wpAnyH_ready (rs := [5, 9]) (by kernel_rfl) (by simp) ?_
          refine AllReadyH.cons rfl (fun K hK => ?_) (AllReadyH.cons rfl (fun K hK => ?_) AllReadyH.nil)
          · go_simp
            go_wp2_with (go_at_call 37; (with_reducible refine (take_ _ _ _ _ _ _).mono ?_); rintro e w' ⟨r, ok, rfl, ht, hb0⟩; have HTK := Aside0.mk (take_low HLO.out HK5.out (Nat.sub_le k n) HR.out.1 HR.out.2.1 HR.out.2.2 ht); clear ht; have hb := below_step (by repeat (first | (with_reducible first | exact Below.refl wr.heap.size wr | apply below_alloc | apply below_drew1 | apply pw_below_drewN) | exact Below.refl wr.heap.size wr)) hb0; have HBn := Aside0.mk (below_step HB.out hb); clear HB; have HB := HBn; clear HBn; have hban := Aside0.mk ((hb.block ga (blk_lt hba.out)).trans hba.out); clear hba xa0 fa0 xa1 fa1 xa2 fa2 xa3 fa3; have hba := hban; clear hban; have xa0 : w'.cell? ⟨ga, 0, none⟩ = some (.float .f64 lv) := (blk_cell hba.out 0).trans rfl; have fa0 := blk_frozen hba.out 0; have xa1 : w'.cell? ⟨ga, 1, none⟩ = some (.float .f64 (Wn k)) := (blk_cell hba.out 1).trans rfl; have fa1 := blk_frozen hba.out 1; have xa2 : w'.cell? ⟨ga, 2, none⟩ = some (.float .f64 R) := (blk_cell hba.out 2).trans rfl; have fa2 := blk_frozen hba.out 2; have xa3 : w'.cell? ⟨ga, 3, none⟩ = some (.int .u32 li) := (blk_cell hba.out 3).trans rfl; have fa3 := blk_frozen hba.out 3; have xtn := (hb.cell (World.block_lt_of_cell? _ _ xt)).trans xt; clear xt; have xt := xtn; clear xtn; have HYB := Aside0.mk (fun k (hk : wr.heap.size ≤ k) => hb0.block k); clear hb0; have HYS := Aside0.mk hb.size; clear hb)
            refine hK.out _ _ ?_ (fun hHeld => ?_)
            · first | go_keep | exact ⟨xa0, xa1, xa2, xa3, xt⟩ | exact ⟨(far4 hna2).trans xa0, (far4 hna2).trans xa1, (far4 hna2).trans xa2, (far4 hna2).trans xa3, (far4 hnt).trans xt⟩ | exact ⟨by simp [*], by simp [*], by simp [*], by simp [*], by simp [*]⟩
            clear hK K
            try simp only [Act.put, List.getElem_toArray, List.getElem_cons_zero, List.getElem_cons_succ, List.setIfInBounds_toArray, List.set_cons_zero, List.set_cons_succ]
            refine wpAnyH_take (i := 6) (v := ?v6_) rfl (by kernel_rfl) (by kernel_rfl) (by kernel_rfl) (fun _ _ _ h => h) (Or.inl ⟨by kernel_rfl, ?hy6_⟩) (by assumption) ?rest6_
            case hy6_ => (intro w hSw; (try dsimp only at hSw); (try (obtain ⟨hS0, hS1, hS2, hS3, hS4⟩ := hSw)); go_simp; try with_reducible rfl)
            try simp only [Act.put, List.getElem_toArray, List.getElem_cons_zero, List.getElem_cons_succ, List.setIfInBounds_toArray, List.set_cons_zero, List.set_cons_succ]
            refine wpAnyH_take (i := 7) (v := ?v7_) rfl (by kernel_rfl) (by kernel_rfl) (by kernel_rfl) (fun _ _ _ h => h) (Or.inl ⟨by kernel_rfl, ?hy7_⟩) (by assumption) ?rest7_
            case hy7_ => (intro w hSw; (try dsimp only at hSw); (try (obtain ⟨hS0, hS1, hS2, hS3, hS4⟩ := hSw)); go_simp; try with_reducible rfl)
            try simp only [Act.put, List.getElem_toArray, List.getElem_cons_zero, List.getElem_cons_succ, List.setIfInBounds_toArray, List.set_cons_zero, List.set_cons_succ]
            refine wpAnyH_take (i := 8) (v := ?v8_) rfl (by kernel_rfl) (by kernel_rfl) (by kernel_rfl) (fun _ _ _ h => h) (Or.inl ⟨by kernel_rfl, ?hy8_⟩) (by assumption) ?rest8_
            case hy8_ => (intro w hSw; (try dsimp only at hSw); (try (obtain ⟨hS0, hS1, hS2, hS3, hS4⟩ := hSw)); go_simp; try with_reducible rfl)
            try simp only [Act.put, List.getElem_toArray, List.getElem_cons_zero, List.getElem_cons_succ, List.setIfInBounds_toArray, List.set_cons_zero, List.set_cons_succ]
            refine wpAnyH_ready (rs := [9]) (by kernel_rfl) (by simp) ?_
            refine AllReadyH.cons rfl (fun K hK => ?_) AllReadyH.nil
            go_simp
            refine hK.out _ _ ?_ (fun hHeld => ?_)
            · first | go_keep | exact ⟨xa0, xa1, xa2, xa3, xt⟩ | exact ⟨(far4 hna2).trans xa0, (far4 hna2).trans xa1, (far4 hna2).trans xa2, (far4 hna2).trans xa3, (far4 hnt).trans xt⟩ | exact ⟨by simp [*], by simp [*], by simp [*], by simp [*], by simp [*]⟩
            clear hK K
            try simp only [Act.put, List.getElem_toArray, List.getElem_cons_zero, List.getElem_cons_succ, List.setIfInBounds_toArray, List.set_cons_zero, List.set_cons_succ]
            refine wpAnyH_ready (rs := [10]) (by kernel_rfl) (by simp) ?_
            refine AllReadyH.cons rfl (fun K hK => ?_) AllReadyH.nil
            go_simp
            refine hK.out _ _ ?_ (fun hHeld => ?_)
            · first | go_keep | exact ⟨xa0, xa1, xa2, xa3, xt⟩ | exact ⟨(far4 hna2).trans xa0, (far4 hna2).trans xa1, (far4 hna2).trans xa2, (far4 hna2).trans xa3, (far4 hnt).trans xt⟩ | exact ⟨by simp [*], by simp [*], by simp [*], by simp [*], by simp [*]⟩
            clear hK K
            try simp only [Act.put, List.getElem_toArray, List.getElem_cons_zero, List.getElem_cons_succ, List.setIfInBounds_toArray, List.set_cons_zero, List.set_cons_succ]
            refine wpAnyH_take (i := 11) (v := ?v9_) rfl (by kernel_rfl) (by kernel_rfl) (by kernel_rfl) (fun _ _ _ h => h) (Or.inl ⟨by kernel_rfl, ?hy9_⟩) (by assumption) ?rest9_
            case hy9_ => (intro w hSw; (try dsimp only at hSw); (try (obtain ⟨hS0, hS1, hS2, hS3, hS4⟩ := hSw)); go_simp; try with_reducible rfl)
            try simp only [Act.put, List.getElem_toArray, List.getElem_cons_zero, List.getElem_cons_succ, List.setIfInBounds_toArray, List.set_cons_zero, List.set_cons_succ]
            refine wpAnyH_done (by kernel_rfl) ?_ _
            have hby : (w'.alloc (.cells #[.float .f64 lv, .float .f64 (Wn k), .float .f64 r, .int .u32 y] 54)).heap[w'.heap.size]? = some (.cells #[.float .f64 lv, .float .f64 (Wn k), .float .f64 r, .int .u32 y] 54 (0, 0)) := (blk_new w' _)
            have hban : (w'.alloc (.cells #[.float .f64 lv, .float .f64 (Wn k), .float .f64 r, .int .u32 y] 54)).heap[ga]? = some (.cells #[.float .f64 lv, .float .f64 (Wn k), .float .f64 R, .int .u32 li] 54 (0, 0)) := (blk_alloc hba.out _)
            have gey := Aside0.mk (show w.heap.size ≤ w'.heap.size from below_size HB.out)
            have HBz := Aside0.mk (show Below w.heap.size w (w'.alloc (.cells #[.float .f64 lv, .float .f64 (Wn k), .float .f64 r, .int .u32 y] 54)) from (by repeat (first | (with_reducible first | exact HB.out | apply below_alloc | apply pw_below_drewN | apply below_drew1 | refine below_set ?_ gey.out ) | exact HB.out)))
            have hya : w'.heap.size ≠ ga := Nat.ne_of_gt (blk_lt hba.out)
            clear hba HB xt HYB HYS xa0 fa0 xa1 fa1 xa2 fa2 xa3 fa3 hHeld
            generalize (w'.alloc (.cells #[.float .f64 lv, .float .f64 (Wn k), .float .f64 r, .int .u32 y] 54)) = wz at *
            generalize w'.heap.size = gy at *
            have HB := HBz
            clear HBz
            have hba := Aside0.mk hban
            have hbY := Aside0.mk hby
            clear hban hby
            have xy0 : wz.cell? ⟨gy, 0, none⟩ = some (.float .f64 lv) := (blk_cell hbY.out 0).trans rfl
            have xy1 : wz.cell? ⟨gy, 1, none⟩ = some (.float .f64 (Wn k)) := (blk_cell hbY.out 1).trans rfl
            have xy2 : wz.cell? ⟨gy, 2, none⟩ = some (.float .f64 r) := (blk_cell hbY.out 2).trans rfl
            have xy3 : wz.cell? ⟨gy, 3, none⟩ = some (.int .u32 y) := (blk_cell hbY.out 3).trans rfl
            have xa0 : wz.cell? ⟨ga, 0, none⟩ = some (.float .f64 lv) := (blk_cell hba.out 0).trans rfl
            have fa0 := blk_frozen hba.out 0
            have xa1 : wz.cell? ⟨ga, 1, none⟩ = some (.float .f64 (Wn k)) := (blk_cell hba.out 1).trans rfl
            have fa1 := blk_frozen hba.out 1
            have xa2 : wz.cell? ⟨ga, 2, none⟩ = some (.float .f64 R) := (blk_cell hba.out 2).trans rfl
            have fa2 := blk_frozen hba.out 2
            have xa3 : wz.cell? ⟨ga, 3, none⟩ = some (.int .u32 li) := (blk_cell hba.out 3).trans rfl
            have fa3 := blk_frozen hba.out 3
            obtain ⟨p, hp, c1, c2, c3⟩ := HTK.out
            rcases hp with ⟨e1, e2⟩ | ⟨e1, e2⟩
            · subst e1
              go_wp2
              go_roundg (l.length - (i + 1))
              case measure => have := HKQ.out; omega
              case rel => exact ⟨i + 1, n, r, y, ⟨rfl⟩, by omega, by omega, hn, by simp, by simp, ⟨c1, c2, by rw [← e2]; exact c3⟩, ⟨(blk_set (blk_set (blk_set (blk_set hba.out 0 _) 1 _) 2 _) 3 _)⟩, ⟨(by repeat (first | (with_reducible first | exact HB.out | apply below_alloc | apply pw_below_drewN | apply below_drew1 | refine below_set ?_ gea.out ) | exact HB.out))⟩⟩
            · subst e1
              have hn1 : n + 1 ≤ k := by omega
              go_wp2
              go_roundg (l.length - (i + 1))
              case measure => have := HKQ.out; omega
              case rel => exact ⟨i + 1, n + 1, r, y, ⟨rfl⟩, by omega, by omega, hn1, by simp, by simp, ⟨c1, c2, by rw [show k - (n + 1) = p from by omega]; exact c3⟩, ⟨(blk_set (blk_set (blk_set (blk_set hba.out 0 _) 1 _) 2 _) 3 _)⟩, ⟨(by repeat (first | (with_reducible first | exact HB.out | apply below_alloc | apply pw_below_drewN | apply below_drew1 | refine below_set ?_ gea.out ) | exact HB.out))⟩⟩
          · go_simp
            refine hK.out _ _ ?_ (fun hHeld => ?_)
            · first | go_keep | exact ⟨xa0, xa1, xa2, xa3, xt⟩ | exact ⟨(far4 hna2).trans xa0, (far4 hna2).trans xa1, (far4 hna2).trans xa2, (far4 hna2).trans xa3, (far4 hnt).trans xt⟩ | exact ⟨by simp [*], by simp [*], by simp [*], by simp [*], by simp [*]⟩
            clear hK K
            try simp only [Act.put, List.getElem_toArray, List.getElem_cons_zero, List.getElem_cons_succ, List.setIfInBounds_toArray, List.set_cons_zero, List.set_cons_succ]
            refine wpAnyH_ready (rs := [5]) (by kernel_rfl) (by simp) ?_
            refine AllReadyH.cons rfl (fun K hK => ?_) AllReadyH.nil
            have hla := blk_lt hba.out
            have hna2 : wr.heap.size ≠ ga := Nat.ne_of_gt hla
            have hnt : wr.heap.size ≠ (ad.add i).block := Nat.ne_of_gt (Nat.lt_of_lt_of_le (World.block_lt_of_cell? w _ X0.out) HWR.out)
            go_simp
            go_wp2_with (go_at_call 37; (with_reducible refine (take_ _ _ _ _ _ _).mono ?_); rintro e w' ⟨r, ok, rfl, ht, hb0⟩; have HTK := Aside0.mk (take_low HLO.out HK5.out (Nat.sub_le k n) HR.out.1 HR.out.2.1 HR.out.2.2 ht); clear ht; have hb := below_step (by repeat (first | (with_reducible first | exact Below.refl wr.heap.size wr | apply below_alloc | apply below_drew1 | apply pw_below_drewN) | exact Below.refl wr.heap.size wr)) hb0; have HBn := Aside0.mk (below_step HB.out hb); clear HB; have HB := HBn; clear HBn; have hban := Aside0.mk ((hb.block ga (blk_lt hba.out)).trans hba.out); clear hba xa0 fa0 xa1 fa1 xa2 fa2 xa3 fa3; have hba := hban; clear hban; have xa0 : w'.cell? ⟨ga, 0, none⟩ = some (.float .f64 lv) := (blk_cell hba.out 0).trans rfl; have fa0 := blk_frozen hba.out 0; have xa1 : w'.cell? ⟨ga, 1, none⟩ = some (.float .f64 (Wn k)) := (blk_cell hba.out 1).trans rfl; have fa1 := blk_frozen hba.out 1; have xa2 : w'.cell? ⟨ga, 2, none⟩ = some (.float .f64 R) := (blk_cell hba.out 2).trans rfl; have fa2 := blk_frozen hba.out 2; have xa3 : w'.cell? ⟨ga, 3, none⟩ = some (.int .u32 li) := (blk_cell hba.out 3).trans rfl; have fa3 := blk_frozen hba.out 3; have xtn := (hb.cell (World.block_lt_of_cell? _ _ xt)).trans xt; clear xt; have xt := xtn; clear xtn; have HYB := Aside0.mk (fun k (hk : wr.heap.size ≤ k) => hb0.block k); clear hb0; have HYS := Aside0.mk hb.size; clear hb)
            refine hK.out _ _ ?_ (fun hHeld => ?_)
            · first | go_keep | exact ⟨xa0, xa1, xa2, xa3, xt⟩ | exact ⟨(far4 hna2).trans xa0, (far4 hna2).trans xa1, (far4 hna2).trans xa2, (far4 hna2).trans xa3, (far4 hnt).trans xt⟩ | exact ⟨by simp [*], by simp [*], by simp [*], by simp [*], by simp [*]⟩
            clear hK K
            try simp only [Act.put, List.getElem_toArray, List.getElem_cons_zero, List.getElem_cons_succ, List.setIfInBounds_toArray, List.set_cons_zero, List.set_cons_succ]
            refine wpAnyH_take (i := 6) (v := ?v10_) rfl (by kernel_rfl) (by kernel_rfl) (by kernel_rfl) (fun _ _ _ h => h) (Or.inl ⟨by kernel_rfl, ?hy10_⟩) (by assumption) ?rest10_
            case hy10_ => (intro w hSw; (try dsimp only at hSw); (try (obtain ⟨hS0, hS1, hS2, hS3, hS4⟩ := hSw)); go_simp; try with_reducible rfl)
            try simp only [Act.put, List.getElem_toArray, List.getElem_cons_zero, List.getElem_cons_succ, List.setIfInBounds_toArray, List.set_cons_zero, List.set_cons_succ]
            refine wpAnyH_take (i := 7) (v := ?v11_) rfl (by kernel_rfl) (by kernel_rfl) (by kernel_rfl) (fun _ _ _ h => h) (Or.inl ⟨by kernel_rfl, ?hy11_⟩) (by assumption) ?rest11_
            case hy11_ => (intro w hSw; (try dsimp only at hSw); (try (obtain ⟨hS0, hS1, hS2, hS3, hS4⟩ := hSw)); go_simp; try with_reducible rfl)
            try simp only [Act.put, List.getElem_toArray, List.getElem_cons_zero, List.getElem_cons_succ, List.setIfInBounds_toArray, List.set_cons_zero, List.set_cons_succ]
            refine wpAnyH_take (i := 8) (v := ?v12_) rfl (by kernel_rfl) (by kernel_rfl) (by kernel_rfl) (fun _ _ _ h => h) (Or.inl ⟨by kernel_rfl, ?hy12_⟩) (by assumption) ?rest12_
            case hy12_ => (intro w hSw; (try dsimp only at hSw); (try (obtain ⟨hS0, hS1, hS2, hS3, hS4⟩ := hSw)); go_simp; try with_reducible rfl)
            try simp only [Act.put, List.getElem_toArray, List.getElem_cons_zero, List.getElem_cons_succ, List.setIfInBounds_toArray, List.set_cons_zero, List.set_cons_succ]
            have hby0 : w'.heap[wr.heap.size]? = some (.cells #[.float .f64 0, .float .f64 0, .float .f64 0, .int .u32 0] 54 (0, 0)) := (HYB.out wr.heap.size (Nat.le_refl _) (by simp)).trans (by simp [World.alloc, World.drew, -World.alloc_eq, -World.drew_eq])
            have zy0 : w'.cell? ⟨wr.heap.size, 0, none⟩ = some (.float .f64 0) := (blk_cell hby0 0).trans rfl
            have zy1 : w'.cell? ⟨wr.heap.size, 1, none⟩ = some (.float .f64 0) := (blk_cell hby0 1).trans rfl
            have zy2 : w'.cell? ⟨wr.heap.size, 2, none⟩ = some (.float .f64 0) := (blk_cell hby0 2).trans rfl
            have zy3 : w'.cell? ⟨wr.heap.size, 3, none⟩ = some (.int .u32 0) := (blk_cell hby0 3).trans rfl
            have zf0 := blk_frozen hby0 0
            have zf1 := blk_frozen hby0 1
            have zf2 := blk_frozen hby0 2
            have zf3 := blk_frozen hby0 3
            refine wpAnyH_ready (rs := [10]) (by kernel_rfl) (by simp) ?_
            refine AllReadyH.cons rfl (fun K hK => ?_) AllReadyH.nil
            go_simp
            refine hK.out _ _ ?_ (fun hHeld => ?_)
            · first | go_keep | exact ⟨xa0, xa1, xa2, xa3, xt⟩ | exact ⟨(far4 hna2).trans xa0, (far4 hna2).trans xa1, (far4 hna2).trans xa2, (far4 hna2).trans xa3, (far4 hnt).trans xt⟩ | exact ⟨by simp [*], by simp [*], by simp [*], by simp [*], by simp [*]⟩
            clear hK K
            try simp only [Act.put, List.getElem_toArray, List.getElem_cons_zero, List.getElem_cons_succ, List.setIfInBounds_toArray, List.set_cons_zero, List.set_cons_succ]
            clear zy0 zy1 zy2 zy3 zf0 zf1 zf2 zf3
            refine wpAnyH_take (i := 11) (v := ?v13_) rfl (by kernel_rfl) (by kernel_rfl) (by kernel_rfl) (fun _ _ _ h => h) (Or.inl ⟨by kernel_rfl, ?hy13_⟩) (by assumption) ?rest13_
            case hy13_ => (intro w hSw; (try dsimp only at hSw); (try (obtain ⟨hS0, hS1, hS2, hS3, hS4⟩ := hSw)); go_simp; try with_reducible rfl)
            try simp only [Act.put, List.getElem_toArray, List.getElem_cons_zero, List.getElem_cons_succ, List.setIfInBounds_toArray, List.set_cons_zero, List.set_cons_succ]
            refine wpAnyH_done (by kernel_rfl) ?_ _
            have hby : ((((w'.setCell ⟨wr.heap.size, 0, none⟩ (.float .f64 lv)).setCell ⟨wr.heap.size, 1, none⟩ (.float .f64 (Wn k))).setCell ⟨wr.heap.size, 2, none⟩ (.float .f64 r)).setCell ⟨wr.heap.size, 3, none⟩ (.int .u32 y)).heap[wr.heap.size]? = some (.cells #[.float .f64 lv, .float .f64 (Wn k), .float .f64 r, .int .u32 y] 54 (0, 0)) := (blk_set (blk_set (blk_set (blk_set hby0 0 _) 1 _) 2 _) 3 _)
            have hban : ((((w'.setCell ⟨wr.heap.size, 0, none⟩ (.float .f64 lv)).setCell ⟨wr.heap.size, 1, none⟩ (.float .f64 (Wn k))).setCell ⟨wr.heap.size, 2, none⟩ (.float .f64 r)).setCell ⟨wr.heap.size, 3, none⟩ (.int .u32 y)).heap[ga]? = some (.cells #[.float .f64 lv, .float .f64 (Wn k), .float .f64 R, .int .u32 li] 54 (0, 0)) := (blk_far (blk_far (blk_far (blk_far hba.out (Nat.ne_of_lt hla) _) (Nat.ne_of_lt hla) _) (Nat.ne_of_lt hla) _) (Nat.ne_of_lt hla) _)
            have gey := Aside0.mk (show w.heap.size ≤ wr.heap.size from HWR.out)
            have HBz := Aside0.mk (show Below w.heap.size w ((((w'.setCell ⟨wr.heap.size, 0, none⟩ (.float .f64 lv)).setCell ⟨wr.heap.size, 1, none⟩ (.float .f64 (Wn k))).setCell ⟨wr.heap.size, 2, none⟩ (.float .f64 r)).setCell ⟨wr.heap.size, 3, none⟩ (.int .u32 y)) from (by repeat (first | (with_reducible first | exact HB.out | apply below_alloc | apply pw_below_drewN | apply below_drew1 | refine below_set ?_ gey.out ) | exact HB.out)))
            have hya : wr.heap.size ≠ ga := (Nat.ne_of_gt hla)
            clear hba HB xt HYB HYS xa0 fa0 xa1 fa1 xa2 fa2 xa3 fa3 hHeld
            generalize ((((w'.setCell ⟨wr.heap.size, 0, none⟩ (.float .f64 lv)).setCell ⟨wr.heap.size, 1, none⟩ (.float .f64 (Wn k))).setCell ⟨wr.heap.size, 2, none⟩ (.float .f64 r)).setCell ⟨wr.heap.size, 3, none⟩ (.int .u32 y)) = wz at *
            generalize wr.heap.size = gy at *
            have HB := HBz
            clear HBz
            have hba := Aside0.mk hban
            have hbY := Aside0.mk hby
            clear hban hby
            have xy0 : wz.cell? ⟨gy, 0, none⟩ = some (.float .f64 lv) := (blk_cell hbY.out 0).trans rfl
            have xy1 : wz.cell? ⟨gy, 1, none⟩ = some (.float .f64 (Wn k)) := (blk_cell hbY.out 1).trans rfl
            have xy2 : wz.cell? ⟨gy, 2, none⟩ = some (.float .f64 r) := (blk_cell hbY.out 2).trans rfl
            have xy3 : wz.cell? ⟨gy, 3, none⟩ = some (.int .u32 y) := (blk_cell hbY.out 3).trans rfl
            have xa0 : wz.cell? ⟨ga, 0, none⟩ = some (.float .f64 lv) := (blk_cell hba.out 0).trans rfl
            have fa0 := blk_frozen hba.out 0
            have xa1 : wz.cell? ⟨ga, 1, none⟩ = some (.float .f64 (Wn k)) := (blk_cell hba.out 1).trans rfl
            have fa1 := blk_frozen hba.out 1
            have xa2 : wz.cell? ⟨ga, 2, none⟩ = some (.float .f64 R) := (blk_cell hba.out 2).trans rfl
            have fa2 := blk_frozen hba.out 2
            have xa3 : wz.cell? ⟨ga, 3, none⟩ = some (.int .u32 li) := (blk_cell hba.out 3).trans rfl
            have fa3 := blk_frozen hba.out 3
            obtain ⟨p, hp, c1, c2, c3⟩ := HTK.out
            rcases hp with ⟨e1, e2⟩ | ⟨e1, e2⟩
            · subst e1
              go_wp2
              go_roundg (l.length - (i + 1))
              case measure => have := HKQ.out; omega
              case rel => exact ⟨i + 1, n, r, y, ⟨rfl⟩, by omega, by omega, hn, by simp, by simp, ⟨c1, c2, by rw [← e2]; exact c3⟩, ⟨(blk_set (blk_set (blk_set (blk_set hba.out 0 _) 1 _) 2 _) 3 _)⟩, ⟨(by repeat (first | (with_reducible first | exact HB.out | apply below_alloc | apply pw_below_drewN | apply below_drew1 | refine below_set ?_ gea.out ) | exact HB.out))⟩⟩
            · subst e1
              have hn1 : n + 1 ≤ k := by omega
              go_wp2
              go_roundg (l.length - (i + 1))
              case measure => have := HKQ.out; omega
              case rel => exact ⟨i + 1, n + 1, r, y, ⟨rfl⟩, by omega, by omega, hn1, by simp, by simp, ⟨c1, c2, by rw [show k - (n + 1) = p from by omega]; exact c3⟩, ⟨(blk_set (blk_set (blk_set (blk_set hba.out 0 _) 1 _) 2 _) 3 _)⟩, ⟨(by repeat (first | (with_reducible first | exact HB.out | apply below_alloc | apply pw_below_drewN | apply below_drew1 | refine below_set ?_ gea.out ) | exact HB.out))⟩⟩
        · have hge : l.length ≤ i ∨ 300 ≤ i := by omega
          have hkw : IntKind.i64.wrap (k : Int) = (k : Int) := IntWalk.i64_in _ (by have := HK5.out; omega)
          have hnk : (n : Int) ≤ (k : Int) := by omega
          clear hlt
          rcases hge with hge | hge
          all_goals (by_cases a0 : i < l.length <;> try omega)
          all_goals (go_wp2; go_ret; exact ⟨by first | rfl | (simp [*]; done), HB.out⟩)

theorem GaugeShuts_calls (lv : Nat) (b : Int) (A : Option Addr) (c : Nat) (l : List Int) (w : World) (hb : (Lit.int .u8 b).wf = true) (h : Opens.RowC (Opens.intK .u32) 1 w A l.length l) (h63 : l.length ≤ 9223372036854775807) :
    Calls Try.prog 8 #[.float .f64 lv, .int .u8 b, .slice A l.length c] w fun e w' => e = .returned (.bool true) ∧ Below w.heap.size w w' := by
  have h2 := bounds_u8 hb
  obtain ⟨k, rfl⟩ := Int.eq_ofNat_of_zero_le h2.1
  exact shuts_walk lv k A c l w (by omega) h h63
end Go.Proofs.Ytkgghjblfoempaa.GW
