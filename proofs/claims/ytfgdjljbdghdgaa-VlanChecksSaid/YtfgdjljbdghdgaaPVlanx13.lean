/- Plain Lean functions of what a law comes to, and their contracts: the machine's call does what they say; no condition. Written by wip/myprint.sh over the kit's print.py. -/
import Derived.Test.YtfgdjljbdghdgaaPVlanx0
import Derived.Test.YtfgdjljbdghdgaaPVlanx12
namespace Go.Proofs.Ytfgdjljbdghdgaa.PVlan
open Go.RowKit Go.Proofs.YtfgdjljbdghdgaaW.PrintWords Go.Proofs.YtfgdjljbdghdgaaW.PrintLast Go.Proofs.YtfgdjljbdghdgaaW.PrintMore
attribute [local go_sem] max2_int min2_int max_two min_two max_three min_three max_four min_four   -- for this text's walks alone
set_option linter.unusedVariables false
set_option linter.unusedSimpArgs false

/-! ### vlan_Check: function 40 -/
mutual
def vlan_Check.j0 : Nat → List (S89) → Int → Bool → Option (Int)
  | 0, _, _, _ => none
  | k + 1, x0, x1, x8 => if x8 = true then (some 5) else (if (x0.length : Int) > 16 then (some 8) else (vlan_Check.l0 k x1 0 x0 (x0.length : Int) 0))
def vlan_Check.l0 : Nat → Int → Int → List (S89) → Int → Int → Option (Int)
  | 0, _, _, _, _, _ => none
  | k + 1, x1, x5, x19, x20, x21 => if x21 < x20 then (if 0 ≤ x21 then (if x21 < (x19.length : Int) then ((vlan_may.f ((rd_T89 x19 x21).f0)).bind fun t276 => (if t276 = true then (vlan_Check.j2 k x1 x19 x20 x21 (decide (((rd_T89 x19 x21).f0) ≤ x5)) ((rd_T89 x19 x21).f0) ((rd_T89 x19 x21).f1) ((rd_T89 x19 x21).f2)) else (vlan_Check.j2 k x1 x19 x20 x21 true ((rd_T89 x19 x21).f0) ((rd_T89 x19 x21).f1) ((rd_T89 x19 x21).f2)))) else (none)) else (none)) else (some 0)
def vlan_Check.j2 : Nat → Int → List (S89) → Int → Int → Bool → Int → Int → Int → Option (Int)
  | 0, _, _, _, _, _, _, _, _ => none
  | k + 1, x1, x19, x20, x21, x25, x276000, x276001, x276002 => if x25 = true then (some 6) else ((vlan_All.f x1).bind fun t277 => (if (Go.bits .andNot .u64 x276001 t277) = 0 then (if (Go.bits .andNot .u64 x276002 x276001) = 0 then (vlan_Check.l0 k x1 x276000 x19 x20 (wrap64 (x21 + 1))) else (some 1)) else (some 5)))
end
def vlan_Check.f (k : Nat) (l0 : List (S89)) (a1 : Int) : Option (Int) := if a1 < 2 then (vlan_Check.j0 k l0 a1 true) else (vlan_Check.j0 k l0 a1 (decide (a1 > 64)))
theorem vlan_Check.mono_l : ∀ k, (∀ y0 y1 y2, LeO (vlan_Check.j0 k y0 y1 y2) (vlan_Check.j0 (k + 1) y0 y1 y2)) ∧ (∀ y0 y1 y2 y3 y4, LeO (vlan_Check.l0 k y0 y1 y2 y3 y4) (vlan_Check.l0 (k + 1) y0 y1 y2 y3 y4)) ∧ (∀ y0 y1 y2 y3 y4 y5 y6 y7, LeO (vlan_Check.j2 k y0 y1 y2 y3 y4 y5 y6 y7) (vlan_Check.j2 (k + 1) y0 y1 y2 y3 y4 y5 y6 y7))
  | 0 => ⟨fun _ _ _ r h => by simp [vlan_Check.j0] at h, fun _ _ _ _ _ r h => by simp [vlan_Check.l0] at h, fun _ _ _ _ _ _ _ _ r h => by simp [vlan_Check.j2] at h⟩
  | k + 1 => by
    obtain ⟨ih0, ih1, ih2⟩ := vlan_Check.mono_l k
    refine ⟨?_, ?_, ?_⟩
    · intro y0 y1 y2
      unfold vlan_Check.j0
      repeat' first
      | (with_reducible exact ih0 _ _ _)
      | (with_reducible exact ih1 _ _ _ _ _)
      | (with_reducible exact ih2 _ _ _ _ _ _ _ _)
      | (with_reducible exact LeO.refl _)
      | (with_reducible exact LeO.none _)
      | (with_reducible refine LeO.ite ?_ ?_)
      | (with_reducible refine LeO.bind ?_ (fun _ => ?_))
      | exact ih0 _ _ _
      | exact ih1 _ _ _ _ _
      | exact ih2 _ _ _ _ _ _ _ _
      | exact LeO.none _
      | refine LeO.ite ?_ ?_
      | refine LeO.bind ?_ (fun _ => ?_)
    · intro y0 y1 y2 y3 y4
      unfold vlan_Check.l0
      repeat' first
      | (with_reducible exact ih0 _ _ _)
      | (with_reducible exact ih1 _ _ _ _ _)
      | (with_reducible exact ih2 _ _ _ _ _ _ _ _)
      | (with_reducible exact LeO.refl _)
      | (with_reducible exact LeO.none _)
      | (with_reducible refine LeO.ite ?_ ?_)
      | (with_reducible refine LeO.bind ?_ (fun _ => ?_))
      | exact ih0 _ _ _
      | exact ih1 _ _ _ _ _
      | exact ih2 _ _ _ _ _ _ _ _
      | exact LeO.none _
      | refine LeO.ite ?_ ?_
      | refine LeO.bind ?_ (fun _ => ?_)
    · intro y0 y1 y2 y3 y4 y5 y6 y7
      unfold vlan_Check.j2
      repeat' first
      | (with_reducible exact ih0 _ _ _)
      | (with_reducible exact ih1 _ _ _ _ _)
      | (with_reducible exact ih2 _ _ _ _ _ _ _ _)
      | (with_reducible exact LeO.refl _)
      | (with_reducible exact LeO.none _)
      | (with_reducible refine LeO.ite ?_ ?_)
      | (with_reducible refine LeO.bind ?_ (fun _ => ?_))
      | exact ih0 _ _ _
      | exact ih1 _ _ _ _ _
      | exact ih2 _ _ _ _ _ _ _ _
      | exact LeO.none _
      | refine LeO.ite ?_ ?_
      | refine LeO.bind ?_ (fun _ => ?_)
theorem vlan_Check.mono : ∀ a0 a1 k, LeO (vlan_Check.f k a0 a1) (vlan_Check.f (k + 1) a0 a1) := by
  intro a0 a1 k
  obtain ⟨ih0, ih1, ih2⟩ := vlan_Check.mono_l k
  unfold vlan_Check.f
  repeat' first
      | (with_reducible exact ih0 _ _ _)
      | (with_reducible exact ih1 _ _ _ _ _)
      | (with_reducible exact ih2 _ _ _ _ _ _ _ _)
      | (with_reducible exact LeO.refl _)
      | (with_reducible exact LeO.none _)
      | (with_reducible refine LeO.ite ?_ ?_)
      | (with_reducible refine LeO.bind ?_ (fun _ => ?_))
      | exact ih0 _ _ _
      | exact ih1 _ _ _ _ _
      | exact ih2 _ _ _ _ _ _ _ _
      | exact LeO.none _
      | refine LeO.ite ?_ ?_
      | refine LeO.bind ?_ (fun _ => ?_)
set_option maxHeartbeats 8000000 in
set_option maxRecDepth 100000 in
theorem vlan_Check.calls (k : Nat) (A0 : Option Addr) (c0 : Nat) (l0 : List (S89)) (a1 : Int) (r : Int) (w : World) (hr0 : Kd.C k89 w A0 l0.length l0) (hc0 : l0.length ≤ c0) (h : vlan_Check.f k l0 a1 = some r) :
    Calls Try.prog 40 #[.slice A0 l0.length c0, .int .i64 a1] w fun e w' => e = .returned (.int .i64 r) ∧ Below w.heap.size w w' := by
  have hu89 := Try.underlying89
  have HR0 := Aside0.mk hr0
  have HC0 := Aside0.mk hc0
  clear hr0 hc0
  have HB := Aside0.mk (Below.refl w.heap.size w)
  have H : (if a1 < 2 then (vlan_Check.j0 k l0 a1 true) else (vlan_Check.j0 k l0 a1 (decide (a1 > 64)))) = some r := h
  clear h
  have HC3 := Aside0.mk H
  clear H
  go_enter Try.func40, Try.ntmps40
  go_upto_region 1 with (fail)
  repeat (go_quiet (fail); go_upto_region 1 with (fail))
  go_cut [8] (fun v8 wc => ∃ (kq : Nat) (x8_2 : Bool), v8 = .bool x8_2 ∧ Aside0 (vlan_Check.j0 kq l0 a1 x8_2 = some r) ∧ Aside0 (kq ≤ k) ∧ Aside0 (Below w.heap.size w wc))
  case first =>
    have H := HC3.out
    clear HC3
    by_cases c4 : a1 < 2
    · rw [if_pos c4] at H
      have c4b0 : decide (a1 < 2) = true := decide_eq_true c4
      clear c4
      (first | rw [c4b0] | (simp only [i64_w, i32_w]; rw [c4b0]) | skip)
      have H' := Aside0.mk H
      clear H
      go_wp2
      repeat (go_quiet (fail); try go_wp2)
      go_meet
      case rel => exact ⟨_, (true), (by first | rfl | (simp; done) | (simp [*]; done)), H', ⟨by first | omega | exact Nat.le_refl _⟩, ⟨by repeat (first | (with_reducible first | exact HB.out | apply below_alloc | apply pw_below_drewN | apply below_drew1) | exact HB.out)⟩⟩
    · rw [if_neg c4] at H
      have c4b0 : decide (a1 < 2) = false := decide_eq_false c4
      clear c4
      (first | rw [c4b0] | (simp only [i64_w, i32_w]; rw [c4b0]) | skip)
      have H' := Aside0.mk H
      clear H
      go_wp2
      repeat (go_quiet (fail); try go_wp2)
      go_meet
      case rel => exact ⟨_, (decide (a1 > 64)), (by first | rfl | (simp; done) | (simp [*]; done)), H', ⟨by first | omega | exact Nat.le_refl _⟩, ⟨by repeat (first | (with_reducible first | exact HB.out | apply below_alloc | apply pw_below_drewN | apply below_drew1) | exact HB.out)⟩⟩
  case rest =>
    clear HC3
    try clear p2
    try clear c4
    try clear c4b0
    obtain ⟨kq, x8_2, rfl, HA, HJ2, HB⟩ := hcut
    cases kq with
    | zero => exact absurd HA.out (by simp [vlan_Check.j0])
    | succ kj2 =>
      have H := HA.out
      clear HA
      simp only [vlan_Check.j0] at H
      by_cases c5 : x8_2 = true
      · subst c5
        have H1 : (some 5) = some r := by rw [if_pos rfl] at H; exact H
        clear H
        have H := H1
        clear H1
        obtain rfl := Option.some.inj H
        go_wp2
        repeat (go_quiet (fail); try go_wp2)
        go_ret
        exact ⟨by first | rfl | (simp [errW_none, errW_some] <;> rfl) | (simp [*, errW_none, errW_some] <;> rfl), by repeat (first | (with_reducible first | exact HB.out | apply below_alloc | apply pw_below_drewN | apply below_drew1) | exact HB.out)⟩
      · replace c5 := Bool.eq_false_iff.mpr c5
        subst c5
        have H1 : (if (l0.length : Int) > 16 then (some 8) else (vlan_Check.l0 kj2 a1 0 l0 (l0.length : Int) 0)) = some r := by rw [if_neg (show ¬ (false = true) by decide)] at H; exact H
        clear H
        have H := H1
        clear H1
        by_cases c6 : (l0.length : Int) > 16
        · rw [if_pos c6] at H
          have c6b0 : decide (16 < (l0.length : Int)) = true := decide_eq_true c6
          have c6b1 : decide (16 < l0.length) = true := decide_eq_true (by omega)
          clear c6
          obtain rfl := Option.some.inj H
          go_wp2
          repeat (go_quiet (fail); try go_wp2)
          go_ret
          exact ⟨by first | rfl | (simp [errW_none, errW_some] <;> rfl) | (simp [*, errW_none, errW_some] <;> rfl), by repeat (first | (with_reducible first | exact HB.out | apply below_alloc | apply pw_below_drewN | apply below_drew1) | exact HB.out)⟩
        · rw [if_neg c6] at H
          have c6b0 : decide (16 < (l0.length : Int)) = false := decide_eq_false c6
          have c6b1 : decide (16 < l0.length) = false := decide_eq_false (by omega)
          clear c6
          have H' := Aside0.mk H
          clear H
          go_wp2
          repeat (go_quiet (fail); try go_wp2)
          go_loopg [5, 21] kj2 (fun kq v5 v21 w' => ∃ (x5_2 : Int) (x21_2 : Int), v5 = .int .i64 x5_2 ∧ v21 = .int .i64 x21_2 ∧ Aside0 (vlan_Check.l0 kq a1 x5_2 l0 (l0.length : Int) x21_2 = some r) ∧ Aside0 (kq ≤ kj2) ∧ Aside0 (Below w.heap.size w w'))
          case atStart => exact ⟨(0), (0), (by first | rfl | (simp; done) | (simp [*]; done)), (by first | rfl | (simp; done) | (simp [*]; done)), H', ⟨Nat.le_refl _⟩, ⟨by repeat (first | (with_reducible first | exact HB.out | apply below_alloc | apply pw_below_drewN | apply below_drew1) | exact HB.out)⟩⟩
          case round =>
            clear H'
            try clear p2
            try clear c4
            try clear c4b0
            try clear c5
            try clear c6
            try clear c6b0
            try clear c6b1
            try clear p2
            obtain ⟨x5_2, x21_2, rfl, rfl, HA, HK2, HB⟩ := hrel
            cases gk with
            | zero => exact absurd HA.out (by simp [vlan_Check.l0])
            | succ k2 =>
              have H := HA.out
              clear HA
              simp only [vlan_Check.l0] at H
              by_cases c7 : x21_2 < (l0.length : Int)
              · rw [if_pos c7] at H
                have c7b0 : decide (x21_2 < (l0.length : Int)) = true := decide_eq_true c7
                clear c7
                by_cases c8 : 0 ≤ x21_2
                · rw [if_pos c8] at H
                  have c8b0 : decide (0 ≤ x21_2) = true := decide_eq_true c8
                  clear c8
                  by_cases c9 : x21_2 < (l0.length : Int)
                  · rw [if_pos c9] at H
                    have c9b0 : decide (x21_2 < (l0.length : Int)) = true := decide_eq_true c9
                    clear c9
                    have HC10 := Aside0.mk H
                    clear H
                    have p274 : 0 ≤ (x21_2 : Int) := of_decide_eq_true (by first | (with_reducible assumption) | assumption)
                    have q274 : x21_2 < (l0.length : Int) := of_decide_eq_true (by first | (with_reducible assumption) | assumption)
                    obtain ⟨ad274, e274, hx274_0, hx274_1, hx274_2⟩ := at_T89 HR0.out x21_2 p274 q274
                    cases e274
                    replace hx274_0 := (HB.out.cell (World.block_lt_of_cell? w _ hx274_0)).trans hx274_0
                    replace hx274_1 := (HB.out.cell (World.block_lt_of_cell? w _ hx274_1)).trans hx274_1
                    replace hx274_2 := (HB.out.cell (World.block_lt_of_cell? w _ hx274_2)).trans hx274_2
                    replace p274 := eq_true p274
                    replace q274 := eq_true q274
                    go_upto_region 9 with (first | ((with_reducible refine gate_dst (N := 7) rfl ?_); refine box_event ?hg (N := 7) ?hd (cs := #[.int .i64 0, .int .u64 0, .int .u64 0]) (t := 89) ?hr ?_; (case hd => rfl); (case hg => rfl); (case hr => first | (go_simp; done) | (go_simp; rfl)); intro gb275 hg w11 hbox hb; have n0_ := Aside0.mk (below_step (by repeat (first | (with_reducible first | exact HB.out | apply below_alloc | apply pw_below_drewN | apply below_drew1) | exact HB.out)) hb); have n1_ := Aside0.mk (hbox); have n2_ := Aside0.mk ((by rw [hg]; exact (below_size (by repeat (first | (with_reducible first | exact HB.out | apply below_alloc | apply pw_below_drewN | apply below_drew1) | exact HB.out))) : w.heap.size ≤ gb275)); have n3_ := Aside0.mk ((by rw [hg]; exact (below_size (by repeat (first | (with_reducible first | exact HB.out | apply below_alloc | apply pw_below_drewN | apply below_drew1) | exact HB.out))) : w.heap.size ≤ gb275)); clear HB; have HB := n0_; have BK275 := n1_; have GW275 := n2_; have GE275 := n3_; clear n0_ n1_ n2_ n3_; clear hb hbox hg; have hcz12_0 : w11.cell? ⟨gb275, 0, none⟩ = some (.int .i64 0) := (blk_cell BK275.out 0).trans rfl; have hcz12_1 : w11.cell? ⟨gb275, 1, none⟩ = some (.int .u64 0) := (blk_cell BK275.out 1).trans rfl; have hcz12_2 : w11.cell? ⟨gb275, 2, none⟩ = some (.int .u64 0) := (blk_cell BK275.out 2).trans rfl; have hfz12_0 := blk_frozen BK275.out 0; have hfz12_1 := blk_frozen BK275.out 1; have hfz12_2 := blk_frozen BK275.out 2))
                    repeat (go_quiet (first | ((with_reducible refine gate_dst (N := 7) rfl ?_); refine box_event ?hg (N := 7) ?hd (cs := #[.int .i64 0, .int .u64 0, .int .u64 0]) (t := 89) ?hr ?_; (case hd => rfl); (case hg => rfl); (case hr => first | (go_simp; done) | (go_simp; rfl)); intro gb275 hg w11 hbox hb; have n0_ := Aside0.mk (below_step (by repeat (first | (with_reducible first | exact HB.out | apply below_alloc | apply pw_below_drewN | apply below_drew1) | exact HB.out)) hb); have n1_ := Aside0.mk (hbox); have n2_ := Aside0.mk ((by rw [hg]; exact (below_size (by repeat (first | (with_reducible first | exact HB.out | apply below_alloc | apply pw_below_drewN | apply below_drew1) | exact HB.out))) : w.heap.size ≤ gb275)); have n3_ := Aside0.mk ((by rw [hg]; exact (below_size (by repeat (first | (with_reducible first | exact HB.out | apply below_alloc | apply pw_below_drewN | apply below_drew1) | exact HB.out))) : w.heap.size ≤ gb275)); clear HB; have HB := n0_; have BK275 := n1_; have GW275 := n2_; have GE275 := n3_; clear n0_ n1_ n2_ n3_; clear hb hbox hg; have hcz12_0 : w11.cell? ⟨gb275, 0, none⟩ = some (.int .i64 0) := (blk_cell BK275.out 0).trans rfl; have hcz12_1 : w11.cell? ⟨gb275, 1, none⟩ = some (.int .u64 0) := (blk_cell BK275.out 1).trans rfl; have hcz12_2 : w11.cell? ⟨gb275, 2, none⟩ = some (.int .u64 0) := (blk_cell BK275.out 2).trans rfl; have hfz12_0 := blk_frozen BK275.out 0; have hfz12_1 := blk_frozen BK275.out 1; have hfz12_2 := blk_frozen BK275.out 2)); go_upto_region 9 with (first | ((with_reducible refine gate_dst (N := 7) rfl ?_); refine box_event ?hg (N := 7) ?hd (cs := #[.int .i64 0, .int .u64 0, .int .u64 0]) (t := 89) ?hr ?_; (case hd => rfl); (case hg => rfl); (case hr => first | (go_simp; done) | (go_simp; rfl)); intro gb275 hg w11 hbox hb; have n0_ := Aside0.mk (below_step (by repeat (first | (with_reducible first | exact HB.out | apply below_alloc | apply pw_below_drewN | apply below_drew1) | exact HB.out)) hb); have n1_ := Aside0.mk (hbox); have n2_ := Aside0.mk ((by rw [hg]; exact (below_size (by repeat (first | (with_reducible first | exact HB.out | apply below_alloc | apply pw_below_drewN | apply below_drew1) | exact HB.out))) : w.heap.size ≤ gb275)); have n3_ := Aside0.mk ((by rw [hg]; exact (below_size (by repeat (first | (with_reducible first | exact HB.out | apply below_alloc | apply pw_below_drewN | apply below_drew1) | exact HB.out))) : w.heap.size ≤ gb275)); clear HB; have HB := n0_; have BK275 := n1_; have GW275 := n2_; have GE275 := n3_; clear n0_ n1_ n2_ n3_; clear hb hbox hg; have hcz12_0 : w11.cell? ⟨gb275, 0, none⟩ = some (.int .i64 0) := (blk_cell BK275.out 0).trans rfl; have hcz12_1 : w11.cell? ⟨gb275, 1, none⟩ = some (.int .u64 0) := (blk_cell BK275.out 1).trans rfl; have hcz12_2 : w11.cell? ⟨gb275, 2, none⟩ = some (.int .u64 0) := (blk_cell BK275.out 2).trans rfl; have hfz12_0 := blk_frozen BK275.out 0; have hfz12_1 := blk_frozen BK275.out 1; have hfz12_2 := blk_frozen BK275.out 2)))
                    (try simp only [Act.put, List.setIfInBounds_toArray, List.set_cons_zero, List.set_cons_succ])
                    go_cut [25] (fun v25 wc => ∃ (kq : Nat) (x25_9 : Bool), v25 = .bool x25_9 ∧ Aside0 (vlan_Check.j2 kq a1 l0 (l0.length : Int) x21_2 x25_9 ((rd_T89 l0 x21_2).f0) ((rd_T89 l0 x21_2).f1) ((rd_T89 l0 x21_2).f2) = some r) ∧ Aside0 (kq ≤ k2) ∧ Aside0 (wc.heap[gb275]? = some (.cells #[.int .i64 ((rd_T89 l0 x21_2).f0), .int .u64 ((rd_T89 l0 x21_2).f1), .int .u64 ((rd_T89 l0 x21_2).f2)] 89 (0, 0))) ∧ Aside0 (Below w.heap.size w wc))
                    case first =>
                      have H := HC10.out
                      clear HC10
                      replace H := Option.bind_eq_some_iff.mp H
                      obtain ⟨t276, A130, H⟩ := H
                      replace H : (if t276 = true then (vlan_Check.j2 k2 a1 l0 (l0.length : Int) x21_2 (decide (((rd_T89 l0 x21_2).f0) ≤ x5_2)) ((rd_T89 l0 x21_2).f0) ((rd_T89 l0 x21_2).f1) ((rd_T89 l0 x21_2).f2)) else (vlan_Check.j2 k2 a1 l0 (l0.length : Int) x21_2 true ((rd_T89 l0 x21_2).f0) ((rd_T89 l0 x21_2).f1) ((rd_T89 l0 x21_2).f2))) = some r := H
                      have A13 := Aside0.mk A130
                      clear A130
                      by_cases c14 : t276 = true
                      · subst c14
                        have H1 : (vlan_Check.j2 k2 a1 l0 (l0.length : Int) x21_2 (decide (((rd_T89 l0 x21_2).f0) ≤ x5_2)) ((rd_T89 l0 x21_2).f0) ((rd_T89 l0 x21_2).f1) ((rd_T89 l0 x21_2).f2)) = some r := by rw [if_pos rfl] at H; exact H
                        clear H
                        have H := H1
                        clear H1
                        have H' := Aside0.mk H
                        clear H
                        have hcz15_0 : w11.cell? ⟨gb275, 0, none⟩ = some (.int .i64 0) := (blk_cell BK275.out 0).trans rfl
                        have hcz15_1 : w11.cell? ⟨gb275, 1, none⟩ = some (.int .u64 0) := (blk_cell BK275.out 1).trans rfl
                        have hcz15_2 : w11.cell? ⟨gb275, 2, none⟩ = some (.int .u64 0) := (blk_cell BK275.out 2).trans rfl
                        have hfz15_0 := blk_frozen BK275.out 0
                        have hfz15_1 := blk_frozen BK275.out 1
                        have hfz15_2 := blk_frozen BK275.out 2
                        go_wp2_with (first | (go_at_call 58; (with_reducible refine (vlan_may.calls ((rd_T89 l0 x21_2).f0) true _ A13.out).mono ?_); rintro e w' ⟨rfl, ⟨nd, rfl⟩⟩; (try first | exact ⟨rfl, _, World.drewN_drewN _ _ _⟩ | exact ⟨rfl, _, Eq.trans (World.drewN_drewN _ _ _) (congrArg (World.drewN _) (Nat.add_assoc _ _ _))⟩)))
                        repeat (go_quiet (first | (go_at_call 58; (with_reducible refine (vlan_may.calls ((rd_T89 l0 x21_2).f0) true _ A13.out).mono ?_); rintro e w' ⟨rfl, ⟨nd, rfl⟩⟩; (try first | exact ⟨rfl, _, World.drewN_drewN _ _ _⟩ | exact ⟨rfl, _, Eq.trans (World.drewN_drewN _ _ _) (congrArg (World.drewN _) (Nat.add_assoc _ _ _))⟩))); try go_wp2_with (first | (go_at_call 58; (with_reducible refine (vlan_may.calls ((rd_T89 l0 x21_2).f0) true _ A13.out).mono ?_); rintro e w' ⟨rfl, ⟨nd, rfl⟩⟩; (try first | exact ⟨rfl, _, World.drewN_drewN _ _ _⟩ | exact ⟨rfl, _, Eq.trans (World.drewN_drewN _ _ _) (congrArg (World.drewN _) (Nat.add_assoc _ _ _))⟩))))
                        go_meet
                        case rel => exact ⟨_, (decide (((rd_T89 l0 x21_2).f0) ≤ x5_2)), (by first | rfl | (simp; done) | (simp [*]; done)), H', ⟨by have := HJ2.out; have := HK2.out; first | omega | exact Nat.le_refl _⟩, ⟨by (with_reducible repeat (first | refine blk_drewN ?_ _ | refine blk_drew ?_ | refine blk_alloc ?_ _)); refine blk_put (cs := #[.int .i64 ((rd_T89 l0 x21_2).f0), .int .u64 ((rd_T89 l0 x21_2).f1), .int .u64 0]) ?_ 2 _ rfl; (with_reducible repeat (first | refine blk_drewN ?_ _ | refine blk_drew ?_ | refine blk_alloc ?_ _)); refine blk_put (cs := #[.int .i64 ((rd_T89 l0 x21_2).f0), .int .u64 0, .int .u64 0]) ?_ 1 _ rfl; (with_reducible repeat (first | refine blk_drewN ?_ _ | refine blk_drew ?_ | refine blk_alloc ?_ _)); refine blk_put (cs := #[.int .i64 0, .int .u64 0, .int .u64 0]) ?_ 0 _ rfl; (with_reducible repeat (first | refine blk_drewN ?_ _ | refine blk_drew ?_ | refine blk_alloc ?_ _)); exact BK275.out⟩, ⟨by repeat (first | (with_reducible first | exact HB.out | apply below_alloc | apply pw_below_drewN | apply below_drew1 | refine below_set ?_ GE275.out) | exact HB.out)⟩⟩
                      · replace c14 := Bool.eq_false_iff.mpr c14
                        subst c14
                        have H1 : (vlan_Check.j2 k2 a1 l0 (l0.length : Int) x21_2 true ((rd_T89 l0 x21_2).f0) ((rd_T89 l0 x21_2).f1) ((rd_T89 l0 x21_2).f2)) = some r := by rw [if_neg (show ¬ (false = true) by decide)] at H; exact H
                        clear H
                        have H := H1
                        clear H1
                        have H' := Aside0.mk H
                        clear H
                        have hcz16_0 : w11.cell? ⟨gb275, 0, none⟩ = some (.int .i64 0) := (blk_cell BK275.out 0).trans rfl
                        have hcz16_1 : w11.cell? ⟨gb275, 1, none⟩ = some (.int .u64 0) := (blk_cell BK275.out 1).trans rfl
                        have hcz16_2 : w11.cell? ⟨gb275, 2, none⟩ = some (.int .u64 0) := (blk_cell BK275.out 2).trans rfl
                        have hfz16_0 := blk_frozen BK275.out 0
                        have hfz16_1 := blk_frozen BK275.out 1
                        have hfz16_2 := blk_frozen BK275.out 2
                        go_wp2_with (first | (go_at_call 58; (with_reducible refine (vlan_may.calls ((rd_T89 l0 x21_2).f0) false _ A13.out).mono ?_); rintro e w' ⟨rfl, ⟨nd, rfl⟩⟩; (try first | exact ⟨rfl, _, World.drewN_drewN _ _ _⟩ | exact ⟨rfl, _, Eq.trans (World.drewN_drewN _ _ _) (congrArg (World.drewN _) (Nat.add_assoc _ _ _))⟩)))
                        repeat (go_quiet (first | (go_at_call 58; (with_reducible refine (vlan_may.calls ((rd_T89 l0 x21_2).f0) false _ A13.out).mono ?_); rintro e w' ⟨rfl, ⟨nd, rfl⟩⟩; (try first | exact ⟨rfl, _, World.drewN_drewN _ _ _⟩ | exact ⟨rfl, _, Eq.trans (World.drewN_drewN _ _ _) (congrArg (World.drewN _) (Nat.add_assoc _ _ _))⟩))); try go_wp2_with (first | (go_at_call 58; (with_reducible refine (vlan_may.calls ((rd_T89 l0 x21_2).f0) false _ A13.out).mono ?_); rintro e w' ⟨rfl, ⟨nd, rfl⟩⟩; (try first | exact ⟨rfl, _, World.drewN_drewN _ _ _⟩ | exact ⟨rfl, _, Eq.trans (World.drewN_drewN _ _ _) (congrArg (World.drewN _) (Nat.add_assoc _ _ _))⟩))))
                        go_meet
                        case rel => exact ⟨_, (true), (by first | rfl | (simp; done) | (simp [*]; done)), H', ⟨by have := HJ2.out; have := HK2.out; first | omega | exact Nat.le_refl _⟩, ⟨by (with_reducible repeat (first | refine blk_drewN ?_ _ | refine blk_drew ?_ | refine blk_alloc ?_ _)); refine blk_put (cs := #[.int .i64 ((rd_T89 l0 x21_2).f0), .int .u64 ((rd_T89 l0 x21_2).f1), .int .u64 0]) ?_ 2 _ rfl; (with_reducible repeat (first | refine blk_drewN ?_ _ | refine blk_drew ?_ | refine blk_alloc ?_ _)); refine blk_put (cs := #[.int .i64 ((rd_T89 l0 x21_2).f0), .int .u64 0, .int .u64 0]) ?_ 1 _ rfl; (with_reducible repeat (first | refine blk_drewN ?_ _ | refine blk_drew ?_ | refine blk_alloc ?_ _)); refine blk_put (cs := #[.int .i64 0, .int .u64 0, .int .u64 0]) ?_ 0 _ rfl; (with_reducible repeat (first | refine blk_drewN ?_ _ | refine blk_drew ?_ | refine blk_alloc ?_ _)); exact BK275.out⟩, ⟨by repeat (first | (with_reducible first | exact HB.out | apply below_alloc | apply pw_below_drewN | apply below_drew1 | refine below_set ?_ GE275.out) | exact HB.out)⟩⟩
                    case rest =>
                      clear HC10
                      try clear c1
                      try clear p2
                      try clear q2
                      try clear hx2
                      try clear c4
                      try clear c4b0
                      try clear c5
                      try clear c6
                      try clear c6b0
                      try clear c6b1
                      try clear c7
                      try clear c7b0
                      try clear c8
                      try clear c8b0
                      try clear c9
                      try clear c9b0
                      try clear c14
                      try clear hcz12_0
                      try clear hcz12_1
                      try clear hcz12_2
                      try clear hcz15_0
                      try clear hcz15_1
                      try clear hcz15_2
                      try clear hcz16_0
                      try clear hcz16_1
                      try clear hcz16_2
                      try clear hfz12_0
                      try clear hfz12_1
                      try clear hfz12_2
                      try clear hfz15_0
                      try clear hfz15_1
                      try clear hfz15_2
                      try clear hfz16_0
                      try clear hfz16_1
                      try clear hfz16_2
                      try clear hx274_0
                      try clear hx274_1
                      try clear hx274_2
                      try clear p2
                      try clear p274
                      try clear q274
                      obtain ⟨kq, x25_9, rfl, HA, HJ9, BK275, HB⟩ := hcut
                      cases kq with
                      | zero => exact absurd HA.out (by simp [vlan_Check.j2])
                      | succ kj9 =>
                        have H := HA.out
                        clear HA
                        simp only [vlan_Check.j2] at H
                        by_cases c17 : x25_9 = true
                        · subst c17
                          have H1 : (some 6) = some r := by rw [if_pos rfl] at H; exact H
                          clear H
                          have H := H1
                          clear H1
                          obtain rfl := Option.some.inj H
                          go_wp2
                          repeat (go_quiet (fail); try go_wp2)
                          go_ret
                          exact ⟨by first | rfl | (simp [errW_none, errW_some] <;> rfl) | (simp [*, errW_none, errW_some] <;> rfl), by repeat (first | (with_reducible first | exact HB.out | apply below_alloc | apply pw_below_drewN | apply below_drew1 | refine below_set ?_ GE275.out) | exact HB.out)⟩
                        · replace c17 := Bool.eq_false_iff.mpr c17
                          subst c17
                          have H1 : ((vlan_All.f a1).bind fun t277 => (if (Go.bits .andNot .u64 ((rd_T89 l0 x21_2).f1) t277) = 0 then (if (Go.bits .andNot .u64 ((rd_T89 l0 x21_2).f2) ((rd_T89 l0 x21_2).f1)) = 0 then (vlan_Check.l0 kj9 a1 ((rd_T89 l0 x21_2).f0) l0 (l0.length : Int) (wrap64 (x21_2 + 1))) else (some 1)) else (some 5))) = some r := by rw [if_neg (show ¬ (false = true) by decide)] at H; exact H
                          clear H
                          have H := H1
                          clear H1
                          replace H := Option.bind_eq_some_iff.mp H
                          obtain ⟨t277, A180, H⟩ := H
                          replace H : (if (Go.bits .andNot .u64 ((rd_T89 l0 x21_2).f1) t277) = 0 then (if (Go.bits .andNot .u64 ((rd_T89 l0 x21_2).f2) ((rd_T89 l0 x21_2).f1)) = 0 then (vlan_Check.l0 kj9 a1 ((rd_T89 l0 x21_2).f0) l0 (l0.length : Int) (wrap64 (x21_2 + 1))) else (some 1)) else (some 5)) = some r := H
                          have A18 := Aside0.mk A180
                          clear A180
                          by_cases c19 : (Go.bits .andNot .u64 ((rd_T89 l0 x21_2).f1) t277) = 0
                          · rw [if_pos c19] at H
                            have c19b0 : ((Go.bits .andNot .u64 ((rd_T89 l0 x21_2).f1) t277) == 0) = true := beq_iff_eq.mpr c19
                            have c19b1 : ((Go.bits .andNot .u64 ((rd_T89 l0 x21_2).f1) t277) != 0) = false := bne_eq_false_iff_eq.mpr c19
                            clear c19
                            by_cases c20 : (Go.bits .andNot .u64 ((rd_T89 l0 x21_2).f2) ((rd_T89 l0 x21_2).f1)) = 0
                            · rw [if_pos c20] at H
                              have c20b0 : ((Go.bits .andNot .u64 ((rd_T89 l0 x21_2).f2) ((rd_T89 l0 x21_2).f1)) == 0) = true := beq_iff_eq.mpr c20
                              have c20b1 : ((Go.bits .andNot .u64 ((rd_T89 l0 x21_2).f2) ((rd_T89 l0 x21_2).f1)) != 0) = false := bne_eq_false_iff_eq.mpr c20
                              clear c20
                              have H' := Aside0.mk H
                              clear H
                              have hcz21_0 : wc.cell? ⟨gb275, 0, none⟩ = some (.int .i64 ((rd_T89 l0 x21_2).f0)) := (blk_cell BK275.out 0).trans rfl
                              have hcz21_1 : wc.cell? ⟨gb275, 1, none⟩ = some (.int .u64 ((rd_T89 l0 x21_2).f1)) := (blk_cell BK275.out 1).trans rfl
                              have hcz21_2 : wc.cell? ⟨gb275, 2, none⟩ = some (.int .u64 ((rd_T89 l0 x21_2).f2)) := (blk_cell BK275.out 2).trans rfl
                              have hfz21_0 := blk_frozen BK275.out 0
                              have hfz21_1 := blk_frozen BK275.out 1
                              have hfz21_2 := blk_frozen BK275.out 2
                              go_wp2_with (first | (go_at_call 59; (with_reducible refine (vlan_All.calls a1 t277 _ A18.out).mono ?_); rintro e w' ⟨rfl, ⟨nd, rfl⟩⟩; (try first | exact ⟨rfl, _, World.drewN_drewN _ _ _⟩ | exact ⟨rfl, _, Eq.trans (World.drewN_drewN _ _ _) (congrArg (World.drewN _) (Nat.add_assoc _ _ _))⟩)))
                              repeat (go_quiet (first | (go_at_call 59; (with_reducible refine (vlan_All.calls a1 t277 _ A18.out).mono ?_); rintro e w' ⟨rfl, ⟨nd, rfl⟩⟩; (try first | exact ⟨rfl, _, World.drewN_drewN _ _ _⟩ | exact ⟨rfl, _, Eq.trans (World.drewN_drewN _ _ _) (congrArg (World.drewN _) (Nat.add_assoc _ _ _))⟩))); try go_wp2_with (first | (go_at_call 59; (with_reducible refine (vlan_All.calls a1 t277 _ A18.out).mono ?_); rintro e w' ⟨rfl, ⟨nd, rfl⟩⟩; (try first | exact ⟨rfl, _, World.drewN_drewN _ _ _⟩ | exact ⟨rfl, _, Eq.trans (World.drewN_drewN _ _ _) (congrArg (World.drewN _) (Nat.add_assoc _ _ _))⟩))))
                              go_roundg kj9
                              case measure => have := HJ2.out; have := HK2.out; have := HJ9.out; omega
                              case rel => exact ⟨(((rd_T89 l0 x21_2).f0)), (wrap64 (x21_2 + 1)), (by first | rfl | (simp; done) | (simp [*]; done)), (by first | rfl | (simp; done) | (simp [*]; done)), H', ⟨by have := HJ2.out; have := HK2.out; have := HJ9.out; omega⟩, ⟨by repeat (first | (with_reducible first | exact HB.out | apply below_alloc | apply pw_below_drewN | apply below_drew1 | refine below_set ?_ GE275.out) | exact HB.out)⟩⟩
                            · rw [if_neg c20] at H
                              have c20b0 : ((Go.bits .andNot .u64 ((rd_T89 l0 x21_2).f2) ((rd_T89 l0 x21_2).f1)) == 0) = false := beq_eq_false_iff_ne.mpr c20
                              have c20b1 : ((Go.bits .andNot .u64 ((rd_T89 l0 x21_2).f2) ((rd_T89 l0 x21_2).f1)) != 0) = true := bne_iff_ne.mpr c20
                              obtain rfl := Option.some.inj H
                              have hcz22_0 : wc.cell? ⟨gb275, 0, none⟩ = some (.int .i64 ((rd_T89 l0 x21_2).f0)) := (blk_cell BK275.out 0).trans rfl
                              have hcz22_1 : wc.cell? ⟨gb275, 1, none⟩ = some (.int .u64 ((rd_T89 l0 x21_2).f1)) := (blk_cell BK275.out 1).trans rfl
                              have hcz22_2 : wc.cell? ⟨gb275, 2, none⟩ = some (.int .u64 ((rd_T89 l0 x21_2).f2)) := (blk_cell BK275.out 2).trans rfl
                              have hfz22_0 := blk_frozen BK275.out 0
                              have hfz22_1 := blk_frozen BK275.out 1
                              have hfz22_2 := blk_frozen BK275.out 2
                              go_wp2_with (first | (go_at_call 59; (with_reducible refine (vlan_All.calls a1 t277 _ A18.out).mono ?_); rintro e w' ⟨rfl, ⟨nd, rfl⟩⟩; (try first | exact ⟨rfl, _, World.drewN_drewN _ _ _⟩ | exact ⟨rfl, _, Eq.trans (World.drewN_drewN _ _ _) (congrArg (World.drewN _) (Nat.add_assoc _ _ _))⟩)))
                              repeat (go_quiet (first | (go_at_call 59; (with_reducible refine (vlan_All.calls a1 t277 _ A18.out).mono ?_); rintro e w' ⟨rfl, ⟨nd, rfl⟩⟩; (try first | exact ⟨rfl, _, World.drewN_drewN _ _ _⟩ | exact ⟨rfl, _, Eq.trans (World.drewN_drewN _ _ _) (congrArg (World.drewN _) (Nat.add_assoc _ _ _))⟩))); try go_wp2_with (first | (go_at_call 59; (with_reducible refine (vlan_All.calls a1 t277 _ A18.out).mono ?_); rintro e w' ⟨rfl, ⟨nd, rfl⟩⟩; (try first | exact ⟨rfl, _, World.drewN_drewN _ _ _⟩ | exact ⟨rfl, _, Eq.trans (World.drewN_drewN _ _ _) (congrArg (World.drewN _) (Nat.add_assoc _ _ _))⟩))))
                              go_ret
                              exact ⟨by first | rfl | (simp [errW_none, errW_some] <;> rfl) | (simp [*, errW_none, errW_some] <;> rfl), by repeat (first | (with_reducible first | exact HB.out | apply below_alloc | apply pw_below_drewN | apply below_drew1 | refine below_set ?_ GE275.out) | exact HB.out)⟩
                          · rw [if_neg c19] at H
                            have c19b0 : ((Go.bits .andNot .u64 ((rd_T89 l0 x21_2).f1) t277) == 0) = false := beq_eq_false_iff_ne.mpr c19
                            have c19b1 : ((Go.bits .andNot .u64 ((rd_T89 l0 x21_2).f1) t277) != 0) = true := bne_iff_ne.mpr c19
                            obtain rfl := Option.some.inj H
                            have hcz23_0 : wc.cell? ⟨gb275, 0, none⟩ = some (.int .i64 ((rd_T89 l0 x21_2).f0)) := (blk_cell BK275.out 0).trans rfl
                            have hcz23_1 : wc.cell? ⟨gb275, 1, none⟩ = some (.int .u64 ((rd_T89 l0 x21_2).f1)) := (blk_cell BK275.out 1).trans rfl
                            have hcz23_2 : wc.cell? ⟨gb275, 2, none⟩ = some (.int .u64 ((rd_T89 l0 x21_2).f2)) := (blk_cell BK275.out 2).trans rfl
                            have hfz23_0 := blk_frozen BK275.out 0
                            have hfz23_1 := blk_frozen BK275.out 1
                            have hfz23_2 := blk_frozen BK275.out 2
                            go_wp2_with (first | (go_at_call 59; (with_reducible refine (vlan_All.calls a1 t277 _ A18.out).mono ?_); rintro e w' ⟨rfl, ⟨nd, rfl⟩⟩; (try first | exact ⟨rfl, _, World.drewN_drewN _ _ _⟩ | exact ⟨rfl, _, Eq.trans (World.drewN_drewN _ _ _) (congrArg (World.drewN _) (Nat.add_assoc _ _ _))⟩)))
                            repeat (go_quiet (first | (go_at_call 59; (with_reducible refine (vlan_All.calls a1 t277 _ A18.out).mono ?_); rintro e w' ⟨rfl, ⟨nd, rfl⟩⟩; (try first | exact ⟨rfl, _, World.drewN_drewN _ _ _⟩ | exact ⟨rfl, _, Eq.trans (World.drewN_drewN _ _ _) (congrArg (World.drewN _) (Nat.add_assoc _ _ _))⟩))); try go_wp2_with (first | (go_at_call 59; (with_reducible refine (vlan_All.calls a1 t277 _ A18.out).mono ?_); rintro e w' ⟨rfl, ⟨nd, rfl⟩⟩; (try first | exact ⟨rfl, _, World.drewN_drewN _ _ _⟩ | exact ⟨rfl, _, Eq.trans (World.drewN_drewN _ _ _) (congrArg (World.drewN _) (Nat.add_assoc _ _ _))⟩))))
                            go_ret
                            exact ⟨by first | rfl | (simp [errW_none, errW_some] <;> rfl) | (simp [*, errW_none, errW_some] <;> rfl), by repeat (first | (with_reducible first | exact HB.out | apply below_alloc | apply pw_below_drewN | apply below_drew1 | refine below_set ?_ GE275.out) | exact HB.out)⟩
                  · rw [if_neg c9] at H
                    exact absurd H (by simp)
                · rw [if_neg c8] at H
                  exact absurd H (by simp)
              · rw [if_neg c7] at H
                have c7b0 : decide (x21_2 < (l0.length : Int)) = false := decide_eq_false c7
                clear c7
                obtain rfl := Option.some.inj H
                go_wp2
                repeat (go_quiet (fail); try go_wp2)
                go_ret
                exact ⟨by first | rfl | (simp [errW_none, errW_some] <;> rfl) | (simp [*, errW_none, errW_some] <;> rfl), by repeat (first | (with_reducible first | exact HB.out | apply below_alloc | apply pw_below_drewN | apply below_drew1) | exact HB.out)⟩

end Go.Proofs.Ytfgdjljbdghdgaa.PVlan
