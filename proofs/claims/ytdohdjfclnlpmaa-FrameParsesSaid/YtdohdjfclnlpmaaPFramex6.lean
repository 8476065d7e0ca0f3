/- Plain Lean functions of what a law comes to, and their contracts: the machine's call does what they say; no condition. Written by wip/myprint.sh over the kit's print.py. -/
import Derived.Test.YtdohdjfclnlpmaaPFramex0
import Derived.Test.YtdohdjfclnlpmaaPFramex4
import Derived.Test.YtdohdjfclnlpmaaPFramex5
namespace Go.Proofs.Ytdohdjfclnlpmaa.PFrame
open Go.RowKit Go.Proofs.YtdohdjfclnlpmaaW.PrintWords Go.Proofs.YtdohdjfclnlpmaaW.PrintLast Go.Proofs.YtdohdjfclnlpmaaW.PrintMore
attribute [local go_sem] max2_int min2_int max_two min_two max_three min_three max_four min_four   -- for this text's walks alone
set_option linter.unusedVariables false
set_option linter.unusedSimpArgs false

/-! ### patchbayref02_Parse: function 20 -/
def patchbayref02_Parse.j0 : Nat → List Int → Int → Int → Int → Bool → Int → Int → Option (Int × Int × Bool × Int × Int × List Int × Int)
  | 0, _, _, _, _, _, _, _ => none
  | k + 1, x0, x5, x224000, x224001, x224002, x224003, x224004 => if (x0.length : Int) > (wrap64 (1502 + x5)) then (some (0, 0, false, 0, 0, ([] : List Int), 3)) else ((patchbayref02_two.f x0 x5).bind fun t225 => ((some (([] : List Int) : List Int)).bind fun y226 => (if 0 ≤ (wrap64 (x5 + 2)) then (if (wrap64 (x5 + 2)) ≤ (x0.length : Int) then (if y226.length + (x0.drop ((wrap64 (x5 + 2)) : Int).toNat).length < 140737488355328 then ((some (y226 ++ (x0.drop ((wrap64 (x5 + 2)) : Int).toNat) : List Int)).bind fun y230 => ((patchbayref02_form.f t225 (y230.length : Int)).bind fun t233 => (if t233 = true then (some (x224000, x224001, x224002, x224003, t225, y230, 0)) else (some (0, 0, false, 0, 0, ([] : List Int), 4))))) else (none)) else (none)) else (none))))
def patchbayref02_Parse.f (k : Nat) (l0 : List Int) : Option (Int × Int × Bool × Int × Int × List Int × Int) := if (l0.length : Int) < 60 then (some (0, 0, false, 0, 0, ([] : List Int), 2)) else ((patchbayref01_Of.f k l0).bind fun t219 => (if 6 ≤ (l0.length : Int) then ((patchbayref01_Of.f k (l0.drop 6)).bind fun t221 => ((patchbayref02_Tagged.f l0).bind fun t222 => (if t222 = true then ((patchbayref02_two.f l0 14).bind fun t224 => (patchbayref02_Parse.j0 k l0 16 t219 t221 t222 t224 0)) else (patchbayref02_Parse.j0 k l0 12 t219 t221 t222 0 0)))) else (none)))
theorem patchbayref02_Parse.mono_l : ∀ k, (∀ y0 y1 y2 y3 y4 y5 y6, LeO (patchbayref02_Parse.j0 k y0 y1 y2 y3 y4 y5 y6) (patchbayref02_Parse.j0 (k + 1) y0 y1 y2 y3 y4 y5 y6))
  | 0 => fun _ _ _ _ _ _ _ r h => by simp [patchbayref02_Parse.j0] at h
  | k + 1 => by
    have ih0 := patchbayref02_Parse.mono_l k
    · intro y0 y1 y2 y3 y4 y5 y6
      unfold patchbayref02_Parse.j0
      repeat' first
      | (with_reducible exact ih0 _ _ _ _ _ _ _)
      | (with_reducible exact patchbayref01_Of.mono _ _)
      | (with_reducible exact LeO.refl _)
      | (with_reducible exact LeO.none _)
      | (with_reducible refine LeO.ite ?_ ?_)
      | (with_reducible refine LeO.bind ?_ (fun _ => ?_))
      | exact ih0 _ _ _ _ _ _ _
      | exact patchbayref01_Of.mono _ _
      | exact LeO.none _
      | refine LeO.ite ?_ ?_
      | refine LeO.bind ?_ (fun _ => ?_)
theorem patchbayref02_Parse.mono : ∀ a0 k, LeO (patchbayref02_Parse.f k a0) (patchbayref02_Parse.f (k + 1) a0) := by
  intro a0 k
  have ih0 := patchbayref02_Parse.mono_l k
  unfold patchbayref02_Parse.f
  repeat' first
      | (with_reducible exact ih0 _ _ _ _ _ _ _)
      | (with_reducible exact patchbayref01_Of.mono _ _)
      | (with_reducible exact LeO.refl _)
      | (with_reducible exact LeO.none _)
      | (with_reducible refine LeO.ite ?_ ?_)
      | (with_reducible refine LeO.bind ?_ (fun _ => ?_))
      | exact ih0 _ _ _ _ _ _ _
      | exact patchbayref01_Of.mono _ _
      | exact LeO.none _
      | refine LeO.ite ?_ ?_
      | refine LeO.bind ?_ (fun _ => ?_)
def patchbayref02_Parse.T3 : Bool × List (List Nat × List Nat) := (true, [([], []), ([0], [0]), ([], []), ([2], [2]), ([3, 1], [3]), ([], []), ([5, 4], [5]), ([1, 4, 6], [1, 4, 6]), ([], []), ([8, 7, 6, 0, 1, 2, 3, 4, 5, 6, 7, 8], [7, 8])])
def patchbayref02_Parse.B3 : List Nat := [0, 1, 0, 4, 15, 0, 63, 127, 0, 511]
theorem patchbayref02_Parse.tab3 : rtab .any (opsOf Try.f20 3) = patchbayref02_Parse.T3 := by kernel_rfl
theorem patchbayref02_Parse.bits3 : waitsOk patchbayref02_Parse.T3.2 patchbayref02_Parse.B3 = true := by kernel_rfl
set_option maxHeartbeats 8000000 in
set_option maxRecDepth 100000 in
theorem patchbayref02_Parse.calls (k : Nat) (A0 : Option Addr) (c0 : Nat) (l0 : List Int) (r1 : Int) (r2 : Int) (r3 : Bool) (r4 : Int) (r5 : Int) (r6 : List Int) (r7 : Int) (w : World) (hr0 : Kd.C (Kd.int .u8) w A0 l0.length l0) (hc0 : l0.length ≤ c0) (h : patchbayref02_Parse.f k l0 = some (r1, r2, r3, r4, r5, r6, r7)) :
    Calls Try.prog 20 #[.slice A0 l0.length c0] w fun e w' => ∃ v5_ : Value, e = .returned (.tuple #[.agg #[.int .u64 r1, .int .u64 r2, .bool r3, .int .u16 r4, .int .u16 r5, v5_], .int .i64 r7]) ∧ Kd.R (Kd.int .u8) 5 w' w.heap.size (fun _ => True) v5_ r6 ∧ Below w.heap.size w w' := by
  have hu34 := Try.underlying34
  have HR0 := Aside0.mk hr0
  have HC0 := Aside0.mk hc0
  clear hr0 hc0
  have HB := Aside0.mk (Below.refl w.heap.size w)
  have H : (if (l0.length : Int) < 60 then (some (0, 0, false, 0, 0, ([] : List Int), 2)) else ((patchbayref01_Of.f k l0).bind fun t219 => (if 6 ≤ (l0.length : Int) then ((patchbayref01_Of.f k (l0.drop 6)).bind fun t221 => ((patchbayref02_Tagged.f l0).bind fun t222 => (if t222 = true then ((patchbayref02_two.f l0 14).bind fun t224 => (patchbayref02_Parse.j0 k l0 16 t219 t221 t222 t224 0)) else (patchbayref02_Parse.j0 k l0 12 t219 t221 t222 0 0)))) else (none)))) = some (r1, r2, r3, r4, r5, r6, r7) := h
  clear h
  by_cases c2 : (l0.length : Int) < 60
  · rw [if_pos c2] at H
    have c2b0 : decide ((l0.length : Int) < 60) = true := decide_eq_true c2
    have c2b1 : decide (l0.length < 60) = true := decide_eq_true (by omega)
    clear c2
    simp only [Option.some.injEq, Prod.mk.injEq] at H
    obtain ⟨rfl, rfl, rfl, rfl, rfl, rfl, rfl⟩ := H
    go_enter Try.func20, Try.ntmps20
    go_wp2_with (first | ((with_reducible refine gate_dst (N := 2) rfl ?_); refine box_event ?hg (N := 2) ?hd (cs := #[.int .u64 0, .int .u64 0, .bool false, .int .u16 0, .int .u16 0, .slice none 0 0]) (t := 34) ?hr ?_; (case hd => rfl); (case hg => rfl); (case hr => first | (go_simp; done) | (go_simp; rfl)); intro gb218 hg w3 hbox hb; have n0_ := Aside0.mk (below_step (by repeat (first | (with_reducible first | exact HB.out | apply below_alloc | apply pw_below_drewN | apply below_drew1) | exact HB.out)) hb); have n1_ := Aside0.mk (hbox); have n2_ := Aside0.mk ((by rw [hg]; exact (below_size (by repeat (first | (with_reducible first | exact HB.out | apply below_alloc | apply pw_below_drewN | apply below_drew1) | exact HB.out))) : w.heap.size ≤ gb218)); have n3_ := Aside0.mk ((by rw [hg]; exact (below_size (by repeat (first | (with_reducible first | exact HB.out | apply below_alloc | apply pw_below_drewN | apply below_drew1) | exact HB.out))) : w.heap.size ≤ gb218)); clear HB; have HB := n0_; have BK218 := n1_; have GW218 := n2_; have GE218 := n3_; clear n0_ n1_ n2_ n3_; clear hb hbox hg; have hcz4_0 : w3.cell? ⟨gb218, 0, none⟩ = some (.int .u64 0) := (blk_cell BK218.out 0).trans rfl; have hcz4_1 : w3.cell? ⟨gb218, 1, none⟩ = some (.int .u64 0) := (blk_cell BK218.out 1).trans rfl; have hcz4_2 : w3.cell? ⟨gb218, 2, none⟩ = some (.bool false) := (blk_cell BK218.out 2).trans rfl; have hcz4_3 : w3.cell? ⟨gb218, 3, none⟩ = some (.int .u16 0) := (blk_cell BK218.out 3).trans rfl; have hcz4_4 : w3.cell? ⟨gb218, 4, none⟩ = some (.int .u16 0) := (blk_cell BK218.out 4).trans rfl; have hcz4_5 : w3.cell? ⟨gb218, 5, none⟩ = some (.slice none 0 0) := (blk_cell BK218.out 5).trans rfl; have hfz4_0 := blk_frozen BK218.out 0; have hfz4_1 := blk_frozen BK218.out 1; have hfz4_2 := blk_frozen BK218.out 2; have hfz4_3 := blk_frozen BK218.out 3; have hfz4_4 := blk_frozen BK218.out 4; have hfz4_5 := blk_frozen BK218.out 5))
    refine bodyPost_ret (results_ct rfl _ _ gb218 34 #[.int .u64 0, .int .u64 0, .bool false, .int .u16 0, .int .u16 0, .slice none 0 0] (0, 0) _ rfl (by (with_reducible repeat (first | refine blk_drewN ?_ _ | refine blk_drew ?_ | refine blk_alloc ?_ _)); refine blk_put (cs := #[.int .u64 0, .int .u64 0, .bool false, .int .u16 0, .int .u16 0, .slice none 0 0]) ?_ 5 _ rfl; (with_reducible repeat (first | refine blk_drewN ?_ _ | refine blk_drew ?_ | refine blk_alloc ?_ _)); refine blk_put (cs := #[.int .u64 0, .int .u64 0, .bool false, .int .u16 0, .int .u16 0, .slice none 0 0]) ?_ 4 _ rfl; (with_reducible repeat (first | refine blk_drewN ?_ _ | refine blk_drew ?_ | refine blk_alloc ?_ _)); refine blk_put (cs := #[.int .u64 0, .int .u64 0, .bool false, .int .u16 0, .int .u16 0, .slice none 0 0]) ?_ 3 _ rfl; (with_reducible repeat (first | refine blk_drewN ?_ _ | refine blk_drew ?_ | refine blk_alloc ?_ _)); refine blk_put (cs := #[.int .u64 0, .int .u64 0, .bool false, .int .u16 0, .int .u16 0, .slice none 0 0]) ?_ 2 _ rfl; (with_reducible repeat (first | refine blk_drewN ?_ _ | refine blk_drew ?_ | refine blk_alloc ?_ _)); refine blk_put (cs := #[.int .u64 0, .int .u64 0, .bool false, .int .u16 0, .int .u16 0, .slice none 0 0]) ?_ 1 _ rfl; (with_reducible repeat (first | refine blk_drewN ?_ _ | refine blk_drew ?_ | refine blk_alloc ?_ _)); refine blk_put (cs := #[.int .u64 0, .int .u64 0, .bool false, .int .u16 0, .int .u16 0, .slice none 0 0]) ?_ 0 _ rfl; (with_reducible repeat (first | refine blk_drewN ?_ _ | refine blk_drew ?_ | refine blk_alloc ?_ _)); exact BK218.out) Try.underlying34 rfl (by kernel_rfl)) rfl ?_
    exact ⟨_, by first | rfl | (simp [errW_none, errW_some] <;> rfl) | (simp [*, errW_none, errW_some] <;> rfl), by first | exact Kd.R_nil _ _ _ _ _ | exact Kd.N_nil _ _ _ _ _ | exact Kd.V_nil _ _ _ _ _ | exact Kd.Q_nil _ _ _ _ _ | exact Kd.S_nil _ _ _ _ _, by repeat (first | (with_reducible first | exact HB.out | apply below_alloc | apply pw_below_drewN | apply below_drew1 | refine below_set ?_ GE218.out) | exact HB.out)⟩
  · rw [if_neg c2] at H
    have c2b0 : decide ((l0.length : Int) < 60) = false := decide_eq_false c2
    have c2b1 : decide (l0.length < 60) = false := decide_eq_false (by omega)
    clear c2
    replace H := Option.bind_eq_some_iff.mp H
    obtain ⟨t219, A50, H⟩ := H
    replace H : (if 6 ≤ (l0.length : Int) then ((patchbayref01_Of.f k (l0.drop 6)).bind fun t221 => ((patchbayref02_Tagged.f l0).bind fun t222 => (if t222 = true then ((patchbayref02_two.f l0 14).bind fun t224 => (patchbayref02_Parse.j0 k l0 16 t219 t221 t222 t224 0)) else (patchbayref02_Parse.j0 k l0 12 t219 t221 t222 0 0)))) else (none)) = some (r1, r2, r3, r4, r5, r6, r7) := H
    have A5 := Aside0.mk A50
    clear A50
    by_cases c6 : 6 ≤ (l0.length : Int)
    · rw [if_pos c6] at H
      have c6b0 := eq_true c6
      have c6b1 : decide (6 ≤ (l0.length : Int)) = true := decide_eq_true c6
      clear c6
      replace H := Option.bind_eq_some_iff.mp H
      obtain ⟨t221, A70, H⟩ := H
      replace H : ((patchbayref02_Tagged.f l0).bind fun t222 => (if t222 = true then ((patchbayref02_two.f l0 14).bind fun t224 => (patchbayref02_Parse.j0 k l0 16 t219 t221 t222 t224 0)) else (patchbayref02_Parse.j0 k l0 12 t219 t221 t222 0 0))) = some (r1, r2, r3, r4, r5, r6, r7) := H
      have A7 := Aside0.mk A70
      clear A70
      replace H := Option.bind_eq_some_iff.mp H
      obtain ⟨t222, A80, H⟩ := H
      replace H : (if t222 = true then ((patchbayref02_two.f l0 14).bind fun t224 => (patchbayref02_Parse.j0 k l0 16 t219 t221 t222 t224 0)) else (patchbayref02_Parse.j0 k l0 12 t219 t221 t222 0 0)) = some (r1, r2, r3, r4, r5, r6, r7) := H
      have A8 := Aside0.mk A80
      clear A80
      have HC9 := Aside0.mk H
      clear H
      go_enter Try.func20, Try.ntmps20
      try go_wp2_with (first | ((with_reducible refine gate_dst (N := 2) rfl ?_); refine box_event ?hg (N := 2) ?hd (cs := #[.int .u64 0, .int .u64 0, .bool false, .int .u16 0, .int .u16 0, .slice none 0 0]) (t := 34) ?hr ?_; (case hd => rfl); (case hg => rfl); (case hr => first | (go_simp; done) | (go_simp; rfl)); intro gb218 hg w10 hbox hb; have n0_ := Aside0.mk (below_step (by repeat (first | (with_reducible first | exact HB.out | apply below_alloc | apply pw_below_drewN | apply below_drew1) | exact HB.out)) hb); have n1_ := Aside0.mk (hbox); have n2_ := Aside0.mk ((by rw [hg]; exact (below_size (by repeat (first | (with_reducible first | exact HB.out | apply below_alloc | apply pw_below_drewN | apply below_drew1) | exact HB.out))) : w.heap.size ≤ gb218)); have n3_ := Aside0.mk ((by rw [hg]; exact (below_size (by repeat (first | (with_reducible first | exact HB.out | apply below_alloc | apply pw_below_drewN | apply below_drew1) | exact HB.out))) : w.heap.size ≤ gb218)); clear HB; have HB := n0_; have BK218 := n1_; have GW218 := n2_; have GE218 := n3_; clear n0_ n1_ n2_ n3_; clear hb hbox hg))
      have n0_ := Aside0.mk (blk_drew BK218.out)
      have n1_ := Aside0.mk (below_drew1 HB.out)
      clear BK218
      clear HB
      have BK218 := n0_
      have HB := n1_
      clear n0_ n1_
      obtain ⟨i012, hi012, _, hsz12, _⟩ := info_parts info5
      obtain ⟨A12, hcut12, hA12, hC12⟩ := print_drop_of (P := Try.prog) (Value.int .u8) 0 22 5 .i64 Try.underlying22 hi012 hsz12 A0 c0 l0 6 (by omega) (of_decide_eq_true (by first | (with_reducible assumption) | assumption)) HC0.out
      have HR220 := Aside0.mk (Kd.C_of_reads (h1 := fun _ => rfl) (hA12 _ (Kd.reads_of_C HR0.out)))
      have HC220 := Aside0.mk hC12
      clear hA12 hC12 hi012 hsz12
      refine start_ (n := 10) (S := fun w' => True) (ds := []) #[false, false, false, false, false, false, false, false, false, false] (by kernel_rfl) rfl rfl trivial (fun hHeld => ?_); refine with_tabW patchbayref02_Parse.tab3 patchbayref02_Parse.bits3 (fun HT_ HW_ => ?_)
      generalize w10.drew = w11 at BK218 HB HR220 hHeld ⊢
      refine pure_ (i := 0) (N := some 10) (v := ?_) (a' := ?_) #[true, false, false, false, false, false, false, false, false, false] rfl rfl (any_of HT_.out (by kernel_rfl)) (fun _ _ _ h => h) (Or.inl ⟨by rfl, ?_⟩) ?_ ?_
      rotate_left
      · intro w'
        go_simp
        with_reducible rfl
      rotate_left
      · simp only [Act.put, List.setIfInBounds_toArray, List.set_cons_zero, List.set_cons_succ, i64_w, i32_w]
        rfl
      refine pure_ (i := 2) (N := some 12) (v := ?_) (a' := ?_) #[true, false, true, false, false, false, false, false, false, false] rfl rfl (any_of HT_.out (by kernel_rfl)) (fun _ _ _ h => h) (Or.inl ⟨by rfl, ?_⟩) ?_ ?_
      rotate_left
      · intro w'
        go_simp
        with_reducible rfl
      rotate_left
      · simp only [Act.put, List.setIfInBounds_toArray, List.set_cons_zero, List.set_cons_succ, i64_w, i32_w]
        rfl
      refine pure_ (i := 3) (N := some 13) (v := ?_) (a' := ?_) #[true, false, true, true, false, false, false, false, false, false] rfl rfl (any_of HT_.out (by kernel_rfl)) (fun _ _ _ h => h) (Or.inl ⟨by rfl, ?_⟩) ?_ ?_
      rotate_left
      · intro w'
        go_simp
        with_reducible rfl
      rotate_left
      · simp only [Act.put, List.setIfInBounds_toArray, List.set_cons_zero, List.set_cons_succ, i64_w, i32_w]
        rfl
      refine pure_ (i := 5) (N := some 15) (v := ?_) (a' := ?_) #[true, false, true, true, false, true, false, false, false, false] rfl rfl (any_of HT_.out (by kernel_rfl)) (fun _ _ _ h => h) (Or.inl ⟨by rfl, ?_⟩) ?_ ?_
      rotate_left
      · intro w'
        go_simp
        with_reducible rfl
      rotate_left
      · simp only [Act.put, List.setIfInBounds_toArray, List.set_cons_zero, List.set_cons_succ, i64_w, i32_w]
        rfl
      refine join_ (σ := Nat) 1 #[true, true, true, true, true, true, true, true, true, false] (fun s_ => [(11, .int .u64 t219), (14, .int .u64 t221), (16, .bool t222), (4, .pointer (some ⟨s_, 0, none⟩)), (17, .agg #[.int .u64 t219, .int .u64 t221, .bool t222, .int .u16 0, .int .u16 0, .slice none 0 0])]) (fun s_ w' => (w'.heap[gb218]? = some (.cells #[.int .u64 0, .int .u64 0, .bool false, .int .u16 0, .int .u16 0, .slice none 0 0] 34 (0, 0))) ∧ (w'.heap[s_]? = some (.cells #[.int .u64 0, .int .u64 0, .bool false, .int .u16 0, .int .u16 0, .slice none 0 0] 34 (0, 0))) ∧ (w.heap.size ≤ s_) ∧ (w.heap.size ≤ s_) ∧ (gb218 ≠ s_) ∧ (s_ ≠ gb218) ∧ (Below w.heap.size w w')) ?_ ?_
      rotate_left
      · intro hCont
        refine two_ (i := 1) (j := 8) (Ni := some 11) (Nj := some 4) #[true, true, true, true, false, true, false, false, false, false] #[true, false, true, true, false, true, false, false, true, false] rfl rfl rfl rfl (two_of HT_.out (by kernel_rfl)) (by decide) (by decide) (fun K hK => ?_) (fun K hK => ?_)
        · skip
          refine goes_ Try.func39 (by kernel_rfl) rfl #[.slice A0 l0.length c0] (by rfl) rfl rfl (by (try simp only [List.map_toArray, List.map_cons, List.map_nil]); first | done | rfl | (simp only [List.length_drop, List.length_take]; rfl)) ?_
          with_reducible refine (patchbayref01_Of.calls k _ _ l0 t219 _ ?side1 ?side2 A5.out).mono ?_
          (case side1 => repeat (first | exact (Kd.C_below HR0.out HB.out) | (with_reducible refine Kd.C_alloc ?_ _) | (with_reducible refine Kd.C_drewN ?_ _) | (with_reducible refine Kd.C_drew ?_)))
          (case side2 => exact HC0.out)
          rintro e w' ⟨rfl, ⟨nd, rfl⟩⟩
          refine ⟨_, rfl, ?_⟩
          refine hK.out _ _ trivial (fun hHeld => ?_)
          clear hK K
          refine norm_ (a' := ?_) ?_ ?_
          rotate_left
          · show Act.put _ (some 11) _ = _
            simp only [Act.put, List.setIfInBounds_toArray, List.set_cons_zero, List.set_cons_succ, i64_w, i32_w]
            rfl
          refine two_ (i := 4) (j := 8) (Ni := some 14) (Nj := some 4) #[true, true, true, true, true, true, false, false, false, false] #[true, true, true, true, false, true, false, false, true, false] rfl rfl rfl rfl (two_of HT_.out (by kernel_rfl)) (by decide) (by decide) (fun K hK => ?_) (fun K hK => ?_)
          · skip
            refine goes_ Try.func39 (by kernel_rfl) rfl #[.slice A12 (l0.drop 6).length (c0 - 6)] (by rfl) rfl rfl (by (try simp only [List.map_toArray, List.map_cons, List.map_nil]); first | done | (rw [show (l0.drop 6).length = (l0.length - 6) from List.length_drop] <;> rfl) | rfl | (simp only [List.length_drop, List.length_take]; rfl)) ?_
            with_reducible refine (patchbayref01_Of.calls k _ _ (l0.drop 6) t221 _ ?side1 ?side2 A7.out).mono ?_
            (case side1 => repeat (first | exact (Kd.C_below HR220.out (by repeat (first | (with_reducible first | exact HB.out | apply below_alloc | apply pw_below_drewN | apply below_drew1 | refine below_set ?_ GE218.out) | exact HB.out))) | (with_reducible refine Kd.C_alloc ?_ _) | (with_reducible refine Kd.C_drewN ?_ _) | (with_reducible refine Kd.C_drew ?_)))
            (case side2 => exact HC220.out)
            rintro e w' ⟨rfl, ⟨nd, rfl⟩⟩
            refine ⟨_, rfl, ?_⟩
            refine hK.out _ _ trivial (fun hHeld => ?_)
            clear hK K
            refine norm_ (a' := ?_) ?_ ?_
            rotate_left
            · show Act.put _ (some 14) _ = _
              simp only [Act.put, List.setIfInBounds_toArray, List.set_cons_zero, List.set_cons_succ, i64_w, i32_w]
              rfl
            refine two_ (i := 6) (j := 8) (Ni := some 16) (Nj := some 4) #[true, true, true, true, true, true, true, false, false, false] #[true, true, true, true, true, true, false, false, true, false] rfl rfl rfl rfl (two_of HT_.out (by kernel_rfl)) (by decide) (by decide) (fun K hK => ?_) (fun K hK => ?_)
            · skip
              refine goes_ Try.func50 (by kernel_rfl) rfl #[.slice A0 l0.length c0] (by rfl) rfl rfl (by (try simp only [List.map_toArray, List.map_cons, List.map_nil]); first | done | rfl | (simp only [List.length_drop, List.length_take]; rfl)) ?_
              with_reducible refine (patchbayref02_Tagged.calls _ _ l0 t222 _ ?side1 ?side2 A8.out).mono ?_
              (case side1 => repeat (first | exact (Kd.C_below HR0.out (by repeat (first | (with_reducible first | exact HB.out | apply below_alloc | apply pw_below_drewN | apply below_drew1 | refine below_set ?_ GE218.out) | exact HB.out))) | (with_reducible refine Kd.C_alloc ?_ _) | (with_reducible refine Kd.C_drewN ?_ _) | (with_reducible refine Kd.C_drew ?_)))
              (case side2 => exact HC0.out)
              rintro e w' ⟨rfl, ⟨nd, rfl⟩⟩
              refine ⟨_, rfl, ?_⟩
              refine hK.out _ _ trivial (fun hHeld => ?_)
              clear hK K
              refine norm_ (a' := ?_) ?_ ?_
              rotate_left
              · show Act.put _ (some 16) _ = _
                simp only [Act.put, List.setIfInBounds_toArray, List.set_cons_zero, List.set_cons_succ, i64_w, i32_w]
                rfl
              refine pure_ (i := 7) (N := some 17) (v := ?_) (a' := ?_) #[true, true, true, true, true, true, true, true, false, false] rfl rfl (any_of HT_.out (by kernel_rfl)) (fun _ _ _ h => h) (Or.inl ⟨by rfl, ?_⟩) ?_ ?_
              rotate_left
              · intro w'
                go_simp
                with_reducible rfl
              rotate_left
              · simp only [Act.put, List.setIfInBounds_toArray, List.set_cons_zero, List.set_cons_succ, i64_w, i32_w]
                rfl
              refine one_ (i := 8) (N := some 4) #[true, true, true, true, true, true, true, true, true, false] rfl rfl (one_of HT_.out (by kernel_rfl)) (by decide) (fun K hK => ?_)
              refine box_step ?hg (N := 4) ?hd (cs := #[.int .u64 0, .int .u64 0, .bool false, .int .u16 0, .int .u16 0, .slice none 0 0]) (t := 34) ?hr ?_; (case hd => rfl); (case hg => rfl); (case hr => first | (go_simp; done) | (go_simp; rfl))
              intro gb223 hg w13 hbox hb
              have n0_ := Aside0.mk (blk_below (g := gb218) (o := .cells #[.int .u64 0, .int .u64 0, .bool false, .int .u16 0, .int .u16 0, .slice none 0 0] 34 (0, 0)) (by (with_reducible repeat (first | refine blk_drewN ?_ _ | refine blk_drew ?_ | refine blk_alloc ?_ _)); exact BK218.out) hb)
              have n1_ := Aside0.mk (below_step (by repeat (first | (with_reducible first | exact HB.out | apply below_alloc | apply pw_below_drewN | apply below_drew1 | refine below_set ?_ GE218.out) | exact HB.out)) hb)
              have n2_ := Aside0.mk (hbox)
              have n3_ := Aside0.mk ((by rw [hg]; exact (below_size (by repeat (first | (with_reducible first | exact HB.out | apply below_alloc | apply pw_below_drewN | apply below_drew1 | refine below_set ?_ GE218.out) | exact HB.out))) : w.heap.size ≤ gb223))
              have n4_ := Aside0.mk ((by rw [hg]; exact (below_size (by repeat (first | (with_reducible first | exact HB.out | apply below_alloc | apply pw_below_drewN | apply below_drew1 | refine below_set ?_ GE218.out) | exact HB.out))) : w.heap.size ≤ gb223))
              have n5_ := Aside0.mk ((by rw [hg]; exact Nat.ne_of_lt (blk_lt (g := gb218) (o := .cells #[.int .u64 0, .int .u64 0, .bool false, .int .u16 0, .int .u16 0, .slice none 0 0] 34 (0, 0)) (by (with_reducible repeat (first | refine blk_drewN ?_ _ | refine blk_drew ?_ | refine blk_alloc ?_ _)); exact BK218.out)) : gb218 ≠ gb223))
              have n6_ := Aside0.mk ((by rw [hg]; exact Nat.ne_of_gt (blk_lt (g := gb218) (o := .cells #[.int .u64 0, .int .u64 0, .bool false, .int .u16 0, .int .u16 0, .slice none 0 0] 34 (0, 0)) (by (with_reducible repeat (first | refine blk_drewN ?_ _ | refine blk_drew ?_ | refine blk_alloc ?_ _)); exact BK218.out)) : gb223 ≠ gb218))
              clear BK218
              clear HB
              have BK218 := n0_
              have HB := n1_
              have BK223 := n2_
              have GW223 := n3_
              have GE223 := n4_
              have NB218_223 := n5_
              have NB223_218 := n6_
              clear n0_ n1_ n2_ n3_ n4_ n5_ n6_
              clear hb hbox hg
              refine hK.out _ _ trivial (fun hHeld => ?_)
              clear hK K
              refine norm_ (a' := ?_) ?_ ?_
              rotate_left
              · show Act.put _ (some 4) _ = _
                simp only [Act.put, List.setIfInBounds_toArray, List.set_cons_zero, List.set_cons_succ, i64_w, i32_w]
                rfl
              exact norm_ (by simp only [putAll, Act.put, List.setIfInBounds_toArray, List.set_cons_zero, List.set_cons_succ]) (hCont (gb223) _ ⟨(by (with_reducible repeat (first | refine blk_drewN ?_ _ | refine blk_drew ?_ | refine blk_alloc ?_ _)); exact BK218.out), (by (with_reducible repeat (first | refine blk_drewN ?_ _ | refine blk_drew ?_ | refine blk_alloc ?_ _)); exact BK223.out), GW223.out, GE223.out, NB218_223.out, NB223_218.out, (by repeat (first | (with_reducible first | exact HB.out | apply below_alloc | apply pw_below_drewN | apply below_drew1 | refine below_set ?_ GE218.out | refine below_set ?_ GE223.out) | exact HB.out))⟩)
            · skip
              refine box_step ?hg (N := 4) ?hd (cs := #[.int .u64 0, .int .u64 0, .bool false, .int .u16 0, .int .u16 0, .slice none 0 0]) (t := 34) ?hr ?_; (case hd => rfl); (case hg => rfl); (case hr => first | (go_simp; done) | (go_simp; rfl))
              intro gb223 hg w13 hbox hb
              have n0_ := Aside0.mk (blk_below (g := gb218) (o := .cells #[.int .u64 0, .int .u64 0, .bool false, .int .u16 0, .int .u16 0, .slice none 0 0] 34 (0, 0)) (by (with_reducible repeat (first | refine blk_drewN ?_ _ | refine blk_drew ?_ | refine blk_alloc ?_ _)); exact BK218.out) hb)
              have n1_ := Aside0.mk (below_step (by repeat (first | (with_reducible first | exact HB.out | apply below_alloc | apply pw_below_drewN | apply below_drew1 | refine below_set ?_ GE218.out) | exact HB.out)) hb)
              have n2_ := Aside0.mk (hbox)
              have n3_ := Aside0.mk ((by rw [hg]; exact (below_size (by repeat (first | (with_reducible first | exact HB.out | apply below_alloc | apply pw_below_drewN | apply below_drew1 | refine below_set ?_ GE218.out) | exact HB.out))) : w.heap.size ≤ gb223))
              have n4_ := Aside0.mk ((by rw [hg]; exact (below_size (by repeat (first | (with_reducible first | exact HB.out | apply below_alloc | apply pw_below_drewN | apply below_drew1 | refine below_set ?_ GE218.out) | exact HB.out))) : w.heap.size ≤ gb223))
              have n5_ := Aside0.mk ((by rw [hg]; exact Nat.ne_of_lt (blk_lt (g := gb218) (o := .cells #[.int .u64 0, .int .u64 0, .bool false, .int .u16 0, .int .u16 0, .slice none 0 0] 34 (0, 0)) (by (with_reducible repeat (first | refine blk_drewN ?_ _ | refine blk_drew ?_ | refine blk_alloc ?_ _)); exact BK218.out)) : gb218 ≠ gb223))
              have n6_ := Aside0.mk ((by rw [hg]; exact Nat.ne_of_gt (blk_lt (g := gb218) (o := .cells #[.int .u64 0, .int .u64 0, .bool false, .int .u16 0, .int .u16 0, .slice none 0 0] 34 (0, 0)) (by (with_reducible repeat (first | refine blk_drewN ?_ _ | refine blk_drew ?_ | refine blk_alloc ?_ _)); exact BK218.out)) : gb223 ≠ gb218))
              clear BK218
              clear HB
              have BK218 := n0_
              have HB := n1_
              have BK223 := n2_
              have GW223 := n3_
              have GE223 := n4_
              have NB218_223 := n5_
              have NB223_218 := n6_
              clear n0_ n1_ n2_ n3_ n4_ n5_ n6_
              clear hb hbox hg
              refine hK.out _ _ trivial (fun hHeld => ?_)
              clear hK K
              refine norm_ (a' := ?_) ?_ ?_
              rotate_left
              · show Act.put _ (some 4) _ = _
                simp only [Act.put, List.setIfInBounds_toArray, List.set_cons_zero, List.set_cons_succ, i64_w, i32_w]
                rfl
              refine one_ (i := 6) (N := some 16) #[true, true, true, true, true, true, true, false, true, false] rfl rfl (one_of HT_.out (by kernel_rfl)) (by decide) (fun K hK => ?_)
              refine goes_ Try.func50 (by kernel_rfl) rfl #[.slice A0 l0.length c0] (by rfl) rfl rfl (by (try simp only [List.map_toArray, List.map_cons, List.map_nil]); first | done | rfl | (simp only [List.length_drop, List.length_take]; rfl)) ?_
              with_reducible refine (patchbayref02_Tagged.calls _ _ l0 t222 _ ?side1 ?side2 A8.out).mono ?_
              (case side1 => repeat (first | exact (Kd.C_below HR0.out HB.out) | (with_reducible refine Kd.C_alloc ?_ _) | (with_reducible refine Kd.C_drewN ?_ _) | (with_reducible refine Kd.C_drew ?_)))
              (case side2 => exact HC0.out)
              rintro e w' ⟨rfl, ⟨nd, rfl⟩⟩
              refine ⟨_, rfl, ?_⟩
              refine hK.out _ _ trivial (fun hHeld => ?_)
              clear hK K
              refine norm_ (a' := ?_) ?_ ?_
              rotate_left
              · show Act.put _ (some 16) _ = _
                simp only [Act.put, List.setIfInBounds_toArray, List.set_cons_zero, List.set_cons_succ, i64_w, i32_w]
                rfl
              refine pure_ (i := 7) (N := some 17) (v := ?_) (a' := ?_) #[true, true, true, true, true, true, true, true, true, false] rfl rfl (any_of HT_.out (by kernel_rfl)) (fun _ _ _ h => h) (Or.inl ⟨by rfl, ?_⟩) ?_ ?_
              rotate_left
              · intro w'
                go_simp
                with_reducible rfl
              rotate_left
              · simp only [Act.put, List.setIfInBounds_toArray, List.set_cons_zero, List.set_cons_succ, i64_w, i32_w]
                rfl
              exact norm_ (by simp only [putAll, Act.put, List.setIfInBounds_toArray, List.set_cons_zero, List.set_cons_succ]) (hCont (gb223) _ ⟨(by (with_reducible repeat (first | refine blk_drewN ?_ _ | refine blk_drew ?_ | refine blk_alloc ?_ _)); exact BK218.out), (by (with_reducible repeat (first | refine blk_drewN ?_ _ | refine blk_drew ?_ | refine blk_alloc ?_ _)); exact BK223.out), GW223.out, GE223.out, NB218_223.out, NB223_218.out, (by repeat (first | (with_reducible first | exact HB.out | apply below_alloc | apply pw_below_drewN | apply below_drew1 | refine below_set ?_ GE218.out | refine below_set ?_ GE223.out) | exact HB.out))⟩)
          · skip
            refine box_step ?hg (N := 4) ?hd (cs := #[.int .u64 0, .int .u64 0, .bool false, .int .u16 0, .int .u16 0, .slice none 0 0]) (t := 34) ?hr ?_; (case hd => rfl); (case hg => rfl); (case hr => first | (go_simp; done) | (go_simp; rfl))
            intro gb223 hg w13 hbox hb
            have n0_ := Aside0.mk (blk_below (g := gb218) (o := .cells #[.int .u64 0, .int .u64 0, .bool false, .int .u16 0, .int .u16 0, .slice none 0 0] 34 (0, 0)) (by (with_reducible repeat (first | refine blk_drewN ?_ _ | refine blk_drew ?_ | refine blk_alloc ?_ _)); exact BK218.out) hb)
            have n1_ := Aside0.mk (below_step (by repeat (first | (with_reducible first | exact HB.out | apply below_alloc | apply pw_below_drewN | apply below_drew1 | refine below_set ?_ GE218.out) | exact HB.out)) hb)
            have n2_ := Aside0.mk (hbox)
            have n3_ := Aside0.mk ((by rw [hg]; exact (below_size (by repeat (first | (with_reducible first | exact HB.out | apply below_alloc | apply pw_below_drewN | apply below_drew1 | refine below_set ?_ GE218.out) | exact HB.out))) : w.heap.size ≤ gb223))
            have n4_ := Aside0.mk ((by rw [hg]; exact (below_size (by repeat (first | (with_reducible first | exact HB.out | apply below_alloc | apply pw_below_drewN | apply below_drew1 | refine below_set ?_ GE218.out) | exact HB.out))) : w.heap.size ≤ gb223))
            have n5_ := Aside0.mk ((by rw [hg]; exact Nat.ne_of_lt (blk_lt (g := gb218) (o := .cells #[.int .u64 0, .int .u64 0, .bool false, .int .u16 0, .int .u16 0, .slice none 0 0] 34 (0, 0)) (by (with_reducible repeat (first | refine blk_drewN ?_ _ | refine blk_drew ?_ | refine blk_alloc ?_ _)); exact BK218.out)) : gb218 ≠ gb223))
            have n6_ := Aside0.mk ((by rw [hg]; exact Nat.ne_of_gt (blk_lt (g := gb218) (o := .cells #[.int .u64 0, .int .u64 0, .bool false, .int .u16 0, .int .u16 0, .slice none 0 0] 34 (0, 0)) (by (with_reducible repeat (first | refine blk_drewN ?_ _ | refine blk_drew ?_ | refine blk_alloc ?_ _)); exact BK218.out)) : gb223 ≠ gb218))
            clear BK218
            clear HB
            have BK218 := n0_
            have HB := n1_
            have BK223 := n2_
            have GW223 := n3_
            have GE223 := n4_
            have NB218_223 := n5_
            have NB223_218 := n6_
            clear n0_ n1_ n2_ n3_ n4_ n5_ n6_
            clear hb hbox hg
            refine hK.out _ _ trivial (fun hHeld => ?_)
            clear hK K
            refine norm_ (a' := ?_) ?_ ?_
            rotate_left
            · show Act.put _ (some 4) _ = _
              simp only [Act.put, List.setIfInBounds_toArray, List.set_cons_zero, List.set_cons_succ, i64_w, i32_w]
              rfl
            refine one_ (i := 4) (N := some 14) #[true, true, true, true, true, true, false, false, true, false] rfl rfl (one_of HT_.out (by kernel_rfl)) (by decide) (fun K hK => ?_)
            refine goes_ Try.func39 (by kernel_rfl) rfl #[.slice A12 (l0.drop 6).length (c0 - 6)] (by rfl) rfl rfl (by (try simp only [List.map_toArray, List.map_cons, List.map_nil]); first | done | (rw [show (l0.drop 6).length = (l0.length - 6) from List.length_drop] <;> rfl) | rfl | (simp only [List.length_drop, List.length_take]; rfl)) ?_
            with_reducible refine (patchbayref01_Of.calls k _ _ (l0.drop 6) t221 _ ?side1 ?side2 A7.out).mono ?_
            (case side1 => repeat (first | exact (Kd.C_below HR220.out HB.out) | (with_reducible refine Kd.C_alloc ?_ _) | (with_reducible refine Kd.C_drewN ?_ _) | (with_reducible refine Kd.C_drew ?_)))
            (case side2 => exact HC220.out)
            rintro e w' ⟨rfl, ⟨nd, rfl⟩⟩
            refine ⟨_, rfl, ?_⟩
            refine hK.out _ _ trivial (fun hHeld => ?_)
            clear hK K
            refine norm_ (a' := ?_) ?_ ?_
            rotate_left
            · show Act.put _ (some 14) _ = _
              simp only [Act.put, List.setIfInBounds_toArray, List.set_cons_zero, List.set_cons_succ, i64_w, i32_w]
              rfl
            refine one_ (i := 6) (N := some 16) #[true, true, true, true, true, true, true, false, true, false] rfl rfl (one_of HT_.out (by kernel_rfl)) (by decide) (fun K hK => ?_)
            refine goes_ Try.func50 (by kernel_rfl) rfl #[.slice A0 l0.length c0] (by rfl) rfl rfl (by (try simp only [List.map_toArray, List.map_cons, List.map_nil]); first | done | rfl | (simp only [List.length_drop, List.length_take]; rfl)) ?_
            with_reducible refine (patchbayref02_Tagged.calls _ _ l0 t222 _ ?side1 ?side2 A8.out).mono ?_
            (case side1 => repeat (first | exact (Kd.C_below HR0.out (by repeat (first | (with_reducible first | exact HB.out | apply below_alloc | apply pw_below_drewN | apply below_drew1 | refine below_set ?_ GE218.out | refine below_set ?_ GE223.out) | exact HB.out))) | (with_reducible refine Kd.C_alloc ?_ _) | (with_reducible refine Kd.C_drewN ?_ _) | (with_reducible refine Kd.C_drew ?_)))
            (case side2 => exact HC0.out)
            rintro e w' ⟨rfl, ⟨nd, rfl⟩⟩
            refine ⟨_, rfl, ?_⟩
            refine hK.out _ _ trivial (fun hHeld => ?_)
            clear hK K
            refine norm_ (a' := ?_) ?_ ?_
            rotate_left
            · show Act.put _ (some 16) _ = _
              simp only [Act.put, List.setIfInBounds_toArray, List.set_cons_zero, List.set_cons_succ, i64_w, i32_w]
              rfl
            refine pure_ (i := 7) (N := some 17) (v := ?_) (a' := ?_) #[true, true, true, true, true, true, true, true, true, false] rfl rfl (any_of HT_.out (by kernel_rfl)) (fun _ _ _ h => h) (Or.inl ⟨by rfl, ?_⟩) ?_ ?_
            rotate_left
            · intro w'
              go_simp
              with_reducible rfl
            rotate_left
            · simp only [Act.put, List.setIfInBounds_toArray, List.set_cons_zero, List.set_cons_succ, i64_w, i32_w]
              rfl
            exact norm_ (by simp only [putAll, Act.put, List.setIfInBounds_toArray, List.set_cons_zero, List.set_cons_succ]) (hCont (gb223) _ ⟨(by (with_reducible repeat (first | refine blk_drewN ?_ _ | refine blk_drew ?_ | refine blk_alloc ?_ _)); exact BK218.out), (by (with_reducible repeat (first | refine blk_drewN ?_ _ | refine blk_drew ?_ | refine blk_alloc ?_ _)); exact BK223.out), GW223.out, GE223.out, NB218_223.out, NB223_218.out, (by repeat (first | (with_reducible first | exact HB.out | apply below_alloc | apply pw_below_drewN | apply below_drew1 | refine below_set ?_ GE218.out | refine below_set ?_ GE223.out) | exact HB.out))⟩)
        · skip
          refine box_step ?hg (N := 4) ?hd (cs := #[.int .u64 0, .int .u64 0, .bool false, .int .u16 0, .int .u16 0, .slice none 0 0]) (t := 34) ?hr ?_; (case hd => rfl); (case hg => rfl); (case hr => first | (go_simp; done) | (go_simp; rfl))
          intro gb223 hg w13 hbox hb
          have n0_ := Aside0.mk (blk_below (g := gb218) (o := .cells #[.int .u64 0, .int .u64 0, .bool false, .int .u16 0, .int .u16 0, .slice none 0 0] 34 (0, 0)) (by (with_reducible repeat (first | refine blk_drewN ?_ _ | refine blk_drew ?_ | refine blk_alloc ?_ _)); exact BK218.out) hb)
          have n1_ := Aside0.mk (below_step (by repeat (first | (with_reducible first | exact HB.out | apply below_alloc | apply pw_below_drewN | apply below_drew1 | refine below_set ?_ GE218.out) | exact HB.out)) hb)
          have n2_ := Aside0.mk (hbox)
          have n3_ := Aside0.mk ((by rw [hg]; exact (below_size (by repeat (first | (with_reducible first | exact HB.out | apply below_alloc | apply pw_below_drewN | apply below_drew1 | refine below_set ?_ GE218.out) | exact HB.out))) : w.heap.size ≤ gb223))
          have n4_ := Aside0.mk ((by rw [hg]; exact (below_size (by repeat (first | (with_reducible first | exact HB.out | apply below_alloc | apply pw_below_drewN | apply below_drew1 | refine below_set ?_ GE218.out) | exact HB.out))) : w.heap.size ≤ gb223))
          have n5_ := Aside0.mk ((by rw [hg]; exact Nat.ne_of_lt (blk_lt (g := gb218) (o := .cells #[.int .u64 0, .int .u64 0, .bool false, .int .u16 0, .int .u16 0, .slice none 0 0] 34 (0, 0)) (by (with_reducible repeat (first | refine blk_drewN ?_ _ | refine blk_drew ?_ | refine blk_alloc ?_ _)); exact BK218.out)) : gb218 ≠ gb223))
          have n6_ := Aside0.mk ((by rw [hg]; exact Nat.ne_of_gt (blk_lt (g := gb218) (o := .cells #[.int .u64 0, .int .u64 0, .bool false, .int .u16 0, .int .u16 0, .slice none 0 0] 34 (0, 0)) (by (with_reducible repeat (first | refine blk_drewN ?_ _ | refine blk_drew ?_ | refine blk_alloc ?_ _)); exact BK218.out)) : gb223 ≠ gb218))
          clear BK218
          clear HB
          have BK218 := n0_
          have HB := n1_
          have BK223 := n2_
          have GW223 := n3_
          have GE223 := n4_
          have NB218_223 := n5_
          have NB223_218 := n6_
          clear n0_ n1_ n2_ n3_ n4_ n5_ n6_
          clear hb hbox hg
          refine hK.out _ _ trivial (fun hHeld => ?_)
          clear hK K
          refine norm_ (a' := ?_) ?_ ?_
          rotate_left
          · show Act.put _ (some 4) _ = _
            simp only [Act.put, List.setIfInBounds_toArray, List.set_cons_zero, List.set_cons_succ, i64_w, i32_w]
            rfl
          refine one_ (i := 1) (N := some 11) #[true, true, true, true, false, true, false, false, true, false] rfl rfl (one_of HT_.out (by kernel_rfl)) (by decide) (fun K hK => ?_)
          refine goes_ Try.func39 (by kernel_rfl) rfl #[.slice A0 l0.length c0] (by rfl) rfl rfl (by (try simp only [List.map_toArray, List.map_cons, List.map_nil]); first | done | rfl | (simp only [List.length_drop, List.length_take]; rfl)) ?_
          with_reducible refine (patchbayref01_Of.calls k _ _ l0 t219 _ ?side1 ?side2 A5.out).mono ?_
          (case side1 => repeat (first | exact (Kd.C_below HR0.out HB.out) | (with_reducible refine Kd.C_alloc ?_ _) | (with_reducible refine Kd.C_drewN ?_ _) | (with_reducible refine Kd.C_drew ?_)))
          (case side2 => exact HC0.out)
          rintro e w' ⟨rfl, ⟨nd, rfl⟩⟩
          refine ⟨_, rfl, ?_⟩
          refine hK.out _ _ trivial (fun hHeld => ?_)
          clear hK K
          refine norm_ (a' := ?_) ?_ ?_
          rotate_left
          · show Act.put _ (some 11) _ = _
            simp only [Act.put, List.setIfInBounds_toArray, List.set_cons_zero, List.set_cons_succ, i64_w, i32_w]
            rfl
          refine one_ (i := 4) (N := some 14) #[true, true, true, true, true, true, false, false, true, false] rfl rfl (one_of HT_.out (by kernel_rfl)) (by decide) (fun K hK => ?_)
          refine goes_ Try.func39 (by kernel_rfl) rfl #[.slice A12 (l0.drop 6).length (c0 - 6)] (by rfl) rfl rfl (by (try simp only [List.map_toArray, List.map_cons, List.map_nil]); first | done | (rw [show (l0.drop 6).length = (l0.length - 6) from List.length_drop] <;> rfl) | rfl | (simp only [List.length_drop, List.length_take]; rfl)) ?_
          with_reducible refine (patchbayref01_Of.calls k _ _ (l0.drop 6) t221 _ ?side1 ?side2 A7.out).mono ?_
          (case side1 => repeat (first | exact (Kd.C_below HR220.out (by repeat (first | (with_reducible first | exact HB.out | apply below_alloc | apply pw_below_drewN | apply below_drew1 | refine below_set ?_ GE218.out | refine below_set ?_ GE223.out) | exact HB.out))) | (with_reducible refine Kd.C_alloc ?_ _) | (with_reducible refine Kd.C_drewN ?_ _) | (with_reducible refine Kd.C_drew ?_)))
          (case side2 => exact HC220.out)
          rintro e w' ⟨rfl, ⟨nd, rfl⟩⟩
          refine ⟨_, rfl, ?_⟩
          refine hK.out _ _ trivial (fun hHeld => ?_)
          clear hK K
          refine norm_ (a' := ?_) ?_ ?_
          rotate_left
          · show Act.put _ (some 14) _ = _
            simp only [Act.put, List.setIfInBounds_toArray, List.set_cons_zero, List.set_cons_succ, i64_w, i32_w]
            rfl
          refine one_ (i := 6) (N := some 16) #[true, true, true, true, true, true, true, false, true, false] rfl rfl (one_of HT_.out (by kernel_rfl)) (by decide) (fun K hK => ?_)
          refine goes_ Try.func50 (by kernel_rfl) rfl #[.slice A0 l0.length c0] (by rfl) rfl rfl (by (try simp only [List.map_toArray, List.map_cons, List.map_nil]); first | done | rfl | (simp only [List.length_drop, List.length_take]; rfl)) ?_
          with_reducible refine (patchbayref02_Tagged.calls _ _ l0 t222 _ ?side1 ?side2 A8.out).mono ?_
          (case side1 => repeat (first | exact (Kd.C_below HR0.out (by repeat (first | (with_reducible first | exact HB.out | apply below_alloc | apply pw_below_drewN | apply below_drew1 | refine below_set ?_ GE218.out | refine below_set ?_ GE223.out) | exact HB.out))) | (with_reducible refine Kd.C_alloc ?_ _) | (with_reducible refine Kd.C_drewN ?_ _) | (with_reducible refine Kd.C_drew ?_)))
          (case side2 => exact HC0.out)
          rintro e w' ⟨rfl, ⟨nd, rfl⟩⟩
          refine ⟨_, rfl, ?_⟩
          refine hK.out _ _ trivial (fun hHeld => ?_)
          clear hK K
          refine norm_ (a' := ?_) ?_ ?_
          rotate_left
          · show Act.put _ (some 16) _ = _
            simp only [Act.put, List.setIfInBounds_toArray, List.set_cons_zero, List.set_cons_succ, i64_w, i32_w]
            rfl
          refine pure_ (i := 7) (N := some 17) (v := ?_) (a' := ?_) #[true, true, true, true, true, true, true, true, true, false] rfl rfl (any_of HT_.out (by kernel_rfl)) (fun _ _ _ h => h) (Or.inl ⟨by rfl, ?_⟩) ?_ ?_
          rotate_left
          · intro w'
            go_simp
            with_reducible rfl
          rotate_left
          · simp only [Act.put, List.setIfInBounds_toArray, List.set_cons_zero, List.set_cons_succ, i64_w, i32_w]
            rfl
          exact norm_ (by simp only [putAll, Act.put, List.setIfInBounds_toArray, List.set_cons_zero, List.set_cons_succ]) (hCont (gb223) _ ⟨(by (with_reducible repeat (first | refine blk_drewN ?_ _ | refine blk_drew ?_ | refine blk_alloc ?_ _)); exact BK218.out), (by (with_reducible repeat (first | refine blk_drewN ?_ _ | refine blk_drew ?_ | refine blk_alloc ?_ _)); exact BK223.out), GW223.out, GE223.out, NB218_223.out, NB223_218.out, (by repeat (first | (with_reducible first | exact HB.out | apply below_alloc | apply pw_below_drewN | apply below_drew1 | refine below_set ?_ GE218.out | refine below_set ?_ GE223.out) | exact HB.out))⟩)
      rintro gb223 w14 ⟨h0_, h1_, h2_, h3_, h4_, h5_, h6_⟩
      have n0_ : Aside0 (w14.heap[gb218]? = some (.cells #[.int .u64 0, .int .u64 0, .bool false, .int .u16 0, .int .u16 0, .slice none 0 0] 34 (0, 0))) := ⟨h0_⟩
      have n1_ : Aside0 (w14.heap[gb223]? = some (.cells #[.int .u64 0, .int .u64 0, .bool false, .int .u16 0, .int .u16 0, .slice none 0 0] 34 (0, 0))) := ⟨h1_⟩
      have n2_ : Aside0 (w.heap.size ≤ gb223) := ⟨h2_⟩
      have n3_ : Aside0 (w.heap.size ≤ gb223) := ⟨h3_⟩
      have n4_ : Aside0 (gb218 ≠ gb223) := ⟨h4_⟩
      have n5_ : Aside0 (gb223 ≠ gb218) := ⟨h5_⟩
      have n6_ : Aside0 (Below w.heap.size w w14) := ⟨h6_⟩
      clear BK218
      clear HB
      clear h0_ h1_ h2_ h3_ h4_ h5_ h6_
      have BK218 := n0_
      have BK223 := n1_
      have GW223 := n2_
      have GE223 := n3_
      have NB218_223 := n4_
      have NB223_218 := n5_
      have HB := n6_
      clear n0_ n1_ n2_ n3_ n4_ n5_ n6_
      have hHeld := trivial
      refine norm_ (a' := ?_) ?_ ?_
      rotate_left
      · simp only [putAll, Act.put, List.setIfInBounds_toArray, List.set_cons_zero, List.set_cons_succ]
        rfl
      refine one_ (i := 9) (N := none) #[true, true, true, true, true, true, true, true, true, true] rfl rfl (one_of HT_.out (by kernel_rfl)) (by decide) (fun K hK => ?_)
      have hs15 : w14.cell? ⟨gb223, 0, none⟩ = some (.int .u64 0) := (blk_cell BK223.out 0).trans rfl
      have hfs15 := blk_frozen BK223.out 0
      have hns15_0 := NB218_223.out
      have hms15_0 := NB223_218.out
      have hs16 : w14.cell? ⟨gb223, 1, none⟩ = some (.int .u64 0) := (blk_cell BK223.out 1).trans rfl
      have hfs16 := blk_frozen BK223.out 1
      have hns16_0 := NB218_223.out
      have hms16_0 := NB223_218.out
      have hs17 : w14.cell? ⟨gb223, 2, none⟩ = some (.bool false) := (blk_cell BK223.out 2).trans rfl
      have hfs17 := blk_frozen BK223.out 2
      have hns17_0 := NB218_223.out
      have hms17_0 := NB223_218.out
      have hs18 : w14.cell? ⟨gb223, 3, none⟩ = some (.int .u16 0) := (blk_cell BK223.out 3).trans rfl
      have hfs18 := blk_frozen BK223.out 3
      have hns18_0 := NB218_223.out
      have hms18_0 := NB223_218.out
      have hs19 : w14.cell? ⟨gb223, 4, none⟩ = some (.int .u16 0) := (blk_cell BK223.out 4).trans rfl
      have hfs19 := blk_frozen BK223.out 4
      have hns19_0 := NB218_223.out
      have hms19_0 := NB223_218.out
      have hs20 : w14.cell? ⟨gb223, 5, none⟩ = some (.slice none 0 0) := (blk_cell BK223.out 5).trans rfl
      have hfs20 := blk_frozen BK223.out 5
      have hns20_0 := NB218_223.out
      have hms20_0 := NB223_218.out
      refine skip_ (w1 := ?_) (by rfl) rfl ?_ ?_
      rotate_left
      · go_simp
        rfl
      refine hK.out _ _ trivial (fun hHeld => ?_)
      clear hK K
      refine done_ (done_of HT_.out (by kernel_rfl)) ?_
      have hnb21 := NB223_218.out
      have hnc21 := NB218_223.out
      have hcz22_0 : w14.cell? ⟨gb223, 0, none⟩ = some (.int .u64 0) := (blk_cell BK223.out 0).trans rfl
      have hcz22_1 : w14.cell? ⟨gb223, 1, none⟩ = some (.int .u64 0) := (blk_cell BK223.out 1).trans rfl
      have hcz22_2 : w14.cell? ⟨gb223, 2, none⟩ = some (.bool false) := (blk_cell BK223.out 2).trans rfl
      have hcz22_3 : w14.cell? ⟨gb223, 3, none⟩ = some (.int .u16 0) := (blk_cell BK223.out 3).trans rfl
      have hcz22_4 : w14.cell? ⟨gb223, 4, none⟩ = some (.int .u16 0) := (blk_cell BK223.out 4).trans rfl
      have hcz22_5 : w14.cell? ⟨gb223, 5, none⟩ = some (.slice none 0 0) := (blk_cell BK223.out 5).trans rfl
      have hfz22_0 := blk_frozen BK223.out 0
      have hfz22_1 := blk_frozen BK223.out 1
      have hfz22_2 := blk_frozen BK223.out 2
      have hfz22_3 := blk_frozen BK223.out 3
      have hfz22_4 := blk_frozen BK223.out 4
      have hfz22_5 := blk_frozen BK223.out 5
      go_upto_if 19 with (fail)
      go_cut [5] (fun v5 wc => ∃ (kq : Nat) (x5_8 : Int) (x224003_8 : Int), v5 = .int .i64 x5_8 ∧ Aside0 (patchbayref02_Parse.j0 kq l0 x5_8 t219 t221 t222 x224003_8 0 = some (r1, r2, r3, r4, r5, r6, r7)) ∧ Aside0 (kq ≤ k) ∧ Aside0 (wc.heap[gb218]? = some (.cells #[.int .u64 0, .int .u64 0, .bool false, .int .u16 0, .int .u16 0, (.slice none 0 0)] 34 (0, 0))) ∧ Aside0 (wc.heap[gb223]? = some (.cells #[.int .u64 t219, .int .u64 t221, .bool t222, .int .u16 x224003_8, .int .u16 0, (.slice none 0 0)] 34 (0, 0))) ∧ Aside0 (Below w.heap.size w wc))
      case first =>
        have H := HC9.out
        clear HC9
        by_cases c23 : t222 = true
        · subst c23
          have H1 : ((patchbayref02_two.f l0 14).bind fun t224 => (patchbayref02_Parse.j0 k l0 16 t219 t221 true t224 0)) = some (r1, r2, r3, r4, r5, r6, r7) := by rw [if_pos rfl] at H; exact H
          clear H
          have H := H1
          clear H1
          replace H := Option.bind_eq_some_iff.mp H
          obtain ⟨t224, A240, H⟩ := H
          replace H : (patchbayref02_Parse.j0 k l0 16 t219 t221 true t224 0) = some (r1, r2, r3, r4, r5, r6, r7) := H
          have A24 := Aside0.mk A240
          clear A240
          have H' := Aside0.mk H
          clear H
          go_wp2_with (first | ((with_reducible refine gate_callee (f := 51) rfl ?_); refine goesL_ (some 21) rfl rfl Try.func51 (by kernel_rfl) rfl #[.slice A0 l0.length c0, .int .i64 14] rfl (by (try simp only [List.map_toArray, List.map_cons, List.map_nil]); first | done | rfl | (simp only [List.length_drop, List.length_take]; rfl)) ?_; (with_reducible refine (patchbayref02_two.calls _ _ l0 14 t224 _ ?side1 ?side2 A24.out).mono ?_); (case side1 => exact Kd.C_below HR0.out (by repeat (first | (with_reducible first | exact HB.out | apply below_alloc | apply pw_below_drewN | apply below_drew1 | refine below_set ?_ GE218.out | refine below_set ?_ GE223.out) | exact HB.out))); (case side2 => exact HC0.out); rintro e w' ⟨rfl, ⟨nd, rfl⟩⟩; refine ⟨_, rfl, ?_⟩; have hnb25 := NB223_218.out; have hnc25 := NB218_223.out; have hcz26_0 : w14.cell? ⟨gb223, 0, none⟩ = some (.int .u64 0) := (blk_cell BK223.out 0).trans rfl; have hcz26_1 : w14.cell? ⟨gb223, 1, none⟩ = some (.int .u64 0) := (blk_cell BK223.out 1).trans rfl; have hcz26_2 : w14.cell? ⟨gb223, 2, none⟩ = some (.bool false) := (blk_cell BK223.out 2).trans rfl; have hcz26_3 : w14.cell? ⟨gb223, 3, none⟩ = some (.int .u16 0) := (blk_cell BK223.out 3).trans rfl; have hcz26_4 : w14.cell? ⟨gb223, 4, none⟩ = some (.int .u16 0) := (blk_cell BK223.out 4).trans rfl; have hcz26_5 : w14.cell? ⟨gb223, 5, none⟩ = some (.slice none 0 0) := (blk_cell BK223.out 5).trans rfl; have hfz26_0 := blk_frozen BK223.out 0; have hfz26_1 := blk_frozen BK223.out 1; have hfz26_2 := blk_frozen BK223.out 2; have hfz26_3 := blk_frozen BK223.out 3; have hfz26_4 := blk_frozen BK223.out 4; have hfz26_5 := blk_frozen BK223.out 5))
          go_meet
          case rel => exact ⟨_, (16), (t224), (by first | rfl | (simp; done) | (simp [*]; done)), H', ⟨by first | omega | exact Nat.le_refl _⟩, ⟨by (with_reducible repeat (first | refine blk_drewN ?_ _ | refine blk_drew ?_ | refine blk_alloc ?_ _)); refine blk_far ?_ NB218_223.out _; (with_reducible repeat (first | refine blk_drewN ?_ _ | refine blk_drew ?_ | refine blk_alloc ?_ _)); refine blk_far ?_ NB218_223.out _; (with_reducible repeat (first | refine blk_drewN ?_ _ | refine blk_drew ?_ | refine blk_alloc ?_ _)); refine blk_far ?_ NB218_223.out _; (with_reducible repeat (first | refine blk_drewN ?_ _ | refine blk_drew ?_ | refine blk_alloc ?_ _)); refine blk_far ?_ NB218_223.out _; (with_reducible repeat (first | refine blk_drewN ?_ _ | refine blk_drew ?_ | refine blk_alloc ?_ _)); refine blk_far ?_ NB218_223.out _; (with_reducible repeat (first | refine blk_drewN ?_ _ | refine blk_drew ?_ | refine blk_alloc ?_ _)); refine blk_far ?_ NB218_223.out _; (with_reducible repeat (first | refine blk_drewN ?_ _ | refine blk_drew ?_ | refine blk_alloc ?_ _)); refine blk_far ?_ NB218_223.out _; (with_reducible repeat (first | refine blk_drewN ?_ _ | refine blk_drew ?_ | refine blk_alloc ?_ _)); exact BK218.out⟩, ⟨by (with_reducible repeat (first | refine blk_drewN ?_ _ | refine blk_drew ?_ | refine blk_alloc ?_ _)); refine blk_put (cs := #[.int .u64 t219, .int .u64 t221, .bool true, .int .u16 0, .int .u16 0, .slice none 0 0]) ?_ 3 _ rfl; (with_reducible repeat (first | refine blk_drewN ?_ _ | refine blk_drew ?_ | refine blk_alloc ?_ _)); refine blk_put (cs := #[.int .u64 t219, .int .u64 t221, .bool true, .int .u16 0, .int .u16 0, .slice none 0 0]) ?_ 5 _ rfl; (with_reducible repeat (first | refine blk_drewN ?_ _ | refine blk_drew ?_ | refine blk_alloc ?_ _)); refine blk_put (cs := #[.int .u64 t219, .int .u64 t221, .bool true, .int .u16 0, .int .u16 0, .slice none 0 0]) ?_ 4 _ rfl; (with_reducible repeat (first | refine blk_drewN ?_ _ | refine blk_drew ?_ | refine blk_alloc ?_ _)); refine blk_put (cs := #[.int .u64 t219, .int .u64 t221, .bool true, .int .u16 0, .int .u16 0, .slice none 0 0]) ?_ 3 _ rfl; (with_reducible repeat (first | refine blk_drewN ?_ _ | refine blk_drew ?_ | refine blk_alloc ?_ _)); refine blk_put (cs := #[.int .u64 t219, .int .u64 t221, .bool false, .int .u16 0, .int .u16 0, .slice none 0 0]) ?_ 2 _ rfl; (with_reducible repeat (first | refine blk_drewN ?_ _ | refine blk_drew ?_ | refine blk_alloc ?_ _)); refine blk_put (cs := #[.int .u64 t219, .int .u64 0, .bool false, .int .u16 0, .int .u16 0, .slice none 0 0]) ?_ 1 _ rfl; (with_reducible repeat (first | refine blk_drewN ?_ _ | refine blk_drew ?_ | refine blk_alloc ?_ _)); refine blk_put (cs := #[.int .u64 0, .int .u64 0, .bool false, .int .u16 0, .int .u16 0, .slice none 0 0]) ?_ 0 _ rfl; (with_reducible repeat (first | refine blk_drewN ?_ _ | refine blk_drew ?_ | refine blk_alloc ?_ _)); exact BK223.out⟩, ⟨by repeat (first | (with_reducible first | exact HB.out | apply below_alloc | apply pw_below_drewN | apply below_drew1 | refine below_set ?_ GE218.out | refine below_set ?_ GE223.out) | exact HB.out)⟩⟩
        · replace c23 := Bool.eq_false_iff.mpr c23
          subst c23
          have H1 : (patchbayref02_Parse.j0 k l0 12 t219 t221 false 0 0) = some (r1, r2, r3, r4, r5, r6, r7) := by rw [if_neg (show ¬ (false = true) by decide)] at H; exact H
          clear H
          have H := H1
          clear H1
          have H' := Aside0.mk H
          clear H
          go_wp2
          go_meet
          case rel => exact ⟨_, (12), (0), (by first | rfl | (simp; done) | (simp [*]; done)), H', ⟨by first | omega | exact Nat.le_refl _⟩, ⟨by (with_reducible repeat (first | refine blk_drewN ?_ _ | refine blk_drew ?_ | refine blk_alloc ?_ _)); refine blk_far ?_ NB218_223.out _; (with_reducible repeat (first | refine blk_drewN ?_ _ | refine blk_drew ?_ | refine blk_alloc ?_ _)); refine blk_far ?_ NB218_223.out _; (with_reducible repeat (first | refine blk_drewN ?_ _ | refine blk_drew ?_ | refine blk_alloc ?_ _)); refine blk_far ?_ NB218_223.out _; (with_reducible repeat (first | refine blk_drewN ?_ _ | refine blk_drew ?_ | refine blk_alloc ?_ _)); refine blk_far ?_ NB218_223.out _; (with_reducible repeat (first | refine blk_drewN ?_ _ | refine blk_drew ?_ | refine blk_alloc ?_ _)); refine blk_far ?_ NB218_223.out _; (with_reducible repeat (first | refine blk_drewN ?_ _ | refine blk_drew ?_ | refine blk_alloc ?_ _)); refine blk_far ?_ NB218_223.out _; (with_reducible repeat (first | refine blk_drewN ?_ _ | refine blk_drew ?_ | refine blk_alloc ?_ _)); exact BK218.out⟩, ⟨by (with_reducible repeat (first | refine blk_drewN ?_ _ | refine blk_drew ?_ | refine blk_alloc ?_ _)); refine blk_put (cs := #[.int .u64 t219, .int .u64 t221, .bool false, .int .u16 0, .int .u16 0, .slice none 0 0]) ?_ 5 _ rfl; (with_reducible repeat (first | refine blk_drewN ?_ _ | refine blk_drew ?_ | refine blk_alloc ?_ _)); refine blk_put (cs := #[.int .u64 t219, .int .u64 t221, .bool false, .int .u16 0, .int .u16 0, .slice none 0 0]) ?_ 4 _ rfl; (with_reducible repeat (first | refine blk_drewN ?_ _ | refine blk_drew ?_ | refine blk_alloc ?_ _)); refine blk_put (cs := #[.int .u64 t219, .int .u64 t221, .bool false, .int .u16 0, .int .u16 0, .slice none 0 0]) ?_ 3 _ rfl; (with_reducible repeat (first | refine blk_drewN ?_ _ | refine blk_drew ?_ | refine blk_alloc ?_ _)); refine blk_put (cs := #[.int .u64 t219, .int .u64 t221, .bool false, .int .u16 0, .int .u16 0, .slice none 0 0]) ?_ 2 _ rfl; (with_reducible repeat (first | refine blk_drewN ?_ _ | refine blk_drew ?_ | refine blk_alloc ?_ _)); refine blk_put (cs := #[.int .u64 t219, .int .u64 0, .bool false, .int .u16 0, .int .u16 0, .slice none 0 0]) ?_ 1 _ rfl; (with_reducible repeat (first | refine blk_drewN ?_ _ | refine blk_drew ?_ | refine blk_alloc ?_ _)); refine blk_put (cs := #[.int .u64 0, .int .u64 0, .bool false, .int .u16 0, .int .u16 0, .slice none 0 0]) ?_ 0 _ rfl; (with_reducible repeat (first | refine blk_drewN ?_ _ | refine blk_drew ?_ | refine blk_alloc ?_ _)); exact BK223.out⟩, ⟨by repeat (first | (with_reducible first | exact HB.out | apply below_alloc | apply pw_below_drewN | apply below_drew1 | refine below_set ?_ GE218.out | refine below_set ?_ GE223.out) | exact HB.out)⟩⟩
      case rest =>
        clear HC9
        try clear c2
        try clear c2b0
        try clear c2b1
        try clear p2
        try clear c3
        try clear c5
        try clear c6
        try clear c6b0
        try clear c6b1
        try clear c20
        try clear c21
        try clear c23
        try clear c25
        try clear hcz22_0
        try clear hcz22_1
        try clear hcz22_2
        try clear hcz22_3
        try clear hcz22_4
        try clear hcz22_5
        try clear hcz26_0
        try clear hcz26_1
        try clear hcz26_2
        try clear hcz26_3
        try clear hcz26_4
        try clear hcz26_5
        try clear hcz4_0
        try clear hcz4_1
        try clear hcz4_2
        try clear hcz4_3
        try clear hcz4_4
        try clear hcz4_5
        try clear hfz22_0
        try clear hfz22_1
        try clear hfz22_2
        try clear hfz22_3
        try clear hfz22_4
        try clear hfz22_5
        try clear hfz26_0
        try clear hfz26_1
        try clear hfz26_2
        try clear hfz26_3
        try clear hfz26_4
        try clear hfz26_5
        try clear hfz4_0
        try clear hfz4_1
        try clear hfz4_2
        try clear hfz4_3
        try clear hfz4_4
        try clear hfz4_5
        obtain ⟨kq, x5_8, x224003_8, rfl, HA, HJ8, BK218, BK223, HB⟩ := hcut
        cases kq with
        | zero => exact absurd HA.out (by simp [patchbayref02_Parse.j0])
        | succ kj8 =>
          have H := HA.out
          clear HA
          simp only [patchbayref02_Parse.j0] at H
          by_cases c27 : (l0.length : Int) > (wrap64 (1502 + x5_8))
          · rw [if_pos c27] at H
            have c27b0 : decide ((wrap64 (1502 + x5_8)) < (l0.length : Int)) = true := decide_eq_true c27
            clear c27
            simp only [Option.some.injEq, Prod.mk.injEq] at H
            obtain ⟨rfl, rfl, rfl, rfl, rfl, rfl, rfl⟩ := H
            have hnb28 := NB218_223.out
            have hnc28 := NB223_218.out
            have hcz29_0 : wc.cell? ⟨gb218, 0, none⟩ = some (.int .u64 0) := (blk_cell BK218.out 0).trans rfl
            have hcz29_1 : wc.cell? ⟨gb218, 1, none⟩ = some (.int .u64 0) := (blk_cell BK218.out 1).trans rfl
            have hcz29_2 : wc.cell? ⟨gb218, 2, none⟩ = some (.bool false) := (blk_cell BK218.out 2).trans rfl
            have hcz29_3 : wc.cell? ⟨gb218, 3, none⟩ = some (.int .u16 0) := (blk_cell BK218.out 3).trans rfl
            have hcz29_4 : wc.cell? ⟨gb218, 4, none⟩ = some (.int .u16 0) := (blk_cell BK218.out 4).trans rfl
            have hcz29_5 : wc.cell? ⟨gb218, 5, none⟩ = some (.slice none 0 0) := (blk_cell BK218.out 5).trans rfl
            have hfz29_0 := blk_frozen BK218.out 0
            have hfz29_1 := blk_frozen BK218.out 1
            have hfz29_2 := blk_frozen BK218.out 2
            have hfz29_3 := blk_frozen BK218.out 3
            have hfz29_4 := blk_frozen BK218.out 4
            have hfz29_5 := blk_frozen BK218.out 5
            go_wp2
            refine bodyPost_ret (results_ct rfl _ _ gb218 34 #[.int .u64 0, .int .u64 0, .bool false, .int .u16 0, .int .u16 0, .slice none 0 0] (0, 0) _ rfl (by (with_reducible repeat (first | refine blk_drewN ?_ _ | refine blk_drew ?_ | refine blk_alloc ?_ _)); refine blk_put (cs := #[.int .u64 0, .int .u64 0, .bool false, .int .u16 0, .int .u16 0, .slice none 0 0]) ?_ 5 _ rfl; (with_reducible repeat (first | refine blk_drewN ?_ _ | refine blk_drew ?_ | refine blk_alloc ?_ _)); refine blk_put (cs := #[.int .u64 0, .int .u64 0, .bool false, .int .u16 0, .int .u16 0, .slice none 0 0]) ?_ 4 _ rfl; (with_reducible repeat (first | refine blk_drewN ?_ _ | refine blk_drew ?_ | refine blk_alloc ?_ _)); refine blk_put (cs := #[.int .u64 0, .int .u64 0, .bool false, .int .u16 0, .int .u16 0, .slice none 0 0]) ?_ 3 _ rfl; (with_reducible repeat (first | refine blk_drewN ?_ _ | refine blk_drew ?_ | refine blk_alloc ?_ _)); refine blk_put (cs := #[.int .u64 0, .int .u64 0, .bool false, .int .u16 0, .int .u16 0, .slice none 0 0]) ?_ 2 _ rfl; (with_reducible repeat (first | refine blk_drewN ?_ _ | refine blk_drew ?_ | refine blk_alloc ?_ _)); refine blk_put (cs := #[.int .u64 0, .int .u64 0, .bool false, .int .u16 0, .int .u16 0, .slice none 0 0]) ?_ 1 _ rfl; (with_reducible repeat (first | refine blk_drewN ?_ _ | refine blk_drew ?_ | refine blk_alloc ?_ _)); refine blk_put (cs := #[.int .u64 0, .int .u64 0, .bool false, .int .u16 0, .int .u16 0, .slice none 0 0]) ?_ 0 _ rfl; (with_reducible repeat (first | refine blk_drewN ?_ _ | refine blk_drew ?_ | refine blk_alloc ?_ _)); exact BK218.out) Try.underlying34 rfl (by kernel_rfl)) rfl ?_
            exact ⟨_, by first | rfl | (simp [errW_none, errW_some] <;> rfl) | (simp [*, errW_none, errW_some] <;> rfl), by first | exact Kd.R_nil _ _ _ _ _ | exact Kd.N_nil _ _ _ _ _ | exact Kd.V_nil _ _ _ _ _ | exact Kd.Q_nil _ _ _ _ _ | exact Kd.S_nil _ _ _ _ _, by repeat (first | (with_reducible first | exact HB.out | apply below_alloc | apply pw_below_drewN | apply below_drew1 | refine below_set ?_ GE218.out | refine below_set ?_ GE223.out) | exact HB.out)⟩
          · rw [if_neg c27] at H
            have c27b0 : decide ((wrap64 (1502 + x5_8)) < (l0.length : Int)) = false := decide_eq_false c27
            clear c27
            replace H := Option.bind_eq_some_iff.mp H
            obtain ⟨t225, A300, H⟩ := H
            replace H : ((some (([] : List Int) : List Int)).bind fun y226 => (if 0 ≤ (wrap64 (x5_8 + 2)) then (if (wrap64 (x5_8 + 2)) ≤ (l0.length : Int) then (if y226.length + (l0.drop ((wrap64 (x5_8 + 2)) : Int).toNat).length < 140737488355328 then ((some (y226 ++ (l0.drop ((wrap64 (x5_8 + 2)) : Int).toNat) : List Int)).bind fun y230 => ((patchbayref02_form.f t225 (y230.length : Int)).bind fun t233 => (if t233 = true then (some (t219, t221, t222, x224003_8, t225, y230, 0)) else (some (0, 0, false, 0, 0, ([] : List Int), 4))))) else (none)) else (none)) else (none))) = some (r1, r2, r3, r4, r5, r6, r7) := H
            have A30 := Aside0.mk A300
            clear A300
            obtain ⟨y226, hy226⟩ : ∃ y_ : List Int, y_ = (([] : List Int)) := ⟨_, rfl⟩
            replace H : (if 0 ≤ (wrap64 (x5_8 + 2)) then (if (wrap64 (x5_8 + 2)) ≤ (l0.length : Int) then (if y226.length + (l0.drop ((wrap64 (x5_8 + 2)) : Int).toNat).length < 140737488355328 then ((some (y226 ++ (l0.drop ((wrap64 (x5_8 + 2)) : Int).toNat) : List Int)).bind fun y230 => ((patchbayref02_form.f t225 (y230.length : Int)).bind fun t233 => (if t233 = true then (some (t219, t221, t222, x224003_8, t225, y230, 0)) else (some (0, 0, false, 0, 0, ([] : List Int), 4))))) else (none)) else (none)) else (none)) = some (r1, r2, r3, r4, r5, r6, r7) := by first | (rw [hy226]; with_reducible exact H) | (have H2_ := (Option.bind_some _ _).symm.trans H; rw [hy226]; with_reducible exact H2_) | (have H2_ := (Option.bind_some _ _).symm.trans H; with_reducible exact H2_) | with_reducible exact H | (rw [hy226]; exact H) | exact H
            have Ny226 := Aside0.mk hy226
            clear hy226
            obtain ⟨ji31, hji31⟩ : ∃ j_ : Int, (wrap64 (x5_8 + 2)) = j_ := ⟨_, rfl⟩
            replace H : (if 0 ≤ (ji31) then (if (ji31) ≤ (l0.length : Int) then (if y226.length + (l0.drop ((ji31) : Int).toNat).length < 140737488355328 then ((some (y226 ++ (l0.drop ((ji31) : Int).toNat) : List Int)).bind fun y230 => ((patchbayref02_form.f t225 (y230.length : Int)).bind fun t233 => (if t233 = true then (some (t219, t221, t222, x224003_8, t225, y230, 0)) else (some (0, 0, false, 0, 0, ([] : List Int), 4))))) else (none)) else (none)) else (none)) = some (r1, r2, r3, r4, r5, r6, r7) := by first | (rw [hji31] at H; exact H) | (simp only [hji31] at H ⊢; exact H)
            (try rw [hji31] at A30)
            have hji31w : (IntKind.i64.wrap (x5_8 + 2)) = ji31 := (i64_w _).trans hji31
            by_cases c32 : 0 ≤ (ji31)
            · rw [if_pos c32] at H
              have c32b0 := eq_true c32
              have c32b1 : decide (0 ≤ (ji31)) = true := decide_eq_true c32
              clear c32
              by_cases c33 : (ji31) ≤ (l0.length : Int)
              · rw [if_pos c33] at H
                have c33b0 := eq_true c33
                have c33b1 : decide ((ji31) ≤ (l0.length : Int)) = true := decide_eq_true c33
                clear c33
                by_cases c34 : y226.length + (l0.drop ((ji31) : Int).toNat).length < 140737488355328
                · rw [if_pos c34] at H
                  have LMc34 := Aside0.mk c34
                  clear c34
                  obtain ⟨y230, hy230⟩ : ∃ y_ : List Int, y_ = (y226 ++ (l0.drop ((ji31) : Int).toNat)) := ⟨_, rfl⟩
                  replace H : ((patchbayref02_form.f t225 (y230.length : Int)).bind fun t233 => (if t233 = true then (some (t219, t221, t222, x224003_8, t225, y230, 0)) else (some (0, 0, false, 0, 0, ([] : List Int), 4)))) = some (r1, r2, r3, r4, r5, r6, r7) := by first | (rw [hy230]; with_reducible exact H) | (have H2_ := (Option.bind_some _ _).symm.trans H; rw [hy230]; with_reducible exact H2_) | (have H2_ := (Option.bind_some _ _).symm.trans H; with_reducible exact H2_) | with_reducible exact H | (rw [hy230]; exact H) | exact H
                  have Ny230 := Aside0.mk hy230
                  clear hy230
                  replace H := Option.bind_eq_some_iff.mp H
                  obtain ⟨t233, A350, H⟩ := H
                  replace H : (if t233 = true then (some (t219, t221, t222, x224003_8, t225, y230, 0)) else (some (0, 0, false, 0, 0, ([] : List Int), 4))) = some (r1, r2, r3, r4, r5, r6, r7) := H
                  have A35 := Aside0.mk A350
                  clear A350
                  by_cases c36 : t233 = true
                  · subst c36
                    have H1 : (some (t219, t221, t222, x224003_8, t225, y230, 0)) = some (r1, r2, r3, r4, r5, r6, r7) := by rw [if_pos rfl] at H; exact H
                    clear H
                    have H := H1
                    clear H1
                    simp only [Option.some.injEq, Prod.mk.injEq] at H
                    obtain ⟨rfl, rfl, rfl, rfl, rfl, rfl, rfl⟩ := H
                    go_wp2_with (first | ((with_reducible refine gate_callee (f := 51) rfl ?_); refine goesL_ (some 31) rfl rfl Try.func51 (by kernel_rfl) rfl #[.slice A0 l0.length c0, .int .i64 x5_8] rfl (by (try simp only [List.map_toArray, List.map_cons, List.map_nil]); first | done | rfl | (simp only [List.length_drop, List.length_take]; rfl)) ?_; (with_reducible refine (patchbayref02_two.calls _ _ l0 x5_8 t225 _ ?side1 ?side2 A30.out).mono ?_); (case side1 => repeat (first | exact (Kd.C_below HR0.out HB.out) | (with_reducible refine Kd.C_alloc ?_ _) | (with_reducible refine Kd.C_drewN ?_ _) | (with_reducible refine Kd.C_drew ?_))); (case side2 => exact HC0.out); rintro e w' ⟨rfl, ⟨nd, rfl⟩⟩; refine ⟨_, rfl, ?_⟩; (try (rw [drewN_self wc]; generalize hq_ : World.drewN wc _ = wc; have n0_ : Aside0 (wc.heap[gb218]? = some (.cells #[.int .u64 0, .int .u64 0, .bool false, .int .u16 0, .int .u16 0, .slice none 0 0] 34 (0, 0))) := ⟨by rw [← hq_]; exact (by (with_reducible repeat (first | refine blk_drewN ?_ _ | refine blk_drew ?_ | refine blk_alloc ?_ _)); exact BK218.out)⟩; have n1_ : Aside0 (wc.heap[gb223]? = some (.cells #[.int .u64 t219, .int .u64 t221, .bool t222, .int .u16 x224003_8, .int .u16 0, .slice none 0 0] 34 (0, 0))) := ⟨by rw [← hq_]; exact (by (with_reducible repeat (first | refine blk_drewN ?_ _ | refine blk_drew ?_ | refine blk_alloc ?_ _)); exact BK223.out)⟩; have n2_ : Aside0 (Below w.heap.size w wc) := ⟨by rw [← hq_]; exact (by repeat (first | (with_reducible first | exact HB.out | apply below_alloc | apply pw_below_drewN | apply below_drew1 | refine below_set ?_ GE218.out | refine below_set ?_ GE223.out) | exact HB.out))⟩; clear BK218 BK223 HB hq_; have BK218 := n0_; have BK223 := n1_; have HB := n2_; clear n0_ n1_ n2_)); have hnb37 := NB223_218.out; have hnc37 := NB218_223.out; have hcz38_0 : wc.cell? ⟨gb223, 0, none⟩ = some (.int .u64 t219) := (blk_cell BK223.out 0).trans rfl; have hcz38_1 : wc.cell? ⟨gb223, 1, none⟩ = some (.int .u64 t221) := (blk_cell BK223.out 1).trans rfl; have hcz38_2 : wc.cell? ⟨gb223, 2, none⟩ = some (.bool t222) := (blk_cell BK223.out 2).trans rfl; have hcz38_3 : wc.cell? ⟨gb223, 3, none⟩ = some (.int .u16 x224003_8) := (blk_cell BK223.out 3).trans rfl; have hcz38_4 : wc.cell? ⟨gb223, 4, none⟩ = some (.int .u16 0) := (blk_cell BK223.out 4).trans rfl; have hcz38_5 : wc.cell? ⟨gb223, 5, none⟩ = some (.slice none 0 0) := (blk_cell BK223.out 5).trans rfl; have hfz38_0 := blk_frozen BK223.out 0; have hfz38_1 := blk_frozen BK223.out 1; have hfz38_2 := blk_frozen BK223.out 2; have hfz38_3 := blk_frozen BK223.out 3; have hfz38_4 := blk_frozen BK223.out 4; have hfz38_5 := blk_frozen BK223.out 5) | ((with_reducible refine gate_dst (N := 33) rfl ?_); refine Kd.R_lit (Kd.int .u8) _ 5 ?hg (N := 33) ?hd (xs := ([] : List Int)) (inner := []) (ok := fun _ => True) (okp := fun _ => True) ?hr ?hp (fun _ hk => hk) trivial (Below.refl _ _) (Nat.le_refl _) (by simp) ?_; (case hd => rfl); (case hg => rfl); (case hr => first | (go_simp; done) | (go_simp; rfl)); (case hp => exact (Reps.none _ _)); intro v227 w39 ho40 hb hg_ hnew_; clear hg_ hnew_; (first | rw [← Ny226.out] at ho40 | (simp only [Int.reduceToNat] at ho40; rw [← Ny226.out] at ho40)); have n0_ := Aside0.mk (Kd.R_lower ho40 (below_size (by repeat (first | (with_reducible first | exact HB.out | apply below_alloc | apply pw_below_drewN | apply below_drew1 | refine below_set ?_ GE218.out | refine below_set ?_ GE223.out) | exact HB.out)))); have n1_ := Aside0.mk (blk_below (g := gb218) (o := .cells #[.int .u64 0, .int .u64 0, .bool false, .int .u16 0, .int .u16 0, .slice none 0 0] 34 (0, 0)) (by (with_reducible repeat (first | refine blk_drewN ?_ _ | refine blk_drew ?_ | refine blk_alloc ?_ _)); refine blk_far ?_ NB218_223.out _; (with_reducible repeat (first | refine blk_drewN ?_ _ | refine blk_drew ?_ | refine blk_alloc ?_ _)); exact BK218.out) hb); have n2_ := Aside0.mk (blk_below (g := gb223) (o := .cells #[.int .u64 t219, .int .u64 t221, .bool t222, .int .u16 x224003_8, .int .u16 t225, .slice none 0 0] 34 (0, 0)) (by (with_reducible repeat (first | refine blk_drewN ?_ _ | refine blk_drew ?_ | refine blk_alloc ?_ _)); refine blk_put (cs := #[.int .u64 t219, .int .u64 t221, .bool t222, .int .u16 x224003_8, .int .u16 0, .slice none 0 0]) ?_ 4 _ rfl; (with_reducible repeat (first | refine blk_drewN ?_ _ | refine blk_drew ?_ | refine blk_alloc ?_ _)); exact BK223.out) hb); have n3_ := Aside0.mk (below_step (by repeat (first | (with_reducible first | exact HB.out | apply below_alloc | apply pw_below_drewN | apply below_drew1 | refine below_set ?_ GE218.out | refine below_set ?_ GE223.out) | exact HB.out)) hb); clear BK218; clear BK223; clear HB; have HO228 := n0_; have BK218 := n1_; have BK223 := n2_; have HB := n3_; clear n0_ n1_ n2_ n3_; clear hb ho40; obtain ⟨i041, hi041, _, hsz41, _⟩ := info_parts info5; obtain ⟨A41, hcut41, hA41, hC41⟩ := print_drop_of (P := Try.prog) (Value.int .u8) 0 22 5 .i64 Try.underlying22 hi041 hsz41 A0 c0 l0 (ji31) (of_decide_eq_true (by first | (with_reducible assumption) | assumption)) (of_decide_eq_true (by first | (with_reducible assumption) | assumption)) HC0.out; have HR229 := Aside0.mk (Kd.C_of_reads (h1 := fun _ => rfl) (hA41 _ (Kd.reads_of_C HR0.out))); have HC229 := Aside0.mk hC41; clear hA41 hC41 hi041 hsz41) | ((with_reducible refine gate_builtin (b := .append) (xs := #[.tmp 33, .tmp 37]) rfl ?_); at_builtin; refine Kd.R_append_rows (Kd.int .u8) (w0 := w) w.heap.size rfl (.tmp 33) (.tmp 37) 22 5 (.int .u8 0) 1 rfl Try.underlying22 info5 rfl (by decide) (by omega) v227 y226 (l0.drop ((ji31) : Int).toNat) _ _ _ (fun _ => True) (fun _ => False) rfl rfl ?aO ?aR (fun _ _ h => h) (fun _ h => h.elim) ?aF ?aB ?aS ?aL ?_; (case aR => first | (rw [← show (l0.drop ((ji31) : Int).toNat).length = (l0.length - (ji31).toNat) from List.length_drop]; repeat (first | exact (Kd.C_below HR229.out HB.out) | (with_reducible refine Kd.C_alloc ?_ _) | (with_reducible refine Kd.C_drewN ?_ _) | (with_reducible refine Kd.C_drew ?_))) | (repeat (first | exact (Kd.C_below HR229.out HB.out) | (with_reducible refine Kd.C_alloc ?_ _) | (with_reducible refine Kd.C_drewN ?_ _) | (with_reducible refine Kd.C_drew ?_)))); (case aB => exact (by repeat (first | (with_reducible first | exact HB.out | apply below_alloc | apply pw_below_drewN | apply below_drew1 | refine below_set ?_ GE218.out | refine below_set ?_ GE223.out) | exact HB.out))); (case aF => exact (fun _ _ => trivial)); (case aO => exact (by (with_reducible repeat (first | apply Kd.R_alloc | apply Kd.R_drewN | apply Kd.R_drew)); exact HO228.out)); (case aS => exact (below_size (by repeat (first | (with_reducible first | exact HB.out | apply below_alloc | apply pw_below_drewN | apply below_drew1 | refine below_set ?_ GE218.out | refine below_set ?_ GE223.out) | exact HB.out)))); (case aL => have := LMc34.out; have hlx_ := (show (l0.drop ((ji31) : Int).toNat).length = (l0.length - (ji31).toNat) from List.length_drop); omega); intro v231 w42 ho hb hg hat; rw [← Ny230.out] at ho; have n0_ := Aside0.mk (blk_grown (g := gb218) (o := .cells #[.int .u64 0, .int .u64 0, .bool false, .int .u16 0, .int .u16 0, .slice none 0 0] 34 (0, 0)) (by (with_reducible repeat (first | refine blk_drewN ?_ _ | refine blk_drew ?_ | refine blk_alloc ?_ _)); exact BK218.out) hg (Kd.R_ne HO228.out BK218.out (by decide))); have n1_ := Aside0.mk (blk_grown (g := gb223) (o := .cells #[.int .u64 t219, .int .u64 t221, .bool t222, .int .u16 x224003_8, .int .u16 t225, .slice none 0 0] 34 (0, 0)) (by (with_reducible repeat (first | refine blk_drewN ?_ _ | refine blk_drew ?_ | refine blk_alloc ?_ _)); exact BK223.out) hg (Kd.R_ne HO228.out BK223.out (by decide))); have n2_ := Aside0.mk (hb); have n3_ := Aside0.mk (ho); clear BK218; clear BK223; clear HB; clear HO228; have BK218 := n0_; have BK223 := n1_; have HB := n2_; have HO232 := n3_; clear n0_ n1_ n2_ n3_; clear ho hb hg hat; obtain ⟨Ao43, co43, eo43⟩ := Kd.R_slice HO232.out; subst eo43; have hcz44_0 : w42.cell? ⟨gb223, 0, none⟩ = some (.int .u64 t219) := (blk_cell BK223.out 0).trans rfl; have hcz44_1 : w42.cell? ⟨gb223, 1, none⟩ = some (.int .u64 t221) := (blk_cell BK223.out 1).trans rfl; have hcz44_2 : w42.cell? ⟨gb223, 2, none⟩ = some (.bool t222) := (blk_cell BK223.out 2).trans rfl; have hcz44_3 : w42.cell? ⟨gb223, 3, none⟩ = some (.int .u16 x224003_8) := (blk_cell BK223.out 3).trans rfl; have hcz44_4 : w42.cell? ⟨gb223, 4, none⟩ = some (.int .u16 t225) := (blk_cell BK223.out 4).trans rfl; have hcz44_5 : w42.cell? ⟨gb223, 5, none⟩ = some (.slice none 0 0) := (blk_cell BK223.out 5).trans rfl; have hfz44_0 := blk_frozen BK223.out 0; have hfz44_1 := blk_frozen BK223.out 1; have hfz44_2 := blk_frozen BK223.out 2; have hfz44_3 := blk_frozen BK223.out 3; have hfz44_4 := blk_frozen BK223.out 4; have hfz44_5 := blk_frozen BK223.out 5) | ((with_reducible refine gate_callee (f := 52) rfl ?_); refine goesL_ (some 45) rfl rfl Try.func52 (by kernel_rfl) rfl #[.int .u16 t225, .int .i64 (y230.length : Int)] rfl (by (try simp only [List.map_toArray, List.map_cons, List.map_nil]); first | done | rfl | (simp only [List.length_drop, List.length_take]; rfl)) ?_; (with_reducible refine (patchbayref02_form.calls t225 (y230.length : Int) true _ A35.out).mono ?_); rintro e w' ⟨rfl, ⟨nd, rfl⟩⟩; refine ⟨_, rfl, ?_⟩; have hcz45_0 : w42.cell? ⟨gb218, 0, none⟩ = some (.int .u64 0) := (blk_cell BK218.out 0).trans rfl; have hcz45_1 : w42.cell? ⟨gb218, 1, none⟩ = some (.int .u64 0) := (blk_cell BK218.out 1).trans rfl; have hcz45_2 : w42.cell? ⟨gb218, 2, none⟩ = some (.bool false) := (blk_cell BK218.out 2).trans rfl; have hcz45_3 : w42.cell? ⟨gb218, 3, none⟩ = some (.int .u16 0) := (blk_cell BK218.out 3).trans rfl; have hcz45_4 : w42.cell? ⟨gb218, 4, none⟩ = some (.int .u16 0) := (blk_cell BK218.out 4).trans rfl; have hcz45_5 : w42.cell? ⟨gb218, 5, none⟩ = some (.slice none 0 0) := (blk_cell BK218.out 5).trans rfl; have hfz45_0 := blk_frozen BK218.out 0; have hfz45_1 := blk_frozen BK218.out 1; have hfz45_2 := blk_frozen BK218.out 2; have hfz45_3 := blk_frozen BK218.out 3; have hfz45_4 := blk_frozen BK218.out 4; have hfz45_5 := blk_frozen BK218.out 5))
                    refine bodyPost_ret (results_ct rfl _ _ gb218 34 #[.int .u64 t219, .int .u64 t221, .bool t222, .int .u16 x224003_8, .int .u16 t225, .slice Ao43 y230.length co43] (0, 0) _ rfl (by (with_reducible repeat (first | refine blk_drewN ?_ _ | refine blk_drew ?_ | refine blk_alloc ?_ _)); refine blk_put (cs := #[.int .u64 t219, .int .u64 t221, .bool t222, .int .u16 x224003_8, .int .u16 t225, .slice none 0 0]) ?_ 5 _ rfl; (with_reducible repeat (first | refine blk_drewN ?_ _ | refine blk_drew ?_ | refine blk_alloc ?_ _)); refine blk_put (cs := #[.int .u64 t219, .int .u64 t221, .bool t222, .int .u16 x224003_8, .int .u16 0, .slice none 0 0]) ?_ 4 _ rfl; (with_reducible repeat (first | refine blk_drewN ?_ _ | refine blk_drew ?_ | refine blk_alloc ?_ _)); refine blk_put (cs := #[.int .u64 t219, .int .u64 t221, .bool t222, .int .u16 0, .int .u16 0, .slice none 0 0]) ?_ 3 _ rfl; (with_reducible repeat (first | refine blk_drewN ?_ _ | refine blk_drew ?_ | refine blk_alloc ?_ _)); refine blk_put (cs := #[.int .u64 t219, .int .u64 t221, .bool false, .int .u16 0, .int .u16 0, .slice none 0 0]) ?_ 2 _ rfl; (with_reducible repeat (first | refine blk_drewN ?_ _ | refine blk_drew ?_ | refine blk_alloc ?_ _)); refine blk_put (cs := #[.int .u64 t219, .int .u64 0, .bool false, .int .u16 0, .int .u16 0, .slice none 0 0]) ?_ 1 _ rfl; (with_reducible repeat (first | refine blk_drewN ?_ _ | refine blk_drew ?_ | refine blk_alloc ?_ _)); refine blk_put (cs := #[.int .u64 0, .int .u64 0, .bool false, .int .u16 0, .int .u16 0, .slice none 0 0]) ?_ 0 _ rfl; (with_reducible repeat (first | refine blk_drewN ?_ _ | refine blk_drew ?_ | refine blk_alloc ?_ _)); refine blk_far ?_ NB218_223.out _; (with_reducible repeat (first | refine blk_drewN ?_ _ | refine blk_drew ?_ | refine blk_alloc ?_ _)); exact BK218.out) Try.underlying34 rfl (by kernel_rfl)) rfl ?_
                    exact ⟨_, by first | rfl | (simp [errW_none, errW_some] <;> rfl) | (simp only [← hji31]; first | rfl | (simp [errW_none, errW_some] <;> rfl)) | (simp [*, errW_none, errW_some] <;> rfl), by (with_reducible repeat (first | apply Kd.R_alloc | apply Kd.R_drewN | apply Kd.R_drew)); exact Kd.R_mono (Kd.R_far (p := ⟨gb218, 5, none⟩) (Kd.R_far (p := ⟨gb218, 4, none⟩) (Kd.R_far (p := ⟨gb218, 3, none⟩) (Kd.R_far (p := ⟨gb218, 2, none⟩) (Kd.R_far (p := ⟨gb218, 1, none⟩) (Kd.R_far (p := ⟨gb218, 0, none⟩) (Kd.R_far (p := ⟨gb223, 5, none⟩) (Kd.R_types (Kd.R_types HO232.out BK223.out (by decide)) BK218.out (by decide)) (fun _ hk => hk.1.2) (.slice Ao43 y230.length co43)) (fun _ hk => hk.2) (.int .u64 t219)) (fun _ hk => hk.2) (.int .u64 t221)) (fun _ hk => hk.2) (.bool t222)) (fun _ hk => hk.2) (.int .u16 x224003_8)) (fun _ hk => hk.2) (.int .u16 t225)) (fun _ hk => hk.2) (.slice Ao43 y230.length co43)) (fun _ hk => trivial), by repeat (first | (with_reducible first | exact HB.out | apply below_alloc | apply pw_below_drewN | apply below_drew1 | refine below_set ?_ GE218.out | refine below_set ?_ GE223.out) | exact HB.out)⟩
                  · replace c36 := Bool.eq_false_iff.mpr c36
                    subst c36
                    have H1 : (some (0, 0, false, 0, 0, ([] : List Int), 4)) = some (r1, r2, r3, r4, r5, r6, r7) := by rw [if_neg (show ¬ (false = true) by decide)] at H; exact H
                    clear H
                    have H := H1
                    clear H1
                    simp only [Option.some.injEq, Prod.mk.injEq] at H
                    obtain ⟨rfl, rfl, rfl, rfl, rfl, rfl, rfl⟩ := H
                    go_wp2_with (first | ((with_reducible refine gate_callee (f := 51) rfl ?_); refine goesL_ (some 31) rfl rfl Try.func51 (by kernel_rfl) rfl #[.slice A0 l0.length c0, .int .i64 x5_8] rfl (by (try simp only [List.map_toArray, List.map_cons, List.map_nil]); first | done | rfl | (simp only [List.length_drop, List.length_take]; rfl)) ?_; (with_reducible refine (patchbayref02_two.calls _ _ l0 x5_8 t225 _ ?side1 ?side2 A30.out).mono ?_); (case side1 => repeat (first | exact (Kd.C_below HR0.out HB.out) | (with_reducible refine Kd.C_alloc ?_ _) | (with_reducible refine Kd.C_drewN ?_ _) | (with_reducible refine Kd.C_drew ?_))); (case side2 => exact HC0.out); rintro e w' ⟨rfl, ⟨nd, rfl⟩⟩; refine ⟨_, rfl, ?_⟩; (try (rw [drewN_self wc]; generalize hq_ : World.drewN wc _ = wc; have n0_ : Aside0 (wc.heap[gb218]? = some (.cells #[.int .u64 0, .int .u64 0, .bool false, .int .u16 0, .int .u16 0, .slice none 0 0] 34 (0, 0))) := ⟨by rw [← hq_]; exact (by (with_reducible repeat (first | refine blk_drewN ?_ _ | refine blk_drew ?_ | refine blk_alloc ?_ _)); exact BK218.out)⟩; have n1_ : Aside0 (wc.heap[gb223]? = some (.cells #[.int .u64 t219, .int .u64 t221, .bool t222, .int .u16 x224003_8, .int .u16 0, .slice none 0 0] 34 (0, 0))) := ⟨by rw [← hq_]; exact (by (with_reducible repeat (first | refine blk_drewN ?_ _ | refine blk_drew ?_ | refine blk_alloc ?_ _)); exact BK223.out)⟩; have n2_ : Aside0 (Below w.heap.size w wc) := ⟨by rw [← hq_]; exact (by repeat (first | (with_reducible first | exact HB.out | apply below_alloc | apply pw_below_drewN | apply below_drew1 | refine below_set ?_ GE218.out | refine below_set ?_ GE223.out) | exact HB.out))⟩; clear BK218 BK223 HB hq_; have BK218 := n0_; have BK223 := n1_; have HB := n2_; clear n0_ n1_ n2_)); have hnb46 := NB223_218.out; have hnc46 := NB218_223.out; have hcz47_0 : wc.cell? ⟨gb223, 0, none⟩ = some (.int .u64 t219) := (blk_cell BK223.out 0).trans rfl; have hcz47_1 : wc.cell? ⟨gb223, 1, none⟩ = some (.int .u64 t221) := (blk_cell BK223.out 1).trans rfl; have hcz47_2 : wc.cell? ⟨gb223, 2, none⟩ = some (.bool t222) := (blk_cell BK223.out 2).trans rfl; have hcz47_3 : wc.cell? ⟨gb223, 3, none⟩ = some (.int .u16 x224003_8) := (blk_cell BK223.out 3).trans rfl; have hcz47_4 : wc.cell? ⟨gb223, 4, none⟩ = some (.int .u16 0) := (blk_cell BK223.out 4).trans rfl; have hcz47_5 : wc.cell? ⟨gb223, 5, none⟩ = some (.slice none 0 0) := (blk_cell BK223.out 5).trans rfl; have hfz47_0 := blk_frozen BK223.out 0; have hfz47_1 := blk_frozen BK223.out 1; have hfz47_2 := blk_frozen BK223.out 2; have hfz47_3 := blk_frozen BK223.out 3; have hfz47_4 := blk_frozen BK223.out 4; have hfz47_5 := blk_frozen BK223.out 5) | ((with_reducible refine gate_dst (N := 33) rfl ?_); refine Kd.R_lit (Kd.int .u8) _ 5 ?hg (N := 33) ?hd (xs := ([] : List Int)) (inner := []) (ok := fun _ => True) (okp := fun _ => True) ?hr ?hp (fun _ hk => hk) trivial (Below.refl _ _) (Nat.le_refl _) (by simp) ?_; (case hd => rfl); (case hg => rfl); (case hr => first | (go_simp; done) | (go_simp; rfl)); (case hp => exact (Reps.none _ _)); intro v227 w48 ho49 hb hg_ hnew_; clear hg_ hnew_; (first | rw [← Ny226.out] at ho49 | (simp only [Int.reduceToNat] at ho49; rw [← Ny226.out] at ho49)); have n0_ := Aside0.mk (Kd.R_lower ho49 (below_size (by repeat (first | (with_reducible first | exact HB.out | apply below_alloc | apply pw_below_drewN | apply below_drew1 | refine below_set ?_ GE218.out | refine below_set ?_ GE223.out) | exact HB.out)))); have n1_ := Aside0.mk (blk_below (g := gb218) (o := .cells #[.int .u64 0, .int .u64 0, .bool false, .int .u16 0, .int .u16 0, .slice none 0 0] 34 (0, 0)) (by (with_reducible repeat (first | refine blk_drewN ?_ _ | refine blk_drew ?_ | refine blk_alloc ?_ _)); refine blk_far ?_ NB218_223.out _; (with_reducible repeat (first | refine blk_drewN ?_ _ | refine blk_drew ?_ | refine blk_alloc ?_ _)); exact BK218.out) hb); have n2_ := Aside0.mk (blk_below (g := gb223) (o := .cells #[.int .u64 t219, .int .u64 t221, .bool t222, .int .u16 x224003_8, .int .u16 t225, .slice none 0 0] 34 (0, 0)) (by (with_reducible repeat (first | refine blk_drewN ?_ _ | refine blk_drew ?_ | refine blk_alloc ?_ _)); refine blk_put (cs := #[.int .u64 t219, .int .u64 t221, .bool t222, .int .u16 x224003_8, .int .u16 0, .slice none 0 0]) ?_ 4 _ rfl; (with_reducible repeat (first | refine blk_drewN ?_ _ | refine blk_drew ?_ | refine blk_alloc ?_ _)); exact BK223.out) hb); have n3_ := Aside0.mk (below_step (by repeat (first | (with_reducible first | exact HB.out | apply below_alloc | apply pw_below_drewN | apply below_drew1 | refine below_set ?_ GE218.out | refine below_set ?_ GE223.out) | exact HB.out)) hb); clear BK218; clear BK223; clear HB; have HO228 := n0_; have BK218 := n1_; have BK223 := n2_; have HB := n3_; clear n0_ n1_ n2_ n3_; clear hb ho49; obtain ⟨i050, hi050, _, hsz50, _⟩ := info_parts info5; obtain ⟨A50, hcut50, hA50, hC50⟩ := print_drop_of (P := Try.prog) (Value.int .u8) 0 22 5 .i64 Try.underlying22 hi050 hsz50 A0 c0 l0 (ji31) (of_decide_eq_true (by first | (with_reducible assumption) | assumption)) (of_decide_eq_true (by first | (with_reducible assumption) | assumption)) HC0.out; have HR229 := Aside0.mk (Kd.C_of_reads (h1 := fun _ => rfl) (hA50 _ (Kd.reads_of_C HR0.out))); have HC229 := Aside0.mk hC50; clear hA50 hC50 hi050 hsz50) | ((with_reducible refine gate_builtin (b := .append) (xs := #[.tmp 33, .tmp 37]) rfl ?_); at_builtin; refine Kd.R_append_rows (Kd.int .u8) (w0 := w) w.heap.size rfl (.tmp 33) (.tmp 37) 22 5 (.int .u8 0) 1 rfl Try.underlying22 info5 rfl (by decide) (by omega) v227 y226 (l0.drop ((ji31) : Int).toNat) _ _ _ (fun _ => True) (fun _ => False) rfl rfl ?aO ?aR (fun _ _ h => h) (fun _ h => h.elim) ?aF ?aB ?aS ?aL ?_; (case aR => first | (rw [← show (l0.drop ((ji31) : Int).toNat).length = (l0.length - (ji31).toNat) from List.length_drop]; repeat (first | exact (Kd.C_below HR229.out HB.out) | (with_reducible refine Kd.C_alloc ?_ _) | (with_reducible refine Kd.C_drewN ?_ _) | (with_reducible refine Kd.C_drew ?_))) | (repeat (first | exact (Kd.C_below HR229.out HB.out) | (with_reducible refine Kd.C_alloc ?_ _) | (with_reducible refine Kd.C_drewN ?_ _) | (with_reducible refine Kd.C_drew ?_)))); (case aB => exact (by repeat (first | (with_reducible first | exact HB.out | apply below_alloc | apply pw_below_drewN | apply below_drew1 | refine below_set ?_ GE218.out | refine below_set ?_ GE223.out) | exact HB.out))); (case aF => exact (fun _ _ => trivial)); (case aO => exact (by (with_reducible repeat (first | apply Kd.R_alloc | apply Kd.R_drewN | apply Kd.R_drew)); exact HO228.out)); (case aS => exact (below_size (by repeat (first | (with_reducible first | exact HB.out | apply below_alloc | apply pw_below_drewN | apply below_drew1 | refine below_set ?_ GE218.out | refine below_set ?_ GE223.out) | exact HB.out)))); (case aL => have := LMc34.out; have hlx_ := (show (l0.drop ((ji31) : Int).toNat).length = (l0.length - (ji31).toNat) from List.length_drop); omega); intro v231 w51 ho hb hg hat; rw [← Ny230.out] at ho; have n0_ := Aside0.mk (blk_grown (g := gb218) (o := .cells #[.int .u64 0, .int .u64 0, .bool false, .int .u16 0, .int .u16 0, .slice none 0 0] 34 (0, 0)) (by (with_reducible repeat (first | refine blk_drewN ?_ _ | refine blk_drew ?_ | refine blk_alloc ?_ _)); exact BK218.out) hg (Kd.R_ne HO228.out BK218.out (by decide))); have n1_ := Aside0.mk (blk_grown (g := gb223) (o := .cells #[.int .u64 t219, .int .u64 t221, .bool t222, .int .u16 x224003_8, .int .u16 t225, .slice none 0 0] 34 (0, 0)) (by (with_reducible repeat (first | refine blk_drewN ?_ _ | refine blk_drew ?_ | refine blk_alloc ?_ _)); exact BK223.out) hg (Kd.R_ne HO228.out BK223.out (by decide))); have n2_ := Aside0.mk (hb); have n3_ := Aside0.mk (ho); clear BK218; clear BK223; clear HB; clear HO228; have BK218 := n0_; have BK223 := n1_; have HB := n2_; have HO232 := n3_; clear n0_ n1_ n2_ n3_; clear ho hb hg hat; obtain ⟨Ao52, co52, eo52⟩ := Kd.R_slice HO232.out; subst eo52; have hcz53_0 : w51.cell? ⟨gb223, 0, none⟩ = some (.int .u64 t219) := (blk_cell BK223.out 0).trans rfl; have hcz53_1 : w51.cell? ⟨gb223, 1, none⟩ = some (.int .u64 t221) := (blk_cell BK223.out 1).trans rfl; have hcz53_2 : w51.cell? ⟨gb223, 2, none⟩ = some (.bool t222) := (blk_cell BK223.out 2).trans rfl; have hcz53_3 : w51.cell? ⟨gb223, 3, none⟩ = some (.int .u16 x224003_8) := (blk_cell BK223.out 3).trans rfl; have hcz53_4 : w51.cell? ⟨gb223, 4, none⟩ = some (.int .u16 t225) := (blk_cell BK223.out 4).trans rfl; have hcz53_5 : w51.cell? ⟨gb223, 5, none⟩ = some (.slice none 0 0) := (blk_cell BK223.out 5).trans rfl; have hfz53_0 := blk_frozen BK223.out 0; have hfz53_1 := blk_frozen BK223.out 1; have hfz53_2 := blk_frozen BK223.out 2; have hfz53_3 := blk_frozen BK223.out 3; have hfz53_4 := blk_frozen BK223.out 4; have hfz53_5 := blk_frozen BK223.out 5) | ((with_reducible refine gate_callee (f := 52) rfl ?_); refine goesL_ (some 45) rfl rfl Try.func52 (by kernel_rfl) rfl #[.int .u16 t225, .int .i64 (y230.length : Int)] rfl (by (try simp only [List.map_toArray, List.map_cons, List.map_nil]); first | done | rfl | (simp only [List.length_drop, List.length_take]; rfl)) ?_; (with_reducible refine (patchbayref02_form.calls t225 (y230.length : Int) false _ A35.out).mono ?_); rintro e w' ⟨rfl, ⟨nd, rfl⟩⟩; refine ⟨_, rfl, ?_⟩; have hcz54_0 : w51.cell? ⟨gb218, 0, none⟩ = some (.int .u64 0) := (blk_cell BK218.out 0).trans rfl; have hcz54_1 : w51.cell? ⟨gb218, 1, none⟩ = some (.int .u64 0) := (blk_cell BK218.out 1).trans rfl; have hcz54_2 : w51.cell? ⟨gb218, 2, none⟩ = some (.bool false) := (blk_cell BK218.out 2).trans rfl; have hcz54_3 : w51.cell? ⟨gb218, 3, none⟩ = some (.int .u16 0) := (blk_cell BK218.out 3).trans rfl; have hcz54_4 : w51.cell? ⟨gb218, 4, none⟩ = some (.int .u16 0) := (blk_cell BK218.out 4).trans rfl; have hcz54_5 : w51.cell? ⟨gb218, 5, none⟩ = some (.slice none 0 0) := (blk_cell BK218.out 5).trans rfl; have hfz54_0 := blk_frozen BK218.out 0; have hfz54_1 := blk_frozen BK218.out 1; have hfz54_2 := blk_frozen BK218.out 2; have hfz54_3 := blk_frozen BK218.out 3; have hfz54_4 := blk_frozen BK218.out 4; have hfz54_5 := blk_frozen BK218.out 5))
                    refine bodyPost_ret (results_ct rfl _ _ gb218 34 #[.int .u64 0, .int .u64 0, .bool false, .int .u16 0, .int .u16 0, .slice none 0 0] (0, 0) _ rfl (by (with_reducible repeat (first | refine blk_drewN ?_ _ | refine blk_drew ?_ | refine blk_alloc ?_ _)); refine blk_put (cs := #[.int .u64 0, .int .u64 0, .bool false, .int .u16 0, .int .u16 0, .slice none 0 0]) ?_ 5 _ rfl; (with_reducible repeat (first | refine blk_drewN ?_ _ | refine blk_drew ?_ | refine blk_alloc ?_ _)); refine blk_put (cs := #[.int .u64 0, .int .u64 0, .bool false, .int .u16 0, .int .u16 0, .slice none 0 0]) ?_ 4 _ rfl; (with_reducible repeat (first | refine blk_drewN ?_ _ | refine blk_drew ?_ | refine blk_alloc ?_ _)); refine blk_put (cs := #[.int .u64 0, .int .u64 0, .bool false, .int .u16 0, .int .u16 0, .slice none 0 0]) ?_ 3 _ rfl; (with_reducible repeat (first | refine blk_drewN ?_ _ | refine blk_drew ?_ | refine blk_alloc ?_ _)); refine blk_put (cs := #[.int .u64 0, .int .u64 0, .bool false, .int .u16 0, .int .u16 0, .slice none 0 0]) ?_ 2 _ rfl; (with_reducible repeat (first | refine blk_drewN ?_ _ | refine blk_drew ?_ | refine blk_alloc ?_ _)); refine blk_put (cs := #[.int .u64 0, .int .u64 0, .bool false, .int .u16 0, .int .u16 0, .slice none 0 0]) ?_ 1 _ rfl; (with_reducible repeat (first | refine blk_drewN ?_ _ | refine blk_drew ?_ | refine blk_alloc ?_ _)); refine blk_put (cs := #[.int .u64 0, .int .u64 0, .bool false, .int .u16 0, .int .u16 0, .slice none 0 0]) ?_ 0 _ rfl; (with_reducible repeat (first | refine blk_drewN ?_ _ | refine blk_drew ?_ | refine blk_alloc ?_ _)); refine blk_far ?_ NB218_223.out _; (with_reducible repeat (first | refine blk_drewN ?_ _ | refine blk_drew ?_ | refine blk_alloc ?_ _)); exact BK218.out) Try.underlying34 rfl (by kernel_rfl)) rfl ?_
                    exact ⟨_, by first | rfl | (simp [errW_none, errW_some] <;> rfl) | (simp only [← hji31]; first | rfl | (simp [errW_none, errW_some] <;> rfl)) | (simp [*, errW_none, errW_some] <;> rfl), by first | exact Kd.R_nil _ _ _ _ _ | exact Kd.N_nil _ _ _ _ _ | exact Kd.V_nil _ _ _ _ _ | exact Kd.Q_nil _ _ _ _ _ | exact Kd.S_nil _ _ _ _ _, by repeat (first | (with_reducible first | exact HB.out | apply below_alloc | apply pw_below_drewN | apply below_drew1 | refine below_set ?_ GE218.out | refine below_set ?_ GE223.out) | exact HB.out)⟩
                · rw [if_neg c34] at H
                  exact absurd H (by simp)
              · rw [if_neg c33] at H
                exact absurd H (by simp)
            · rw [if_neg c32] at H
              exact absurd H (by simp)
    · rw [if_neg c6] at H
      exact absurd H (by simp)

end Go.Proofs.Ytdohdjfclnlpmaa.PFrame
