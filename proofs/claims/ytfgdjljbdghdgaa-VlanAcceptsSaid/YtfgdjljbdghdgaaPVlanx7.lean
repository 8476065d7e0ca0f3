/- Plain Lean functions of what a law comes to, and their contracts: the machine's call does what they say; no condition. Written by wip/myprint.sh over the kit's print.py. -/
import Derived.Test.YtfgdjljbdghdgaaPVlanx0
namespace Go.Proofs.Ytfgdjljbdghdgaa.PVlan
open Go.RowKit Go.Proofs.YtfgdjljbdghdgaaW.PrintWords Go.Proofs.YtfgdjljbdghdgaaW.PrintLast Go.Proofs.YtfgdjljbdghdgaaW.PrintMore
attribute [local go_sem] max2_int min2_int max_two min_two max_three min_three max_four min_four   -- for this text's walks alone
set_option linter.unusedVariables false
set_option linter.unusedSimpArgs false

/-! ### patchbayref01_Bytes: function 73 -/
def patchbayref01_Bytes.l0 : Nat → Int → List Int → Int → Option (List Int)
  | 0, _, _, _ => none
  | k + 1, x0, x3, x4 => if x4 < 6 then ((some (([(Int.tmod x0 256) % 256] : List Int) : List Int)).bind fun y169 => (if y169.length + x3.length < 140737488355328 then (patchbayref01_Bytes.l0 k (IntKind.u64.wrap (Int.tdiv x0 256)) (y169 ++ x3) (wrap64 (x4 + 1))) else (none))) else (some x3)
def patchbayref01_Bytes.f (k : Nat) (a0 : Int) : Option (List Int) := patchbayref01_Bytes.l0 k a0 ([] : List Int) 0
theorem patchbayref01_Bytes.mono_l : ∀ k, (∀ y0 y1 y2, LeO (patchbayref01_Bytes.l0 k y0 y1 y2) (patchbayref01_Bytes.l0 (k + 1) y0 y1 y2))
  | 0 => fun _ _ _ r h => by simp [patchbayref01_Bytes.l0] at h
  | k + 1 => by
    have ih0 := patchbayref01_Bytes.mono_l k
    · intro y0 y1 y2
      unfold patchbayref01_Bytes.l0
      repeat' first
      | (with_reducible exact ih0 _ _ _)
      | (with_reducible exact LeO.refl _)
      | (with_reducible exact LeO.none _)
      | (with_reducible refine LeO.ite ?_ ?_)
      | (with_reducible refine LeO.bind ?_ (fun _ => ?_))
      | exact ih0 _ _ _
      | exact LeO.none _
      | refine LeO.ite ?_ ?_
      | refine LeO.bind ?_ (fun _ => ?_)
theorem patchbayref01_Bytes.mono : ∀ a0 k, LeO (patchbayref01_Bytes.f k a0) (patchbayref01_Bytes.f (k + 1) a0) := by
  intro a0 k
  have ih0 := patchbayref01_Bytes.mono_l k
  unfold patchbayref01_Bytes.f
  repeat' first
      | (with_reducible exact ih0 _ _ _)
      | (with_reducible exact LeO.refl _)
      | (with_reducible exact LeO.none _)
      | (with_reducible refine LeO.ite ?_ ?_)
      | (with_reducible refine LeO.bind ?_ (fun _ => ?_))
      | exact ih0 _ _ _
      | exact LeO.none _
      | refine LeO.ite ?_ ?_
      | refine LeO.bind ?_ (fun _ => ?_)
set_option maxHeartbeats 8000000 in
set_option maxRecDepth 100000 in
theorem patchbayref01_Bytes.calls (k : Nat) (a0 : Int) (r : List Int) (w : World) (h : patchbayref01_Bytes.f k a0 = some r) :
    Calls Try.prog 73 #[.int .u64 a0] w fun e w' => ∃ v0_ : Value, e = .returned (v0_) ∧ Kd.R (Kd.int .u8) 5 w' w.heap.size (fun _ => True) v0_ r ∧ Below w.heap.size w w' := by
  have HB := Aside0.mk (Below.refl w.heap.size w)
  have H : (patchbayref01_Bytes.l0 k a0 ([] : List Int) 0) = some r := h
  clear h
  have H' := Aside0.mk H
  clear H
  go_enter Try.func73, Try.ntmps73
  go_wp2
  go_loopg [0, 3, 4] k (fun kq v0 v3 v4 w' => ∃ (x0_1 : Int) (x3_1 : List Int) (x4_1 : Int), v0 = .int .u64 x0_1 ∧ v4 = .int .i64 x4_1 ∧ Aside0 (patchbayref01_Bytes.l0 kq x0_1 x3_1 x4_1 = some r) ∧ Aside0 (kq ≤ k) ∧ Aside0 (Kd.R (Kd.int .u8) 5 w' w.heap.size (fun _ => True) v3 x3_1) ∧ Aside0 (Below w.heap.size w w'))
  case atStart => exact ⟨(a0), (([] : List Int)), (0), (by first | rfl | (simp; done) | (simp [*]; done)), (by first | rfl | (simp; done) | (simp [*]; done)), H', ⟨Nat.le_refl _⟩, ⟨by first | exact Kd.R_nil _ _ _ _ _ | exact Kd.N_nil _ _ _ _ _ | exact Kd.V_nil _ _ _ _ _ | exact Kd.Q_nil _ _ _ _ _ | exact Kd.S_nil _ _ _ _ _⟩, ⟨by repeat (first | (with_reducible first | exact HB.out | apply below_alloc | apply pw_below_drewN | apply below_drew1) | exact HB.out)⟩⟩
  case round =>
    clear H'
    obtain ⟨x0_1, x3_1, x4_1, rfl, rfl, HA, HK1, HO_3, HB⟩ := hrel
    cases gk with
    | zero => exact absurd HA.out (by simp [patchbayref01_Bytes.l0])
    | succ k1 =>
      have H := HA.out
      clear HA
      simp only [patchbayref01_Bytes.l0] at H
      by_cases c2 : x4_1 < 6
      · rw [if_pos c2] at H
        have c2b0 : decide (x4_1 < 6) = true := decide_eq_true c2
        clear c2
        obtain ⟨y169, hy169⟩ : ∃ y_ : List Int, y_ = (([(Int.tmod x0_1 256) % 256] : List Int)) := ⟨_, rfl⟩
        replace H : (if y169.length + x3_1.length < 140737488355328 then (patchbayref01_Bytes.l0 k1 (IntKind.u64.wrap (Int.tdiv x0_1 256)) (y169 ++ x3_1) (wrap64 (x4_1 + 1))) else (none)) = some r := by first | (rw [hy169]; with_reducible exact H) | (have H2_ := (Option.bind_some _ _).symm.trans H; rw [hy169]; with_reducible exact H2_) | (have H2_ := (Option.bind_some _ _).symm.trans H; with_reducible exact H2_) | with_reducible exact H | (rw [hy169]; exact H) | exact H
        have Ny169 := Aside0.mk hy169
        clear hy169
        by_cases c3 : y169.length + x3_1.length < 140737488355328
        · rw [if_pos c3] at H
          have LMc3 := Aside0.mk c3
          clear c3
          obtain ⟨y172, hy172⟩ : ∃ y_ : List Int, y_ = (y169 ++ x3_1) := ⟨_, rfl⟩
          replace H : (patchbayref01_Bytes.l0 k1 (IntKind.u64.wrap (Int.tdiv x0_1 256)) y172 (wrap64 (x4_1 + 1))) = some r := by first | (rw [hy172]; with_reducible exact H) | (have H2_ := (Option.bind_some _ _).symm.trans H; rw [hy172]; with_reducible exact H2_) | (have H2_ := (Option.bind_some _ _).symm.trans H; with_reducible exact H2_) | with_reducible exact H | (rw [hy172]; exact H) | exact H
          have Ny172 := Aside0.mk hy172
          clear hy172
          have H' := Aside0.mk H
          clear H
          go_wp2_with (first | ((with_reducible refine gate_dst (N := 12) rfl ?_); refine Kd.R_lit (Kd.int .u8) _ 5 ?hg (N := 12) ?hd (xs := ([(Int.tmod x0_1 256) % 256] : List Int)) (inner := [.int .u8 ((Int.tmod x0_1 256) % 256)]) (ok := fun _ => True) (okp := fun _ => True) ?hr ?hp (fun _ hk => hk) trivial (Below.refl _ _) (Nat.le_refl _) (by simp) ?_; (case hd => rfl); (case hg => rfl); (case hr => first | (go_simp; done) | (go_simp; rfl)); (case hp => exact (Reps.one (show Kd.M (Kd.int .u8) _ _ _ ((Int.tmod x0_1 256) % 256) [.int .u8 ((Int.tmod x0_1 256) % 256)] from rfl) (Reps.none _ _))); intro v170 w4 ho5 hb hg_ hnew_; clear hg_ hnew_; (first | rw [← Ny169.out] at ho5 | (simp only [Int.reduceToNat] at ho5; rw [← Ny169.out] at ho5)); have n0_ := Aside0.mk (Kd.R_elder' (by (with_reducible repeat (first | apply Kd.R_alloc | apply Kd.R_drewN | apply Kd.R_drew)); exact HO_3.out) (Kd.R_base ho5) hb); have n1_ := Aside0.mk (Kd.R_lower (Kd.R_new' ho5 (Kd.R_lt (by (with_reducible repeat (first | apply Kd.R_alloc | apply Kd.R_drewN | apply Kd.R_drew)); exact HO_3.out))) (below_size (by repeat (first | (with_reducible first | exact HB.out | apply below_alloc | apply pw_below_drewN | apply below_drew1) | exact HB.out)))); have n2_ := Aside0.mk (below_step (by repeat (first | (with_reducible first | exact HB.out | apply below_alloc | apply pw_below_drewN | apply below_drew1) | exact HB.out)) hb); clear HO_3; clear HB; have HO_3 := n0_; have HO171 := n1_; have HB := n2_; clear n0_ n1_ n2_; clear hb ho5; obtain ⟨Ao7, co7, eo7⟩ := Kd.R_slice HO_3.out; subst eo7) | ((with_reducible refine gate_builtin (b := .append) (xs := #[.tmp 12, .tmp 13]) rfl ?_); at_builtin; refine Kd.R_append_rows (Kd.int .u8) (w0 := w) w.heap.size rfl (.tmp 12) (.tmp 13) 37 5 (.int .u8 0) 1 rfl Try.underlying37 info5 rfl (by decide) (by omega) v170 y169 x3_1 _ _ _ (fun k_ => some k_ ≠ (.slice Ao7 x3_1.length co7 : Value).ownBlock) (fun _ => False) rfl rfl ?aO ?aR (fun _ _ h => h) (fun _ h => h.elim) ?aF ?aB ?aS ?aL ?_; (case aR => repeat (first | exact (Kd.R_reads' HO_3.out).2.2 | (with_reducible refine Kd.C_alloc ?_ _) | (with_reducible refine Kd.C_drewN ?_ _) | (with_reducible refine Kd.C_drew ?_))); (case aB => exact (by repeat (first | (with_reducible first | exact HB.out | apply below_alloc | apply pw_below_drewN | apply below_drew1) | exact HB.out))); (case aF => exact (fun k_ hk => Kd.fresh' (Kd.R_lt (by (with_reducible repeat (first | apply Kd.R_alloc | apply Kd.R_drewN | apply Kd.R_drew)); exact HO_3.out)) k_ hk)); (case aO => exact (by (with_reducible repeat (first | apply Kd.R_alloc | apply Kd.R_drewN | apply Kd.R_drew)); exact Kd.R_mono HO171.out (fun _ hk => hk.2))); (case aS => exact (below_size (by repeat (first | (with_reducible first | exact HB.out | apply below_alloc | apply pw_below_drewN | apply below_drew1) | exact HB.out)))); (case aL => have := LMc3.out; omega); intro v173 w6 ho hb hg hat; rw [← Ny172.out] at ho; have n0_ := Aside0.mk (Kd.R_after (ok := (fun _ => True)) (by (with_reducible repeat (first | apply Kd.R_alloc | apply Kd.R_drewN | apply Kd.R_drew)); exact HO_3.out) hg hat); have n1_ := Aside0.mk (hb); have n2_ := Aside0.mk (ho); clear HO_3; clear HB; clear HO171; have HO_3 := n0_; have HB := n1_; have HO174 := n2_; clear n0_ n1_ n2_; clear ho hb hg hat))
          go_roundg k1
          case measure => have := HK1.out; omega
          case rel => exact ⟨(IntKind.u64.wrap (Int.tdiv x0_1 256)), (y172), (wrap64 (x4_1 + 1)), (by first | rfl | (simp; done) | (simp [*]; done)), (by first | rfl | (simp; done) | (simp [*]; done)), H', ⟨by have := HK1.out; omega⟩, ⟨by (with_reducible repeat (first | apply Kd.R_alloc | apply Kd.R_drewN | apply Kd.R_drew)); exact Kd.R_mono HO174.out (fun _ hk => trivial)⟩, ⟨by repeat (first | (with_reducible first | exact HB.out | apply below_alloc | apply pw_below_drewN | apply below_drew1) | exact HB.out)⟩⟩
        · rw [if_neg c3] at H
          exact absurd H (by simp)
      · rw [if_neg c2] at H
        have c2b0 : decide (x4_1 < 6) = false := decide_eq_false c2
        clear c2
        obtain rfl := Option.some.inj H
        go_wp2
        go_ret
        exact ⟨_, by first | rfl | (simp [errW_none, errW_some] <;> rfl) | (simp [*, errW_none, errW_some] <;> rfl), by (with_reducible repeat (first | apply Kd.R_alloc | apply Kd.R_drewN | apply Kd.R_drew)); exact HO_3.out, by repeat (first | (with_reducible first | exact HB.out | apply below_alloc | apply pw_below_drewN | apply below_drew1) | exact HB.out)⟩

/-! ### patchbayref01_Low: function 74 -/
def patchbayref01_Low.f (a0 : Int) : Option (Int) := some (Int.tmod a0 281474976710656)
set_option maxHeartbeats 8000000 in
set_option maxRecDepth 100000 in
theorem patchbayref01_Low.calls (a0 : Int) (r : Int) (w : World) (h : patchbayref01_Low.f a0 = some r) :
    Calls Try.prog 74 #[.int .u64 a0] w fun e w' => e = .returned (.int .u64 r) ∧ Drawn0 w w' := by
  have H : (some (Int.tmod a0 281474976710656)) = some r := h
  clear h
  obtain rfl := Option.some.inj H
  go_enter Try.func74, Try.ntmps74
  go_wp2
  go_ret
  exact ⟨by first | rfl | (simp; done) | (simp [*]; done), by repeat (first | exact Drawn0.refl _ | apply Drawn0.step)⟩

/-! ### patchbayref01_Kind: function 54 -/
def patchbayref01_Kind.f (k : Nat) (a0 : Int) : Option (Int) := (patchbayref01_Bytes.f k a0).bind fun t175 => ((patchbayref01_Low.f a0).bind fun t178 => (if t178 = 281474976710655 then (some 2) else (if 0 < (t175.length : Int) then (if (rd t175 0) = 1 then (if 1 < (t175.length : Int) then (if (rd t175 1) = 128 then (if 2 < (t175.length : Int) then (if (rd t175 2) = 194 then (if 3 < (t175.length : Int) then (if (rd t175 3) = 0 then (if 4 < (t175.length : Int) then (if (rd t175 4) = 0 then (if 5 < (t175.length : Int) then (if (rd t175 5) < 16 then (some 3) else (some (wrap64 (Int.tmod (rd t175 0) 2)))) else (none)) else (some (wrap64 (Int.tmod (rd t175 0) 2)))) else (none)) else (some (wrap64 (Int.tmod (rd t175 0) 2)))) else (none)) else (some (wrap64 (Int.tmod (rd t175 0) 2)))) else (none)) else (some (wrap64 (Int.tmod (rd t175 0) 2)))) else (none)) else (some (wrap64 (Int.tmod (rd t175 0) 2)))) else (none))))
theorem patchbayref01_Kind.mono : ∀ a0 k, LeO (patchbayref01_Kind.f k a0) (patchbayref01_Kind.f (k + 1) a0) := by
  intro a0 k
  unfold patchbayref01_Kind.f
  repeat' first
      | (with_reducible exact patchbayref01_Bytes.mono _ _)
      | (with_reducible exact LeO.refl _)
      | (with_reducible exact LeO.none _)
      | (with_reducible refine LeO.ite ?_ ?_)
      | (with_reducible refine LeO.bind ?_ (fun _ => ?_))
      | exact patchbayref01_Bytes.mono _ _
      | exact LeO.none _
      | refine LeO.ite ?_ ?_
      | refine LeO.bind ?_ (fun _ => ?_)
set_option maxHeartbeats 8000000 in
set_option maxRecDepth 100000 in
theorem patchbayref01_Kind.calls (k : Nat) (a0 : Int) (r : Int) (w : World) (h : patchbayref01_Kind.f k a0 = some r) :
    Calls Try.prog 54 #[.int .u64 a0] w fun e w' => e = .returned (.int .i64 r) ∧ Below w.heap.size w w' := by
  have HB := Aside0.mk (Below.refl w.heap.size w)
  have H : ((patchbayref01_Bytes.f k a0).bind fun t175 => ((patchbayref01_Low.f a0).bind fun t178 => (if t178 = 281474976710655 then (some 2) else (if 0 < (t175.length : Int) then (if (rd t175 0) = 1 then (if 1 < (t175.length : Int) then (if (rd t175 1) = 128 then (if 2 < (t175.length : Int) then (if (rd t175 2) = 194 then (if 3 < (t175.length : Int) then (if (rd t175 3) = 0 then (if 4 < (t175.length : Int) then (if (rd t175 4) = 0 then (if 5 < (t175.length : Int) then (if (rd t175 5) < 16 then (some 3) else (some (wrap64 (Int.tmod (rd t175 0) 2)))) else (none)) else (some (wrap64 (Int.tmod (rd t175 0) 2)))) else (none)) else (some (wrap64 (Int.tmod (rd t175 0) 2)))) else (none)) else (some (wrap64 (Int.tmod (rd t175 0) 2)))) else (none)) else (some (wrap64 (Int.tmod (rd t175 0) 2)))) else (none)) else (some (wrap64 (Int.tmod (rd t175 0) 2)))) else (none))))) = some r := h
  clear h
  replace H := Option.bind_eq_some_iff.mp H
  obtain ⟨t175, A20, H⟩ := H
  replace H : ((patchbayref01_Low.f a0).bind fun t178 => (if t178 = 281474976710655 then (some 2) else (if 0 < (t175.length : Int) then (if (rd t175 0) = 1 then (if 1 < (t175.length : Int) then (if (rd t175 1) = 128 then (if 2 < (t175.length : Int) then (if (rd t175 2) = 194 then (if 3 < (t175.length : Int) then (if (rd t175 3) = 0 then (if 4 < (t175.length : Int) then (if (rd t175 4) = 0 then (if 5 < (t175.length : Int) then (if (rd t175 5) < 16 then (some 3) else (some (wrap64 (Int.tmod (rd t175 0) 2)))) else (none)) else (some (wrap64 (Int.tmod (rd t175 0) 2)))) else (none)) else (some (wrap64 (Int.tmod (rd t175 0) 2)))) else (none)) else (some (wrap64 (Int.tmod (rd t175 0) 2)))) else (none)) else (some (wrap64 (Int.tmod (rd t175 0) 2)))) else (none)) else (some (wrap64 (Int.tmod (rd t175 0) 2)))) else (none)))) = some r := H
  have A2 := Aside0.mk A20
  clear A20
  replace H := Option.bind_eq_some_iff.mp H
  obtain ⟨t178, A30, H⟩ := H
  replace H : (if t178 = 281474976710655 then (some 2) else (if 0 < (t175.length : Int) then (if (rd t175 0) = 1 then (if 1 < (t175.length : Int) then (if (rd t175 1) = 128 then (if 2 < (t175.length : Int) then (if (rd t175 2) = 194 then (if 3 < (t175.length : Int) then (if (rd t175 3) = 0 then (if 4 < (t175.length : Int) then (if (rd t175 4) = 0 then (if 5 < (t175.length : Int) then (if (rd t175 5) < 16 then (some 3) else (some (wrap64 (Int.tmod (rd t175 0) 2)))) else (none)) else (some (wrap64 (Int.tmod (rd t175 0) 2)))) else (none)) else (some (wrap64 (Int.tmod (rd t175 0) 2)))) else (none)) else (some (wrap64 (Int.tmod (rd t175 0) 2)))) else (none)) else (some (wrap64 (Int.tmod (rd t175 0) 2)))) else (none)) else (some (wrap64 (Int.tmod (rd t175 0) 2)))) else (none))) = some r := H
  have A3 := Aside0.mk A30
  clear A30
  by_cases c4 : t178 = 281474976710655
  · rw [if_pos c4] at H
    have c4b0 : (t178 == 281474976710655) = true := beq_iff_eq.mpr c4
    have c4b1 : (t178 != 281474976710655) = false := bne_eq_false_iff_eq.mpr c4
    clear c4
    obtain rfl := Option.some.inj H
    go_enter Try.func54, Try.ntmps54
    go_wp2_with (first | ((with_reducible refine gate_callee (f := 73) rfl ?_); refine goesL_ (some 5) rfl rfl Try.func73 (by kernel_rfl) rfl #[.int .u64 a0] rfl (by (try simp only [List.map_toArray, List.map_cons, List.map_nil]); first | done | rfl | (simp only [List.length_drop, List.length_take]; rfl)) ?_; (with_reducible refine (patchbayref01_Bytes.calls k a0 t175 _ A2.out).mono ?_); rintro e w5 ⟨v176, rfl, ho0, hb⟩; refine ⟨_, rfl, ?_⟩; have n0_ := Aside0.mk (Kd.R_lower ho0 (below_size (by repeat (first | (with_reducible first | exact HB.out | apply below_alloc | apply pw_below_drewN | apply below_drew1) | exact HB.out)))); have n1_ := Aside0.mk (below_step (by repeat (first | (with_reducible first | exact HB.out | apply below_alloc | apply pw_below_drewN | apply below_drew1) | exact HB.out)) hb); clear HB; have HO177 := n0_; have HB := n1_; clear n0_ n1_; (try clear hb); (try clear hb2); (try clear hk); (try clear hi); (try clear ho0)) | ((with_reducible refine gate_callee (f := 74) rfl ?_); refine goesL_ (some 7) rfl rfl Try.func74 (by kernel_rfl) rfl #[.int .u64 a0] rfl (by (try simp only [List.map_toArray, List.map_cons, List.map_nil]); first | done | rfl | (simp only [List.length_drop, List.length_take]; rfl)) ?_; (with_reducible refine (patchbayref01_Low.calls a0 t178 _ A3.out).mono ?_); rintro e w' ⟨rfl, ⟨nd, rfl⟩⟩; refine ⟨_, rfl, ?_⟩))
    go_ret
    exact ⟨by first | rfl | (simp [errW_none, errW_some] <;> rfl) | (simp [*, errW_none, errW_some] <;> rfl), by repeat (first | (with_reducible first | exact HB.out | apply below_alloc | apply pw_below_drewN | apply below_drew1) | exact HB.out)⟩
  · rw [if_neg c4] at H
    have c4b0 : (t178 == 281474976710655) = false := beq_eq_false_iff_ne.mpr c4
    have c4b1 : (t178 != 281474976710655) = true := bne_iff_ne.mpr c4
    by_cases c6 : 0 < (t175.length : Int)
    · rw [if_pos c6] at H
      have c6b0 : decide (0 < (t175.length : Int)) = true := decide_eq_true c6
      have c6b1 : decide (0 < t175.length) = true := decide_eq_true (by omega)
      clear c6
      by_cases c7 : (rd t175 0) = 1
      · rw [if_pos c7] at H
        have c7b0 : ((rd t175 0) == 1) = true := beq_iff_eq.mpr c7
        have c7b1 : ((rd t175 0) != 1) = false := bne_eq_false_iff_eq.mpr c7
        clear c7
        by_cases c8 : 1 < (t175.length : Int)
        · rw [if_pos c8] at H
          have c8b0 : decide (1 < (t175.length : Int)) = true := decide_eq_true c8
          have c8b1 : decide (1 < t175.length) = true := decide_eq_true (by omega)
          clear c8
          by_cases c9 : (rd t175 1) = 128
          · rw [if_pos c9] at H
            have c9b0 : ((rd t175 1) == 128) = true := beq_iff_eq.mpr c9
            have c9b1 : ((rd t175 1) != 128) = false := bne_eq_false_iff_eq.mpr c9
            clear c9
            by_cases c10 : 2 < (t175.length : Int)
            · rw [if_pos c10] at H
              have c10b0 : decide (2 < (t175.length : Int)) = true := decide_eq_true c10
              have c10b1 : decide (2 < t175.length) = true := decide_eq_true (by omega)
              clear c10
              by_cases c11 : (rd t175 2) = 194
              · rw [if_pos c11] at H
                have c11b0 : ((rd t175 2) == 194) = true := beq_iff_eq.mpr c11
                have c11b1 : ((rd t175 2) != 194) = false := bne_eq_false_iff_eq.mpr c11
                clear c11
                by_cases c12 : 3 < (t175.length : Int)
                · rw [if_pos c12] at H
                  have c12b0 : decide (3 < (t175.length : Int)) = true := decide_eq_true c12
                  have c12b1 : decide (3 < t175.length) = true := decide_eq_true (by omega)
                  clear c12
                  by_cases c13 : (rd t175 3) = 0
                  · rw [if_pos c13] at H
                    have c13b0 : ((rd t175 3) == 0) = true := beq_iff_eq.mpr c13
                    have c13b1 : ((rd t175 3) != 0) = false := bne_eq_false_iff_eq.mpr c13
                    clear c13
                    by_cases c14 : 4 < (t175.length : Int)
                    · rw [if_pos c14] at H
                      have c14b0 : decide (4 < (t175.length : Int)) = true := decide_eq_true c14
                      have c14b1 : decide (4 < t175.length) = true := decide_eq_true (by omega)
                      clear c14
                      by_cases c15 : (rd t175 4) = 0
                      · rw [if_pos c15] at H
                        have c15b0 : ((rd t175 4) == 0) = true := beq_iff_eq.mpr c15
                        have c15b1 : ((rd t175 4) != 0) = false := bne_eq_false_iff_eq.mpr c15
                        clear c15
                        by_cases c16 : 5 < (t175.length : Int)
                        · rw [if_pos c16] at H
                          have c16b0 : decide (5 < (t175.length : Int)) = true := decide_eq_true c16
                          have c16b1 : decide (5 < t175.length) = true := decide_eq_true (by omega)
                          clear c16
                          by_cases c17 : (rd t175 5) < 16
                          · rw [if_pos c17] at H
                            have c17b0 : decide ((rd t175 5) < 16) = true := decide_eq_true c17
                            clear c17
                            obtain rfl := Option.some.inj H
                            go_enter Try.func54, Try.ntmps54
                            go_wp2_with (first | ((with_reducible refine gate_callee (f := 73) rfl ?_); refine goesL_ (some 5) rfl rfl Try.func73 (by kernel_rfl) rfl #[.int .u64 a0] rfl (by (try simp only [List.map_toArray, List.map_cons, List.map_nil]); first | done | rfl | (simp only [List.length_drop, List.length_take]; rfl)) ?_; (with_reducible refine (patchbayref01_Bytes.calls k a0 t175 _ A2.out).mono ?_); rintro e w18 ⟨v176, rfl, ho0, hb⟩; refine ⟨_, rfl, ?_⟩; have n0_ := Aside0.mk (Kd.R_lower ho0 (below_size (by repeat (first | (with_reducible first | exact HB.out | apply below_alloc | apply pw_below_drewN | apply below_drew1) | exact HB.out)))); have n1_ := Aside0.mk (below_step (by repeat (first | (with_reducible first | exact HB.out | apply below_alloc | apply pw_below_drewN | apply below_drew1) | exact HB.out)) hb); clear HB; have HO177 := n0_; have HB := n1_; clear n0_ n1_; (try clear hb); (try clear hb2); (try clear hk); (try clear hi); (try clear ho0)) | ((with_reducible refine gate_callee (f := 74) rfl ?_); refine goesL_ (some 7) rfl rfl Try.func74 (by kernel_rfl) rfl #[.int .u64 a0] rfl (by (try simp only [List.map_toArray, List.map_cons, List.map_nil]); first | done | rfl | (simp only [List.length_drop, List.length_take]; rfl)) ?_; (with_reducible refine (patchbayref01_Low.calls a0 t178 _ A3.out).mono ?_); rintro e w' ⟨rfl, ⟨nd, rfl⟩⟩; refine ⟨_, rfl, ?_⟩; obtain ⟨Ao19, co19, eo19⟩ := Kd.R_slice HO177.out; subst eo19; have p179 : 0 ≤ (0 : Int) := (by omega); have q179 : 0 < (t175.length : Int) := of_decide_eq_true (by first | (with_reducible assumption) | assumption); obtain ⟨ad179, e179, hx179_0⟩ := Kd.at_int (Kd.R_reads' HO177.out).2.2 0 p179 q179; cases e179; have qi179 : (0 < t175.length) = True := eq_true (by omega); (try rw [show ((0 : Int)).toNat = 0 from rfl] at hx179_0); (try rw [Addr.add_zero'] at hx179_0); replace p179 := eq_true p179; replace q179 := eq_true q179; have p180 : 0 ≤ (1 : Int) := (by omega); have q180 : 1 < (t175.length : Int) := of_decide_eq_true (by first | (with_reducible assumption) | assumption); obtain ⟨ad180, e180, hx180_0⟩ := Kd.at_int (Kd.R_reads' HO177.out).2.2 1 p180 q180; obtain rfl : ad179 = ad180 := (by injection e180); (try simp only [show (1 : Int).toNat = 1 from rfl, Nat.reduceMul, Nat.reduceEqDiff, Go.Addr.add, ↓reduceIte] at hx180_0); have qi180 : (1 < t175.length) = True := eq_true (by omega); (try rw [show ((1 : Int)).toNat = 1 from rfl] at hx180_0); replace p180 := eq_true p180; replace q180 := eq_true q180; have p181 : 0 ≤ (2 : Int) := (by omega); have q181 : 2 < (t175.length : Int) := of_decide_eq_true (by first | (with_reducible assumption) | assumption); obtain ⟨ad181, e181, hx181_0⟩ := Kd.at_int (Kd.R_reads' HO177.out).2.2 2 p181 q181; obtain rfl : ad179 = ad181 := (by injection e181); (try simp only [show (2 : Int).toNat = 2 from rfl, Nat.reduceMul, Nat.reduceEqDiff, Go.Addr.add, ↓reduceIte] at hx181_0); have qi181 : (2 < t175.length) = True := eq_true (by omega); (try rw [show ((2 : Int)).toNat = 2 from rfl] at hx181_0); replace p181 := eq_true p181; replace q181 := eq_true q181; have p182 : 0 ≤ (3 : Int) := (by omega); have q182 : 3 < (t175.length : Int) := of_decide_eq_true (by first | (with_reducible assumption) | assumption); obtain ⟨ad182, e182, hx182_0⟩ := Kd.at_int (Kd.R_reads' HO177.out).2.2 3 p182 q182; obtain rfl : ad179 = ad182 := (by injection e182); (try simp only [show (3 : Int).toNat = 3 from rfl, Nat.reduceMul, Nat.reduceEqDiff, Go.Addr.add, ↓reduceIte] at hx182_0); have qi182 : (3 < t175.length) = True := eq_true (by omega); (try rw [show ((3 : Int)).toNat = 3 from rfl] at hx182_0); replace p182 := eq_true p182; replace q182 := eq_true q182; have p183 : 0 ≤ (4 : Int) := (by omega); have q183 : 4 < (t175.length : Int) := of_decide_eq_true (by first | (with_reducible assumption) | assumption); obtain ⟨ad183, e183, hx183_0⟩ := Kd.at_int (Kd.R_reads' HO177.out).2.2 4 p183 q183; obtain rfl : ad179 = ad183 := (by injection e183); (try simp only [show (4 : Int).toNat = 4 from rfl, Nat.reduceMul, Nat.reduceEqDiff, Go.Addr.add, ↓reduceIte] at hx183_0); have qi183 : (4 < t175.length) = True := eq_true (by omega); (try rw [show ((4 : Int)).toNat = 4 from rfl] at hx183_0); replace p183 := eq_true p183; replace q183 := eq_true q183; have p184 : 0 ≤ (5 : Int) := (by omega); have q184 : 5 < (t175.length : Int) := of_decide_eq_true (by first | (with_reducible assumption) | assumption); obtain ⟨ad184, e184, hx184_0⟩ := Kd.at_int (Kd.R_reads' HO177.out).2.2 5 p184 q184; obtain rfl : ad179 = ad184 := (by injection e184); (try simp only [show (5 : Int).toNat = 5 from rfl, Nat.reduceMul, Nat.reduceEqDiff, Go.Addr.add, ↓reduceIte] at hx184_0); have qi184 : (5 < t175.length) = True := eq_true (by omega); (try rw [show ((5 : Int)).toNat = 5 from rfl] at hx184_0); replace p184 := eq_true p184; replace q184 := eq_true q184))
                            go_ret
                            exact ⟨by first | rfl | (simp [errW_none, errW_some] <;> rfl) | (simp [*, errW_none, errW_some] <;> rfl), by repeat (first | (with_reducible first | exact HB.out | apply below_alloc | apply pw_below_drewN | apply below_drew1) | exact HB.out)⟩
                          · rw [if_neg c17] at H
                            have c17b0 : decide ((rd t175 5) < 16) = false := decide_eq_false c17
                            clear c17
                            obtain rfl := Option.some.inj H
                            go_enter Try.func54, Try.ntmps54
                            go_wp2_with (first | ((with_reducible refine gate_callee (f := 73) rfl ?_); refine goesL_ (some 5) rfl rfl Try.func73 (by kernel_rfl) rfl #[.int .u64 a0] rfl (by (try simp only [List.map_toArray, List.map_cons, List.map_nil]); first | done | rfl | (simp only [List.length_drop, List.length_take]; rfl)) ?_; (with_reducible refine (patchbayref01_Bytes.calls k a0 t175 _ A2.out).mono ?_); rintro e w20 ⟨v176, rfl, ho0, hb⟩; refine ⟨_, rfl, ?_⟩; have n0_ := Aside0.mk (Kd.R_lower ho0 (below_size (by repeat (first | (with_reducible first | exact HB.out | apply below_alloc | apply pw_below_drewN | apply below_drew1) | exact HB.out)))); have n1_ := Aside0.mk (below_step (by repeat (first | (with_reducible first | exact HB.out | apply below_alloc | apply pw_below_drewN | apply below_drew1) | exact HB.out)) hb); clear HB; have HO177 := n0_; have HB := n1_; clear n0_ n1_; (try clear hb); (try clear hb2); (try clear hk); (try clear hi); (try clear ho0)) | ((with_reducible refine gate_callee (f := 74) rfl ?_); refine goesL_ (some 7) rfl rfl Try.func74 (by kernel_rfl) rfl #[.int .u64 a0] rfl (by (try simp only [List.map_toArray, List.map_cons, List.map_nil]); first | done | rfl | (simp only [List.length_drop, List.length_take]; rfl)) ?_; (with_reducible refine (patchbayref01_Low.calls a0 t178 _ A3.out).mono ?_); rintro e w' ⟨rfl, ⟨nd, rfl⟩⟩; refine ⟨_, rfl, ?_⟩; obtain ⟨Ao21, co21, eo21⟩ := Kd.R_slice HO177.out; subst eo21; have p179 : 0 ≤ (0 : Int) := (by omega); have q179 : 0 < (t175.length : Int) := of_decide_eq_true (by first | (with_reducible assumption) | assumption); obtain ⟨ad179, e179, hx179_0⟩ := Kd.at_int (Kd.R_reads' HO177.out).2.2 0 p179 q179; cases e179; have qi179 : (0 < t175.length) = True := eq_true (by omega); (try rw [show ((0 : Int)).toNat = 0 from rfl] at hx179_0); (try rw [Addr.add_zero'] at hx179_0); replace p179 := eq_true p179; replace q179 := eq_true q179; have p180 : 0 ≤ (1 : Int) := (by omega); have q180 : 1 < (t175.length : Int) := of_decide_eq_true (by first | (with_reducible assumption) | assumption); obtain ⟨ad180, e180, hx180_0⟩ := Kd.at_int (Kd.R_reads' HO177.out).2.2 1 p180 q180; obtain rfl : ad179 = ad180 := (by injection e180); (try simp only [show (1 : Int).toNat = 1 from rfl, Nat.reduceMul, Nat.reduceEqDiff, Go.Addr.add, ↓reduceIte] at hx180_0); have qi180 : (1 < t175.length) = True := eq_true (by omega); (try rw [show ((1 : Int)).toNat = 1 from rfl] at hx180_0); replace p180 := eq_true p180; replace q180 := eq_true q180; have p181 : 0 ≤ (2 : Int) := (by omega); have q181 : 2 < (t175.length : Int) := of_decide_eq_true (by first | (with_reducible assumption) | assumption); obtain ⟨ad181, e181, hx181_0⟩ := Kd.at_int (Kd.R_reads' HO177.out).2.2 2 p181 q181; obtain rfl : ad179 = ad181 := (by injection e181); (try simp only [show (2 : Int).toNat = 2 from rfl, Nat.reduceMul, Nat.reduceEqDiff, Go.Addr.add, ↓reduceIte] at hx181_0); have qi181 : (2 < t175.length) = True := eq_true (by omega); (try rw [show ((2 : Int)).toNat = 2 from rfl] at hx181_0); replace p181 := eq_true p181; replace q181 := eq_true q181; have p182 : 0 ≤ (3 : Int) := (by omega); have q182 : 3 < (t175.length : Int) := of_decide_eq_true (by first | (with_reducible assumption) | assumption); obtain ⟨ad182, e182, hx182_0⟩ := Kd.at_int (Kd.R_reads' HO177.out).2.2 3 p182 q182; obtain rfl : ad179 = ad182 := (by injection e182); (try simp only [show (3 : Int).toNat = 3 from rfl, Nat.reduceMul, Nat.reduceEqDiff, Go.Addr.add, ↓reduceIte] at hx182_0); have qi182 : (3 < t175.length) = True := eq_true (by omega); (try rw [show ((3 : Int)).toNat = 3 from rfl] at hx182_0); replace p182 := eq_true p182; replace q182 := eq_true q182; have p183 : 0 ≤ (4 : Int) := (by omega); have q183 : 4 < (t175.length : Int) := of_decide_eq_true (by first | (with_reducible assumption) | assumption); obtain ⟨ad183, e183, hx183_0⟩ := Kd.at_int (Kd.R_reads' HO177.out).2.2 4 p183 q183; obtain rfl : ad179 = ad183 := (by injection e183); (try simp only [show (4 : Int).toNat = 4 from rfl, Nat.reduceMul, Nat.reduceEqDiff, Go.Addr.add, ↓reduceIte] at hx183_0); have qi183 : (4 < t175.length) = True := eq_true (by omega); (try rw [show ((4 : Int)).toNat = 4 from rfl] at hx183_0); replace p183 := eq_true p183; replace q183 := eq_true q183; have p184 : 0 ≤ (5 : Int) := (by omega); have q184 : 5 < (t175.length : Int) := of_decide_eq_true (by first | (with_reducible assumption) | assumption); obtain ⟨ad184, e184, hx184_0⟩ := Kd.at_int (Kd.R_reads' HO177.out).2.2 5 p184 q184; obtain rfl : ad179 = ad184 := (by injection e184); (try simp only [show (5 : Int).toNat = 5 from rfl, Nat.reduceMul, Nat.reduceEqDiff, Go.Addr.add, ↓reduceIte] at hx184_0); have qi184 : (5 < t175.length) = True := eq_true (by omega); (try rw [show ((5 : Int)).toNat = 5 from rfl] at hx184_0); replace p184 := eq_true p184; replace q184 := eq_true q184; have p185 : 0 ≤ (0 : Int) := (by omega); have q185 : 0 < (t175.length : Int) := of_decide_eq_true (by first | (with_reducible assumption) | assumption); obtain ⟨ad185, e185, hx185_0⟩ := Kd.at_int (Kd.R_reads' HO177.out).2.2 0 p185 q185; obtain rfl : ad179 = ad185 := (by injection e185); have qi185 : (0 < t175.length) = True := eq_true (by omega); (try rw [show ((0 : Int)).toNat = 0 from rfl] at hx185_0); (try rw [Addr.add_zero'] at hx185_0); replace p185 := eq_true p185; replace q185 := eq_true q185))
                            go_ret
                            exact ⟨by first | rfl | (simp [errW_none, errW_some] <;> rfl) | (simp [*, errW_none, errW_some] <;> rfl), by repeat (first | (with_reducible first | exact HB.out | apply below_alloc | apply pw_below_drewN | apply below_drew1) | exact HB.out)⟩
                        · rw [if_neg c16] at H
                          exact absurd H (by simp)
                      · rw [if_neg c15] at H
                        have c15b0 : ((rd t175 4) == 0) = false := beq_eq_false_iff_ne.mpr c15
                        have c15b1 : ((rd t175 4) != 0) = true := bne_iff_ne.mpr c15
                        obtain rfl := Option.some.inj H
                        go_enter Try.func54, Try.ntmps54
                        go_wp2_with (first | ((with_reducible refine gate_callee (f := 73) rfl ?_); refine goesL_ (some 5) rfl rfl Try.func73 (by kernel_rfl) rfl #[.int .u64 a0] rfl (by (try simp only [List.map_toArray, List.map_cons, List.map_nil]); first | done | rfl | (simp only [List.length_drop, List.length_take]; rfl)) ?_; (with_reducible refine (patchbayref01_Bytes.calls k a0 t175 _ A2.out).mono ?_); rintro e w22 ⟨v176, rfl, ho0, hb⟩; refine ⟨_, rfl, ?_⟩; have n0_ := Aside0.mk (Kd.R_lower ho0 (below_size (by repeat (first | (with_reducible first | exact HB.out | apply below_alloc | apply pw_below_drewN | apply below_drew1) | exact HB.out)))); have n1_ := Aside0.mk (below_step (by repeat (first | (with_reducible first | exact HB.out | apply below_alloc | apply pw_below_drewN | apply below_drew1) | exact HB.out)) hb); clear HB; have HO177 := n0_; have HB := n1_; clear n0_ n1_; (try clear hb); (try clear hb2); (try clear hk); (try clear hi); (try clear ho0)) | ((with_reducible refine gate_callee (f := 74) rfl ?_); refine goesL_ (some 7) rfl rfl Try.func74 (by kernel_rfl) rfl #[.int .u64 a0] rfl (by (try simp only [List.map_toArray, List.map_cons, List.map_nil]); first | done | rfl | (simp only [List.length_drop, List.length_take]; rfl)) ?_; (with_reducible refine (patchbayref01_Low.calls a0 t178 _ A3.out).mono ?_); rintro e w' ⟨rfl, ⟨nd, rfl⟩⟩; refine ⟨_, rfl, ?_⟩; obtain ⟨Ao23, co23, eo23⟩ := Kd.R_slice HO177.out; subst eo23; have p179 : 0 ≤ (0 : Int) := (by omega); have q179 : 0 < (t175.length : Int) := of_decide_eq_true (by first | (with_reducible assumption) | assumption); obtain ⟨ad179, e179, hx179_0⟩ := Kd.at_int (Kd.R_reads' HO177.out).2.2 0 p179 q179; cases e179; have qi179 : (0 < t175.length) = True := eq_true (by omega); (try rw [show ((0 : Int)).toNat = 0 from rfl] at hx179_0); (try rw [Addr.add_zero'] at hx179_0); replace p179 := eq_true p179; replace q179 := eq_true q179; have p180 : 0 ≤ (1 : Int) := (by omega); have q180 : 1 < (t175.length : Int) := of_decide_eq_true (by first | (with_reducible assumption) | assumption); obtain ⟨ad180, e180, hx180_0⟩ := Kd.at_int (Kd.R_reads' HO177.out).2.2 1 p180 q180; obtain rfl : ad179 = ad180 := (by injection e180); (try simp only [show (1 : Int).toNat = 1 from rfl, Nat.reduceMul, Nat.reduceEqDiff, Go.Addr.add, ↓reduceIte] at hx180_0); have qi180 : (1 < t175.length) = True := eq_true (by omega); (try rw [show ((1 : Int)).toNat = 1 from rfl] at hx180_0); replace p180 := eq_true p180; replace q180 := eq_true q180; have p181 : 0 ≤ (2 : Int) := (by omega); have q181 : 2 < (t175.length : Int) := of_decide_eq_true (by first | (with_reducible assumption) | assumption); obtain ⟨ad181, e181, hx181_0⟩ := Kd.at_int (Kd.R_reads' HO177.out).2.2 2 p181 q181; obtain rfl : ad179 = ad181 := (by injection e181); (try simp only [show (2 : Int).toNat = 2 from rfl, Nat.reduceMul, Nat.reduceEqDiff, Go.Addr.add, ↓reduceIte] at hx181_0); have qi181 : (2 < t175.length) = True := eq_true (by omega); (try rw [show ((2 : Int)).toNat = 2 from rfl] at hx181_0); replace p181 := eq_true p181; replace q181 := eq_true q181; have p182 : 0 ≤ (3 : Int) := (by omega); have q182 : 3 < (t175.length : Int) := of_decide_eq_true (by first | (with_reducible assumption) | assumption); obtain ⟨ad182, e182, hx182_0⟩ := Kd.at_int (Kd.R_reads' HO177.out).2.2 3 p182 q182; obtain rfl : ad179 = ad182 := (by injection e182); (try simp only [show (3 : Int).toNat = 3 from rfl, Nat.reduceMul, Nat.reduceEqDiff, Go.Addr.add, ↓reduceIte] at hx182_0); have qi182 : (3 < t175.length) = True := eq_true (by omega); (try rw [show ((3 : Int)).toNat = 3 from rfl] at hx182_0); replace p182 := eq_true p182; replace q182 := eq_true q182; have p183 : 0 ≤ (4 : Int) := (by omega); have q183 : 4 < (t175.length : Int) := of_decide_eq_true (by first | (with_reducible assumption) | assumption); obtain ⟨ad183, e183, hx183_0⟩ := Kd.at_int (Kd.R_reads' HO177.out).2.2 4 p183 q183; obtain rfl : ad179 = ad183 := (by injection e183); (try simp only [show (4 : Int).toNat = 4 from rfl, Nat.reduceMul, Nat.reduceEqDiff, Go.Addr.add, ↓reduceIte] at hx183_0); have qi183 : (4 < t175.length) = True := eq_true (by omega); (try rw [show ((4 : Int)).toNat = 4 from rfl] at hx183_0); replace p183 := eq_true p183; replace q183 := eq_true q183; have p186 : 0 ≤ (0 : Int) := (by omega); have q186 : 0 < (t175.length : Int) := of_decide_eq_true (by first | (with_reducible assumption) | assumption); obtain ⟨ad186, e186, hx186_0⟩ := Kd.at_int (Kd.R_reads' HO177.out).2.2 0 p186 q186; obtain rfl : ad179 = ad186 := (by injection e186); have qi186 : (0 < t175.length) = True := eq_true (by omega); (try rw [show ((0 : Int)).toNat = 0 from rfl] at hx186_0); (try rw [Addr.add_zero'] at hx186_0); replace p186 := eq_true p186; replace q186 := eq_true q186))
                        go_ret
                        exact ⟨by first | rfl | (simp [errW_none, errW_some] <;> rfl) | (simp [*, errW_none, errW_some] <;> rfl), by repeat (first | (with_reducible first | exact HB.out | apply below_alloc | apply pw_below_drewN | apply below_drew1) | exact HB.out)⟩
                    · rw [if_neg c14] at H
                      exact absurd H (by simp)
                  · rw [if_neg c13] at H
                    have c13b0 : ((rd t175 3) == 0) = false := beq_eq_false_iff_ne.mpr c13
                    have c13b1 : ((rd t175 3) != 0) = true := bne_iff_ne.mpr c13
                    obtain rfl := Option.some.inj H
                    go_enter Try.func54, Try.ntmps54
                    go_wp2_with (first | ((with_reducible refine gate_callee (f := 73) rfl ?_); refine goesL_ (some 5) rfl rfl Try.func73 (by kernel_rfl) rfl #[.int .u64 a0] rfl (by (try simp only [List.map_toArray, List.map_cons, List.map_nil]); first | done | rfl | (simp only [List.length_drop, List.length_take]; rfl)) ?_; (with_reducible refine (patchbayref01_Bytes.calls k a0 t175 _ A2.out).mono ?_); rintro e w24 ⟨v176, rfl, ho0, hb⟩; refine ⟨_, rfl, ?_⟩; have n0_ := Aside0.mk (Kd.R_lower ho0 (below_size (by repeat (first | (with_reducible first | exact HB.out | apply below_alloc | apply pw_below_drewN | apply below_drew1) | exact HB.out)))); have n1_ := Aside0.mk (below_step (by repeat (first | (with_reducible first | exact HB.out | apply below_alloc | apply pw_below_drewN | apply below_drew1) | exact HB.out)) hb); clear HB; have HO177 := n0_; have HB := n1_; clear n0_ n1_; (try clear hb); (try clear hb2); (try clear hk); (try clear hi); (try clear ho0)) | ((with_reducible refine gate_callee (f := 74) rfl ?_); refine goesL_ (some 7) rfl rfl Try.func74 (by kernel_rfl) rfl #[.int .u64 a0] rfl (by (try simp only [List.map_toArray, List.map_cons, List.map_nil]); first | done | rfl | (simp only [List.length_drop, List.length_take]; rfl)) ?_; (with_reducible refine (patchbayref01_Low.calls a0 t178 _ A3.out).mono ?_); rintro e w' ⟨rfl, ⟨nd, rfl⟩⟩; refine ⟨_, rfl, ?_⟩; obtain ⟨Ao25, co25, eo25⟩ := Kd.R_slice HO177.out; subst eo25; have p179 : 0 ≤ (0 : Int) := (by omega); have q179 : 0 < (t175.length : Int) := of_decide_eq_true (by first | (with_reducible assumption) | assumption); obtain ⟨ad179, e179, hx179_0⟩ := Kd.at_int (Kd.R_reads' HO177.out).2.2 0 p179 q179; cases e179; have qi179 : (0 < t175.length) = True := eq_true (by omega); (try rw [show ((0 : Int)).toNat = 0 from rfl] at hx179_0); (try rw [Addr.add_zero'] at hx179_0); replace p179 := eq_true p179; replace q179 := eq_true q179; have p180 : 0 ≤ (1 : Int) := (by omega); have q180 : 1 < (t175.length : Int) := of_decide_eq_true (by first | (with_reducible assumption) | assumption); obtain ⟨ad180, e180, hx180_0⟩ := Kd.at_int (Kd.R_reads' HO177.out).2.2 1 p180 q180; obtain rfl : ad179 = ad180 := (by injection e180); (try simp only [show (1 : Int).toNat = 1 from rfl, Nat.reduceMul, Nat.reduceEqDiff, Go.Addr.add, ↓reduceIte] at hx180_0); have qi180 : (1 < t175.length) = True := eq_true (by omega); (try rw [show ((1 : Int)).toNat = 1 from rfl] at hx180_0); replace p180 := eq_true p180; replace q180 := eq_true q180; have p181 : 0 ≤ (2 : Int) := (by omega); have q181 : 2 < (t175.length : Int) := of_decide_eq_true (by first | (with_reducible assumption) | assumption); obtain ⟨ad181, e181, hx181_0⟩ := Kd.at_int (Kd.R_reads' HO177.out).2.2 2 p181 q181; obtain rfl : ad179 = ad181 := (by injection e181); (try simp only [show (2 : Int).toNat = 2 from rfl, Nat.reduceMul, Nat.reduceEqDiff, Go.Addr.add, ↓reduceIte] at hx181_0); have qi181 : (2 < t175.length) = True := eq_true (by omega); (try rw [show ((2 : Int)).toNat = 2 from rfl] at hx181_0); replace p181 := eq_true p181; replace q181 := eq_true q181; have p182 : 0 ≤ (3 : Int) := (by omega); have q182 : 3 < (t175.length : Int) := of_decide_eq_true (by first | (with_reducible assumption) | assumption); obtain ⟨ad182, e182, hx182_0⟩ := Kd.at_int (Kd.R_reads' HO177.out).2.2 3 p182 q182; obtain rfl : ad179 = ad182 := (by injection e182); (try simp only [show (3 : Int).toNat = 3 from rfl, Nat.reduceMul, Nat.reduceEqDiff, Go.Addr.add, ↓reduceIte] at hx182_0); have qi182 : (3 < t175.length) = True := eq_true (by omega); (try rw [show ((3 : Int)).toNat = 3 from rfl] at hx182_0); replace p182 := eq_true p182; replace q182 := eq_true q182; have p187 : 0 ≤ (0 : Int) := (by omega); have q187 : 0 < (t175.length : Int) := of_decide_eq_true (by first | (with_reducible assumption) | assumption); obtain ⟨ad187, e187, hx187_0⟩ := Kd.at_int (Kd.R_reads' HO177.out).2.2 0 p187 q187; obtain rfl : ad179 = ad187 := (by injection e187); have qi187 : (0 < t175.length) = True := eq_true (by omega); (try rw [show ((0 : Int)).toNat = 0 from rfl] at hx187_0); (try rw [Addr.add_zero'] at hx187_0); replace p187 := eq_true p187; replace q187 := eq_true q187))
                    go_ret
                    exact ⟨by first | rfl | (simp [errW_none, errW_some] <;> rfl) | (simp [*, errW_none, errW_some] <;> rfl), by repeat (first | (with_reducible first | exact HB.out | apply below_alloc | apply pw_below_drewN | apply below_drew1) | exact HB.out)⟩
                · rw [if_neg c12] at H
                  exact absurd H (by simp)
              · rw [if_neg c11] at H
                have c11b0 : ((rd t175 2) == 194) = false := beq_eq_false_iff_ne.mpr c11
                have c11b1 : ((rd t175 2) != 194) = true := bne_iff_ne.mpr c11
                obtain rfl := Option.some.inj H
                go_enter Try.func54, Try.ntmps54
                go_wp2_with (first | ((with_reducible refine gate_callee (f := 73) rfl ?_); refine goesL_ (some 5) rfl rfl Try.func73 (by kernel_rfl) rfl #[.int .u64 a0] rfl (by (try simp only [List.map_toArray, List.map_cons, List.map_nil]); first | done | rfl | (simp only [List.length_drop, List.length_take]; rfl)) ?_; (with_reducible refine (patchbayref01_Bytes.calls k a0 t175 _ A2.out).mono ?_); rintro e w26 ⟨v176, rfl, ho0, hb⟩; refine ⟨_, rfl, ?_⟩; have n0_ := Aside0.mk (Kd.R_lower ho0 (below_size (by repeat (first | (with_reducible first | exact HB.out | apply below_alloc | apply pw_below_drewN | apply below_drew1) | exact HB.out)))); have n1_ := Aside0.mk (below_step (by repeat (first | (with_reducible first | exact HB.out | apply below_alloc | apply pw_below_drewN | apply below_drew1) | exact HB.out)) hb); clear HB; have HO177 := n0_; have HB := n1_; clear n0_ n1_; (try clear hb); (try clear hb2); (try clear hk); (try clear hi); (try clear ho0)) | ((with_reducible refine gate_callee (f := 74) rfl ?_); refine goesL_ (some 7) rfl rfl Try.func74 (by kernel_rfl) rfl #[.int .u64 a0] rfl (by (try simp only [List.map_toArray, List.map_cons, List.map_nil]); first | done | rfl | (simp only [List.length_drop, List.length_take]; rfl)) ?_; (with_reducible refine (patchbayref01_Low.calls a0 t178 _ A3.out).mono ?_); rintro e w' ⟨rfl, ⟨nd, rfl⟩⟩; refine ⟨_, rfl, ?_⟩; obtain ⟨Ao27, co27, eo27⟩ := Kd.R_slice HO177.out; subst eo27; have p179 : 0 ≤ (0 : Int) := (by omega); have q179 : 0 < (t175.length : Int) := of_decide_eq_true (by first | (with_reducible assumption) | assumption); obtain ⟨ad179, e179, hx179_0⟩ := Kd.at_int (Kd.R_reads' HO177.out).2.2 0 p179 q179; cases e179; have qi179 : (0 < t175.length) = True := eq_true (by omega); (try rw [show ((0 : Int)).toNat = 0 from rfl] at hx179_0); (try rw [Addr.add_zero'] at hx179_0); replace p179 := eq_true p179; replace q179 := eq_true q179; have p180 : 0 ≤ (1 : Int) := (by omega); have q180 : 1 < (t175.length : Int) := of_decide_eq_true (by first | (with_reducible assumption) | assumption); obtain ⟨ad180, e180, hx180_0⟩ := Kd.at_int (Kd.R_reads' HO177.out).2.2 1 p180 q180; obtain rfl : ad179 = ad180 := (by injection e180); (try simp only [show (1 : Int).toNat = 1 from rfl, Nat.reduceMul, Nat.reduceEqDiff, Go.Addr.add, ↓reduceIte] at hx180_0); have qi180 : (1 < t175.length) = True := eq_true (by omega); (try rw [show ((1 : Int)).toNat = 1 from rfl] at hx180_0); replace p180 := eq_true p180; replace q180 := eq_true q180; have p181 : 0 ≤ (2 : Int) := (by omega); have q181 : 2 < (t175.length : Int) := of_decide_eq_true (by first | (with_reducible assumption) | assumption); obtain ⟨ad181, e181, hx181_0⟩ := Kd.at_int (Kd.R_reads' HO177.out).2.2 2 p181 q181; obtain rfl : ad179 = ad181 := (by injection e181); (try simp only [show (2 : Int).toNat = 2 from rfl, Nat.reduceMul, Nat.reduceEqDiff, Go.Addr.add, ↓reduceIte] at hx181_0); have qi181 : (2 < t175.length) = True := eq_true (by omega); (try rw [show ((2 : Int)).toNat = 2 from rfl] at hx181_0); replace p181 := eq_true p181; replace q181 := eq_true q181; have p188 : 0 ≤ (0 : Int) := (by omega); have q188 : 0 < (t175.length : Int) := of_decide_eq_true (by first | (with_reducible assumption) | assumption); obtain ⟨ad188, e188, hx188_0⟩ := Kd.at_int (Kd.R_reads' HO177.out).2.2 0 p188 q188; obtain rfl : ad179 = ad188 := (by injection e188); have qi188 : (0 < t175.length) = True := eq_true (by omega); (try rw [show ((0 : Int)).toNat = 0 from rfl] at hx188_0); (try rw [Addr.add_zero'] at hx188_0); replace p188 := eq_true p188; replace q188 := eq_true q188))
                go_ret
                exact ⟨by first | rfl | (simp [errW_none, errW_some] <;> rfl) | (simp [*, errW_none, errW_some] <;> rfl), by repeat (first | (with_reducible first | exact HB.out | apply below_alloc | apply pw_below_drewN | apply below_drew1) | exact HB.out)⟩
            · rw [if_neg c10] at H
              exact absurd H (by simp)
          · rw [if_neg c9] at H
            have c9b0 : ((rd t175 1) == 128) = false := beq_eq_false_iff_ne.mpr c9
            have c9b1 : ((rd t175 1) != 128) = true := bne_iff_ne.mpr c9
            obtain rfl := Option.some.inj H
            go_enter Try.func54, Try.ntmps54
            go_wp2_with (first | ((with_reducible refine gate_callee (f := 73) rfl ?_); refine goesL_ (some 5) rfl rfl Try.func73 (by kernel_rfl) rfl #[.int .u64 a0] rfl (by (try simp only [List.map_toArray, List.map_cons, List.map_nil]); first | done | rfl | (simp only [List.length_drop, List.length_take]; rfl)) ?_; (with_reducible refine (patchbayref01_Bytes.calls k a0 t175 _ A2.out).mono ?_); rintro e w28 ⟨v176, rfl, ho0, hb⟩; refine ⟨_, rfl, ?_⟩; have n0_ := Aside0.mk (Kd.R_lower ho0 (below_size (by repeat (first | (with_reducible first | exact HB.out | apply below_alloc | apply pw_below_drewN | apply below_drew1) | exact HB.out)))); have n1_ := Aside0.mk (below_step (by repeat (first | (with_reducible first | exact HB.out | apply below_alloc | apply pw_below_drewN | apply below_drew1) | exact HB.out)) hb); clear HB; have HO177 := n0_; have HB := n1_; clear n0_ n1_; (try clear hb); (try clear hb2); (try clear hk); (try clear hi); (try clear ho0)) | ((with_reducible refine gate_callee (f := 74) rfl ?_); refine goesL_ (some 7) rfl rfl Try.func74 (by kernel_rfl) rfl #[.int .u64 a0] rfl (by (try simp only [List.map_toArray, List.map_cons, List.map_nil]); first | done | rfl | (simp only [List.length_drop, List.length_take]; rfl)) ?_; (with_reducible refine (patchbayref01_Low.calls a0 t178 _ A3.out).mono ?_); rintro e w' ⟨rfl, ⟨nd, rfl⟩⟩; refine ⟨_, rfl, ?_⟩; obtain ⟨Ao29, co29, eo29⟩ := Kd.R_slice HO177.out; subst eo29; have p179 : 0 ≤ (0 : Int) := (by omega); have q179 : 0 < (t175.length : Int) := of_decide_eq_true (by first | (with_reducible assumption) | assumption); obtain ⟨ad179, e179, hx179_0⟩ := Kd.at_int (Kd.R_reads' HO177.out).2.2 0 p179 q179; cases e179; have qi179 : (0 < t175.length) = True := eq_true (by omega); (try rw [show ((0 : Int)).toNat = 0 from rfl] at hx179_0); (try rw [Addr.add_zero'] at hx179_0); replace p179 := eq_true p179; replace q179 := eq_true q179; have p180 : 0 ≤ (1 : Int) := (by omega); have q180 : 1 < (t175.length : Int) := of_decide_eq_true (by first | (with_reducible assumption) | assumption); obtain ⟨ad180, e180, hx180_0⟩ := Kd.at_int (Kd.R_reads' HO177.out).2.2 1 p180 q180; obtain rfl : ad179 = ad180 := (by injection e180); (try simp only [show (1 : Int).toNat = 1 from rfl, Nat.reduceMul, Nat.reduceEqDiff, Go.Addr.add, ↓reduceIte] at hx180_0); have qi180 : (1 < t175.length) = True := eq_true (by omega); (try rw [show ((1 : Int)).toNat = 1 from rfl] at hx180_0); replace p180 := eq_true p180; replace q180 := eq_true q180; have p189 : 0 ≤ (0 : Int) := (by omega); have q189 : 0 < (t175.length : Int) := of_decide_eq_true (by first | (with_reducible assumption) | assumption); obtain ⟨ad189, e189, hx189_0⟩ := Kd.at_int (Kd.R_reads' HO177.out).2.2 0 p189 q189; obtain rfl : ad179 = ad189 := (by injection e189); have qi189 : (0 < t175.length) = True := eq_true (by omega); (try rw [show ((0 : Int)).toNat = 0 from rfl] at hx189_0); (try rw [Addr.add_zero'] at hx189_0); replace p189 := eq_true p189; replace q189 := eq_true q189))
            go_ret
            exact ⟨by first | rfl | (simp [errW_none, errW_some] <;> rfl) | (simp [*, errW_none, errW_some] <;> rfl), by repeat (first | (with_reducible first | exact HB.out | apply below_alloc | apply pw_below_drewN | apply below_drew1) | exact HB.out)⟩
        · rw [if_neg c8] at H
          exact absurd H (by simp)
      · rw [if_neg c7] at H
        have c7b0 : ((rd t175 0) == 1) = false := beq_eq_false_iff_ne.mpr c7
        have c7b1 : ((rd t175 0) != 1) = true := bne_iff_ne.mpr c7
        obtain rfl := Option.some.inj H
        go_enter Try.func54, Try.ntmps54
        go_wp2_with (first | ((with_reducible refine gate_callee (f := 73) rfl ?_); refine goesL_ (some 5) rfl rfl Try.func73 (by kernel_rfl) rfl #[.int .u64 a0] rfl (by (try simp only [List.map_toArray, List.map_cons, List.map_nil]); first | done | rfl | (simp only [List.length_drop, List.length_take]; rfl)) ?_; (with_reducible refine (patchbayref01_Bytes.calls k a0 t175 _ A2.out).mono ?_); rintro e w30 ⟨v176, rfl, ho0, hb⟩; refine ⟨_, rfl, ?_⟩; have n0_ := Aside0.mk (Kd.R_lower ho0 (below_size (by repeat (first | (with_reducible first | exact HB.out | apply below_alloc | apply pw_below_drewN | apply below_drew1) | exact HB.out)))); have n1_ := Aside0.mk (below_step (by repeat (first | (with_reducible first | exact HB.out | apply below_alloc | apply pw_below_drewN | apply below_drew1) | exact HB.out)) hb); clear HB; have HO177 := n0_; have HB := n1_; clear n0_ n1_; (try clear hb); (try clear hb2); (try clear hk); (try clear hi); (try clear ho0)) | ((with_reducible refine gate_callee (f := 74) rfl ?_); refine goesL_ (some 7) rfl rfl Try.func74 (by kernel_rfl) rfl #[.int .u64 a0] rfl (by (try simp only [List.map_toArray, List.map_cons, List.map_nil]); first | done | rfl | (simp only [List.length_drop, List.length_take]; rfl)) ?_; (with_reducible refine (patchbayref01_Low.calls a0 t178 _ A3.out).mono ?_); rintro e w' ⟨rfl, ⟨nd, rfl⟩⟩; refine ⟨_, rfl, ?_⟩; obtain ⟨Ao31, co31, eo31⟩ := Kd.R_slice HO177.out; subst eo31; have p179 : 0 ≤ (0 : Int) := (by omega); have q179 : 0 < (t175.length : Int) := of_decide_eq_true (by first | (with_reducible assumption) | assumption); obtain ⟨ad179, e179, hx179_0⟩ := Kd.at_int (Kd.R_reads' HO177.out).2.2 0 p179 q179; cases e179; have qi179 : (0 < t175.length) = True := eq_true (by omega); (try rw [show ((0 : Int)).toNat = 0 from rfl] at hx179_0); (try rw [Addr.add_zero'] at hx179_0); replace p179 := eq_true p179; replace q179 := eq_true q179; have p190 : 0 ≤ (0 : Int) := (by omega); have q190 : 0 < (t175.length : Int) := of_decide_eq_true (by first | (with_reducible assumption) | assumption); obtain ⟨ad190, e190, hx190_0⟩ := Kd.at_int (Kd.R_reads' HO177.out).2.2 0 p190 q190; obtain rfl : ad179 = ad190 := (by injection e190); have qi190 : (0 < t175.length) = True := eq_true (by omega); (try rw [show ((0 : Int)).toNat = 0 from rfl] at hx190_0); (try rw [Addr.add_zero'] at hx190_0); replace p190 := eq_true p190; replace q190 := eq_true q190))
        go_ret
        exact ⟨by first | rfl | (simp [errW_none, errW_some] <;> rfl) | (simp [*, errW_none, errW_some] <;> rfl), by repeat (first | (with_reducible first | exact HB.out | apply below_alloc | apply pw_below_drewN | apply below_drew1) | exact HB.out)⟩
    · rw [if_neg c6] at H
      exact absurd H (by simp)

end Go.Proofs.Ytfgdjljbdghdgaa.PVlan
