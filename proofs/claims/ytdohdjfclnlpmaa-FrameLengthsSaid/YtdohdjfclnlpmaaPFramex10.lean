/- Plain Lean functions of what a law comes to, and their contracts: the machine's call does what they say; no condition. Written by wip/myprint.sh over the kit's print.py. -/
import Derived.Test.YtdohdjfclnlpmaaPFramex0
import Derived.Test.YtdohdjfclnlpmaaPFramex2
import Derived.Test.YtdohdjfclnlpmaaPFramex8
namespace Go.Proofs.Ytdohdjfclnlpmaa.PFrame
open Go.RowKit Go.Proofs.YtdohdjfclnlpmaaW.PrintWords Go.Proofs.YtdohdjfclnlpmaaW.PrintLast Go.Proofs.YtdohdjfclnlpmaaW.PrintMore
attribute [local go_sem] max2_int min2_int max_two min_two max_three min_three max_four min_four   -- for this text's walks alone
set_option linter.unusedVariables false
set_option linter.unusedSimpArgs false

/-! ### patchbaylaw02_FrameLengths: function 5 -/
mutual
def patchbaylaw02_FrameLengths.j0 : Nat → Bool → Int → List Int → Int → Option (Bool)
  | 0, _, _, _, _ => none
  | k + 1, x1, x5, x6, x7 => if x1 = true then (patchbaylaw02_FrameLengths.j1 k x5 x6 x7 (decide (x5 > 17))) else (patchbaylaw02_FrameLengths.j1 k x5 x6 x7 false)
def patchbaylaw02_FrameLengths.j1 : Nat → Int → List Int → Int → Bool → Option (Bool)
  | 0, _, _, _, _ => none
  | k + 1, x5, x6, x7, x27 => if x27 = true then (if 16 < (x6.length : Int) then (patchbaylaw02_FrameLengths.j2 k x5 (x6.set (16 : Int).toNat 8) x7) else (none)) else (patchbaylaw02_FrameLengths.j2 k x5 x6 x7)
def patchbaylaw02_FrameLengths.j2 : Nat → Int → List Int → Int → Option (Bool)
  | 0, _, _, _ => none
  | k + 1, x5, x6, x7 => (frame_Parse.f k x6).bind fun bt362 => (if x5 < 60 then ((patchbaylaw02_told.f k).bind fun t372 => (if t372 = true then (some (bt362.2.2.2.2.2.2 == 2)) else (some false))) else (if x5 > x7 then ((patchbaylaw02_told.f k).bind fun t373 => (if t373 = true then (some (bt362.2.2.2.2.2.2 == 3)) else (some false))) else ((patchbaylaw02_told.f k).bind fun t374 => (if t374 = true then (some (bt362.2.2.2.2.2.2 == 0)) else (some false)))))
end
def patchbaylaw02_FrameLengths.f (k : Nat) (a0 : Int) (a1 : Bool) : Option (Bool) := if 0 ≤ (wrap64 (Int.tmod (IntKind.u64.wrap (a0)) 1600)) then (if (wrap64 (Int.tmod (IntKind.u64.wrap (a0)) 1600) : Int).toNat ≤ 281474976710656 then ((some (List.replicate (wrap64 (Int.tmod (IntKind.u64.wrap (a0)) 1600) : Int).toNat 0 : List Int)).bind fun y356 => (if (wrap64 (Int.tmod (IntKind.u64.wrap (a0)) 1600)) > 13 then (if 12 < (y356.length : Int) then ((some (y356.set (12 : Int).toNat 8 : List Int)).bind fun y359 => (if a1 = true then (patchbaylaw02_FrameLengths.j0 k a1 (wrap64 (Int.tmod (IntKind.u64.wrap (a0)) 1600)) (y359.set (12 : Int).toNat 129) 1518) else (patchbaylaw02_FrameLengths.j0 k a1 (wrap64 (Int.tmod (IntKind.u64.wrap (a0)) 1600)) y359 1514))) else (none)) else (patchbaylaw02_FrameLengths.j0 k a1 (wrap64 (Int.tmod (IntKind.u64.wrap (a0)) 1600)) y356 1514))) else (none)) else (none)
theorem patchbaylaw02_FrameLengths.mono_l : ∀ k, (∀ y0 y1 y2 y3, LeO (patchbaylaw02_FrameLengths.j0 k y0 y1 y2 y3) (patchbaylaw02_FrameLengths.j0 (k + 1) y0 y1 y2 y3)) ∧ (∀ y0 y1 y2 y3, LeO (patchbaylaw02_FrameLengths.j1 k y0 y1 y2 y3) (patchbaylaw02_FrameLengths.j1 (k + 1) y0 y1 y2 y3)) ∧ (∀ y0 y1 y2, LeO (patchbaylaw02_FrameLengths.j2 k y0 y1 y2) (patchbaylaw02_FrameLengths.j2 (k + 1) y0 y1 y2))
  | 0 => ⟨fun _ _ _ _ r h => by simp [patchbaylaw02_FrameLengths.j0] at h, fun _ _ _ _ r h => by simp [patchbaylaw02_FrameLengths.j1] at h, fun _ _ _ r h => by simp [patchbaylaw02_FrameLengths.j2] at h⟩
  | k + 1 => by
    obtain ⟨ih0, ih1, ih2⟩ := patchbaylaw02_FrameLengths.mono_l k
    refine ⟨?_, ?_, ?_⟩
    · intro y0 y1 y2 y3
      unfold patchbaylaw02_FrameLengths.j0
      repeat' first
      | (with_reducible exact ih0 _ _ _ _)
      | (with_reducible exact ih1 _ _ _ _)
      | (with_reducible exact ih2 _ _ _)
      | (with_reducible exact frame_Parse.mono _ _)
      | (with_reducible exact patchbaylaw02_told.mono _)
      | (with_reducible exact LeO.refl _)
      | (with_reducible exact LeO.none _)
      | (with_reducible refine LeO.ite ?_ ?_)
      | (with_reducible refine LeO.bind ?_ (fun _ => ?_))
      | exact ih0 _ _ _ _
      | exact ih1 _ _ _ _
      | exact ih2 _ _ _
      | exact frame_Parse.mono _ _
      | exact patchbaylaw02_told.mono _
      | exact LeO.none _
      | refine LeO.ite ?_ ?_
      | refine LeO.bind ?_ (fun _ => ?_)
    · intro y0 y1 y2 y3
      unfold patchbaylaw02_FrameLengths.j1
      repeat' first
      | (with_reducible exact ih0 _ _ _ _)
      | (with_reducible exact ih1 _ _ _ _)
      | (with_reducible exact ih2 _ _ _)
      | (with_reducible exact frame_Parse.mono _ _)
      | (with_reducible exact patchbaylaw02_told.mono _)
      | (with_reducible exact LeO.refl _)
      | (with_reducible exact LeO.none _)
      | (with_reducible refine LeO.ite ?_ ?_)
      | (with_reducible refine LeO.bind ?_ (fun _ => ?_))
      | exact ih0 _ _ _ _
      | exact ih1 _ _ _ _
      | exact ih2 _ _ _
      | exact frame_Parse.mono _ _
      | exact patchbaylaw02_told.mono _
      | exact LeO.none _
      | refine LeO.ite ?_ ?_
      | refine LeO.bind ?_ (fun _ => ?_)
    · intro y0 y1 y2
      unfold patchbaylaw02_FrameLengths.j2
      repeat' first
      | (with_reducible exact ih0 _ _ _ _)
      | (with_reducible exact ih1 _ _ _ _)
      | (with_reducible exact ih2 _ _ _)
      | (with_reducible exact frame_Parse.mono _ _)
      | (with_reducible exact patchbaylaw02_told.mono _)
      | (with_reducible exact LeO.refl _)
      | (with_reducible exact LeO.none _)
      | (with_reducible refine LeO.ite ?_ ?_)
      | (with_reducible refine LeO.bind ?_ (fun _ => ?_))
      | exact ih0 _ _ _ _
      | exact ih1 _ _ _ _
      | exact ih2 _ _ _
      | exact frame_Parse.mono _ _
      | exact patchbaylaw02_told.mono _
      | exact LeO.none _
      | refine LeO.ite ?_ ?_
      | refine LeO.bind ?_ (fun _ => ?_)
theorem patchbaylaw02_FrameLengths.mono : ∀ a0 a1 k, LeO (patchbaylaw02_FrameLengths.f k a0 a1) (patchbaylaw02_FrameLengths.f (k + 1) a0 a1) := by
  intro a0 a1 k
  obtain ⟨ih0, ih1, ih2⟩ := patchbaylaw02_FrameLengths.mono_l k
  unfold patchbaylaw02_FrameLengths.f
  repeat' first
      | (with_reducible exact ih0 _ _ _ _)
      | (with_reducible exact ih1 _ _ _ _)
      | (with_reducible exact ih2 _ _ _)
      | (with_reducible exact frame_Parse.mono _ _)
      | (with_reducible exact patchbaylaw02_told.mono _)
      | (with_reducible exact LeO.refl _)
      | (with_reducible exact LeO.none _)
      | (with_reducible refine LeO.ite ?_ ?_)
      | (with_reducible refine LeO.bind ?_ (fun _ => ?_))
      | exact ih0 _ _ _ _
      | exact ih1 _ _ _ _
      | exact ih2 _ _ _
      | exact frame_Parse.mono _ _
      | exact patchbaylaw02_told.mono _
      | exact LeO.none _
      | refine LeO.ite ?_ ?_
      | refine LeO.bind ?_ (fun _ => ?_)
set_option maxHeartbeats 8000000 in
set_option maxRecDepth 100000 in
theorem patchbaylaw02_FrameLengths.calls (k : Nat) (a0 : Int) (a1 : Bool) (r : Bool) (w : World) (h : patchbaylaw02_FrameLengths.f k a0 a1 = some r) :
    Calls Try.prog 5 #[.int .i64 a0, .bool a1] w fun e w' => e = .returned (.bool r) ∧ Below w.heap.size w w' := by
  have hu39 := Try.underlying39
  have HB := Aside0.mk (Below.refl w.heap.size w)
  have H : (if 0 ≤ (wrap64 (Int.tmod (IntKind.u64.wrap (a0)) 1600)) then (if (wrap64 (Int.tmod (IntKind.u64.wrap (a0)) 1600) : Int).toNat ≤ 281474976710656 then ((some (List.replicate (wrap64 (Int.tmod (IntKind.u64.wrap (a0)) 1600) : Int).toNat 0 : List Int)).bind fun y356 => (if (wrap64 (Int.tmod (IntKind.u64.wrap (a0)) 1600)) > 13 then (if 12 < (y356.length : Int) then ((some (y356.set (12 : Int).toNat 8 : List Int)).bind fun y359 => (if a1 = true then (patchbaylaw02_FrameLengths.j0 k a1 (wrap64 (Int.tmod (IntKind.u64.wrap (a0)) 1600)) (y359.set (12 : Int).toNat 129) 1518) else (patchbaylaw02_FrameLengths.j0 k a1 (wrap64 (Int.tmod (IntKind.u64.wrap (a0)) 1600)) y359 1514))) else (none)) else (patchbaylaw02_FrameLengths.j0 k a1 (wrap64 (Int.tmod (IntKind.u64.wrap (a0)) 1600)) y356 1514))) else (none)) else (none)) = some r := h
  clear h
  obtain ⟨ji3, hji3⟩ : ∃ j_ : Int, (wrap64 (Int.tmod (IntKind.u64.wrap (a0)) 1600)) = j_ := ⟨_, rfl⟩
  replace H : (if 0 ≤ (ji3) then (if (ji3 : Int).toNat ≤ 281474976710656 then ((some (List.replicate (ji3 : Int).toNat 0 : List Int)).bind fun y356 => (if (ji3) > 13 then (if 12 < (y356.length : Int) then ((some (y356.set (12 : Int).toNat 8 : List Int)).bind fun y359 => (if a1 = true then (patchbaylaw02_FrameLengths.j0 k a1 ji3 (y359.set (12 : Int).toNat 129) 1518) else (patchbaylaw02_FrameLengths.j0 k a1 ji3 y359 1514))) else (none)) else (patchbaylaw02_FrameLengths.j0 k a1 ji3 y356 1514))) else (none)) else (none)) = some r := by first | (rw [hji3] at H; exact H) | (simp only [hji3] at H ⊢; exact H)
  have hji3w : (IntKind.i64.wrap (Int.tmod (IntKind.u64.wrap (a0)) 1600)) = ji3 := (i64_w _).trans hji3
  by_cases c4 : 0 ≤ (ji3)
  · rw [if_pos c4] at H
    have c4b0 := eq_true c4
    have c4b1 : decide (0 ≤ (ji3)) = true := decide_eq_true c4
    clear c4
    by_cases c5 : (ji3 : Int).toNat ≤ 281474976710656
    · rw [if_pos c5] at H
      have c5b0 := eq_true c5
      have c5b1 : decide ((ji3 : Int).toNat ≤ 281474976710656) = true := decide_eq_true c5
      clear c5
      obtain ⟨y356, hy356⟩ : ∃ y_ : List Int, y_ = (List.replicate (ji3 : Int).toNat 0) := ⟨_, rfl⟩
      replace H : (if (ji3) > 13 then (if 12 < (y356.length : Int) then ((some (y356.set (12 : Int).toNat 8 : List Int)).bind fun y359 => (if a1 = true then (patchbaylaw02_FrameLengths.j0 k a1 ji3 (y359.set (12 : Int).toNat 129) 1518) else (patchbaylaw02_FrameLengths.j0 k a1 ji3 y359 1514))) else (none)) else (patchbaylaw02_FrameLengths.j0 k a1 ji3 y356 1514)) = some r := by first | (rw [hy356]; with_reducible exact H) | (have H2_ := (Option.bind_some _ _).symm.trans H; rw [hy356]; with_reducible exact H2_) | (have H2_ := (Option.bind_some _ _).symm.trans H; with_reducible exact H2_) | with_reducible exact H | (rw [hy356]; exact H) | exact H
      have Ny356 := Aside0.mk hy356
      clear hy356
      have HC6 := Aside0.mk H
      clear H
      go_enter Try.func5, Try.ntmps5
      go_upto_if 17 with (first | ((with_reducible refine gate_dst (N := 15) rfl ?_); refine Kd.R_make (Kd.int .u8) _ 5 rfl (N := 15) rfl 22 _ _ rfl ji3 rfl rfl Try.underlying22 (.int .u8 0) 1 info5 rfl (by decide) (by omega) 0 (ok := fun _ => True) (okp := fun _ => True) rfl (fun _ hk => hk) trivial (of_decide_eq_true (by first | (with_reducible assumption) | assumption)) (Nat.le_trans (Nat.mul_le_mul_right _ (of_decide_eq_true (by first | (with_reducible assumption) | assumption) : ji3.toNat ≤ 281474976710656)) (by omega)) (Below.refl _ _) (Nat.le_refl _) ?_; intro v357 w7 ho8 hb hg_ hnew_; clear hg_ hnew_; (first | rw [← Ny356.out] at ho8 | (simp only [Int.reduceToNat] at ho8; rw [← Ny356.out] at ho8)); have n0_ := Aside0.mk (Kd.R_lower ho8 (below_size (by repeat (first | (with_reducible first | exact HB.out | apply below_alloc | apply pw_below_drewN | apply below_drew1) | exact HB.out)))); have n1_ := Aside0.mk (below_step (by repeat (first | (with_reducible first | exact HB.out | apply below_alloc | apply pw_below_drewN | apply below_drew1) | exact HB.out)) hb); clear HB; have HO358 := n0_; have HB := n1_; clear n0_ n1_; clear hb ho8))
      (try simp only [Act.put, List.setIfInBounds_toArray, List.set_cons_zero, List.set_cons_succ])
      go_cut [7] (fun v7 wc => ∃ (kq : Nat) (x6_5 : List Int) (x7_5 : Int), v7 = .int .i64 x7_5 ∧ Aside0 (patchbaylaw02_FrameLengths.j0 kq a1 ji3 x6_5 x7_5 = some r) ∧ Aside0 (kq ≤ k) ∧ Aside0 (Kd.R (Kd.int .u8) 5 wc w.heap.size (fun _ => True) v357 x6_5) ∧ Aside0 (Below w.heap.size w wc))
      case first =>
        have H := HC6.out
        clear HC6
        by_cases c9 : (ji3) > 13
        · rw [if_pos c9] at H
          have c9b0 : decide (13 < (ji3)) = true := decide_eq_true c9
          clear c9
          (first | rw [c9b0] | (simp only [i64_w, i32_w]; rw [c9b0]) | skip)
          by_cases c10 : 12 < (y356.length : Int)
          · rw [if_pos c10] at H
            have c10b0 : decide (12 < (y356.length : Int)) = true := decide_eq_true c10
            have c10b1 : decide (12 < y356.length) = true := decide_eq_true (by omega)
            clear c10
            obtain ⟨y359, hy359⟩ : ∃ y_ : List Int, y_ = (y356.set (12 : Int).toNat 8) := ⟨_, rfl⟩
            replace H : (if a1 = true then (patchbaylaw02_FrameLengths.j0 k a1 ji3 (y359.set (12 : Int).toNat 129) 1518) else (patchbaylaw02_FrameLengths.j0 k a1 ji3 y359 1514)) = some r := by first | (rw [hy359]; with_reducible exact H) | (have H2_ := (Option.bind_some _ _).symm.trans H; rw [hy359]; with_reducible exact H2_) | (have H2_ := (Option.bind_some _ _).symm.trans H; with_reducible exact H2_) | with_reducible exact H | (rw [hy359]; exact H) | exact H
            have Ny359 := Aside0.mk hy359
            clear hy359
            by_cases c12 : a1 = true
            · subst c12
              have H1 : (patchbaylaw02_FrameLengths.j0 k true ji3 (y359.set (12 : Int).toNat 129) 1518) = some r := by rw [if_pos rfl] at H; exact H
              clear H
              have H := H1
              clear H1
              obtain ⟨y360, hy360⟩ : ∃ y_ : List Int, y_ = (y359.set (12 : Int).toNat 129) := ⟨_, rfl⟩
              replace H : (patchbaylaw02_FrameLengths.j0 k true ji3 y360 1518) = some r := by first | (rw [hy360]; with_reducible exact H) | (have H2_ := (Option.bind_some _ _).symm.trans H; rw [hy360]; with_reducible exact H2_) | (have H2_ := (Option.bind_some _ _).symm.trans H; with_reducible exact H2_) | with_reducible exact H | (rw [hy360]; exact H) | exact H
              have Ny360 := Aside0.mk hy360
              clear hy360
              have H' := Aside0.mk H
              clear H
              have p11 : 0 ≤ (12 : Int) := (by omega)
              have q11 : (12 : Int) < ((y356.length : Int) : Int) := of_decide_eq_true (by first | (with_reducible assumption) | assumption)
              have qi11 : (12 < y356.length) = True := eq_true (by omega)
              obtain ⟨go11, co11, eo11, gb11, gl11, cl11, HG11⟩ := Kd.R_form HO358.out (by omega)
              (first | cases eo11 | (injection eo11 with ea_ en_ ec_; (first | subst ea_ | (injection ea_ with ea_; subst ea_)); subst ec_; clear en_))
              have GB11 := Aside0.mk gb11
              have GG11 := Aside0.mk HG11
              clear gb11 gl11 HG11
              obtain ⟨hx11_0, hf11_0⟩ := Kd.R_celln 0 HO358.out (12 : Int) p11 q11
              (try rw [show ((12 : Int)).toNat = 12 from rfl] at hx11_0)
              (try simp only [Nat.reduceMul, Nat.zero_mul, Nat.zero_add, Nat.reduceAdd] at hx11_0)
              (try rw [show ((12 : Int)).toNat = 12 from rfl] at hf11_0)
              (try simp only [Nat.reduceMul, Nat.zero_mul, Nat.zero_add, Nat.reduceAdd] at hf11_0)
              replace p11 := eq_true p11
              replace q11 := eq_true q11
              have HP14 := Kd.R_putg HO358.out (12 : Int) 8
              go_wp2_with (first | ((with_reducible refine gate_store (t := 5) (p := 19) rfl ?_); refine store_event (t := 5) (p := 19) (v := ?vo_w15) (w1 := (w7.setCell ⟨go11, (12 : Int).toNat, none⟩ (.int .u8 8))) ?hg ?ho ?hn ?hr ?_; (case ho => rfl); (case hg => rfl); (case hn => rfl); (case hr => first | (go_simp; done) | (go_simp; rfl)); intro w15 hw; have hg : w7.grownBy w15 (some go11) := (by rw [hw]; exact HP14.2); have hp_ : Kd.R (Kd.int .u8) 5 w15 w.heap.size (fun _ => True) (.slice (some ⟨go11, 0, none⟩) y356.length co11) y359 := (by rw [hw, Ny359.out]; exact HP14.1); clear HP14; have n0_ := Aside0.mk (hp_); have n1_ := Aside0.mk ((by rw [hw]; exact below_set (HB.out) GB11.out : Below w.heap.size w w15)); clear HO358; clear HB; have HO358 := n0_; have HB := n1_; clear n0_ n1_; clear hg hw hp_; have p13 : 0 ≤ (12 : Int) := (by omega); have q13 : (12 : Int) < ((y356.length : Int) : Int) := of_decide_eq_true (by first | (with_reducible assumption) | assumption); have qi13 : (12 < y356.length) = True := eq_true (by omega); obtain ⟨hx13_0, hf13_0⟩ := Kd.R_celln 0 HO358.out (12 : Int) p13 q13; (try rw [show ((12 : Int)).toNat = 12 from rfl] at hx13_0); (try simp only [Nat.reduceMul, Nat.zero_mul, Nat.zero_add, Nat.reduceAdd] at hx13_0); (try rw [show ((12 : Int)).toNat = 12 from rfl] at hf13_0); (try simp only [Nat.reduceMul, Nat.zero_mul, Nat.zero_add, Nat.reduceAdd] at hf13_0); replace p13 := eq_true p13; replace q13 := eq_true q13; obtain ⟨hy16_, hz16_⟩ := Kd.R_celln 0 HO358.out (12 : Int) (by omega) (of_decide_eq_true (by first | (with_reducible assumption) | assumption)); (try simp only [Int.reduceToNat, Int.toNat_zero, Int.toNat_ofNat, Nat.reduceMul, Nat.zero_mul, Nat.zero_add] at hy16_ hz16_); (try rw [show ((12 : Int)).toNat = 12 from rfl] at hy16_); (try rw [show ((12 : Int)).toNat = 12 from rfl] at hz16_); have HP16 := Kd.R_putg HO358.out (12 : Int) 129) | ((with_reducible refine gate_store (t := 5) (p := 22) rfl ?_); refine store_event (t := 5) (p := 22) (v := ?vo_w17) (w1 := (w15.setCell ⟨go11, (12 : Int).toNat, none⟩ (.int .u8 129))) ?hg ?ho ?hn ?hr ?_; (case ho => rfl); (case hg => rfl); (case hn => rfl); (case hr => first | (go_simp; done) | (go_simp; rfl)); intro w17 hw; have hg : w15.grownBy w17 (some go11) := (by rw [hw]; exact HP16.2); have hp_ : Kd.R (Kd.int .u8) 5 w17 w.heap.size (fun _ => True) (.slice (some ⟨go11, 0, none⟩) y356.length co11) y360 := (by rw [hw, Ny360.out]; exact HP16.1); clear HP16; have n0_ := Aside0.mk (hp_); have n1_ := Aside0.mk ((by rw [hw]; exact below_set (HB.out) GB11.out : Below w.heap.size w w17)); clear HO358; clear HB; have HO358 := n0_; have HB := n1_; clear n0_ n1_; clear hg hw hp_))
              go_meet
              case rel => exact ⟨_, (y360), (1518), (by first | rfl | (simp; done) | (simp [*]; done)), H', ⟨by first | omega | exact Nat.le_refl _⟩, ⟨by (with_reducible repeat (first | apply Kd.R_alloc | apply Kd.R_drewN | apply Kd.R_drew)); exact HO358.out⟩, ⟨by repeat (first | (with_reducible first | exact HB.out | apply below_alloc | apply pw_below_drewN | apply below_drew1) | exact HB.out)⟩⟩
            · replace c12 := Bool.eq_false_iff.mpr c12
              subst c12
              have H1 : (patchbaylaw02_FrameLengths.j0 k false ji3 y359 1514) = some r := by rw [if_neg (show ¬ (false = true) by decide)] at H; exact H
              clear H
              have H := H1
              clear H1
              have H' := Aside0.mk H
              clear H
              have p11 : 0 ≤ (12 : Int) := (by omega)
              have q11 : (12 : Int) < ((y356.length : Int) : Int) := of_decide_eq_true (by first | (with_reducible assumption) | assumption)
              have qi11 : (12 < y356.length) = True := eq_true (by omega)
              obtain ⟨go11, co11, eo11, gb11, gl11, cl11, HG11⟩ := Kd.R_form HO358.out (by omega)
              (first | cases eo11 | (injection eo11 with ea_ en_ ec_; (first | subst ea_ | (injection ea_ with ea_; subst ea_)); subst ec_; clear en_))
              have GB11 := Aside0.mk gb11
              have GG11 := Aside0.mk HG11
              clear gb11 gl11 HG11
              obtain ⟨hx11_0, hf11_0⟩ := Kd.R_celln 0 HO358.out (12 : Int) p11 q11
              (try rw [show ((12 : Int)).toNat = 12 from rfl] at hx11_0)
              (try simp only [Nat.reduceMul, Nat.zero_mul, Nat.zero_add, Nat.reduceAdd] at hx11_0)
              (try rw [show ((12 : Int)).toNat = 12 from rfl] at hf11_0)
              (try simp only [Nat.reduceMul, Nat.zero_mul, Nat.zero_add, Nat.reduceAdd] at hf11_0)
              replace p11 := eq_true p11
              replace q11 := eq_true q11
              have HP18 := Kd.R_putg HO358.out (12 : Int) 8
              go_wp2_with (first | ((with_reducible refine gate_store (t := 5) (p := 19) rfl ?_); refine store_event (t := 5) (p := 19) (v := ?vo_w19) (w1 := (w7.setCell ⟨go11, (12 : Int).toNat, none⟩ (.int .u8 8))) ?hg ?ho ?hn ?hr ?_; (case ho => rfl); (case hg => rfl); (case hn => rfl); (case hr => first | (go_simp; done) | (go_simp; rfl)); intro w19 hw; have hg : w7.grownBy w19 (some go11) := (by rw [hw]; exact HP18.2); have hp_ : Kd.R (Kd.int .u8) 5 w19 w.heap.size (fun _ => True) (.slice (some ⟨go11, 0, none⟩) y356.length co11) y359 := (by rw [hw, Ny359.out]; exact HP18.1); clear HP18; have n0_ := Aside0.mk (hp_); have n1_ := Aside0.mk ((by rw [hw]; exact below_set (HB.out) GB11.out : Below w.heap.size w w19)); clear HO358; clear HB; have HO358 := n0_; have HB := n1_; clear n0_ n1_; clear hg hw hp_))
              go_meet
              case rel => exact ⟨_, (y359), (1514), (by first | rfl | (simp; done) | (simp [*]; done)), H', ⟨by first | omega | exact Nat.le_refl _⟩, ⟨by (with_reducible repeat (first | apply Kd.R_alloc | apply Kd.R_drewN | apply Kd.R_drew)); exact HO358.out⟩, ⟨by repeat (first | (with_reducible first | exact HB.out | apply below_alloc | apply pw_below_drewN | apply below_drew1) | exact HB.out)⟩⟩
          · rw [if_neg c10] at H
            exact absurd H (by simp)
        · rw [if_neg c9] at H
          have c9b0 : decide (13 < (ji3)) = false := decide_eq_false c9
          clear c9
          (first | rw [c9b0] | (simp only [i64_w, i32_w]; rw [c9b0]) | skip)
          have H' := Aside0.mk H
          clear H
          go_wp2
          go_meet
          case rel => exact ⟨_, (y356), (1514), (by first | rfl | (simp; done) | (simp [*]; done)), H', ⟨by first | omega | exact Nat.le_refl _⟩, ⟨by (with_reducible repeat (first | apply Kd.R_alloc | apply Kd.R_drewN | apply Kd.R_drew)); exact HO358.out⟩, ⟨by repeat (first | (with_reducible first | exact HB.out | apply below_alloc | apply pw_below_drewN | apply below_drew1) | exact HB.out)⟩⟩
      case rest =>
        clear HC6
        try clear c1
        try clear p1
        try clear q1
        try clear hx1
        try clear qi1
        try clear p2
        try clear c4
        try clear c4b0
        try clear c4b1
        try clear c5
        try clear c5b0
        try clear c5b1
        try clear p6
        try clear c9
        try clear c9b0
        try clear c10
        try clear c10b0
        try clear c10b1
        try clear p11
        try clear q11
        try clear hx11
        try clear qi11
        try clear hf11
        try clear c12
        try clear p13
        try clear q13
        try clear hx13
        try clear qi13
        try clear hf13
        try clear hx11_0
        try clear hx13_0
        try clear p11
        try clear p13
        try clear q11
        try clear q13
        obtain ⟨kq, x6_5, x7_5, rfl, HA, HJ5, HO_6, HB⟩ := hcut
        cases kq with
        | zero => exact absurd HA.out (by simp [patchbaylaw02_FrameLengths.j0])
        | succ kj5 =>
          have H := HA.out
          clear HA
          simp only [patchbaylaw02_FrameLengths.j0] at H
          have HC20 := Aside0.mk H
          clear H
          go_upto_region 9 with (fail)
          go_cut [27] (fun v27 wc => ∃ (kq : Nat) (x27_19 : Bool), v27 = .bool x27_19 ∧ Aside0 (patchbaylaw02_FrameLengths.j1 kq ji3 x6_5 x7_5 x27_19 = some r) ∧ Aside0 (kq ≤ kj5) ∧ Aside0 (Kd.R (Kd.int .u8) 5 wc w.heap.size (fun _ => True) v357 x6_5) ∧ Aside0 (Below w.heap.size w wc))
          case first =>
            have H := HC20.out
            clear HC20
            by_cases c21 : a1 = true
            · subst c21
              have H1 : (patchbaylaw02_FrameLengths.j1 kj5 ji3 x6_5 x7_5 (decide (ji3 > 17))) = some r := by rw [if_pos rfl] at H; exact H
              clear H
              have H := H1
              clear H1
              have H' := Aside0.mk H
              clear H
              go_wp2
              go_meet
              case rel => exact ⟨_, (decide (ji3 > 17)), (by first | rfl | (simp; done) | (simp only [← hji3] <;> (first | rfl | simp)) | (simp [*]; done)), H', ⟨by have := HJ5.out; first | omega | exact Nat.le_refl _⟩, ⟨by (with_reducible repeat (first | apply Kd.R_alloc | apply Kd.R_drewN | apply Kd.R_drew)); exact HO_6.out⟩, ⟨by repeat (first | (with_reducible first | exact HB.out | apply below_alloc | apply pw_below_drewN | apply below_drew1) | exact HB.out)⟩⟩
            · replace c21 := Bool.eq_false_iff.mpr c21
              subst c21
              have H1 : (patchbaylaw02_FrameLengths.j1 kj5 ji3 x6_5 x7_5 false) = some r := by rw [if_neg (show ¬ (false = true) by decide)] at H; exact H
              clear H
              have H := H1
              clear H1
              have H' := Aside0.mk H
              clear H
              go_wp2
              go_meet
              case rel => exact ⟨_, (false), (by first | rfl | (simp; done) | (simp [*]; done)), H', ⟨by have := HJ5.out; first | omega | exact Nat.le_refl _⟩, ⟨by (with_reducible repeat (first | apply Kd.R_alloc | apply Kd.R_drewN | apply Kd.R_drew)); exact HO_6.out⟩, ⟨by repeat (first | (with_reducible first | exact HB.out | apply below_alloc | apply pw_below_drewN | apply below_drew1) | exact HB.out)⟩⟩
          case rest =>
            clear HC20
            try clear c1
            try clear p1
            try clear q1
            try clear hx1
            try clear qi1
            try clear c2
            try clear p2
            try clear c4
            try clear c4b0
            try clear c4b1
            try clear c5
            try clear c5b0
            try clear c5b1
            try clear p6
            try clear c9
            try clear c9b0
            try clear c10
            try clear c10b0
            try clear c10b1
            try clear p11
            try clear q11
            try clear hx11
            try clear qi11
            try clear hf11
            try clear c12
            try clear p13
            try clear q13
            try clear hx13
            try clear qi13
            try clear hf13
            try clear c21
            try clear hx11_0
            try clear hx13_0
            try clear p1
            try clear p11
            try clear p13
            try clear p2
            try clear p6
            try clear q1
            try clear q11
            try clear q13
            obtain ⟨kq, x27_19, rfl, HA, HJ19, HO_6, HB⟩ := hcut
            cases kq with
            | zero => exact absurd HA.out (by simp [patchbaylaw02_FrameLengths.j1])
            | succ kj19 =>
              have H := HA.out
              clear HA
              simp only [patchbaylaw02_FrameLengths.j1] at H
              have HC22 := Aside0.mk H
              clear H
              go_upto_if 27 with (fail)
              go_cut [] (fun wc => ∃ (kq : Nat) (x6_21 : List Int), Aside0 (patchbaylaw02_FrameLengths.j2 kq ji3 x6_21 x7_5 = some r) ∧ Aside0 (kq ≤ kj19) ∧ Aside0 (Kd.R (Kd.int .u8) 5 wc w.heap.size (fun _ => True) v357 x6_21) ∧ Aside0 (Below w.heap.size w wc))
              case first =>
                have H := HC22.out
                clear HC22
                by_cases c23 : x27_19 = true
                · subst c23
                  have H1 : (if 16 < (x6_5.length : Int) then (patchbaylaw02_FrameLengths.j2 kj19 ji3 (x6_5.set (16 : Int).toNat 8) x7_5) else (none)) = some r := by rw [if_pos rfl] at H; exact H
                  clear H
                  have H := H1
                  clear H1
                  by_cases c24 : 16 < (x6_5.length : Int)
                  · rw [if_pos c24] at H
                    have c24b0 : decide (16 < (x6_5.length : Int)) = true := decide_eq_true c24
                    have c24b1 : decide (16 < x6_5.length) = true := decide_eq_true (by omega)
                    clear c24
                    (first | rw [c24b0] | (simp only [i64_w, i32_w]; rw [c24b0]) | skip)
                    obtain ⟨y361, hy361⟩ : ∃ y_ : List Int, y_ = (x6_5.set (16 : Int).toNat 8) := ⟨_, rfl⟩
                    replace H : (patchbaylaw02_FrameLengths.j2 kj19 ji3 y361 x7_5) = some r := by first | (rw [hy361]; with_reducible exact H) | (have H2_ := (Option.bind_some _ _).symm.trans H; rw [hy361]; with_reducible exact H2_) | (have H2_ := (Option.bind_some _ _).symm.trans H; with_reducible exact H2_) | with_reducible exact H | (rw [hy361]; exact H) | exact H
                    have Ny361 := Aside0.mk hy361
                    clear hy361
                    have H' := Aside0.mk H
                    clear H
                    have p25 : 0 ≤ (16 : Int) := (by omega)
                    have q25 : (16 : Int) < ((x6_5.length : Int) : Int) := of_decide_eq_true (by first | (with_reducible assumption) | assumption)
                    have qi25 : (16 < x6_5.length) = True := eq_true (by omega)
                    obtain ⟨go25, co25, eo25, gb25, gl25, cl25, HG25⟩ := Kd.R_form HO_6.out (by omega)
                    (first | cases eo25 | (injection eo25 with ea_ en_ ec_; (first | subst ea_ | (injection ea_ with ea_; subst ea_)); subst ec_; clear en_))
                    have GB25 := Aside0.mk gb25
                    have GG25 := Aside0.mk HG25
                    clear gb25 gl25 HG25
                    obtain ⟨hx25_0, hf25_0⟩ := Kd.R_celln 0 HO_6.out (16 : Int) p25 q25
                    (try rw [show ((16 : Int)).toNat = 16 from rfl] at hx25_0)
                    (try simp only [Nat.reduceMul, Nat.zero_mul, Nat.zero_add, Nat.reduceAdd] at hx25_0)
                    (try rw [show ((16 : Int)).toNat = 16 from rfl] at hf25_0)
                    (try simp only [Nat.reduceMul, Nat.zero_mul, Nat.zero_add, Nat.reduceAdd] at hf25_0)
                    replace p25 := eq_true p25
                    replace q25 := eq_true q25
                    have HP26 := Kd.R_putg HO_6.out (16 : Int) 8
                    go_wp2_with (first | ((with_reducible refine gate_store (t := 5) (p := 29) rfl ?_); refine store_event (t := 5) (p := 29) (v := ?vo_w27) (w1 := (wc.setCell ⟨go25, (16 : Int).toNat, none⟩ (.int .u8 8))) ?hg ?ho ?hn ?hr ?_; (case ho => rfl); (case hg => rfl); (case hn => rfl); (case hr => first | (go_simp; done) | (go_simp; rfl)); intro w27 hw; have hg : wc.grownBy w27 (some go25) := (by rw [hw]; exact HP26.2); have hp_ : Kd.R (Kd.int .u8) 5 w27 w.heap.size (fun _ => True) (.slice (some ⟨go25, 0, none⟩) x6_5.length co25) y361 := (by rw [hw, Ny361.out]; exact HP26.1); clear HP26; have n0_ := Aside0.mk (hp_); have n1_ := Aside0.mk ((by rw [hw]; exact below_set (HB.out) GB25.out : Below w.heap.size w w27)); clear HO_6; clear HB; have HO_6 := n0_; have HB := n1_; clear n0_ n1_; clear hg hw hp_))
                    go_meet
                    case rel => exact ⟨_, (y361), H', ⟨by have := HJ5.out; have := HJ19.out; first | omega | exact Nat.le_refl _⟩, ⟨by (with_reducible repeat (first | apply Kd.R_alloc | apply Kd.R_drewN | apply Kd.R_drew)); exact HO_6.out⟩, ⟨by repeat (first | (with_reducible first | exact HB.out | apply below_alloc | apply pw_below_drewN | apply below_drew1) | exact HB.out)⟩⟩
                  · rw [if_neg c24] at H
                    exact absurd H (by simp)
                · replace c23 := Bool.eq_false_iff.mpr c23
                  subst c23
                  have H1 : (patchbaylaw02_FrameLengths.j2 kj19 ji3 x6_5 x7_5) = some r := by rw [if_neg (show ¬ (false = true) by decide)] at H; exact H
                  clear H
                  have H := H1
                  clear H1
                  have H' := Aside0.mk H
                  clear H
                  go_wp2
                  go_meet
                  case rel => exact ⟨_, (x6_5), H', ⟨by have := HJ5.out; have := HJ19.out; first | omega | exact Nat.le_refl _⟩, ⟨by (with_reducible repeat (first | apply Kd.R_alloc | apply Kd.R_drewN | apply Kd.R_drew)); exact HO_6.out⟩, ⟨by repeat (first | (with_reducible first | exact HB.out | apply below_alloc | apply pw_below_drewN | apply below_drew1) | exact HB.out)⟩⟩
              case rest =>
                clear HC22
                try clear c1
                try clear p1
                try clear q1
                try clear hx1
                try clear qi1
                try clear c2
                try clear p2
                try clear q2
                try clear hx2
                try clear qi2
                try clear hf2
                try clear c4
                try clear c4b0
                try clear c4b1
                try clear c5
                try clear c5b0
                try clear c5b1
                try clear p6
                try clear c9
                try clear c9b0
                try clear c10
                try clear c10b0
                try clear c10b1
                try clear p11
                try clear q11
                try clear hx11
                try clear qi11
                try clear hf11
                try clear c12
                try clear p13
                try clear q13
                try clear hx13
                try clear qi13
                try clear hf13
                try clear c21
                try clear c23
                try clear c24
                try clear c24b0
                try clear c24b1
                try clear p25
                try clear q25
                try clear hx25
                try clear qi25
                try clear hf25
                try clear hx11_0
                try clear hx13_0
                try clear hx25_0
                try clear p1
                try clear p11
                try clear p13
                try clear p2
                try clear p25
                try clear p6
                try clear q1
                try clear q11
                try clear q13
                try clear q25
                obtain ⟨kq, x6_21, HA, HJ21, HO_6, HB⟩ := hcut
                cases kq with
                | zero => exact absurd HA.out (by simp [patchbaylaw02_FrameLengths.j2])
                | succ kj21 =>
                  have H := HA.out
                  clear HA
                  simp only [patchbaylaw02_FrameLengths.j2] at H
                  replace H := Option.bind_eq_some_iff.mp H
                  obtain ⟨⟨t362, t363, t364, t365, t366, t367, t370⟩, A280, H⟩ := H
                  replace H : (if ji3 < 60 then ((patchbaylaw02_told.f kj21).bind fun t372 => (if t372 = true then (some (t370 == 2)) else (some false))) else (if ji3 > x7_5 then ((patchbaylaw02_told.f kj21).bind fun t373 => (if t373 = true then (some (t370 == 3)) else (some false))) else ((patchbaylaw02_told.f kj21).bind fun t374 => (if t374 = true then (some (t370 == 0)) else (some false))))) = some r := H
                  have A28 := Aside0.mk A280
                  clear A280
                  by_cases c29 : ji3 < 60
                  · rw [if_pos c29] at H
                    have c29b0 : decide (ji3 < 60) = true := decide_eq_true c29
                    clear c29
                    replace H := Option.bind_eq_some_iff.mp H
                    obtain ⟨t372, A300, H⟩ := H
                    replace H : (if t372 = true then (some (t370 == 2)) else (some false)) = some r := H
                    have A30 := Aside0.mk A300
                    clear A300
                    by_cases c31 : t372 = true
                    · subst c31
                      have H1 : (some (t370 == 2)) = some r := by rw [if_pos rfl] at H; exact H
                      clear H
                      have H := H1
                      clear H1
                      obtain rfl := Option.some.inj H
                      obtain ⟨Ao32, co32, eo32⟩ := Kd.R_slice HO_6.out
                      subst eo32
                      go_wp2_with (first | ((with_reducible refine gate_callee (f := 21) rfl ?_); refine goesL_ (some 32) rfl rfl Try.func21 (by kernel_rfl) rfl #[.slice Ao32 x6_21.length co32] rfl (by (try simp only [List.map_toArray, List.map_cons, List.map_nil]); first | done | rfl | (simp only [List.length_drop, List.length_take]; rfl)) ?_; (with_reducible refine (frame_Parse.calls kj21 _ _ x6_21 t362 t363 t364 t365 t366 t367 t370 _ ?side1 ?side2 A28.out).mono ?_); (case side1 => repeat (first | exact (Kd.R_reads' HO_6.out).2.2 | (with_reducible refine Kd.C_alloc ?_ _) | (with_reducible refine Kd.C_drewN ?_ _) | (with_reducible refine Kd.C_drew ?_))); (case side2 => exact (Kd.R_reads' HO_6.out).2.1); rintro e w33 ⟨v368, rfl, ho0, hb⟩; refine ⟨_, rfl, ?_⟩; have n0_ := Aside0.mk (Kd.R_elder' (by (with_reducible repeat (first | apply Kd.R_alloc | apply Kd.R_drewN | apply Kd.R_drew)); exact HO_6.out) (Kd.R_base ho0) hb); have n1_ := Aside0.mk (Kd.R_lower (Kd.R_new' ho0 (Kd.R_lt (by (with_reducible repeat (first | apply Kd.R_alloc | apply Kd.R_drewN | apply Kd.R_drew)); exact HO_6.out))) (below_size (by repeat (first | (with_reducible first | exact HB.out | apply below_alloc | apply pw_below_drewN | apply below_drew1) | exact HB.out)))); have n2_ := Aside0.mk (below_step (by repeat (first | (with_reducible first | exact HB.out | apply below_alloc | apply pw_below_drewN | apply below_drew1) | exact HB.out)) hb); clear HO_6; clear HB; have HO_6 := n0_; have HO369 := n1_; have HB := n2_; clear n0_ n1_ n2_; (try clear hb); (try clear hb2); (try clear hk); (try clear hi); (try clear ho0)) | ((with_reducible refine gate_dst (N := 8) rfl ?_); refine box_event ?hg (N := 8) ?hd (cs := #[.int .u64 0, .int .u64 0, .bool false, .int .u16 0, .int .u16 0, .slice none 0 0]) (t := 39) ?hr ?_; (case hd => rfl); (case hg => rfl); (case hr => first | (go_simp; done) | (go_simp; rfl)); intro gb371 hg w34 hbox hb; have n0_ := Aside0.mk (Kd.R_below (by (with_reducible repeat (first | apply Kd.R_alloc | apply Kd.R_drewN | apply Kd.R_drew)); exact HO_6.out) hb); have n1_ := Aside0.mk (Kd.R_below (by (with_reducible repeat (first | apply Kd.R_alloc | apply Kd.R_drewN | apply Kd.R_drew)); exact HO369.out) hb); have n2_ := Aside0.mk (below_step (by repeat (first | (with_reducible first | exact HB.out | apply below_alloc | apply pw_below_drewN | apply below_drew1) | exact HB.out)) hb); have n3_ := Aside0.mk (hbox); have n4_ := Aside0.mk ((by rw [hg]; exact (below_size (by repeat (first | (with_reducible first | exact HB.out | apply below_alloc | apply pw_below_drewN | apply below_drew1) | exact HB.out))) : w.heap.size ≤ gb371)); have n5_ := Aside0.mk ((by rw [hg]; exact (below_size (by repeat (first | (with_reducible first | exact HB.out | apply below_alloc | apply pw_below_drewN | apply below_drew1) | exact HB.out))) : w.heap.size ≤ gb371)); clear HO_6; clear HO369; clear HB; have HO_6 := n0_; have HO369 := n1_; have HB := n2_; have BK371 := n3_; have GW371 := n4_; have GE371 := n5_; clear n0_ n1_ n2_ n3_ n4_ n5_; clear hb hbox hg; have hcz35_0 : w34.cell? ⟨gb371, 0, none⟩ = some (.int .u64 0) := (blk_cell BK371.out 0).trans rfl; have hcz35_1 : w34.cell? ⟨gb371, 1, none⟩ = some (.int .u64 0) := (blk_cell BK371.out 1).trans rfl; have hcz35_2 : w34.cell? ⟨gb371, 2, none⟩ = some (.bool false) := (blk_cell BK371.out 2).trans rfl; have hcz35_3 : w34.cell? ⟨gb371, 3, none⟩ = some (.int .u16 0) := (blk_cell BK371.out 3).trans rfl; have hcz35_4 : w34.cell? ⟨gb371, 4, none⟩ = some (.int .u16 0) := (blk_cell BK371.out 4).trans rfl; have hcz35_5 : w34.cell? ⟨gb371, 5, none⟩ = some (.slice none 0 0) := (blk_cell BK371.out 5).trans rfl; have hfz35_0 := blk_frozen BK371.out 0; have hfz35_1 := blk_frozen BK371.out 1; have hfz35_2 := blk_frozen BK371.out 2; have hfz35_3 := blk_frozen BK371.out 3; have hfz35_4 := blk_frozen BK371.out 4; have hfz35_5 := blk_frozen BK371.out 5; obtain ⟨Ao36, co36, eo36⟩ := Kd.R_slice HO369.out; subst eo36) | ((with_reducible refine gate_callee (f := 18) rfl ?_); refine goesL_ (some 37) rfl rfl Try.func18 (by kernel_rfl) rfl #[] rfl (by (try simp only [List.map_toArray, List.map_cons, List.map_nil]); first | done | rfl | (simp only [List.length_drop, List.length_take]; rfl)) ?_; (with_reducible refine (patchbaylaw02_told.calls kj21  true _ A30.out).mono ?_); rintro e w37 ⟨rfl, hb⟩; refine ⟨_, rfl, ?_⟩; have n0_ := Aside0.mk (Kd.R_below (by (with_reducible repeat (first | apply Kd.R_alloc | apply Kd.R_drewN | apply Kd.R_drew)); exact (Kd.R_mono (Kd.R_far (p := ⟨gb371, 5, none⟩) (Kd.R_far (p := ⟨gb371, 4, none⟩) (Kd.R_far (p := ⟨gb371, 3, none⟩) (Kd.R_far (p := ⟨gb371, 2, none⟩) (Kd.R_far (p := ⟨gb371, 1, none⟩) (Kd.R_far (p := ⟨gb371, 0, none⟩) (Kd.R_types HO_6.out BK371.out (by decide)) (fun _ hk => hk.2) (.int .u64 t362)) (fun _ hk => hk.2) (.int .u64 t363)) (fun _ hk => hk.2) (.bool t364)) (fun _ hk => hk.2) (.int .u16 t365)) (fun _ hk => hk.2) (.int .u16 t366)) (fun _ hk => hk.2) (.slice Ao36 t367.length co36)) (fun _ h_ => h_.1))) hb); have n1_ := Aside0.mk (Kd.R_below (by (with_reducible repeat (first | apply Kd.R_alloc | apply Kd.R_drewN | apply Kd.R_drew)); exact (Kd.R_mono (Kd.R_far (p := ⟨gb371, 5, none⟩) (Kd.R_far (p := ⟨gb371, 4, none⟩) (Kd.R_far (p := ⟨gb371, 3, none⟩) (Kd.R_far (p := ⟨gb371, 2, none⟩) (Kd.R_far (p := ⟨gb371, 1, none⟩) (Kd.R_far (p := ⟨gb371, 0, none⟩) (Kd.R_types HO369.out BK371.out (by decide)) (fun _ hk => hk.2) (.int .u64 t362)) (fun _ hk => hk.2) (.int .u64 t363)) (fun _ hk => hk.2) (.bool t364)) (fun _ hk => hk.2) (.int .u16 t365)) (fun _ hk => hk.2) (.int .u16 t366)) (fun _ hk => hk.2) (.slice Ao36 t367.length co36)) (fun _ h_ => h_.1))) hb); have n2_ := Aside0.mk (blk_below (g := gb371) (o := .cells #[.int .u64 t362, .int .u64 t363, .bool t364, .int .u16 t365, .int .u16 t366, .slice Ao36 t367.length co36] 39 (0, 0)) (by (with_reducible repeat (first | refine blk_drewN ?_ _ | refine blk_drew ?_ | refine blk_alloc ?_ _)); refine blk_put (cs := #[.int .u64 t362, .int .u64 t363, .bool t364, .int .u16 t365, .int .u16 t366, .slice none 0 0]) ?_ 5 _ rfl; (with_reducible repeat (first | refine blk_drewN ?_ _ | refine blk_drew ?_ | refine blk_alloc ?_ _)); refine blk_put (cs := #[.int .u64 t362, .int .u64 t363, .bool t364, .int .u16 t365, .int .u16 0, .slice none 0 0]) ?_ 4 _ rfl; (with_reducible repeat (first | refine blk_drewN ?_ _ | refine blk_drew ?_ | refine blk_alloc ?_ _)); refine blk_put (cs := #[.int .u64 t362, .int .u64 t363, .bool t364, .int .u16 0, .int .u16 0, .slice none 0 0]) ?_ 3 _ rfl; (with_reducible repeat (first | refine blk_drewN ?_ _ | refine blk_drew ?_ | refine blk_alloc ?_ _)); refine blk_put (cs := #[.int .u64 t362, .int .u64 t363, .bool false, .int .u16 0, .int .u16 0, .slice none 0 0]) ?_ 2 _ rfl; (with_reducible repeat (first | refine blk_drewN ?_ _ | refine blk_drew ?_ | refine blk_alloc ?_ _)); refine blk_put (cs := #[.int .u64 t362, .int .u64 0, .bool false, .int .u16 0, .int .u16 0, .slice none 0 0]) ?_ 1 _ rfl; (with_reducible repeat (first | refine blk_drewN ?_ _ | refine blk_drew ?_ | refine blk_alloc ?_ _)); refine blk_put (cs := #[.int .u64 0, .int .u64 0, .bool false, .int .u16 0, .int .u16 0, .slice none 0 0]) ?_ 0 _ rfl; (with_reducible repeat (first | refine blk_drewN ?_ _ | refine blk_drew ?_ | refine blk_alloc ?_ _)); exact BK371.out) hb); have n3_ := Aside0.mk (below_step (by repeat (first | (with_reducible first | exact HB.out | apply below_alloc | apply pw_below_drewN | apply below_drew1 | refine below_set ?_ GE371.out) | exact HB.out)) hb); clear HO_6; clear HO369; clear BK371; clear HB; have HO_6 := n0_; have HO369 := n1_; have BK371 := n2_; have HB := n3_; clear n0_ n1_ n2_ n3_; (try clear hb); (try clear hb2); (try clear hk); (try clear hi)))
                      go_ret
                      exact ⟨by first | rfl | (simp [errW_none, errW_some] <;> rfl) | (simp only [← hji3]; first | rfl | (simp [errW_none, errW_some] <;> rfl)) | (simp [*, errW_none, errW_some] <;> rfl), by repeat (first | (with_reducible first | exact HB.out | apply below_alloc | apply pw_below_drewN | apply below_drew1 | refine below_set ?_ GE371.out) | exact HB.out)⟩
                    · replace c31 := Bool.eq_false_iff.mpr c31
                      subst c31
                      have H1 : (some false) = some r := by rw [if_neg (show ¬ (false = true) by decide)] at H; exact H
                      clear H
                      have H := H1
                      clear H1
                      obtain rfl := Option.some.inj H
                      obtain ⟨Ao38, co38, eo38⟩ := Kd.R_slice HO_6.out
                      subst eo38
                      go_wp2_with (first | ((with_reducible refine gate_callee (f := 21) rfl ?_); refine goesL_ (some 32) rfl rfl Try.func21 (by kernel_rfl) rfl #[.slice Ao38 x6_21.length co38] rfl (by (try simp only [List.map_toArray, List.map_cons, List.map_nil]); first | done | rfl | (simp only [List.length_drop, List.length_take]; rfl)) ?_; (with_reducible refine (frame_Parse.calls kj21 _ _ x6_21 t362 t363 t364 t365 t366 t367 t370 _ ?side1 ?side2 A28.out).mono ?_); (case side1 => repeat (first | exact (Kd.R_reads' HO_6.out).2.2 | (with_reducible refine Kd.C_alloc ?_ _) | (with_reducible refine Kd.C_drewN ?_ _) | (with_reducible refine Kd.C_drew ?_))); (case side2 => exact (Kd.R_reads' HO_6.out).2.1); rintro e w39 ⟨v368, rfl, ho0, hb⟩; refine ⟨_, rfl, ?_⟩; have n0_ := Aside0.mk (Kd.R_elder' (by (with_reducible repeat (first | apply Kd.R_alloc | apply Kd.R_drewN | apply Kd.R_drew)); exact HO_6.out) (Kd.R_base ho0) hb); have n1_ := Aside0.mk (Kd.R_lower (Kd.R_new' ho0 (Kd.R_lt (by (with_reducible repeat (first | apply Kd.R_alloc | apply Kd.R_drewN | apply Kd.R_drew)); exact HO_6.out))) (below_size (by repeat (first | (with_reducible first | exact HB.out | apply below_alloc | apply pw_below_drewN | apply below_drew1) | exact HB.out)))); have n2_ := Aside0.mk (below_step (by repeat (first | (with_reducible first | exact HB.out | apply below_alloc | apply pw_below_drewN | apply below_drew1) | exact HB.out)) hb); clear HO_6; clear HB; have HO_6 := n0_; have HO369 := n1_; have HB := n2_; clear n0_ n1_ n2_; (try clear hb); (try clear hb2); (try clear hk); (try clear hi); (try clear ho0)) | ((with_reducible refine gate_dst (N := 8) rfl ?_); refine box_event ?hg (N := 8) ?hd (cs := #[.int .u64 0, .int .u64 0, .bool false, .int .u16 0, .int .u16 0, .slice none 0 0]) (t := 39) ?hr ?_; (case hd => rfl); (case hg => rfl); (case hr => first | (go_simp; done) | (go_simp; rfl)); intro gb371 hg w40 hbox hb; have n0_ := Aside0.mk (Kd.R_below (by (with_reducible repeat (first | apply Kd.R_alloc | apply Kd.R_drewN | apply Kd.R_drew)); exact HO_6.out) hb); have n1_ := Aside0.mk (Kd.R_below (by (with_reducible repeat (first | apply Kd.R_alloc | apply Kd.R_drewN | apply Kd.R_drew)); exact HO369.out) hb); have n2_ := Aside0.mk (below_step (by repeat (first | (with_reducible first | exact HB.out | apply below_alloc | apply pw_below_drewN | apply below_drew1) | exact HB.out)) hb); have n3_ := Aside0.mk (hbox); have n4_ := Aside0.mk ((by rw [hg]; exact (below_size (by repeat (first | (with_reducible first | exact HB.out | apply below_alloc | apply pw_below_drewN | apply below_drew1) | exact HB.out))) : w.heap.size ≤ gb371)); have n5_ := Aside0.mk ((by rw [hg]; exact (below_size (by repeat (first | (with_reducible first | exact HB.out | apply below_alloc | apply pw_below_drewN | apply below_drew1) | exact HB.out))) : w.heap.size ≤ gb371)); clear HO_6; clear HO369; clear HB; have HO_6 := n0_; have HO369 := n1_; have HB := n2_; have BK371 := n3_; have GW371 := n4_; have GE371 := n5_; clear n0_ n1_ n2_ n3_ n4_ n5_; clear hb hbox hg; have hcz41_0 : w40.cell? ⟨gb371, 0, none⟩ = some (.int .u64 0) := (blk_cell BK371.out 0).trans rfl; have hcz41_1 : w40.cell? ⟨gb371, 1, none⟩ = some (.int .u64 0) := (blk_cell BK371.out 1).trans rfl; have hcz41_2 : w40.cell? ⟨gb371, 2, none⟩ = some (.bool false) := (blk_cell BK371.out 2).trans rfl; have hcz41_3 : w40.cell? ⟨gb371, 3, none⟩ = some (.int .u16 0) := (blk_cell BK371.out 3).trans rfl; have hcz41_4 : w40.cell? ⟨gb371, 4, none⟩ = some (.int .u16 0) := (blk_cell BK371.out 4).trans rfl; have hcz41_5 : w40.cell? ⟨gb371, 5, none⟩ = some (.slice none 0 0) := (blk_cell BK371.out 5).trans rfl; have hfz41_0 := blk_frozen BK371.out 0; have hfz41_1 := blk_frozen BK371.out 1; have hfz41_2 := blk_frozen BK371.out 2; have hfz41_3 := blk_frozen BK371.out 3; have hfz41_4 := blk_frozen BK371.out 4; have hfz41_5 := blk_frozen BK371.out 5; obtain ⟨Ao42, co42, eo42⟩ := Kd.R_slice HO369.out; subst eo42) | ((with_reducible refine gate_callee (f := 18) rfl ?_); refine goesL_ (some 37) rfl rfl Try.func18 (by kernel_rfl) rfl #[] rfl (by (try simp only [List.map_toArray, List.map_cons, List.map_nil]); first | done | rfl | (simp only [List.length_drop, List.length_take]; rfl)) ?_; (with_reducible refine (patchbaylaw02_told.calls kj21  false _ A30.out).mono ?_); rintro e w43 ⟨rfl, hb⟩; refine ⟨_, rfl, ?_⟩; have n0_ := Aside0.mk (Kd.R_below (by (with_reducible repeat (first | apply Kd.R_alloc | apply Kd.R_drewN | apply Kd.R_drew)); exact (Kd.R_mono (Kd.R_far (p := ⟨gb371, 5, none⟩) (Kd.R_far (p := ⟨gb371, 4, none⟩) (Kd.R_far (p := ⟨gb371, 3, none⟩) (Kd.R_far (p := ⟨gb371, 2, none⟩) (Kd.R_far (p := ⟨gb371, 1, none⟩) (Kd.R_far (p := ⟨gb371, 0, none⟩) (Kd.R_types HO_6.out BK371.out (by decide)) (fun _ hk => hk.2) (.int .u64 t362)) (fun _ hk => hk.2) (.int .u64 t363)) (fun _ hk => hk.2) (.bool t364)) (fun _ hk => hk.2) (.int .u16 t365)) (fun _ hk => hk.2) (.int .u16 t366)) (fun _ hk => hk.2) (.slice Ao42 t367.length co42)) (fun _ h_ => h_.1))) hb); have n1_ := Aside0.mk (Kd.R_below (by (with_reducible repeat (first | apply Kd.R_alloc | apply Kd.R_drewN | apply Kd.R_drew)); exact (Kd.R_mono (Kd.R_far (p := ⟨gb371, 5, none⟩) (Kd.R_far (p := ⟨gb371, 4, none⟩) (Kd.R_far (p := ⟨gb371, 3, none⟩) (Kd.R_far (p := ⟨gb371, 2, none⟩) (Kd.R_far (p := ⟨gb371, 1, none⟩) (Kd.R_far (p := ⟨gb371, 0, none⟩) (Kd.R_types HO369.out BK371.out (by decide)) (fun _ hk => hk.2) (.int .u64 t362)) (fun _ hk => hk.2) (.int .u64 t363)) (fun _ hk => hk.2) (.bool t364)) (fun _ hk => hk.2) (.int .u16 t365)) (fun _ hk => hk.2) (.int .u16 t366)) (fun _ hk => hk.2) (.slice Ao42 t367.length co42)) (fun _ h_ => h_.1))) hb); have n2_ := Aside0.mk (blk_below (g := gb371) (o := .cells #[.int .u64 t362, .int .u64 t363, .bool t364, .int .u16 t365, .int .u16 t366, .slice Ao42 t367.length co42] 39 (0, 0)) (by (with_reducible repeat (first | refine blk_drewN ?_ _ | refine blk_drew ?_ | refine blk_alloc ?_ _)); refine blk_put (cs := #[.int .u64 t362, .int .u64 t363, .bool t364, .int .u16 t365, .int .u16 t366, .slice none 0 0]) ?_ 5 _ rfl; (with_reducible repeat (first | refine blk_drewN ?_ _ | refine blk_drew ?_ | refine blk_alloc ?_ _)); refine blk_put (cs := #[.int .u64 t362, .int .u64 t363, .bool t364, .int .u16 t365, .int .u16 0, .slice none 0 0]) ?_ 4 _ rfl; (with_reducible repeat (first | refine blk_drewN ?_ _ | refine blk_drew ?_ | refine blk_alloc ?_ _)); refine blk_put (cs := #[.int .u64 t362, .int .u64 t363, .bool t364, .int .u16 0, .int .u16 0, .slice none 0 0]) ?_ 3 _ rfl; (with_reducible repeat (first | refine blk_drewN ?_ _ | refine blk_drew ?_ | refine blk_alloc ?_ _)); refine blk_put (cs := #[.int .u64 t362, .int .u64 t363, .bool false, .int .u16 0, .int .u16 0, .slice none 0 0]) ?_ 2 _ rfl; (with_reducible repeat (first | refine blk_drewN ?_ _ | refine blk_drew ?_ | refine blk_alloc ?_ _)); refine blk_put (cs := #[.int .u64 t362, .int .u64 0, .bool false, .int .u16 0, .int .u16 0, .slice none 0 0]) ?_ 1 _ rfl; (with_reducible repeat (first | refine blk_drewN ?_ _ | refine blk_drew ?_ | refine blk_alloc ?_ _)); refine blk_put (cs := #[.int .u64 0, .int .u64 0, .bool false, .int .u16 0, .int .u16 0, .slice none 0 0]) ?_ 0 _ rfl; (with_reducible repeat (first | refine blk_drewN ?_ _ | refine blk_drew ?_ | refine blk_alloc ?_ _)); exact BK371.out) hb); have n3_ := Aside0.mk (below_step (by repeat (first | (with_reducible first | exact HB.out | apply below_alloc | apply pw_below_drewN | apply below_drew1 | refine below_set ?_ GE371.out) | exact HB.out)) hb); clear HO_6; clear HO369; clear BK371; clear HB; have HO_6 := n0_; have HO369 := n1_; have BK371 := n2_; have HB := n3_; clear n0_ n1_ n2_ n3_; (try clear hb); (try clear hb2); (try clear hk); (try clear hi)))
                      go_ret
                      exact ⟨by first | rfl | (simp [errW_none, errW_some] <;> rfl) | (simp only [← hji3]; first | rfl | (simp [errW_none, errW_some] <;> rfl)) | (simp [*, errW_none, errW_some] <;> rfl), by repeat (first | (with_reducible first | exact HB.out | apply below_alloc | apply pw_below_drewN | apply below_drew1 | refine below_set ?_ GE371.out) | exact HB.out)⟩
                  · rw [if_neg c29] at H
                    have c29b0 : decide (ji3 < 60) = false := decide_eq_false c29
                    clear c29
                    by_cases c44 : ji3 > x7_5
                    · rw [if_pos c44] at H
                      have c44b0 : decide (x7_5 < ji3) = true := decide_eq_true c44
                      clear c44
                      replace H := Option.bind_eq_some_iff.mp H
                      obtain ⟨t373, A450, H⟩ := H
                      replace H : (if t373 = true then (some (t370 == 3)) else (some false)) = some r := H
                      have A45 := Aside0.mk A450
                      clear A450
                      by_cases c46 : t373 = true
                      · subst c46
                        have H1 : (some (t370 == 3)) = some r := by rw [if_pos rfl] at H; exact H
                        clear H
                        have H := H1
                        clear H1
                        obtain rfl := Option.some.inj H
                        obtain ⟨Ao47, co47, eo47⟩ := Kd.R_slice HO_6.out
                        subst eo47
                        go_wp2_with (first | ((with_reducible refine gate_callee (f := 21) rfl ?_); refine goesL_ (some 32) rfl rfl Try.func21 (by kernel_rfl) rfl #[.slice Ao47 x6_21.length co47] rfl (by (try simp only [List.map_toArray, List.map_cons, List.map_nil]); first | done | rfl | (simp only [List.length_drop, List.length_take]; rfl)) ?_; (with_reducible refine (frame_Parse.calls kj21 _ _ x6_21 t362 t363 t364 t365 t366 t367 t370 _ ?side1 ?side2 A28.out).mono ?_); (case side1 => repeat (first | exact (Kd.R_reads' HO_6.out).2.2 | (with_reducible refine Kd.C_alloc ?_ _) | (with_reducible refine Kd.C_drewN ?_ _) | (with_reducible refine Kd.C_drew ?_))); (case side2 => exact (Kd.R_reads' HO_6.out).2.1); rintro e w48 ⟨v368, rfl, ho0, hb⟩; refine ⟨_, rfl, ?_⟩; have n0_ := Aside0.mk (Kd.R_elder' (by (with_reducible repeat (first | apply Kd.R_alloc | apply Kd.R_drewN | apply Kd.R_drew)); exact HO_6.out) (Kd.R_base ho0) hb); have n1_ := Aside0.mk (Kd.R_lower (Kd.R_new' ho0 (Kd.R_lt (by (with_reducible repeat (first | apply Kd.R_alloc | apply Kd.R_drewN | apply Kd.R_drew)); exact HO_6.out))) (below_size (by repeat (first | (with_reducible first | exact HB.out | apply below_alloc | apply pw_below_drewN | apply below_drew1) | exact HB.out)))); have n2_ := Aside0.mk (below_step (by repeat (first | (with_reducible first | exact HB.out | apply below_alloc | apply pw_below_drewN | apply below_drew1) | exact HB.out)) hb); clear HO_6; clear HB; have HO_6 := n0_; have HO369 := n1_; have HB := n2_; clear n0_ n1_ n2_; (try clear hb); (try clear hb2); (try clear hk); (try clear hi); (try clear ho0)) | ((with_reducible refine gate_dst (N := 8) rfl ?_); refine box_event ?hg (N := 8) ?hd (cs := #[.int .u64 0, .int .u64 0, .bool false, .int .u16 0, .int .u16 0, .slice none 0 0]) (t := 39) ?hr ?_; (case hd => rfl); (case hg => rfl); (case hr => first | (go_simp; done) | (go_simp; rfl)); intro gb371 hg w49 hbox hb; have n0_ := Aside0.mk (Kd.R_below (by (with_reducible repeat (first | apply Kd.R_alloc | apply Kd.R_drewN | apply Kd.R_drew)); exact HO_6.out) hb); have n1_ := Aside0.mk (Kd.R_below (by (with_reducible repeat (first | apply Kd.R_alloc | apply Kd.R_drewN | apply Kd.R_drew)); exact HO369.out) hb); have n2_ := Aside0.mk (below_step (by repeat (first | (with_reducible first | exact HB.out | apply below_alloc | apply pw_below_drewN | apply below_drew1) | exact HB.out)) hb); have n3_ := Aside0.mk (hbox); have n4_ := Aside0.mk ((by rw [hg]; exact (below_size (by repeat (first | (with_reducible first | exact HB.out | apply below_alloc | apply pw_below_drewN | apply below_drew1) | exact HB.out))) : w.heap.size ≤ gb371)); have n5_ := Aside0.mk ((by rw [hg]; exact (below_size (by repeat (first | (with_reducible first | exact HB.out | apply below_alloc | apply pw_below_drewN | apply below_drew1) | exact HB.out))) : w.heap.size ≤ gb371)); clear HO_6; clear HO369; clear HB; have HO_6 := n0_; have HO369 := n1_; have HB := n2_; have BK371 := n3_; have GW371 := n4_; have GE371 := n5_; clear n0_ n1_ n2_ n3_ n4_ n5_; clear hb hbox hg; have hcz50_0 : w49.cell? ⟨gb371, 0, none⟩ = some (.int .u64 0) := (blk_cell BK371.out 0).trans rfl; have hcz50_1 : w49.cell? ⟨gb371, 1, none⟩ = some (.int .u64 0) := (blk_cell BK371.out 1).trans rfl; have hcz50_2 : w49.cell? ⟨gb371, 2, none⟩ = some (.bool false) := (blk_cell BK371.out 2).trans rfl; have hcz50_3 : w49.cell? ⟨gb371, 3, none⟩ = some (.int .u16 0) := (blk_cell BK371.out 3).trans rfl; have hcz50_4 : w49.cell? ⟨gb371, 4, none⟩ = some (.int .u16 0) := (blk_cell BK371.out 4).trans rfl; have hcz50_5 : w49.cell? ⟨gb371, 5, none⟩ = some (.slice none 0 0) := (blk_cell BK371.out 5).trans rfl; have hfz50_0 := blk_frozen BK371.out 0; have hfz50_1 := blk_frozen BK371.out 1; have hfz50_2 := blk_frozen BK371.out 2; have hfz50_3 := blk_frozen BK371.out 3; have hfz50_4 := blk_frozen BK371.out 4; have hfz50_5 := blk_frozen BK371.out 5; obtain ⟨Ao51, co51, eo51⟩ := Kd.R_slice HO369.out; subst eo51) | ((with_reducible refine gate_callee (f := 18) rfl ?_); refine goesL_ (some 45) rfl rfl Try.func18 (by kernel_rfl) rfl #[] rfl (by (try simp only [List.map_toArray, List.map_cons, List.map_nil]); first | done | rfl | (simp only [List.length_drop, List.length_take]; rfl)) ?_; (with_reducible refine (patchbaylaw02_told.calls kj21  true _ A45.out).mono ?_); rintro e w52 ⟨rfl, hb⟩; refine ⟨_, rfl, ?_⟩; have n0_ := Aside0.mk (Kd.R_below (by (with_reducible repeat (first | apply Kd.R_alloc | apply Kd.R_drewN | apply Kd.R_drew)); exact (Kd.R_mono (Kd.R_far (p := ⟨gb371, 5, none⟩) (Kd.R_far (p := ⟨gb371, 4, none⟩) (Kd.R_far (p := ⟨gb371, 3, none⟩) (Kd.R_far (p := ⟨gb371, 2, none⟩) (Kd.R_far (p := ⟨gb371, 1, none⟩) (Kd.R_far (p := ⟨gb371, 0, none⟩) (Kd.R_types HO_6.out BK371.out (by decide)) (fun _ hk => hk.2) (.int .u64 t362)) (fun _ hk => hk.2) (.int .u64 t363)) (fun _ hk => hk.2) (.bool t364)) (fun _ hk => hk.2) (.int .u16 t365)) (fun _ hk => hk.2) (.int .u16 t366)) (fun _ hk => hk.2) (.slice Ao51 t367.length co51)) (fun _ h_ => h_.1))) hb); have n1_ := Aside0.mk (Kd.R_below (by (with_reducible repeat (first | apply Kd.R_alloc | apply Kd.R_drewN | apply Kd.R_drew)); exact (Kd.R_mono (Kd.R_far (p := ⟨gb371, 5, none⟩) (Kd.R_far (p := ⟨gb371, 4, none⟩) (Kd.R_far (p := ⟨gb371, 3, none⟩) (Kd.R_far (p := ⟨gb371, 2, none⟩) (Kd.R_far (p := ⟨gb371, 1, none⟩) (Kd.R_far (p := ⟨gb371, 0, none⟩) (Kd.R_types HO369.out BK371.out (by decide)) (fun _ hk => hk.2) (.int .u64 t362)) (fun _ hk => hk.2) (.int .u64 t363)) (fun _ hk => hk.2) (.bool t364)) (fun _ hk => hk.2) (.int .u16 t365)) (fun _ hk => hk.2) (.int .u16 t366)) (fun _ hk => hk.2) (.slice Ao51 t367.length co51)) (fun _ h_ => h_.1))) hb); have n2_ := Aside0.mk (blk_below (g := gb371) (o := .cells #[.int .u64 t362, .int .u64 t363, .bool t364, .int .u16 t365, .int .u16 t366, .slice Ao51 t367.length co51] 39 (0, 0)) (by (with_reducible repeat (first | refine blk_drewN ?_ _ | refine blk_drew ?_ | refine blk_alloc ?_ _)); refine blk_put (cs := #[.int .u64 t362, .int .u64 t363, .bool t364, .int .u16 t365, .int .u16 t366, .slice none 0 0]) ?_ 5 _ rfl; (with_reducible repeat (first | refine blk_drewN ?_ _ | refine blk_drew ?_ | refine blk_alloc ?_ _)); refine blk_put (cs := #[.int .u64 t362, .int .u64 t363, .bool t364, .int .u16 t365, .int .u16 0, .slice none 0 0]) ?_ 4 _ rfl; (with_reducible repeat (first | refine blk_drewN ?_ _ | refine blk_drew ?_ | refine blk_alloc ?_ _)); refine blk_put (cs := #[.int .u64 t362, .int .u64 t363, .bool t364, .int .u16 0, .int .u16 0, .slice none 0 0]) ?_ 3 _ rfl; (with_reducible repeat (first | refine blk_drewN ?_ _ | refine blk_drew ?_ | refine blk_alloc ?_ _)); refine blk_put (cs := #[.int .u64 t362, .int .u64 t363, .bool false, .int .u16 0, .int .u16 0, .slice none 0 0]) ?_ 2 _ rfl; (with_reducible repeat (first | refine blk_drewN ?_ _ | refine blk_drew ?_ | refine blk_alloc ?_ _)); refine blk_put (cs := #[.int .u64 t362, .int .u64 0, .bool false, .int .u16 0, .int .u16 0, .slice none 0 0]) ?_ 1 _ rfl; (with_reducible repeat (first | refine blk_drewN ?_ _ | refine blk_drew ?_ | refine blk_alloc ?_ _)); refine blk_put (cs := #[.int .u64 0, .int .u64 0, .bool false, .int .u16 0, .int .u16 0, .slice none 0 0]) ?_ 0 _ rfl; (with_reducible repeat (first | refine blk_drewN ?_ _ | refine blk_drew ?_ | refine blk_alloc ?_ _)); exact BK371.out) hb); have n3_ := Aside0.mk (below_step (by repeat (first | (with_reducible first | exact HB.out | apply below_alloc | apply pw_below_drewN | apply below_drew1 | refine below_set ?_ GE371.out) | exact HB.out)) hb); clear HO_6; clear HO369; clear BK371; clear HB; have HO_6 := n0_; have HO369 := n1_; have BK371 := n2_; have HB := n3_; clear n0_ n1_ n2_ n3_; (try clear hb); (try clear hb2); (try clear hk); (try clear hi)))
                        go_ret
                        exact ⟨by first | rfl | (simp [errW_none, errW_some] <;> rfl) | (simp only [← hji3]; first | rfl | (simp [errW_none, errW_some] <;> rfl)) | (simp [*, errW_none, errW_some] <;> rfl), by repeat (first | (with_reducible first | exact HB.out | apply below_alloc | apply pw_below_drewN | apply below_drew1 | refine below_set ?_ GE371.out) | exact HB.out)⟩
                      · replace c46 := Bool.eq_false_iff.mpr c46
                        subst c46
                        have H1 : (some false) = some r := by rw [if_neg (show ¬ (false = true) by decide)] at H; exact H
                        clear H
                        have H := H1
                        clear H1
                        obtain rfl := Option.some.inj H
                        obtain ⟨Ao53, co53, eo53⟩ := Kd.R_slice HO_6.out
                        subst eo53
                        go_wp2_with (first | ((with_reducible refine gate_callee (f := 21) rfl ?_); refine goesL_ (some 32) rfl rfl Try.func21 (by kernel_rfl) rfl #[.slice Ao53 x6_21.length co53] rfl (by (try simp only [List.map_toArray, List.map_cons, List.map_nil]); first | done | rfl | (simp only [List.length_drop, List.length_take]; rfl)) ?_; (with_reducible refine (frame_Parse.calls kj21 _ _ x6_21 t362 t363 t364 t365 t366 t367 t370 _ ?side1 ?side2 A28.out).mono ?_); (case side1 => repeat (first | exact (Kd.R_reads' HO_6.out).2.2 | (with_reducible refine Kd.C_alloc ?_ _) | (with_reducible refine Kd.C_drewN ?_ _) | (with_reducible refine Kd.C_drew ?_))); (case side2 => exact (Kd.R_reads' HO_6.out).2.1); rintro e w54 ⟨v368, rfl, ho0, hb⟩; refine ⟨_, rfl, ?_⟩; have n0_ := Aside0.mk (Kd.R_elder' (by (with_reducible repeat (first | apply Kd.R_alloc | apply Kd.R_drewN | apply Kd.R_drew)); exact HO_6.out) (Kd.R_base ho0) hb); have n1_ := Aside0.mk (Kd.R_lower (Kd.R_new' ho0 (Kd.R_lt (by (with_reducible repeat (first | apply Kd.R_alloc | apply Kd.R_drewN | apply Kd.R_drew)); exact HO_6.out))) (below_size (by repeat (first | (with_reducible first | exact HB.out | apply below_alloc | apply pw_below_drewN | apply below_drew1) | exact HB.out)))); have n2_ := Aside0.mk (below_step (by repeat (first | (with_reducible first | exact HB.out | apply below_alloc | apply pw_below_drewN | apply below_drew1) | exact HB.out)) hb); clear HO_6; clear HB; have HO_6 := n0_; have HO369 := n1_; have HB := n2_; clear n0_ n1_ n2_; (try clear hb); (try clear hb2); (try clear hk); (try clear hi); (try clear ho0)) | ((with_reducible refine gate_dst (N := 8) rfl ?_); refine box_event ?hg (N := 8) ?hd (cs := #[.int .u64 0, .int .u64 0, .bool false, .int .u16 0, .int .u16 0, .slice none 0 0]) (t := 39) ?hr ?_; (case hd => rfl); (case hg => rfl); (case hr => first | (go_simp; done) | (go_simp; rfl)); intro gb371 hg w55 hbox hb; have n0_ := Aside0.mk (Kd.R_below (by (with_reducible repeat (first | apply Kd.R_alloc | apply Kd.R_drewN | apply Kd.R_drew)); exact HO_6.out) hb); have n1_ := Aside0.mk (Kd.R_below (by (with_reducible repeat (first | apply Kd.R_alloc | apply Kd.R_drewN | apply Kd.R_drew)); exact HO369.out) hb); have n2_ := Aside0.mk (below_step (by repeat (first | (with_reducible first | exact HB.out | apply below_alloc | apply pw_below_drewN | apply below_drew1) | exact HB.out)) hb); have n3_ := Aside0.mk (hbox); have n4_ := Aside0.mk ((by rw [hg]; exact (below_size (by repeat (first | (with_reducible first | exact HB.out | apply below_alloc | apply pw_below_drewN | apply below_drew1) | exact HB.out))) : w.heap.size ≤ gb371)); have n5_ := Aside0.mk ((by rw [hg]; exact (below_size (by repeat (first | (with_reducible first | exact HB.out | apply below_alloc | apply pw_below_drewN | apply below_drew1) | exact HB.out))) : w.heap.size ≤ gb371)); clear HO_6; clear HO369; clear HB; have HO_6 := n0_; have HO369 := n1_; have HB := n2_; have BK371 := n3_; have GW371 := n4_; have GE371 := n5_; clear n0_ n1_ n2_ n3_ n4_ n5_; clear hb hbox hg; have hcz56_0 : w55.cell? ⟨gb371, 0, none⟩ = some (.int .u64 0) := (blk_cell BK371.out 0).trans rfl; have hcz56_1 : w55.cell? ⟨gb371, 1, none⟩ = some (.int .u64 0) := (blk_cell BK371.out 1).trans rfl; have hcz56_2 : w55.cell? ⟨gb371, 2, none⟩ = some (.bool false) := (blk_cell BK371.out 2).trans rfl; have hcz56_3 : w55.cell? ⟨gb371, 3, none⟩ = some (.int .u16 0) := (blk_cell BK371.out 3).trans rfl; have hcz56_4 : w55.cell? ⟨gb371, 4, none⟩ = some (.int .u16 0) := (blk_cell BK371.out 4).trans rfl; have hcz56_5 : w55.cell? ⟨gb371, 5, none⟩ = some (.slice none 0 0) := (blk_cell BK371.out 5).trans rfl; have hfz56_0 := blk_frozen BK371.out 0; have hfz56_1 := blk_frozen BK371.out 1; have hfz56_2 := blk_frozen BK371.out 2; have hfz56_3 := blk_frozen BK371.out 3; have hfz56_4 := blk_frozen BK371.out 4; have hfz56_5 := blk_frozen BK371.out 5; obtain ⟨Ao57, co57, eo57⟩ := Kd.R_slice HO369.out; subst eo57) | ((with_reducible refine gate_callee (f := 18) rfl ?_); refine goesL_ (some 45) rfl rfl Try.func18 (by kernel_rfl) rfl #[] rfl (by (try simp only [List.map_toArray, List.map_cons, List.map_nil]); first | done | rfl | (simp only [List.length_drop, List.length_take]; rfl)) ?_; (with_reducible refine (patchbaylaw02_told.calls kj21  false _ A45.out).mono ?_); rintro e w58 ⟨rfl, hb⟩; refine ⟨_, rfl, ?_⟩; have n0_ := Aside0.mk (Kd.R_below (by (with_reducible repeat (first | apply Kd.R_alloc | apply Kd.R_drewN | apply Kd.R_drew)); exact (Kd.R_mono (Kd.R_far (p := ⟨gb371, 5, none⟩) (Kd.R_far (p := ⟨gb371, 4, none⟩) (Kd.R_far (p := ⟨gb371, 3, none⟩) (Kd.R_far (p := ⟨gb371, 2, none⟩) (Kd.R_far (p := ⟨gb371, 1, none⟩) (Kd.R_far (p := ⟨gb371, 0, none⟩) (Kd.R_types HO_6.out BK371.out (by decide)) (fun _ hk => hk.2) (.int .u64 t362)) (fun _ hk => hk.2) (.int .u64 t363)) (fun _ hk => hk.2) (.bool t364)) (fun _ hk => hk.2) (.int .u16 t365)) (fun _ hk => hk.2) (.int .u16 t366)) (fun _ hk => hk.2) (.slice Ao57 t367.length co57)) (fun _ h_ => h_.1))) hb); have n1_ := Aside0.mk (Kd.R_below (by (with_reducible repeat (first | apply Kd.R_alloc | apply Kd.R_drewN | apply Kd.R_drew)); exact (Kd.R_mono (Kd.R_far (p := ⟨gb371, 5, none⟩) (Kd.R_far (p := ⟨gb371, 4, none⟩) (Kd.R_far (p := ⟨gb371, 3, none⟩) (Kd.R_far (p := ⟨gb371, 2, none⟩) (Kd.R_far (p := ⟨gb371, 1, none⟩) (Kd.R_far (p := ⟨gb371, 0, none⟩) (Kd.R_types HO369.out BK371.out (by decide)) (fun _ hk => hk.2) (.int .u64 t362)) (fun _ hk => hk.2) (.int .u64 t363)) (fun _ hk => hk.2) (.bool t364)) (fun _ hk => hk.2) (.int .u16 t365)) (fun _ hk => hk.2) (.int .u16 t366)) (fun _ hk => hk.2) (.slice Ao57 t367.length co57)) (fun _ h_ => h_.1))) hb); have n2_ := Aside0.mk (blk_below (g := gb371) (o := .cells #[.int .u64 t362, .int .u64 t363, .bool t364, .int .u16 t365, .int .u16 t366, .slice Ao57 t367.length co57] 39 (0, 0)) (by (with_reducible repeat (first | refine blk_drewN ?_ _ | refine blk_drew ?_ | refine blk_alloc ?_ _)); refine blk_put (cs := #[.int .u64 t362, .int .u64 t363, .bool t364, .int .u16 t365, .int .u16 t366, .slice none 0 0]) ?_ 5 _ rfl; (with_reducible repeat (first | refine blk_drewN ?_ _ | refine blk_drew ?_ | refine blk_alloc ?_ _)); refine blk_put (cs := #[.int .u64 t362, .int .u64 t363, .bool t364, .int .u16 t365, .int .u16 0, .slice none 0 0]) ?_ 4 _ rfl; (with_reducible repeat (first | refine blk_drewN ?_ _ | refine blk_drew ?_ | refine blk_alloc ?_ _)); refine blk_put (cs := #[.int .u64 t362, .int .u64 t363, .bool t364, .int .u16 0, .int .u16 0, .slice none 0 0]) ?_ 3 _ rfl; (with_reducible repeat (first | refine blk_drewN ?_ _ | refine blk_drew ?_ | refine blk_alloc ?_ _)); refine blk_put (cs := #[.int .u64 t362, .int .u64 t363, .bool false, .int .u16 0, .int .u16 0, .slice none 0 0]) ?_ 2 _ rfl; (with_reducible repeat (first | refine blk_drewN ?_ _ | refine blk_drew ?_ | refine blk_alloc ?_ _)); refine blk_put (cs := #[.int .u64 t362, .int .u64 0, .bool false, .int .u16 0, .int .u16 0, .slice none 0 0]) ?_ 1 _ rfl; (with_reducible repeat (first | refine blk_drewN ?_ _ | refine blk_drew ?_ | refine blk_alloc ?_ _)); refine blk_put (cs := #[.int .u64 0, .int .u64 0, .bool false, .int .u16 0, .int .u16 0, .slice none 0 0]) ?_ 0 _ rfl; (with_reducible repeat (first | refine blk_drewN ?_ _ | refine blk_drew ?_ | refine blk_alloc ?_ _)); exact BK371.out) hb); have n3_ := Aside0.mk (below_step (by repeat (first | (with_reducible first | exact HB.out | apply below_alloc | apply pw_below_drewN | apply below_drew1 | refine below_set ?_ GE371.out) | exact HB.out)) hb); clear HO_6; clear HO369; clear BK371; clear HB; have HO_6 := n0_; have HO369 := n1_; have BK371 := n2_; have HB := n3_; clear n0_ n1_ n2_ n3_; (try clear hb); (try clear hb2); (try clear hk); (try clear hi)))
                        go_ret
                        exact ⟨by first | rfl | (simp [errW_none, errW_some] <;> rfl) | (simp only [← hji3]; first | rfl | (simp [errW_none, errW_some] <;> rfl)) | (simp [*, errW_none, errW_some] <;> rfl), by repeat (first | (with_reducible first | exact HB.out | apply below_alloc | apply pw_below_drewN | apply below_drew1 | refine below_set ?_ GE371.out) | exact HB.out)⟩
                    · rw [if_neg c44] at H
                      have c44b0 : decide (x7_5 < ji3) = false := decide_eq_false c44
                      clear c44
                      replace H := Option.bind_eq_some_iff.mp H
                      obtain ⟨t374, A590, H⟩ := H
                      replace H : (if t374 = true then (some (t370 == 0)) else (some false)) = some r := H
                      have A59 := Aside0.mk A590
                      clear A590
                      by_cases c60 : t374 = true
                      · subst c60
                        have H1 : (some (t370 == 0)) = some r := by rw [if_pos rfl] at H; exact H
                        clear H
                        have H := H1
                        clear H1
                        obtain rfl := Option.some.inj H
                        obtain ⟨Ao61, co61, eo61⟩ := Kd.R_slice HO_6.out
                        subst eo61
                        go_wp2_with (first | ((with_reducible refine gate_callee (f := 21) rfl ?_); refine goesL_ (some 32) rfl rfl Try.func21 (by kernel_rfl) rfl #[.slice Ao61 x6_21.length co61] rfl (by (try simp only [List.map_toArray, List.map_cons, List.map_nil]); first | done | rfl | (simp only [List.length_drop, List.length_take]; rfl)) ?_; (with_reducible refine (frame_Parse.calls kj21 _ _ x6_21 t362 t363 t364 t365 t366 t367 t370 _ ?side1 ?side2 A28.out).mono ?_); (case side1 => repeat (first | exact (Kd.R_reads' HO_6.out).2.2 | (with_reducible refine Kd.C_alloc ?_ _) | (with_reducible refine Kd.C_drewN ?_ _) | (with_reducible refine Kd.C_drew ?_))); (case side2 => exact (Kd.R_reads' HO_6.out).2.1); rintro e w62 ⟨v368, rfl, ho0, hb⟩; refine ⟨_, rfl, ?_⟩; have n0_ := Aside0.mk (Kd.R_elder' (by (with_reducible repeat (first | apply Kd.R_alloc | apply Kd.R_drewN | apply Kd.R_drew)); exact HO_6.out) (Kd.R_base ho0) hb); have n1_ := Aside0.mk (Kd.R_lower (Kd.R_new' ho0 (Kd.R_lt (by (with_reducible repeat (first | apply Kd.R_alloc | apply Kd.R_drewN | apply Kd.R_drew)); exact HO_6.out))) (below_size (by repeat (first | (with_reducible first | exact HB.out | apply below_alloc | apply pw_below_drewN | apply below_drew1) | exact HB.out)))); have n2_ := Aside0.mk (below_step (by repeat (first | (with_reducible first | exact HB.out | apply below_alloc | apply pw_below_drewN | apply below_drew1) | exact HB.out)) hb); clear HO_6; clear HB; have HO_6 := n0_; have HO369 := n1_; have HB := n2_; clear n0_ n1_ n2_; (try clear hb); (try clear hb2); (try clear hk); (try clear hi); (try clear ho0)) | ((with_reducible refine gate_dst (N := 8) rfl ?_); refine box_event ?hg (N := 8) ?hd (cs := #[.int .u64 0, .int .u64 0, .bool false, .int .u16 0, .int .u16 0, .slice none 0 0]) (t := 39) ?hr ?_; (case hd => rfl); (case hg => rfl); (case hr => first | (go_simp; done) | (go_simp; rfl)); intro gb371 hg w63 hbox hb; have n0_ := Aside0.mk (Kd.R_below (by (with_reducible repeat (first | apply Kd.R_alloc | apply Kd.R_drewN | apply Kd.R_drew)); exact HO_6.out) hb); have n1_ := Aside0.mk (Kd.R_below (by (with_reducible repeat (first | apply Kd.R_alloc | apply Kd.R_drewN | apply Kd.R_drew)); exact HO369.out) hb); have n2_ := Aside0.mk (below_step (by repeat (first | (with_reducible first | exact HB.out | apply below_alloc | apply pw_below_drewN | apply below_drew1) | exact HB.out)) hb); have n3_ := Aside0.mk (hbox); have n4_ := Aside0.mk ((by rw [hg]; exact (below_size (by repeat (first | (with_reducible first | exact HB.out | apply below_alloc | apply pw_below_drewN | apply below_drew1) | exact HB.out))) : w.heap.size ≤ gb371)); have n5_ := Aside0.mk ((by rw [hg]; exact (below_size (by repeat (first | (with_reducible first | exact HB.out | apply below_alloc | apply pw_below_drewN | apply below_drew1) | exact HB.out))) : w.heap.size ≤ gb371)); clear HO_6; clear HO369; clear HB; have HO_6 := n0_; have HO369 := n1_; have HB := n2_; have BK371 := n3_; have GW371 := n4_; have GE371 := n5_; clear n0_ n1_ n2_ n3_ n4_ n5_; clear hb hbox hg; have hcz64_0 : w63.cell? ⟨gb371, 0, none⟩ = some (.int .u64 0) := (blk_cell BK371.out 0).trans rfl; have hcz64_1 : w63.cell? ⟨gb371, 1, none⟩ = some (.int .u64 0) := (blk_cell BK371.out 1).trans rfl; have hcz64_2 : w63.cell? ⟨gb371, 2, none⟩ = some (.bool false) := (blk_cell BK371.out 2).trans rfl; have hcz64_3 : w63.cell? ⟨gb371, 3, none⟩ = some (.int .u16 0) := (blk_cell BK371.out 3).trans rfl; have hcz64_4 : w63.cell? ⟨gb371, 4, none⟩ = some (.int .u16 0) := (blk_cell BK371.out 4).trans rfl; have hcz64_5 : w63.cell? ⟨gb371, 5, none⟩ = some (.slice none 0 0) := (blk_cell BK371.out 5).trans rfl; have hfz64_0 := blk_frozen BK371.out 0; have hfz64_1 := blk_frozen BK371.out 1; have hfz64_2 := blk_frozen BK371.out 2; have hfz64_3 := blk_frozen BK371.out 3; have hfz64_4 := blk_frozen BK371.out 4; have hfz64_5 := blk_frozen BK371.out 5; obtain ⟨Ao65, co65, eo65⟩ := Kd.R_slice HO369.out; subst eo65) | ((with_reducible refine gate_callee (f := 18) rfl ?_); refine goesL_ (some 50) rfl rfl Try.func18 (by kernel_rfl) rfl #[] rfl (by (try simp only [List.map_toArray, List.map_cons, List.map_nil]); first | done | rfl | (simp only [List.length_drop, List.length_take]; rfl)) ?_; (with_reducible refine (patchbaylaw02_told.calls kj21  true _ A59.out).mono ?_); rintro e w66 ⟨rfl, hb⟩; refine ⟨_, rfl, ?_⟩; have n0_ := Aside0.mk (Kd.R_below (by (with_reducible repeat (first | apply Kd.R_alloc | apply Kd.R_drewN | apply Kd.R_drew)); exact (Kd.R_mono (Kd.R_far (p := ⟨gb371, 5, none⟩) (Kd.R_far (p := ⟨gb371, 4, none⟩) (Kd.R_far (p := ⟨gb371, 3, none⟩) (Kd.R_far (p := ⟨gb371, 2, none⟩) (Kd.R_far (p := ⟨gb371, 1, none⟩) (Kd.R_far (p := ⟨gb371, 0, none⟩) (Kd.R_types HO_6.out BK371.out (by decide)) (fun _ hk => hk.2) (.int .u64 t362)) (fun _ hk => hk.2) (.int .u64 t363)) (fun _ hk => hk.2) (.bool t364)) (fun _ hk => hk.2) (.int .u16 t365)) (fun _ hk => hk.2) (.int .u16 t366)) (fun _ hk => hk.2) (.slice Ao65 t367.length co65)) (fun _ h_ => h_.1))) hb); have n1_ := Aside0.mk (Kd.R_below (by (with_reducible repeat (first | apply Kd.R_alloc | apply Kd.R_drewN | apply Kd.R_drew)); exact (Kd.R_mono (Kd.R_far (p := ⟨gb371, 5, none⟩) (Kd.R_far (p := ⟨gb371, 4, none⟩) (Kd.R_far (p := ⟨gb371, 3, none⟩) (Kd.R_far (p := ⟨gb371, 2, none⟩) (Kd.R_far (p := ⟨gb371, 1, none⟩) (Kd.R_far (p := ⟨gb371, 0, none⟩) (Kd.R_types HO369.out BK371.out (by decide)) (fun _ hk => hk.2) (.int .u64 t362)) (fun _ hk => hk.2) (.int .u64 t363)) (fun _ hk => hk.2) (.bool t364)) (fun _ hk => hk.2) (.int .u16 t365)) (fun _ hk => hk.2) (.int .u16 t366)) (fun _ hk => hk.2) (.slice Ao65 t367.length co65)) (fun _ h_ => h_.1))) hb); have n2_ := Aside0.mk (blk_below (g := gb371) (o := .cells #[.int .u64 t362, .int .u64 t363, .bool t364, .int .u16 t365, .int .u16 t366, .slice Ao65 t367.length co65] 39 (0, 0)) (by (with_reducible repeat (first | refine blk_drewN ?_ _ | refine blk_drew ?_ | refine blk_alloc ?_ _)); refine blk_put (cs := #[.int .u64 t362, .int .u64 t363, .bool t364, .int .u16 t365, .int .u16 t366, .slice none 0 0]) ?_ 5 _ rfl; (with_reducible repeat (first | refine blk_drewN ?_ _ | refine blk_drew ?_ | refine blk_alloc ?_ _)); refine blk_put (cs := #[.int .u64 t362, .int .u64 t363, .bool t364, .int .u16 t365, .int .u16 0, .slice none 0 0]) ?_ 4 _ rfl; (with_reducible repeat (first | refine blk_drewN ?_ _ | refine blk_drew ?_ | refine blk_alloc ?_ _)); refine blk_put (cs := #[.int .u64 t362, .int .u64 t363, .bool t364, .int .u16 0, .int .u16 0, .slice none 0 0]) ?_ 3 _ rfl; (with_reducible repeat (first | refine blk_drewN ?_ _ | refine blk_drew ?_ | refine blk_alloc ?_ _)); refine blk_put (cs := #[.int .u64 t362, .int .u64 t363, .bool false, .int .u16 0, .int .u16 0, .slice none 0 0]) ?_ 2 _ rfl; (with_reducible repeat (first | refine blk_drewN ?_ _ | refine blk_drew ?_ | refine blk_alloc ?_ _)); refine blk_put (cs := #[.int .u64 t362, .int .u64 0, .bool false, .int .u16 0, .int .u16 0, .slice none 0 0]) ?_ 1 _ rfl; (with_reducible repeat (first | refine blk_drewN ?_ _ | refine blk_drew ?_ | refine blk_alloc ?_ _)); refine blk_put (cs := #[.int .u64 0, .int .u64 0, .bool false, .int .u16 0, .int .u16 0, .slice none 0 0]) ?_ 0 _ rfl; (with_reducible repeat (first | refine blk_drewN ?_ _ | refine blk_drew ?_ | refine blk_alloc ?_ _)); exact BK371.out) hb); have n3_ := Aside0.mk (below_step (by repeat (first | (with_reducible first | exact HB.out | apply below_alloc | apply pw_below_drewN | apply below_drew1 | refine below_set ?_ GE371.out) | exact HB.out)) hb); clear HO_6; clear HO369; clear BK371; clear HB; have HO_6 := n0_; have HO369 := n1_; have BK371 := n2_; have HB := n3_; clear n0_ n1_ n2_ n3_; (try clear hb); (try clear hb2); (try clear hk); (try clear hi)))
                        go_ret
                        exact ⟨by first | rfl | (simp [errW_none, errW_some] <;> rfl) | (simp only [← hji3]; first | rfl | (simp [errW_none, errW_some] <;> rfl)) | (simp [*, errW_none, errW_some] <;> rfl), by repeat (first | (with_reducible first | exact HB.out | apply below_alloc | apply pw_below_drewN | apply below_drew1 | refine below_set ?_ GE371.out) | exact HB.out)⟩
                      · replace c60 := Bool.eq_false_iff.mpr c60
                        subst c60
                        have H1 : (some false) = some r := by rw [if_neg (show ¬ (false = true) by decide)] at H; exact H
                        clear H
                        have H := H1
                        clear H1
                        obtain rfl := Option.some.inj H
                        obtain ⟨Ao67, co67, eo67⟩ := Kd.R_slice HO_6.out
                        subst eo67
                        go_wp2_with (first | ((with_reducible refine gate_callee (f := 21) rfl ?_); refine goesL_ (some 32) rfl rfl Try.func21 (by kernel_rfl) rfl #[.slice Ao67 x6_21.length co67] rfl (by (try simp only [List.map_toArray, List.map_cons, List.map_nil]); first | done | rfl | (simp only [List.length_drop, List.length_take]; rfl)) ?_; (with_reducible refine (frame_Parse.calls kj21 _ _ x6_21 t362 t363 t364 t365 t366 t367 t370 _ ?side1 ?side2 A28.out).mono ?_); (case side1 => repeat (first | exact (Kd.R_reads' HO_6.out).2.2 | (with_reducible refine Kd.C_alloc ?_ _) | (with_reducible refine Kd.C_drewN ?_ _) | (with_reducible refine Kd.C_drew ?_))); (case side2 => exact (Kd.R_reads' HO_6.out).2.1); rintro e w68 ⟨v368, rfl, ho0, hb⟩; refine ⟨_, rfl, ?_⟩; have n0_ := Aside0.mk (Kd.R_elder' (by (with_reducible repeat (first | apply Kd.R_alloc | apply Kd.R_drewN | apply Kd.R_drew)); exact HO_6.out) (Kd.R_base ho0) hb); have n1_ := Aside0.mk (Kd.R_lower (Kd.R_new' ho0 (Kd.R_lt (by (with_reducible repeat (first | apply Kd.R_alloc | apply Kd.R_drewN | apply Kd.R_drew)); exact HO_6.out))) (below_size (by repeat (first | (with_reducible first | exact HB.out | apply below_alloc | apply pw_below_drewN | apply below_drew1) | exact HB.out)))); have n2_ := Aside0.mk (below_step (by repeat (first | (with_reducible first | exact HB.out | apply below_alloc | apply pw_below_drewN | apply below_drew1) | exact HB.out)) hb); clear HO_6; clear HB; have HO_6 := n0_; have HO369 := n1_; have HB := n2_; clear n0_ n1_ n2_; (try clear hb); (try clear hb2); (try clear hk); (try clear hi); (try clear ho0)) | ((with_reducible refine gate_dst (N := 8) rfl ?_); refine box_event ?hg (N := 8) ?hd (cs := #[.int .u64 0, .int .u64 0, .bool false, .int .u16 0, .int .u16 0, .slice none 0 0]) (t := 39) ?hr ?_; (case hd => rfl); (case hg => rfl); (case hr => first | (go_simp; done) | (go_simp; rfl)); intro gb371 hg w69 hbox hb; have n0_ := Aside0.mk (Kd.R_below (by (with_reducible repeat (first | apply Kd.R_alloc | apply Kd.R_drewN | apply Kd.R_drew)); exact HO_6.out) hb); have n1_ := Aside0.mk (Kd.R_below (by (with_reducible repeat (first | apply Kd.R_alloc | apply Kd.R_drewN | apply Kd.R_drew)); exact HO369.out) hb); have n2_ := Aside0.mk (below_step (by repeat (first | (with_reducible first | exact HB.out | apply below_alloc | apply pw_below_drewN | apply below_drew1) | exact HB.out)) hb); have n3_ := Aside0.mk (hbox); have n4_ := Aside0.mk ((by rw [hg]; exact (below_size (by repeat (first | (with_reducible first | exact HB.out | apply below_alloc | apply pw_below_drewN | apply below_drew1) | exact HB.out))) : w.heap.size ≤ gb371)); have n5_ := Aside0.mk ((by rw [hg]; exact (below_size (by repeat (first | (with_reducible first | exact HB.out | apply below_alloc | apply pw_below_drewN | apply below_drew1) | exact HB.out))) : w.heap.size ≤ gb371)); clear HO_6; clear HO369; clear HB; have HO_6 := n0_; have HO369 := n1_; have HB := n2_; have BK371 := n3_; have GW371 := n4_; have GE371 := n5_; clear n0_ n1_ n2_ n3_ n4_ n5_; clear hb hbox hg; have hcz70_0 : w69.cell? ⟨gb371, 0, none⟩ = some (.int .u64 0) := (blk_cell BK371.out 0).trans rfl; have hcz70_1 : w69.cell? ⟨gb371, 1, none⟩ = some (.int .u64 0) := (blk_cell BK371.out 1).trans rfl; have hcz70_2 : w69.cell? ⟨gb371, 2, none⟩ = some (.bool false) := (blk_cell BK371.out 2).trans rfl; have hcz70_3 : w69.cell? ⟨gb371, 3, none⟩ = some (.int .u16 0) := (blk_cell BK371.out 3).trans rfl; have hcz70_4 : w69.cell? ⟨gb371, 4, none⟩ = some (.int .u16 0) := (blk_cell BK371.out 4).trans rfl; have hcz70_5 : w69.cell? ⟨gb371, 5, none⟩ = some (.slice none 0 0) := (blk_cell BK371.out 5).trans rfl; have hfz70_0 := blk_frozen BK371.out 0; have hfz70_1 := blk_frozen BK371.out 1; have hfz70_2 := blk_frozen BK371.out 2; have hfz70_3 := blk_frozen BK371.out 3; have hfz70_4 := blk_frozen BK371.out 4; have hfz70_5 := blk_frozen BK371.out 5; obtain ⟨Ao71, co71, eo71⟩ := Kd.R_slice HO369.out; subst eo71) | ((with_reducible refine gate_callee (f := 18) rfl ?_); refine goesL_ (some 50) rfl rfl Try.func18 (by kernel_rfl) rfl #[] rfl (by (try simp only [List.map_toArray, List.map_cons, List.map_nil]); first | done | rfl | (simp only [List.length_drop, List.length_take]; rfl)) ?_; (with_reducible refine (patchbaylaw02_told.calls kj21  false _ A59.out).mono ?_); rintro e w72 ⟨rfl, hb⟩; refine ⟨_, rfl, ?_⟩; have n0_ := Aside0.mk (Kd.R_below (by (with_reducible repeat (first | apply Kd.R_alloc | apply Kd.R_drewN | apply Kd.R_drew)); exact (Kd.R_mono (Kd.R_far (p := ⟨gb371, 5, none⟩) (Kd.R_far (p := ⟨gb371, 4, none⟩) (Kd.R_far (p := ⟨gb371, 3, none⟩) (Kd.R_far (p := ⟨gb371, 2, none⟩) (Kd.R_far (p := ⟨gb371, 1, none⟩) (Kd.R_far (p := ⟨gb371, 0, none⟩) (Kd.R_types HO_6.out BK371.out (by decide)) (fun _ hk => hk.2) (.int .u64 t362)) (fun _ hk => hk.2) (.int .u64 t363)) (fun _ hk => hk.2) (.bool t364)) (fun _ hk => hk.2) (.int .u16 t365)) (fun _ hk => hk.2) (.int .u16 t366)) (fun _ hk => hk.2) (.slice Ao71 t367.length co71)) (fun _ h_ => h_.1))) hb); have n1_ := Aside0.mk (Kd.R_below (by (with_reducible repeat (first | apply Kd.R_alloc | apply Kd.R_drewN | apply Kd.R_drew)); exact (Kd.R_mono (Kd.R_far (p := ⟨gb371, 5, none⟩) (Kd.R_far (p := ⟨gb371, 4, none⟩) (Kd.R_far (p := ⟨gb371, 3, none⟩) (Kd.R_far (p := ⟨gb371, 2, none⟩) (Kd.R_far (p := ⟨gb371, 1, none⟩) (Kd.R_far (p := ⟨gb371, 0, none⟩) (Kd.R_types HO369.out BK371.out (by decide)) (fun _ hk => hk.2) (.int .u64 t362)) (fun _ hk => hk.2) (.int .u64 t363)) (fun _ hk => hk.2) (.bool t364)) (fun _ hk => hk.2) (.int .u16 t365)) (fun _ hk => hk.2) (.int .u16 t366)) (fun _ hk => hk.2) (.slice Ao71 t367.length co71)) (fun _ h_ => h_.1))) hb); have n2_ := Aside0.mk (blk_below (g := gb371) (o := .cells #[.int .u64 t362, .int .u64 t363, .bool t364, .int .u16 t365, .int .u16 t366, .slice Ao71 t367.length co71] 39 (0, 0)) (by (with_reducible repeat (first | refine blk_drewN ?_ _ | refine blk_drew ?_ | refine blk_alloc ?_ _)); refine blk_put (cs := #[.int .u64 t362, .int .u64 t363, .bool t364, .int .u16 t365, .int .u16 t366, .slice none 0 0]) ?_ 5 _ rfl; (with_reducible repeat (first | refine blk_drewN ?_ _ | refine blk_drew ?_ | refine blk_alloc ?_ _)); refine blk_put (cs := #[.int .u64 t362, .int .u64 t363, .bool t364, .int .u16 t365, .int .u16 0, .slice none 0 0]) ?_ 4 _ rfl; (with_reducible repeat (first | refine blk_drewN ?_ _ | refine blk_drew ?_ | refine blk_alloc ?_ _)); refine blk_put (cs := #[.int .u64 t362, .int .u64 t363, .bool t364, .int .u16 0, .int .u16 0, .slice none 0 0]) ?_ 3 _ rfl; (with_reducible repeat (first | refine blk_drewN ?_ _ | refine blk_drew ?_ | refine blk_alloc ?_ _)); refine blk_put (cs := #[.int .u64 t362, .int .u64 t363, .bool false, .int .u16 0, .int .u16 0, .slice none 0 0]) ?_ 2 _ rfl; (with_reducible repeat (first | refine blk_drewN ?_ _ | refine blk_drew ?_ | refine blk_alloc ?_ _)); refine blk_put (cs := #[.int .u64 t362, .int .u64 0, .bool false, .int .u16 0, .int .u16 0, .slice none 0 0]) ?_ 1 _ rfl; (with_reducible repeat (first | refine blk_drewN ?_ _ | refine blk_drew ?_ | refine blk_alloc ?_ _)); refine blk_put (cs := #[.int .u64 0, .int .u64 0, .bool false, .int .u16 0, .int .u16 0, .slice none 0 0]) ?_ 0 _ rfl; (with_reducible repeat (first | refine blk_drewN ?_ _ | refine blk_drew ?_ | refine blk_alloc ?_ _)); exact BK371.out) hb); have n3_ := Aside0.mk (below_step (by repeat (first | (with_reducible first | exact HB.out | apply below_alloc | apply pw_below_drewN | apply below_drew1 | refine below_set ?_ GE371.out) | exact HB.out)) hb); clear HO_6; clear HO369; clear BK371; clear HB; have HO_6 := n0_; have HO369 := n1_; have BK371 := n2_; have HB := n3_; clear n0_ n1_ n2_ n3_; (try clear hb); (try clear hb2); (try clear hk); (try clear hi)))
                        go_ret
                        exact ⟨by first | rfl | (simp [errW_none, errW_some] <;> rfl) | (simp only [← hji3]; first | rfl | (simp [errW_none, errW_some] <;> rfl)) | (simp [*, errW_none, errW_some] <;> rfl), by repeat (first | (with_reducible first | exact HB.out | apply below_alloc | apply pw_below_drewN | apply below_drew1 | refine below_set ?_ GE371.out) | exact HB.out)⟩
    · rw [if_neg c5] at H
      exact absurd H (by simp)
  · rw [if_neg c4] at H
    exact absurd H (by simp)

/-- THE ONE PURE STATEMENT of patchbaylaw02_FrameLengths: yours. -/
def patchbaylaw02_FrameLengths.Pure : Prop := ∀ (a0 : Int) (a1 : Bool), (Lit.int .i64 a0).wf = true → ∃ k, patchbaylaw02_FrameLengths.f k a0 a1 = some true
theorem patchbaylaw02_FrameLengths.walk (P : patchbaylaw02_FrameLengths.Pure) (a0 : Int) (a1 : Bool) (w : World) (w0 : (Lit.int .i64 a0).wf = true) :
    Calls Try.prog 5 #[.int .i64 a0, .bool a1] w fun e w' => e = .returned (.bool true) ∧ Below w.heap.size w w' := by
  obtain ⟨k, h⟩ := P a0 a1 w0
  refine (patchbaylaw02_FrameLengths.calls k a0 a1 true w h).mono ?_
  rintro e w' ⟨rfl, hd⟩
  exact ⟨rfl, hd⟩

end Go.Proofs.Ytdohdjfclnlpmaa.PFrame
