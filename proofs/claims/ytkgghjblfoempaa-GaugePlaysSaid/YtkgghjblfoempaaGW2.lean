/- gauge.Compare, the reference's Kind, rank, Compare: their walks; no condition. -/
import Derived.Test.YtkgghjblfoempaaGW
namespace Go.Proofs.Ytkgghjblfoempaa.GW
open Go.RowKit Go.Proofs.YtkgghjblfoempaaW.PrintWords Go.Proofs.Ytkgghjblfoempaa.Fl
set_option linter.unusedVariables false
set_option linter.unusedSimpArgs false

theorem fmt : FloatKind.f64.format = Ieee.double := rfl

theorem arith_run {P : Program} (op : BinOp) (t : TypeId) (x y : Nat) (w : World) (h : op = .add ∨ op = .sub ∨ op = .mul ∨ op = .quo) :
    ∃ r w', (binOp op t (.float .f64 x) (.float .f64 y)).run P w = .ok (.float .f64 r) w' ∧ FR op x y r ∧ (w' = w ∨ w' = w.drew) := by
  cases hf : floatBits op .f64 x y with
  | some z =>
    refine ⟨z, w, run_float_arith w op t .f64 x y z hf, ⟨?_, .inl ⟨z, hf, rfl⟩⟩, .inl rfl⟩
    have := floatBits_wf hf
    simpa [Lit.wf] using this
  | none =>
    have c := cut_nan x y (w.tape w.drawn (.nanBits .f64 x y))
    refine ⟨(Question.nanBits .f64 x y).cut (w.tape w.drawn (.nanBits .f64 x y)), w.drew, ?_, ⟨c.2, .inr ⟨hf, c.1⟩⟩, .inr rfl⟩
    rcases h with rfl | rfl | rfl | rfl <;> (unfold floatBits at hf; simp only at hf; simp [binOp, Op.floatArith, hf, Question.forced])

theorem drew01 {w w' : World} (h : w' = w ∨ w' = w.drew) : Drawn0 w w' := by
  rcases h with rfl | rfl
  · exact Drawn0.refl _
  · exact (Drawn0.refl w).step 1

set_option maxHeartbeats 4000000 in
theorem compare_ (a b : Nat) (w : World) : Calls Try.prog 40 #[.float .f64 a, .float .f64 b] w fun e w' => e = .returned (.int .i64 (cmpw a b)) ∧ w' = w := by
  have hg := gt_iff a b
  have hl := lt_iff a b
  have ca := cls_le a
  have cb := cls_le b
  by_cases c1 : cls a = 6
  · by_cases c2 : cls b = 6
    · have e0 : cmpw a b = 0 := E.cmp (.inr ⟨c1, c2⟩)
      rw [e0]
      have hA : decide (cls a = 6) = true := decide_eq_true c1
      have hB : decide (cls b = 6) = true := decide_eq_true c2
      clear hg hl ca cb c1 c2
      go_enter Try.func40, Try.ntmps40
      go_wp2_with (first | (go_at_call 58; with_reducible refine (isNaN_ _ _).mono ?_; rintro e w' ⟨rfl, rfl⟩) | (go_at_call 62; with_reducible refine (sign_ _ _).mono ?_; rintro e w' ⟨rfl, rfl⟩))
      go_ret
      exact ⟨rfl, rfl⟩
    · have e0 : cmpw a b = 1 := by unfold cmpw; rw [if_neg (by omega), if_pos (by omega)]
      rw [e0]
      have hA : decide (cls a = 6) = true := decide_eq_true c1
      have hB : decide (cls b = 6) = false := decide_eq_false c2
      clear hg hl ca cb c1 c2
      go_enter Try.func40, Try.ntmps40
      go_wp2_with (first | (go_at_call 58; with_reducible refine (isNaN_ _ _).mono ?_; rintro e w' ⟨rfl, rfl⟩) | (go_at_call 62; with_reducible refine (sign_ _ _).mono ?_; rintro e w' ⟨rfl, rfl⟩))
      go_ret
      exact ⟨rfl, rfl⟩
  · have hA : decide (cls a = 6) = false := decide_eq_false c1
    by_cases hg1 : (Ieee.double.order a b == some .gt) = true
    · have hx := hg.mp hg1
      have e0 : cmpw a b = 1 := by unfold cmpw; rw [if_neg (by omega)]; by_cases q : cls b < cls a; rw [if_pos q]; rw [if_neg q, if_neg (by omega), if_pos (by omega)]
      rw [e0]
      have hB : decide (cls b = 6) = false := decide_eq_false hx.2.1
      have hg2 : (FloatKind.f64.format.order a b == some .gt) = true := hg1
      clear hg hl ca cb c1 hx hg1
      go_enter Try.func40, Try.ntmps40
      go_wp2_with (first | (go_at_call 58; with_reducible refine (isNaN_ _ _).mono ?_; rintro e w' ⟨rfl, rfl⟩) | (go_at_call 62; with_reducible refine (sign_ _ _).mono ?_; rintro e w' ⟨rfl, rfl⟩))
      go_ret
      exact ⟨rfl, rfl⟩
    · have hg2 : (FloatKind.f64.format.order a b == some .gt) = false := Bool.eq_false_iff.mpr hg1
      by_cases c2 : cls b = 6
      · have e0 : cmpw a b = -1 := by unfold cmpw; rw [if_pos (by omega)]
        rw [e0]
        have hB : decide (cls b = 6) = true := decide_eq_true c2
        clear hg hl ca cb c1 c2 hg1
        go_enter Try.func40, Try.ntmps40
        go_wp2_with (first | (go_at_call 58; with_reducible refine (isNaN_ _ _).mono ?_; rintro e w' ⟨rfl, rfl⟩) | (go_at_call 62; with_reducible refine (sign_ _ _).mono ?_; rintro e w' ⟨rfl, rfl⟩))
        go_ret
        exact ⟨rfl, rfl⟩
      · have hB : decide (cls b = 6) = false := decide_eq_false c2
        by_cases hl1 : (Ieee.double.order a b == some .lt) = true
        · have hx := hl.mp hl1
          have e0 : cmpw a b = -1 := by unfold cmpw; by_cases q : cls a < cls b; rw [if_pos q]; rw [if_neg q, if_neg (by omega), if_pos (by omega)]
          rw [e0]
          have hl2 : (FloatKind.f64.format.order a b == some .lt) = true := hl1
          clear hg hl ca cb c1 c2 hg1 hl1 hx
          go_enter Try.func40, Try.ntmps40
          go_wp2_with (first | (go_at_call 58; with_reducible refine (isNaN_ _ _).mono ?_; rintro e w' ⟨rfl, rfl⟩) | (go_at_call 62; with_reducible refine (sign_ _ _).mono ?_; rintro e w' ⟨rfl, rfl⟩))
          go_ret
          exact ⟨rfl, rfl⟩
        · have hl2 : (FloatKind.f64.format.order a b == some .lt) = false := Bool.eq_false_iff.mpr hl1
          have n1 : ¬ _ := fun q => hg1 (hg.mpr q)
          have n2 : ¬ _ := fun q => hl1 (hl.mpr q)
          have e0 : cmpw a b = zs a - zs b := by unfold cmpw; rw [if_neg (by omega), if_neg (by omega), if_neg (by omega), if_neg (by omega)]
          rw [e0]
          have za := zs_range a
          have zb := zs_range b
          have hw : IntKind.i64.wrap (zs a - zs b) = zs a - zs b := IntWalk.i64_in _ (by omega)
          clear hg hl ca cb c1 c2 hg1 hl1 n1 n2 za zb
          go_enter Try.func40, Try.ntmps40
          go_wp2_with (first | (go_at_call 58; with_reducible refine (isNaN_ _ _).mono ?_; rintro e w' ⟨rfl, rfl⟩) | (go_at_call 62; with_reducible refine (sign_ _ _).mono ?_; rintro e w' ⟨rfl, rfl⟩))
          go_ret
          exact ⟨by simp [*], rfl⟩

set_option maxHeartbeats 4000000 in
theorem rkind_ (x : Nat) (hx : x < 18446744073709551616) (w : World) : Calls Try.prog 42 #[.float .f64 x] w fun e w' => e = .returned (.int .i64 (kindw x)) ∧ Drawn0 w w' := by
  have hn := nan_iff x
  have hz := zero_iff x
  have hp := pos_iff x
  rw [← fmt] at hn hz hp
  obtain ⟨rd, wd, hrd, hfd, hwd⟩ := arith_run (P := Try.prog) .quo 49 one x w (by simp)
  obtain ⟨rs, ws, hrs, hfs, hws⟩ := arith_run (P := Try.prog) .sub 49 x x w (by simp)
  unfold one at hrd
  unfold kindw
  rcases cls_le x with c | c | c | c
  · have hnx : (FloatKind.f64.format.order rs 0 != some .eq) = true := by have h := eq_iff rs 0; rw [sub_self_inf hfs (.inl c)] at h; rw [bne, Bool.not_eq_true', Bool.eq_false_iff]; intro q; exact (h.mp q).1 rfl
    rw [c] at hn hz hp ⊢
    clear hrd hfd hwd hfs
    go_enter Try.func42, Try.ntmps42
    go_wp2
    go_ret
    exact ⟨rfl, drew01 hws⟩
  · by_cases hv : val x = 0
    · have hdz := div_zero hfd (zero_words x hx ⟨c, hv⟩)
      rw [← fmt] at hdz
      rw [if_pos hv, c]
      rw [c] at hn hz hp
      simp only [hv] at hz
      clear hrs hfs hws hfd
      cases hs : sgn x
      · rw [hs] at hdz
        go_enter Try.func42, Try.ntmps42
        go_wp2
        go_ret
        exact ⟨rfl, drew01 hwd⟩
      · rw [hs] at hdz
        go_enter Try.func42, Try.ntmps42
        go_wp2
        go_ret
        exact ⟨rfl, drew01 hwd⟩
    · have h0 := sub_self_fin hfs c
      subst h0
      have hnx : (FloatKind.f64.format.order 0 0 != some .eq) = false := by decide +kernel
      rw [if_neg hv, c]
      rw [c] at hn hz hp
      have hz' : decide ((1 : Nat) = 1 ∧ val x = 0) = false := decide_eq_false (fun h => hv h.2)
      rw [hz'] at hz
      clear hrd hfd hwd hfs hp
      go_enter Try.func42, Try.ntmps42
      go_wp2
      go_ret
      exact ⟨rfl, drew01 hws⟩
  · have hnx : (FloatKind.f64.format.order rs 0 != some .eq) = true := by have h := eq_iff rs 0; rw [sub_self_inf hfs (.inr c)] at h; rw [bne, Bool.not_eq_true', Bool.eq_false_iff]; intro q; exact (h.mp q).1 rfl
    rw [c] at hn hz hp ⊢
    clear hrd hfd hwd hfs
    go_enter Try.func42, Try.ntmps42
    go_wp2
    go_ret
    exact ⟨rfl, drew01 hws⟩
  · rw [c] at hn hz hp ⊢
    clear hrd hfd hwd hfs hrs hws
    go_enter Try.func42, Try.ntmps42
    go_wp2
    go_ret
    exact ⟨rfl, Drawn0.refl _⟩
end Go.Proofs.Ytkgghjblfoempaa.GW
