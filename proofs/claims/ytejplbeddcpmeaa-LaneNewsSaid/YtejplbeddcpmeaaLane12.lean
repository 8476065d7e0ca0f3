/- The law LaneNews: its walk; no condition. -/
import Derived.Test.YtejplbeddcpmeaaLane11
namespace Go.Proofs.Ytejplbeddcpmeaa.Lane
open Go.RowKit Go.Proofs.YtejplbeddcpmeaaW.PrintWords Go.Proofs.Ytejplbeddcpmeaa.Heap Go.Proofs.Ytejplbeddcpmeaa.Mem Go.Proofs.Ytejplbeddcpmeaa.Ring
set_option linter.unusedVariables false
set_option linter.unusedSimpArgs false

def lst (n : Nat) (hole : Int) (gs : Nat → Nat) : List (Option Nat) := (List.range n).map fun (i : Nat) => if (i : Int) = hole then none else some (gs i)
theorem lst_len (n : Nat) (hole : Int) (gs : Nat → Nat) : (lst n hole gs).length = n := by simp [lst]
theorem lst_more (n g : Nat) (hole : Int) (gs : Nat → Nat) : lst (n + 1) hole (fun j => if j = n then g else gs j) = lst n hole gs ++ [if (n : Int) = hole then none else some g] := by
  unfold lst
  rw [List.range_succ, List.map_append]
  congr 1
  · refine List.map_congr_left fun i hi => ?_
    show (if (i : Int) = hole then none else some (if i = n then g else gs i)) = _
    rw [if_neg (show ¬ i = n by have := List.mem_range.1 hi; omega)]
  · simp
theorem lst_none (n : Nat) (hole : Int) (gs : Nat → Nat) : (lst n hole gs).contains none = decide (0 ≤ hole ∧ hole < n) := by
  by_cases c : 0 ≤ hole ∧ hole < n
  · rw [decide_eq_true c, List.contains_iff_mem]
    unfold lst
    rw [List.mem_map]
    exact ⟨hole.toNat, List.mem_range.2 (by omega), by rw [if_pos (by omega)]⟩
  · rw [decide_eq_false c, Bool.eq_false_iff]
    intro h
    rw [List.contains_iff_mem] at h
    unfold lst at h
    rw [List.mem_map] at h
    obtain ⟨i, hi, e⟩ := h
    have := List.mem_range.1 hi
    by_cases d : (i : Int) = hole
    · omega
    · rw [if_neg d] at e; cases e

set_option maxHeartbeats 8000000 in
set_option maxRecDepth 100000 in
theorem LaneNews_calls (a0 hole : Int) (w : World) (hw1 : -9223372036854775808 ≤ hole ∧ hole ≤ 9223372036854775807) :
    Calls Try.prog 13 #[.int .i64 a0, .int .i64 hole] w fun e w' => e = .returned (.bool true) ∧ Below w.heap.size w w' := by
  obtain ⟨n, hn, hn68⟩ : ∃ n : Nat, (IntKind.u64.wrap a0).tmod 68 = (n : Int) ∧ n < 68 := by
    have h := u64_in a0
    rw [Int.tmod_eq_emod_of_nonneg h.1]
    exact ⟨(IntKind.u64.wrap a0 % 68).toNat, by omega, by omega⟩
  have hw0 : IntKind.i64.wrap (n : Int) = (n : Int) := i64_id (by omega)
  have HT := Aside0.mk (told_ w)
  have HMN := Aside0.mk (show ∀ W, Calls Try.prog 15 #[.int .i64 280, .int .i64 0] W (MadeMem 97 W (MemS.new 280 0)) from fun W => Mem.new_ok W 280 0 (by decide) (by decide) (by decide))
  have HB := Aside0.mk (Below.refl w.heap.size w)
  have HW1 := Aside0.mk hw1
  go_enter Try.func13, Try.ntmps13
  go_wp2_with (first | (go_at_call 50; (with_reducible refine HT.out.mono ?_); rintro e w1 ⟨rfl, hb⟩; have HBn := Aside0.mk hb; clear HB hb HT; have HB := HBn; clear HBn) | (go_at_call 15; (with_reducible refine (HMN.out _).mono ?_); rintro e w2 ⟨p, rfl, hm, hb, hp⟩; have HM := Aside0.mk hm; have HP := Aside0.mk (fun k hk => Nat.le_trans HB.out.size (hp k hk)); have HBn := Aside0.mk (below_step HB.out hb); clear HB hm hb hp; have HB := HBn; clear HBn))
  go_loopg [8, 9] n (fun kq v8 v9 wr => ∃ (i : Nat) (gs : Nat → Nat) (A : Option Addr) (c : Nat) (M : MemS), Aside0 (kq = n - i) ∧ i ≤ n ∧ v9 = .int .i64 (i : Int) ∧ v8 = .slice A i c ∧ Aside0 (OwnP w.heap.size wr (.slice A i c) (lst i hole gs)) ∧ Aside0 (MemAt 97 wr p M) ∧ Aside0 (M.cells.length = 280) ∧ Aside0 (M.time ≤ 2 * i) ∧ Aside0 (Below w.heap.size w wr))
  case atStart => exact ⟨0, fun _ => 0, none, 0, _, ⟨by omega⟩, by omega, rfl, rfl, ⟨own_nil _ _ _ _⟩, HM, ⟨by simp [MemS.new]⟩, ⟨by simp [MemS.new]⟩, HB⟩
  case round =>
    clear HM HB
    obtain ⟨i, gs, A, c, M, HKQ, hi, rfl, rfl, HO, HM, HCL, HTM, HB⟩ := hrel
    by_cases hlt : i < n
    · have e1 : IntKind.i64.wrap (4 * (i : Int)) = 4 * (i : Int) := i64_id (by omega)
      have hd : decide ((i : Int) < (n : Int)) = true := decide_eq_true (by omega)
      have NEW := Aside0.mk (show Calls Try.prog 30 #[pa p, .int .i64 (4 * (i : Int)), .int .i64 2, .int .u64 0] wr (NewRing wr p M (4 * (i : Int)) 2 0) from ringNew_ok wr p M (4 * (i : Int)) 2 0 HM.out (by have := HTM.out; omega) ⟨by decide, by decide⟩ (by omega) (by rw [HCL.out]; omega) ⟨by decide, by decide⟩)
      by_cases hh : (i : Int) = hole
      · have hq : ((i : Int) == hole) = true := beq_iff_eq.mpr hh
        have HH := Aside0.mk hh
        clear hh
        go_wp2_with (first
          | (go_at_call 30; (with_reducible refine NEW.out.mono ?_); rintro e w2 ⟨g, rfl, hm2, hr2, hc2, hg2⟩; have HM2 := Aside0.mk hm2; have HO2 := Aside0.mk (HO.out.chg hc2 (fun k cs hb => ne_mem HM.out hb (by decide) (by decide) (by decide))); have HB2 := Aside0.mk (below_chg HB.out hc2 HB.out.size HP.out); clear hm2 hr2 hc2 hg2)
          | (at_builtin; (first | rw [← World.alloc_drew] | skip); refine print_append_of (w0 := w) (W := w2) ptr w.heap.size rfl (.tmp 42) (.tmp 44) 88 52 (.pointer none) 8 rfl Try.underlying88 (by kernel_rfl) rfl (by omega) (.slice A i c) (lst i hole gs) none rfl rfl rfl HO2.out HB2.out HB2.out.size (by rw [lst_len]; omega) ?_; intro v1 w3 hown hB hgr hat; have HB3 := Aside0.mk hB; have HC3 := Aside0.mk (Chg.of_grown hgr); have HO3 := Aside0.mk (show OwnP w.heap.size w3 v1 (lst i hole gs ++ ([none] : List (Option Nat))) from hown); have HM3 := Aside0.mk (HM2.out.chg HC3.out (fun k hk => by rcases hk with q | q | q <;> subst q; exact HO2.out.ne HM2.out.top (by decide); exact HO2.out.ne HM2.out.cells (by decide); exact HO2.out.ne HM2.out.locks (by decide))); clear hown hB hgr hat; obtain ⟨A1, c1, ev1, _, _⟩ := HO3.out.reads; rw [show (lst i hole gs ++ ([none] : List (Option Nat))).length = i + 1 from by simp [lst_len]] at ev1; subst ev1))
        go_roundg (n - (i + 1))
        case measure => have := HKQ.out; omega
        case rel => exact ⟨i + 1, fun j => if j = i then 0 else gs j, A1, c1, _, ⟨rfl⟩, by omega, by simp, rfl, ⟨by
          have h := HO3.out
          rw [show lst i hole gs ++ ([none] : List (Option Nat)) = lst (i + 1) hole (fun j => if j = i then 0 else gs j) from by rw [lst_more, if_pos HH.out]] at h
          exact h⟩, HM3, ⟨by rw [store_len, store_len]; exact HCL.out⟩, ⟨by have h1 := store_time M (4 * (i : Int)) 0; have h2 := store_time (M.store (4 * (i : Int)) 0) (4 * (i : Int) + 1) 0; have := HTM.out; push_cast; omega⟩, HB3⟩
      · have hq : ((i : Int) == hole) = false := beq_eq_false_iff_ne.mpr hh
        have HH := Aside0.mk hh
        clear hh
        go_wp2_with (first
          | (go_at_call 30; (with_reducible refine NEW.out.mono ?_); rintro e w2 ⟨g, rfl, hm2, hr2, hc2, hg2⟩; have HM2 := Aside0.mk hm2; have HO2 := Aside0.mk (HO.out.chg hc2 (fun k cs hb => ne_mem HM.out hb (by decide) (by decide) (by decide))); have HB2 := Aside0.mk (below_chg HB.out hc2 HB.out.size HP.out); clear hm2 hr2 hc2 hg2)
          | (at_builtin; (first | rw [← World.alloc_drew] | skip); refine print_append_of (w0 := w) (W := w2) ptr w.heap.size rfl (.tmp 42) (.tmp 44) 88 52 (.pointer none) 8 rfl Try.underlying88 (by kernel_rfl) rfl (by omega) (.slice A i c) (lst i hole gs) (some g) rfl rfl rfl HO2.out HB2.out HB2.out.size (by rw [lst_len]; omega) ?_; intro v1 w3 hown hB hgr hat; have HB3 := Aside0.mk hB; have HC3 := Aside0.mk (Chg.of_grown hgr); have HO3 := Aside0.mk (show OwnP w.heap.size w3 v1 (lst i hole gs ++ [some g]) from hown); have HM3 := Aside0.mk (HM2.out.chg HC3.out (fun k hk => by rcases hk with q | q | q <;> subst q; exact HO2.out.ne HM2.out.top (by decide); exact HO2.out.ne HM2.out.cells (by decide); exact HO2.out.ne HM2.out.locks (by decide))); clear hown hB hgr hat; obtain ⟨A1, c1, ev1, _, _⟩ := HO3.out.reads; rw [show (lst i hole gs ++ [some g]).length = i + 1 from by simp [lst_len]] at ev1; subst ev1))
        go_roundg (n - (i + 1))
        case measure => have := HKQ.out; omega
        case rel => exact ⟨i + 1, fun j => if j = i then g else gs j, A1, c1, _, ⟨rfl⟩, by omega, by simp, rfl, ⟨by
          have h := HO3.out
          rw [show lst i hole gs ++ [some g] = lst (i + 1) hole (fun j => if j = i then g else gs j) from by rw [lst_more, if_neg HH.out]] at h
          exact h⟩, HM3, ⟨by rw [store_len, store_len]; exact HCL.out⟩, ⟨by have h1 := store_time M (4 * (i : Int)) 0; have h2 := store_time (M.store (4 * (i : Int)) 0) (4 * (i : Int) + 1) 0; have := HTM.out; push_cast; omega⟩, HB3⟩
    · obtain rfl : i = n := by omega
      have hd : decide ((i : Int) < (i : Int)) = false := decide_eq_false (by omega)
      obtain ⟨A', c', e', hrd, _⟩ := HO.out.reads
      rw [lst_len] at e'
      injection e' with q1 q2 q3
      subst q1; subst q3
      have hw1 := HW1.out
      clear HW1 HMN
      by_cases c1 : 1 ≤ i
      · by_cases c2 : i ≤ 64
        · by_cases c3 : hole < 0
          · skip
            have d1 : decide ((i : Int) ≥ 1) = true := decide_eq_true (by omega)
            have d1x : decide (1 ≤ (i : Int)) = true := decide_eq_true (by omega)
            have d2 : decide ((i : Int) ≤ 64) = true := decide_eq_true (by omega)
            have d2x : decide (64 ≥ (i : Int)) = true := decide_eq_true (by omega)
            have d3 : decide (hole < 0) = true := decide_eq_true (by omega)
            have d3x : decide (0 > hole) = true := decide_eq_true (by omega)
            have hok := new_ok wr A c (lst i hole gs) hrd (by rw [lst_len]; omega) (by rw [lst_len]; omega) (by rw [lst_none]; exact decide_eq_false (by omega))
            rw [lst_len] at hok
            have HNEW := Aside0.mk hok
            clear hok hrd
            go_wp2_with (first | (go_at_call 59; (with_reducible refine HNEW.out.mono ?_); rintro e w4 ⟨x, v, rfl, hx, ho, hb, hxw⟩; have HB4 := Aside0.mk (below_step HB.out hb); clear hx ho hb hxw) | (go_at_call 60; (with_reducible refine (next_nil _).mono ?_); rintro e w' ⟨rfl, rfl⟩) | (go_at_call 58; (with_reducible refine (len_nil _).mono ?_); rintro e w' ⟨rfl, rfl⟩) | (go_at_call 61; (with_reducible refine (step_nil _).mono ?_); rintro e w' ⟨rfl, rfl⟩) | (go_at_call 62; (with_reducible refine (over_nil _).mono ?_); rintro e w' ⟨rfl, rfl⟩) | (go_at_call 56; (with_reducible refine (mark_nil _).mono ?_); rintro e w' ⟨rfl, rfl⟩) | (go_at_call 53; (with_reducible refine (ok_nil _).mono ?_); rintro e w' ⟨rfl, rfl⟩) | (go_at_call 54; (with_reducible refine (value_nil _).mono ?_); rintro e w' ⟨rfl, rfl⟩) | (go_at_call 55; (with_reducible refine (from_nil _).mono ?_); rintro e w' ⟨rfl, rfl⟩))
            go_ret
            exact ⟨by first | rfl | (simp [*]; done), HB4.out⟩
          · by_cases c4 : (i : Int) ≤ hole
            · skip
              have d1 : decide ((i : Int) ≥ 1) = true := decide_eq_true (by omega)
              have d1x : decide (1 ≤ (i : Int)) = true := decide_eq_true (by omega)
              have d2 : decide ((i : Int) ≤ 64) = true := decide_eq_true (by omega)
              have d2x : decide (64 ≥ (i : Int)) = true := decide_eq_true (by omega)
              have d3 : decide (hole < 0) = false := decide_eq_false (by omega)
              have d3x : decide (0 > hole) = false := decide_eq_false (by omega)
              have d4 : decide (hole ≥ (i : Int)) = true := decide_eq_true (by omega)
              have d4x : decide ((i : Int) ≤ hole) = true := decide_eq_true (by omega)
              have hok := new_ok wr A c (lst i hole gs) hrd (by rw [lst_len]; omega) (by rw [lst_len]; omega) (by rw [lst_none]; exact decide_eq_false (by omega))
              rw [lst_len] at hok
              have HNEW := Aside0.mk hok
              clear hok hrd
              go_wp2_with (first | (go_at_call 59; (with_reducible refine HNEW.out.mono ?_); rintro e w4 ⟨x, v, rfl, hx, ho, hb, hxw⟩; have HB4 := Aside0.mk (below_step HB.out hb); clear hx ho hb hxw) | (go_at_call 60; (with_reducible refine (next_nil _).mono ?_); rintro e w' ⟨rfl, rfl⟩) | (go_at_call 58; (with_reducible refine (len_nil _).mono ?_); rintro e w' ⟨rfl, rfl⟩) | (go_at_call 61; (with_reducible refine (step_nil _).mono ?_); rintro e w' ⟨rfl, rfl⟩) | (go_at_call 62; (with_reducible refine (over_nil _).mono ?_); rintro e w' ⟨rfl, rfl⟩) | (go_at_call 56; (with_reducible refine (mark_nil _).mono ?_); rintro e w' ⟨rfl, rfl⟩) | (go_at_call 53; (with_reducible refine (ok_nil _).mono ?_); rintro e w' ⟨rfl, rfl⟩) | (go_at_call 54; (with_reducible refine (value_nil _).mono ?_); rintro e w' ⟨rfl, rfl⟩) | (go_at_call 55; (with_reducible refine (from_nil _).mono ?_); rintro e w' ⟨rfl, rfl⟩))
              go_ret
              exact ⟨by first | rfl | (simp [*]; done), HB4.out⟩
            · skip
              have d1 : decide ((i : Int) ≥ 1) = true := decide_eq_true (by omega)
              have d1x : decide (1 ≤ (i : Int)) = true := decide_eq_true (by omega)
              have d2 : decide ((i : Int) ≤ 64) = true := decide_eq_true (by omega)
              have d2x : decide (64 ≥ (i : Int)) = true := decide_eq_true (by omega)
              have d3 : decide (hole < 0) = false := decide_eq_false (by omega)
              have d3x : decide (0 > hole) = false := decide_eq_false (by omega)
              have d4 : decide (hole ≥ (i : Int)) = false := decide_eq_false (by omega)
              have d4x : decide ((i : Int) ≤ hole) = false := decide_eq_false (by omega)
              have herr := new_err wr A c (lst i hole gs) hrd (by rw [lst_len]; omega) (by rw [lst_len, lst_none]; first | exact .inl (by omega) | exact .inr (.inl (by omega)) | exact .inr (.inr (decide_eq_true (by omega))))
              rw [lst_len] at herr
              have HNEW := Aside0.mk herr
              clear herr hrd
              go_wp2_with (first | (go_at_call 59; (with_reducible refine HNEW.out.mono ?_); rintro e w4 ⟨rfl, rfl⟩) | (go_at_call 60; (with_reducible refine (next_nil _).mono ?_); rintro e w' ⟨rfl, rfl⟩) | (go_at_call 58; (with_reducible refine (len_nil _).mono ?_); rintro e w' ⟨rfl, rfl⟩) | (go_at_call 61; (with_reducible refine (step_nil _).mono ?_); rintro e w' ⟨rfl, rfl⟩) | (go_at_call 62; (with_reducible refine (over_nil _).mono ?_); rintro e w' ⟨rfl, rfl⟩) | (go_at_call 56; (with_reducible refine (mark_nil _).mono ?_); rintro e w' ⟨rfl, rfl⟩) | (go_at_call 53; (with_reducible refine (ok_nil _).mono ?_); rintro e w' ⟨rfl, rfl⟩) | (go_at_call 54; (with_reducible refine (value_nil _).mono ?_); rintro e w' ⟨rfl, rfl⟩) | (go_at_call 55; (with_reducible refine (from_nil _).mono ?_); rintro e w' ⟨rfl, rfl⟩))
              go_ret
              exact ⟨by first | rfl | (simp [*]; done), HB.out⟩
        · skip
          have d1 : decide ((i : Int) ≥ 1) = true := decide_eq_true (by omega)
          have d1x : decide (1 ≤ (i : Int)) = true := decide_eq_true (by omega)
          have d2 : decide ((i : Int) ≤ 64) = false := decide_eq_false (by omega)
          have d2x : decide (64 ≥ (i : Int)) = false := decide_eq_false (by omega)
          have herr := new_err wr A c (lst i hole gs) hrd (by rw [lst_len]; omega) (by rw [lst_len, lst_none]; first | exact .inl (by omega) | exact .inr (.inl (by omega)) | exact .inr (.inr (decide_eq_true (by omega))))
          rw [lst_len] at herr
          have HNEW := Aside0.mk herr
          clear herr hrd
          go_wp2_with (first | (go_at_call 59; (with_reducible refine HNEW.out.mono ?_); rintro e w4 ⟨rfl, rfl⟩) | (go_at_call 60; (with_reducible refine (next_nil _).mono ?_); rintro e w' ⟨rfl, rfl⟩) | (go_at_call 58; (with_reducible refine (len_nil _).mono ?_); rintro e w' ⟨rfl, rfl⟩) | (go_at_call 61; (with_reducible refine (step_nil _).mono ?_); rintro e w' ⟨rfl, rfl⟩) | (go_at_call 62; (with_reducible refine (over_nil _).mono ?_); rintro e w' ⟨rfl, rfl⟩) | (go_at_call 56; (with_reducible refine (mark_nil _).mono ?_); rintro e w' ⟨rfl, rfl⟩) | (go_at_call 53; (with_reducible refine (ok_nil _).mono ?_); rintro e w' ⟨rfl, rfl⟩) | (go_at_call 54; (with_reducible refine (value_nil _).mono ?_); rintro e w' ⟨rfl, rfl⟩) | (go_at_call 55; (with_reducible refine (from_nil _).mono ?_); rintro e w' ⟨rfl, rfl⟩))
          go_ret
          exact ⟨by first | rfl | (simp [*]; done), HB.out⟩
      · skip
        have d1 : decide ((i : Int) ≥ 1) = false := decide_eq_false (by omega)
        have d1x : decide (1 ≤ (i : Int)) = false := decide_eq_false (by omega)
        have herr := new_err wr A c (lst i hole gs) hrd (by rw [lst_len]; omega) (by rw [lst_len, lst_none]; first | exact .inl (by omega) | exact .inr (.inl (by omega)) | exact .inr (.inr (decide_eq_true (by omega))))
        rw [lst_len] at herr
        have HNEW := Aside0.mk herr
        clear herr hrd
        go_wp2_with (first | (go_at_call 59; (with_reducible refine HNEW.out.mono ?_); rintro e w4 ⟨rfl, rfl⟩) | (go_at_call 60; (with_reducible refine (next_nil _).mono ?_); rintro e w' ⟨rfl, rfl⟩) | (go_at_call 58; (with_reducible refine (len_nil _).mono ?_); rintro e w' ⟨rfl, rfl⟩) | (go_at_call 61; (with_reducible refine (step_nil _).mono ?_); rintro e w' ⟨rfl, rfl⟩) | (go_at_call 62; (with_reducible refine (over_nil _).mono ?_); rintro e w' ⟨rfl, rfl⟩) | (go_at_call 56; (with_reducible refine (mark_nil _).mono ?_); rintro e w' ⟨rfl, rfl⟩) | (go_at_call 53; (with_reducible refine (ok_nil _).mono ?_); rintro e w' ⟨rfl, rfl⟩) | (go_at_call 54; (with_reducible refine (value_nil _).mono ?_); rintro e w' ⟨rfl, rfl⟩) | (go_at_call 55; (with_reducible refine (from_nil _).mono ?_); rintro e w' ⟨rfl, rfl⟩))
        go_ret
        exact ⟨by first | rfl | (simp [*]; done), HB.out⟩
end Go.Proofs.Ytejplbeddcpmeaa.Lane
