/- The law MemNews: its walk; no condition. -/
import Derived.Test.YtejplbeddcpmeaaMemL
namespace Go.Proofs.Ytejplbeddcpmeaa.Mem
open Go.RowKit Go.Proofs.YtejplbeddcpmeaaW.PrintWords Go.Proofs.Ytejplbeddcpmeaa.Heap Go.Proofs.Ytejplbeddcpmeaa.Opens
set_option linter.unusedVariables false
set_option linter.unusedSimpArgs false

def nilAns (k : Int) : Int := if k = 5 then 18446744073709551615 else 0
set_option maxHeartbeats 1600000 in
theorem do_nil (w : World) (kd at_ who v : Int) :
    Calls Try.prog 21 #[.pointer none, .agg #[.int .i64 kd, .int .i64 at_, .int .i64 who, .int .u64 v]] w fun e w' => e = .returned (.int .u64 (nilAns (kin6 kd))) ∧ Below w.heap.size w w' := by
  have HB := Aside0.mk (Below.refl w.heap.size w)
  rcases kin6_or kd with hk | hk | hk | hk | hk | hk
  · have e1 : nilAns (kin6 kd) = 0 := by rw [hk]; rfl
    rw [e1]
    clear e1
    unfold kin6 at hk
    go_enter Try.func21, Try.ntmps21
    go_wp2_with (go_at_call 63; refine (load_nil _ _ 0).mono ?_; rintro e w' ⟨rfl, rfl⟩)
    go_ret
    exact ⟨by first | rfl | (simp [IntKind.wrap, IntKind.bits, IntKind.signed]; done), (by repeat (first | exact HB.out | apply below_alloc | apply pw_below_drewN | apply below_drew1))⟩
  · have e1 : nilAns (kin6 kd) = 0 := by rw [hk]; rfl
    rw [e1]
    clear e1
    unfold kin6 at hk
    go_enter Try.func21, Try.ntmps21
    go_wp2_with (go_at_call 20; refine (store_nil _ _ _).mono ?_; rintro e w' ⟨rfl, rfl⟩)
    go_ret
    exact ⟨by first | rfl | (simp [IntKind.wrap, IntKind.bits, IntKind.signed]; done), (by repeat (first | exact HB.out | apply below_alloc | apply pw_below_drewN | apply below_drew1))⟩
  · have e1 : nilAns (kin6 kd) = 0 := by rw [hk]; rfl
    rw [e1]
    clear e1
    unfold kin6 at hk
    go_enter Try.func21, Try.ntmps21
    go_wp2_with (go_at_call 18; refine (take_nil _ _ _).mono ?_; rintro e w' ⟨rfl, rfl⟩)
    go_ret
    exact ⟨by first | rfl | (simp [IntKind.wrap, IntKind.bits, IntKind.signed]; done), (by repeat (first | exact HB.out | apply below_alloc | apply pw_below_drewN | apply below_drew1))⟩
  · have e1 : nilAns (kin6 kd) = 0 := by rw [hk]; rfl
    rw [e1]
    clear e1
    unfold kin6 at hk
    go_enter Try.func21, Try.ntmps21
    go_wp2_with (go_at_call 17; refine (free_nil _ _ _).mono ?_; rintro e w' ⟨rfl, rfl⟩)
    go_ret
    exact ⟨by first | rfl | (simp [IntKind.wrap, IntKind.bits, IntKind.signed]; done), (by repeat (first | exact HB.out | apply below_alloc | apply pw_below_drewN | apply below_drew1))⟩
  · have e1 : nilAns (kin6 kd) = 0 := by rw [hk]; rfl
    rw [e1]
    clear e1
    unfold kin6 at hk
    go_enter Try.func21, Try.ntmps21
    go_wp2_with (go_at_call 22; refine (peek_nil _ _ 0).mono ?_; rintro e w' ⟨rfl, rfl⟩)
    go_ret
    exact ⟨by first | rfl | (simp [IntKind.wrap, IntKind.bits, IntKind.signed]; done), (by repeat (first | exact HB.out | apply below_alloc | apply pw_below_drewN | apply below_drew1))⟩
  · have e1 : nilAns (kin6 kd) = 18446744073709551615 := by rw [hk]; rfl
    rw [e1]
    clear e1
    unfold kin6 at hk
    go_enter Try.func21, Try.ntmps21
    go_wp2_with (go_at_call 19; refine (holder_nil _ _ 0).mono ?_; rintro e w' ⟨rfl, rfl⟩)
    go_ret
    exact ⟨by first | rfl | (simp [IntKind.wrap, IntKind.bits, IntKind.signed]; done), (by repeat (first | exact HB.out | apply below_alloc | apply pw_below_drewN | apply below_drew1))⟩

set_option maxHeartbeats 8000000 in
set_option maxRecDepth 100000 in
theorem MemNews_calls (a0 a1 o0 o1 o2 o3 : Int) (w : World) (h0 : -9223372036854775808 ≤ a0 ∧ a0 ≤ 9223372036854775807) (h1 : -9223372036854775808 ≤ a1 ∧ a1 ≤ 9223372036854775807) :
    Calls Try.prog 6 #[.int .i64 a0, .int .i64 a1, .agg #[.int .i64 o0, .int .i64 o1, .int .i64 o2, .int .u64 o3]] w fun e w' => e = .returned (.bool true) ∧ Below w.heap.size w w' := by
  have HB := Aside0.mk (Below.refl w.heap.size w)
  obtain ⟨k6, hk6⟩ : ∃ k6, kin6 o0 = k6 := ⟨_, rfl⟩
  obtain ⟨na, hna⟩ : ∃ na, nilAns (kin6 o0) = na := ⟨_, rfl⟩
  have hdn : ∀ W, Calls Try.prog 21 #[.pointer none, .agg #[.int .i64 o0, .int .i64 o1, .int .i64 o2, .int .u64 o3]] W fun e w' => e = .returned (.int .u64 na) ∧ Below W.heap.size W w' := fun W => hna ▸ do_nil W o0 o1 o2 o3
  have HDN := Aside0.mk hdn
  clear hdn
  have hcase : (k6 = 5 ∧ na = 18446744073709551615) ∨ (k6 ≠ 5 ∧ na = 0) := by
    rw [← hna, hk6]; unfold nilAns; by_cases e : k6 = 5
    · exact .inl ⟨e, by rw [if_pos e]⟩
    · exact .inr ⟨e, by rw [if_neg e]⟩
  unfold kin6 at hk6
  clear hna
  by_cases c1 : 20000 < a0 ∧ a0 ≤ 1048576
  · obtain ⟨c1, c2⟩ := c1
    rcases hcase with ⟨rfl, rfl⟩ | ⟨hne, rfl⟩
    · go_enter Try.func6, Try.ntmps6
      go_wp2_with (first | (go_at_call 21; refine (HDN.out _).mono ?_; rintro e w' ⟨rfl, hb⟩; have HBn := Aside0.mk (below_step (by repeat (first | exact HB.out | apply below_alloc | apply pw_below_drewN | apply below_drew1)) hb); have hx0 := (hb.cell (p := ⟨w.heap.size, 0, none⟩) (by simp)).trans (World.cell?_alloc_new w _ _ 0); simp at hx0; clear HB hb; have HB := HBn; clear HBn) | (go_at_call 27; (with_reducible refine (time_nil _ 0 0).mono ?_); rintro e w' ⟨rfl, rfl⟩) | (go_at_call 24; (with_reducible refine (cells_nil _ 0 0).mono ?_); rintro e w' ⟨rfl, rfl⟩) | (go_at_call 25; (with_reducible refine (locks_nil _ 0 0).mono ?_); rintro e w' ⟨rfl, rfl⟩) | (go_at_call 16; refine (told_ _).mono ?_; rintro e w' ⟨rfl, hb⟩; have HBn := Aside0.mk (below_step (by repeat (first | exact HB.out | apply below_alloc | apply pw_below_drewN | apply below_drew1)) hb); clear HB hb; have HB := HBn; clear HBn))
      go_ret
      exact ⟨rfl, (by repeat (first | exact HB.out | apply below_alloc | apply pw_below_drewN | apply below_drew1))⟩
    · have hb5 : (k6 == 5) = false := beq_eq_false_iff_ne.mpr hne
      clear hne
      go_enter Try.func6, Try.ntmps6
      go_wp2_with (first | (go_at_call 21; refine (HDN.out _).mono ?_; rintro e w' ⟨rfl, hb⟩; have HBn := Aside0.mk (below_step (by repeat (first | exact HB.out | apply below_alloc | apply pw_below_drewN | apply below_drew1)) hb); have hx0 := (hb.cell (p := ⟨w.heap.size, 0, none⟩) (by simp)).trans (World.cell?_alloc_new w _ _ 0); simp at hx0; clear HB hb; have HB := HBn; clear HBn) | (go_at_call 27; (with_reducible refine (time_nil _ 0 0).mono ?_); rintro e w' ⟨rfl, rfl⟩) | (go_at_call 24; (with_reducible refine (cells_nil _ 0 0).mono ?_); rintro e w' ⟨rfl, rfl⟩) | (go_at_call 25; (with_reducible refine (locks_nil _ 0 0).mono ?_); rintro e w' ⟨rfl, rfl⟩) | (go_at_call 16; refine (told_ _).mono ?_; rintro e w' ⟨rfl, hb⟩; have HBn := Aside0.mk (below_step (by repeat (first | exact HB.out | apply below_alloc | apply pw_below_drewN | apply below_drew1)) hb); clear HB hb; have HB := HBn; clear HBn))
      go_ret
      exact ⟨rfl, (by repeat (first | exact HB.out | apply below_alloc | apply pw_below_drewN | apply below_drew1))⟩
  · by_cases c2 : 1 ≤ a0 ∧ a0 ≤ 1048576 ∧ 0 ≤ a1 ∧ a1 ≤ 128
    · obtain ⟨c3, c4, c5, c6⟩ := c2
      have c7 : a0 ≤ 20000 := by omega
      obtain ⟨c, rfl⟩ := Int.eq_ofNat_of_zero_le (show 0 ≤ a0 by omega)
      obtain ⟨l, rfl⟩ := Int.eq_ofNat_of_zero_le c5
      have HN := Aside0.mk (fun W => new_ok W c l (by omega) (by omega) (by omega))
      have HRN := Aside0.mk (fun W => rnew_ok W c l (by omega) (by omega) (by omega))
      have hM0 : (MemS.new (c : Int) (l : Int)).cells.length = c ∧ (MemS.new (c : Int) (l : Int)).locks.length = l ∧ (MemS.new (c : Int) (l : Int)).time = 0 ∧ (MemS.new (c : Int) (l : Int)).peek ((c : Int) - 1) = 0 ∧ (MemS.new (c : Int) (l : Int)).holder ((l : Int) - 1) = -1 := by
        refine ⟨by simp [MemS.new], by simp [MemS.new], rfl, ?_, ?_⟩
        · unfold MemS.peek MemS.new
          split
          · simp [rd, List.getD_eq_getElem?_getD, List.getElem?_replicate]; split <;> rfl
          · rfl
        · unfold MemS.holder MemS.new
          split
          · rename_i h
            simp only [List.length_replicate, Int.toNat_natCast] at h
            have : ((l : Int) - 1).toNat < l := by omega
            have h2 : l - 1 < l := by omega
            simp [rd, List.getD_eq_getElem?_getD, List.getElem?_replicate, h2]
          · rfl
      generalize MemS.new (c : Int) (l : Int) = M0 at *
      have HM0 := Aside0.mk hM0
      have HCL := Aside0.mk (show ∀ W p (h : MemAt 97 W p M0), Calls Try.prog 24 #[pa p] W fun e w' => e = .returned (.int .i64 (c : Int)) ∧ W = w' from fun W p h => by have k := cells_ W p M0 h; rw [hM0.1] at k; exact k)
      have HLL := Aside0.mk (show ∀ W p (h : MemAt 97 W p M0), Calls Try.prog 25 #[pa p] W fun e w' => e = .returned (.int .i64 (l : Int)) ∧ W = w' from fun W p h => by have k := locks_ W p M0 h; rw [hM0.2.1] at k; exact k)
      clear hM0 c1 c5
      rcases hcase with ⟨rfl, rfl⟩ | ⟨hne, rfl⟩
      · go_enter Try.func6, Try.ntmps6
        go_wp2_with (first | (go_at_call 21; refine (HDN.out _).mono ?_; rintro e w' ⟨rfl, hb⟩; have HBn := Aside0.mk (below_step (by repeat (first | exact HB.out | apply below_alloc | apply pw_below_drewN | apply below_drew1)) hb); have hx0 := (hb.cell (p := ⟨w.heap.size, 0, none⟩) (by simp)).trans (World.cell?_alloc_new w _ _ 0); simp at hx0; clear HB hb; have HB := HBn; clear HBn) | (go_at_call 15; refine (HN.out _).mono ?_; rintro e w' ⟨p, rfl, hm, hb, hk⟩; have HBn := Aside0.mk (below_step (by repeat (first | exact HB.out | apply below_alloc | apply pw_below_drewN | apply below_drew1)) hb); have HM := Aside0.mk hm; clear HB hm hb hk; have HB := HBn; clear HBn) | (go_at_call 23; refine (HRN.out _).mono ?_; rintro e w' ⟨r, rfl, hm, hb, hk⟩; have HBn := Aside0.mk (below_step (by repeat (first | exact HB.out | apply below_alloc | apply pw_below_drewN | apply below_drew1)) hb); have HMn := Aside0.mk (MemAt.chg (S := fun _ => False) (by (with_reducible repeat (first | exact HM.out | refine MemAt.drewN ?_ _ | refine MemAt.drew ?_ | refine MemAt.alloc ?_ _))) (Chg.of_below hb) (fun _ _ => id)); clear HB HM hm hb hk; have HB := HBn; have HM := HMn; clear HBn HMn) | (go_at_call 27; (with_reducible refine (time_nil _ 0 0).mono ?_); rintro e w' ⟨rfl, rfl⟩) | (go_at_call 24; (with_reducible refine (cells_nil _ 0 0).mono ?_); rintro e w' ⟨rfl, rfl⟩) | (go_at_call 25; (with_reducible refine (locks_nil _ 0 0).mono ?_); rintro e w' ⟨rfl, rfl⟩) | (go_at_call 16; refine (told_ _).mono ?_; rintro e w' ⟨rfl, hb⟩; have HBn := Aside0.mk (below_step (by repeat (first | exact HB.out | apply below_alloc | apply pw_below_drewN | apply below_drew1)) hb); clear HB hb; have HB := HBn; clear HBn) | (go_at_call 24; refine (HCL.out _ p HM.out).mono ?_; rintro e w' ⟨rfl, rfl⟩) | (go_at_call 25; refine (HLL.out _ p HM.out).mono ?_; rintro e w' ⟨rfl, rfl⟩) | (go_at_call 27; refine (time_v _ p _ 0 HM0.out.2.2.1 HM.out).mono ?_; rintro e w' ⟨rfl, rfl⟩) | (go_at_call 22; refine (peek_v _ p _ _ 0 HM0.out.2.2.2.1 HM.out).mono ?_; rintro e w' ⟨rfl, rfl⟩) | (go_at_call 19; refine (holder_v _ p _ _ (-1) HM0.out.2.2.2.2 HM.out).mono ?_; rintro e w' ⟨rfl, rfl⟩))
        go_ret
        exact ⟨rfl, (by repeat (first | exact HB.out | apply below_alloc | apply pw_below_drewN | apply below_drew1))⟩
      · have hb5 : (k6 == 5) = false := beq_eq_false_iff_ne.mpr hne
        clear hne
        go_enter Try.func6, Try.ntmps6
        go_wp2_with (first | (go_at_call 21; refine (HDN.out _).mono ?_; rintro e w' ⟨rfl, hb⟩; have HBn := Aside0.mk (below_step (by repeat (first | exact HB.out | apply below_alloc | apply pw_below_drewN | apply below_drew1)) hb); have hx0 := (hb.cell (p := ⟨w.heap.size, 0, none⟩) (by simp)).trans (World.cell?_alloc_new w _ _ 0); simp at hx0; clear HB hb; have HB := HBn; clear HBn) | (go_at_call 15; refine (HN.out _).mono ?_; rintro e w' ⟨p, rfl, hm, hb, hk⟩; have HBn := Aside0.mk (below_step (by repeat (first | exact HB.out | apply below_alloc | apply pw_below_drewN | apply below_drew1)) hb); have HM := Aside0.mk hm; clear HB hm hb hk; have HB := HBn; clear HBn) | (go_at_call 23; refine (HRN.out _).mono ?_; rintro e w' ⟨r, rfl, hm, hb, hk⟩; have HBn := Aside0.mk (below_step (by repeat (first | exact HB.out | apply below_alloc | apply pw_below_drewN | apply below_drew1)) hb); have HMn := Aside0.mk (MemAt.chg (S := fun _ => False) (by (with_reducible repeat (first | exact HM.out | refine MemAt.drewN ?_ _ | refine MemAt.drew ?_ | refine MemAt.alloc ?_ _))) (Chg.of_below hb) (fun _ _ => id)); clear HB HM hm hb hk; have HB := HBn; have HM := HMn; clear HBn HMn) | (go_at_call 27; (with_reducible refine (time_nil _ 0 0).mono ?_); rintro e w' ⟨rfl, rfl⟩) | (go_at_call 24; (with_reducible refine (cells_nil _ 0 0).mono ?_); rintro e w' ⟨rfl, rfl⟩) | (go_at_call 25; (with_reducible refine (locks_nil _ 0 0).mono ?_); rintro e w' ⟨rfl, rfl⟩) | (go_at_call 16; refine (told_ _).mono ?_; rintro e w' ⟨rfl, hb⟩; have HBn := Aside0.mk (below_step (by repeat (first | exact HB.out | apply below_alloc | apply pw_below_drewN | apply below_drew1)) hb); clear HB hb; have HB := HBn; clear HBn) | (go_at_call 24; refine (HCL.out _ p HM.out).mono ?_; rintro e w' ⟨rfl, rfl⟩) | (go_at_call 25; refine (HLL.out _ p HM.out).mono ?_; rintro e w' ⟨rfl, rfl⟩) | (go_at_call 27; refine (time_v _ p _ 0 HM0.out.2.2.1 HM.out).mono ?_; rintro e w' ⟨rfl, rfl⟩) | (go_at_call 22; refine (peek_v _ p _ _ 0 HM0.out.2.2.2.1 HM.out).mono ?_; rintro e w' ⟨rfl, rfl⟩) | (go_at_call 19; refine (holder_v _ p _ _ (-1) HM0.out.2.2.2.2 HM.out).mono ?_; rintro e w' ⟨rfl, rfl⟩))
        go_ret
        exact ⟨rfl, (by repeat (first | exact HB.out | apply below_alloc | apply pw_below_drewN | apply below_drew1))⟩
    · have HE := Aside0.mk c2
      have hbb : a0 ≤ 20000 ∨ 1048576 < a0 := by omega
      clear c1 c2
      rcases hcase with ⟨rfl, rfl⟩ | ⟨hne, rfl⟩
      · rcases hbb with hbb | hbb
        all_goals (by_cases hb2 : 20000 < a0 <;> try omega)
        all_goals
          go_enter Try.func6, Try.ntmps6
          go_wp2_with (first | (go_at_call 21; refine (HDN.out _).mono ?_; rintro e w' ⟨rfl, hb⟩; have HBn := Aside0.mk (below_step (by repeat (first | exact HB.out | apply below_alloc | apply pw_below_drewN | apply below_drew1)) hb); have hx0 := (hb.cell (p := ⟨w.heap.size, 0, none⟩) (by simp)).trans (World.cell?_alloc_new w _ _ 0); simp at hx0; clear HB hb; have HB := HBn; clear HBn) | (go_at_call 15; refine (new_err _ _ _ (fun h => HE.out ⟨h.1, h.2.1, h.2.2.1, h.2.2.2⟩)).mono ?_; rintro e w' ⟨rfl, rfl⟩) | (go_at_call 23; refine (rnew_err _ _ _ (fun h => HE.out ⟨h.1, h.2.1, h.2.2.1, h.2.2.2⟩)).mono ?_; rintro e w' ⟨rfl, rfl⟩) | (go_at_call 27; (with_reducible refine (time_nil _ 0 0).mono ?_); rintro e w' ⟨rfl, rfl⟩) | (go_at_call 24; (with_reducible refine (cells_nil _ 0 0).mono ?_); rintro e w' ⟨rfl, rfl⟩) | (go_at_call 25; (with_reducible refine (locks_nil _ 0 0).mono ?_); rintro e w' ⟨rfl, rfl⟩) | (go_at_call 16; refine (told_ _).mono ?_; rintro e w' ⟨rfl, hb⟩; have HBn := Aside0.mk (below_step (by repeat (first | exact HB.out | apply below_alloc | apply pw_below_drewN | apply below_drew1)) hb); clear HB hb; have HB := HBn; clear HBn))
          go_ret
          exact ⟨rfl, (by repeat (first | exact HB.out | apply below_alloc | apply pw_below_drewN | apply below_drew1))⟩
      · have hb5 : (k6 == 5) = false := beq_eq_false_iff_ne.mpr hne
        clear hne
        rcases hbb with hbb | hbb
        all_goals (by_cases hb2 : 20000 < a0 <;> try omega)
        all_goals
          go_enter Try.func6, Try.ntmps6
          go_wp2_with (first | (go_at_call 21; refine (HDN.out _).mono ?_; rintro e w' ⟨rfl, hb⟩; have HBn := Aside0.mk (below_step (by repeat (first | exact HB.out | apply below_alloc | apply pw_below_drewN | apply below_drew1)) hb); have hx0 := (hb.cell (p := ⟨w.heap.size, 0, none⟩) (by simp)).trans (World.cell?_alloc_new w _ _ 0); simp at hx0; clear HB hb; have HB := HBn; clear HBn) | (go_at_call 15; refine (new_err _ _ _ (fun h => HE.out ⟨h.1, h.2.1, h.2.2.1, h.2.2.2⟩)).mono ?_; rintro e w' ⟨rfl, rfl⟩) | (go_at_call 23; refine (rnew_err _ _ _ (fun h => HE.out ⟨h.1, h.2.1, h.2.2.1, h.2.2.2⟩)).mono ?_; rintro e w' ⟨rfl, rfl⟩) | (go_at_call 27; (with_reducible refine (time_nil _ 0 0).mono ?_); rintro e w' ⟨rfl, rfl⟩) | (go_at_call 24; (with_reducible refine (cells_nil _ 0 0).mono ?_); rintro e w' ⟨rfl, rfl⟩) | (go_at_call 25; (with_reducible refine (locks_nil _ 0 0).mono ?_); rintro e w' ⟨rfl, rfl⟩) | (go_at_call 16; refine (told_ _).mono ?_; rintro e w' ⟨rfl, hb⟩; have HBn := Aside0.mk (below_step (by repeat (first | exact HB.out | apply below_alloc | apply pw_below_drewN | apply below_drew1)) hb); clear HB hb; have HB := HBn; clear HBn))
          go_ret
          exact ⟨rfl, (by repeat (first | exact HB.out | apply below_alloc | apply pw_below_drewN | apply below_drew1))⟩

end Go.Proofs.Ytejplbeddcpmeaa.Mem
