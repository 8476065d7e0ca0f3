/- The calls of the reference's memory do what XMem says; no condition. -/
import Derived.Test.YtejplbeddcpmeaaMemW
namespace Go.Proofs.Ytejplbeddcpmeaa.RMem
open Go.RowKit Go.Proofs.YtejplbeddcpmeaaW.PrintWords Go.Proofs.Ytejplbeddcpmeaa.Heap Go.Proofs.Ytejplbeddcpmeaa.Mem
set_option linter.unusedVariables false
set_option linter.unusedSimpArgs false

theorem cell_in (w : World) (p : Mp) (M : MemS) (i : Int) (h : MemAt 46 w p M) (h0 : 0 ≤ i) (h1 : i < M.cells.length) :
    Calls Try.prog 71 #[pa p, .int .i64 i] w fun e w' => e = .returned (.bool true) ∧ w = w' := by
  have hx0 : w.cell? ⟨p.a, 0, none⟩ = some (.slice (some ⟨p.bc, 0, none⟩) M.cells.length M.cells.length) := (h.top.cell 0).trans rfl
  clear h
  go_enter Try.func71, Try.ntmps71
  go_wp2
  go_ret
  exact ⟨rfl, rfl⟩
theorem cell_out (w : World) (p : Mp) (M : MemS) (i : Int) (h : MemAt 46 w p M) (hn : ¬ (0 ≤ i ∧ i < M.cells.length)) :
    Calls Try.prog 71 #[pa p, .int .i64 i] w fun e w' => e = .returned (.bool false) ∧ w = w' := by
  have hx0 : w.cell? ⟨p.a, 0, none⟩ = some (.slice (some ⟨p.bc, 0, none⟩) M.cells.length M.cells.length) := (h.top.cell 0).trans rfl
  clear h
  by_cases h0 : 0 ≤ i
  · have h1 : (M.cells.length : Int) ≤ i := by omega
    clear hn
    go_enter Try.func71, Try.ntmps71
    go_wp2
    go_ret
    exact ⟨by simp; omega, rfl⟩
  · have h1 : i < 0 := by omega
    clear hn h0
    go_enter Try.func71, Try.ntmps71
    go_wp2
    go_ret
    exact ⟨rfl, rfl⟩
theorem lock_in (w : World) (p : Mp) (M : MemS) (i : Int) (h : MemAt 46 w p M) (h0 : 0 ≤ i) (h1 : i < M.locks.length) :
    Calls Try.prog 72 #[pa p, .int .i64 i] w fun e w' => e = .returned (.bool true) ∧ w = w' := by
  have hx0 : w.cell? ⟨p.a, 1, none⟩ = some (.slice (some ⟨p.bl, 0, none⟩) M.locks.length M.locks.length) := (h.top.cell 1).trans rfl
  clear h
  go_enter Try.func72, Try.ntmps72
  go_wp2
  go_ret
  exact ⟨rfl, rfl⟩
theorem lock_out (w : World) (p : Mp) (M : MemS) (i : Int) (h : MemAt 46 w p M) (hn : ¬ (0 ≤ i ∧ i < M.locks.length)) :
    Calls Try.prog 72 #[pa p, .int .i64 i] w fun e w' => e = .returned (.bool false) ∧ w = w' := by
  have hx0 : w.cell? ⟨p.a, 1, none⟩ = some (.slice (some ⟨p.bl, 0, none⟩) M.locks.length M.locks.length) := (h.top.cell 1).trans rfl
  clear h
  by_cases h0 : 0 ≤ i
  · have h1 : (M.locks.length : Int) ≤ i := by omega
    clear hn
    go_enter Try.func72, Try.ntmps72
    go_wp2
    go_ret
    exact ⟨by simp; omega, rfl⟩
  · have h1 : i < 0 := by omega
    clear hn h0
    go_enter Try.func72, Try.ntmps72
    go_wp2
    go_ret
    exact ⟨rfl, rfl⟩
theorem load_ (w : World) (p : Mp) (M : MemS) (i : Int) (h : MemAt 46 w p M) (ht : M.time < 4611686018427387904) :
    Calls Try.prog 67 #[pa p, .int .i64 i] w fun e w' => e = .returned (.int .u64 (M.peek i)) ∧ MemAt 46 w' p (M.load i) ∧ Chg p.has w w' := by
  have H := Aside0.mk h
  by_cases hb : 0 ≤ i ∧ i < (M.cells.length : Int)
  · have hr : M.peek i = rd M.cells i := by unfold MemS.peek; rw [if_pos hb]
    have hl : M.load i = M.ticked := by unfold MemS.load; rw [if_pos hb]
    rw [hr, hl]
    clear hr hl
    obtain ⟨h0, h1⟩ := hb
    have hx0 : w.cell? ⟨p.a, 0, none⟩ = some (.slice (some ⟨p.bc, 0, none⟩) M.cells.length M.cells.length) := (h.top.cell 0).trans rfl
    have hx2 : w.cell? ⟨p.a, 2, none⟩ = some (.int .i64 M.time) := (h.top.cell 2).trans rfl
    have hf2 := h.top.frozen 2
    have hxi : w.cell? ⟨p.bc, i.toNat, none⟩ = some (.int .u64 (rd M.cells i)) := (h.cells.cell _).trans (nums_at _ _ _ h0 h1)
    have hne := h.ne_ac
    have t0 := h.t0
    clear h
    go_enter Try.func67, Try.ntmps67
    go_wp2_with (go_at_call 71; refine (cell_in _ _ _ _ H.out h0 h1).mono ?_; rintro e w' ⟨rfl, rfl⟩)
    go_ret
    exact ⟨rfl, tick_at H.out, tick_chg _ _⟩
  · have hr : M.peek i = 0 := by unfold MemS.peek; rw [if_neg hb]
    have hl : M.load i = M := by unfold MemS.load; rw [if_neg hb]
    rw [hr, hl]
    clear hr hl h
    go_enter Try.func67, Try.ntmps67
    go_wp2_with (go_at_call 71; refine (cell_out _ _ _ _ H.out hb).mono ?_; rintro e w' ⟨rfl, rfl⟩)
    go_ret
    exact ⟨rfl, H.out, Chg.refl _ _⟩


theorem peek_ (w : World) (p : Mp) (M : MemS) (i : Int) (h : MemAt 46 w p M) :
    Calls Try.prog 28 #[pa p, .int .i64 i] w fun e w' => e = .returned (.int .u64 (M.peek i)) ∧ w = w' := by
  have H := Aside0.mk h
  by_cases hb : 0 ≤ i ∧ i < (M.cells.length : Int)
  · have hr : M.peek i = rd M.cells i := by unfold MemS.peek; rw [if_pos hb]
    rw [hr]
    clear hr
    obtain ⟨h0, h1⟩ := hb
    have hx0 : w.cell? ⟨p.a, 0, none⟩ = some (.slice (some ⟨p.bc, 0, none⟩) M.cells.length M.cells.length) := (h.top.cell 0).trans rfl
    have hxi : w.cell? ⟨p.bc, i.toNat, none⟩ = some (.int .u64 (rd M.cells i)) := (h.cells.cell _).trans (nums_at _ _ _ h0 h1)
    clear h
    go_enter Try.func28, Try.ntmps28
    go_wp2_with (go_at_call 71; refine (cell_in _ _ _ _ H.out h0 h1).mono ?_; rintro e w' ⟨rfl, rfl⟩)
    go_ret
    exact ⟨rfl, rfl⟩
  · have hr : M.peek i = 0 := by unfold MemS.peek; rw [if_neg hb]
    rw [hr]
    clear hr h
    go_enter Try.func28, Try.ntmps28
    go_wp2_with (go_at_call 71; refine (cell_out _ _ _ _ H.out hb).mono ?_; rintro e w' ⟨rfl, rfl⟩)
    go_ret
    exact ⟨rfl, rfl⟩

theorem store_ (w : World) (p : Mp) (M : MemS) (i v : Int) (h : MemAt 46 w p M) (ht : M.time < 4611686018427387904) (hv : 0 ≤ v ∧ v ≤ 18446744073709551615) :
    Calls Try.prog 68 #[pa p, .int .i64 i, .int .u64 v] w fun e w' => e = .returned (.tuple #[]) ∧ MemAt 46 w' p (M.store i v) ∧ Chg p.has w w' := by
  have H := Aside0.mk h
  have HV := Aside0.mk hv
  clear hv
  by_cases hb : 0 ≤ i ∧ i < (M.cells.length : Int)
  · have hl : M.store i v = { M.ticked with cells := M.cells.set i.toNat v } := by unfold MemS.store; rw [if_pos hb]; rfl
    rw [hl]
    clear hl
    obtain ⟨h0, h1⟩ := hb
    have hx0 : w.cell? ⟨p.a, 0, none⟩ = some (.slice (some ⟨p.bc, 0, none⟩) M.cells.length M.cells.length) := (h.top.cell 0).trans rfl
    have hx2 : w.cell? ⟨p.a, 2, none⟩ = some (.int .i64 M.time) := (h.top.cell 2).trans rfl
    have hf2 := h.top.frozen 2
    have hxi : w.cell? ⟨p.bc, i.toNat, none⟩ = some (.int .u64 (rd M.cells i)) := (h.cells.cell _).trans (nums_at _ _ _ h0 h1)
    have hfi := h.cells.frozen i.toNat
    have hne := h.ne_ac
    have hne' := h.ne_ac.symm
    have t0 := h.t0
    clear h
    go_enter Try.func68, Try.ntmps68
    go_wp2_with (go_at_call 71; refine (cell_in _ _ _ _ H.out h0 h1).mono ?_; rintro e w' ⟨rfl, rfl⟩)
    go_end0
    exact ⟨rfl, put_cell (tick_at H.out) i v HV.out, (tick_chg _ _).set (.inl (.inr (.inl rfl))) _⟩
  · have hl : M.store i v = M := by unfold MemS.store; rw [if_neg hb]
    rw [hl]
    clear hl h
    go_enter Try.func68, Try.ntmps68
    go_wp2_with (go_at_call 71; refine (cell_out _ _ _ _ H.out hb).mono ?_; rintro e w' ⟨rfl, rfl⟩)
    go_end0
    exact ⟨rfl, H.out, Chg.refl _ _⟩

theorem holder_ (w : World) (p : Mp) (M : MemS) (i : Int) (h : MemAt 46 w p M) :
    Calls Try.prog 29 #[pa p, .int .i64 i] w fun e w' => e = .returned (.int .i64 (M.holder i)) ∧ w = w' := by
  have H := Aside0.mk h
  by_cases hb : 0 ≤ i ∧ i < (M.locks.length : Int)
  · have hr : M.holder i = rd M.locks i := by unfold MemS.holder; rw [if_pos hb]
    rw [hr]
    clear hr
    obtain ⟨h0, h1⟩ := hb
    have hx0 : w.cell? ⟨p.a, 1, none⟩ = some (.slice (some ⟨p.bl, 0, none⟩) M.locks.length M.locks.length) := (h.top.cell 1).trans rfl
    have hxi : w.cell? ⟨p.bl, i.toNat, none⟩ = some (.int .i64 (rd M.locks i)) := (h.locks.cell _).trans (nums_at _ _ _ h0 h1)
    clear h
    go_enter Try.func29, Try.ntmps29
    go_wp2_with (go_at_call 72; refine (lock_in _ _ _ _ H.out h0 h1).mono ?_; rintro e w' ⟨rfl, rfl⟩)
    go_ret
    exact ⟨rfl, rfl⟩
  · have hr : M.holder i = -1 := by unfold MemS.holder; rw [if_neg hb]
    rw [hr]
    clear hr h
    go_enter Try.func29, Try.ntmps29
    go_wp2_with (go_at_call 72; refine (lock_out _ _ _ _ H.out hb).mono ?_; rintro e w' ⟨rfl, rfl⟩)
    go_ret
    exact ⟨rfl, rfl⟩
theorem take_ (w : World) (p : Mp) (M : MemS) (l who : Int) (h : MemAt 46 w p M) (ht : M.time < 4611686018427387904) (hw : who ≤ 9223372036854775807) :
    Calls Try.prog 69 #[pa p, .int .i64 l, .int .i64 who] w fun e w' => e = .returned (.bool (M.takes l who)) ∧ MemAt 46 w' p (M.take l who) ∧ Chg p.has w w' := by
  have H := Aside0.mk h
  by_cases hb : 0 ≤ l ∧ l < (M.locks.length : Int)
  · obtain ⟨h0, h1⟩ := hb
    by_cases hq : 0 ≤ who
    · have hx1 : w.cell? ⟨p.a, 1, none⟩ = some (.slice (some ⟨p.bl, 0, none⟩) M.locks.length M.locks.length) := (h.top.cell 1).trans rfl
      have hx2 : w.cell? ⟨p.a, 2, none⟩ = some (.int .i64 M.time) := (h.top.cell 2).trans rfl
      have hf2 := h.top.frozen 2
      have hxi : w.cell? ⟨p.bl, l.toNat, none⟩ = some (.int .i64 (rd M.locks l)) := (h.locks.cell _).trans (nums_at _ _ _ h0 h1)
      have hfi := h.locks.frozen l.toNat
      have hne := h.ne_al
      have hne' := h.ne_al.symm
      have t0 := h.t0
      have hlo : -1 ≤ rd M.locks l := by
        have e : rd M.locks l = M.locks[l.toNat]'(by omega) := by simp [rd, List.getD_eq_getElem?_getD, List.getElem?_eq_getElem (show l.toNat < M.locks.length by omega)]
        rw [e]; exact (h.lr _ (List.getElem_mem _)).1
      clear h
      by_cases he : rd M.locks l = -1
      · have e1 : M.takes l who = true := by unfold MemS.takes; exact decide_eq_true ⟨h0, h1, hq, he⟩
        have e2 : M.take l who = { M.ticked with locks := M.locks.set l.toNat (who) } := by unfold MemS.take; rw [if_pos ⟨h0, h1, hq⟩, if_pos he]; rfl
        rw [e1, e2]
        clear e1 e2
        have hlt : rd M.locks l < 0 := by omega
        clear he hlo
        go_enter Try.func69, Try.ntmps69
        go_wp2_with (go_at_call 72; refine (lock_in _ _ _ _ H.out h0 h1).mono ?_; rintro e w' ⟨rfl, rfl⟩)
        go_ret
        exact ⟨rfl, put_lock (tick_at H.out) l (who) (by omega), (tick_chg _ _).set (.inl (.inr (.inr rfl))) _⟩
      · have e1 : M.takes l who = false := by unfold MemS.takes; exact decide_eq_false (fun c => he c.2.2.2)
        have e2 : M.take l who = M.ticked := by unfold MemS.take; rw [if_pos ⟨h0, h1, hq⟩, if_neg he]
        rw [e1, e2]
        clear e1 e2
        have hge : 0 ≤ rd M.locks l := by omega
        clear he hlo
        go_enter Try.func69, Try.ntmps69
        go_wp2_with (go_at_call 72; refine (lock_in _ _ _ _ H.out h0 h1).mono ?_; rintro e w' ⟨rfl, rfl⟩)
        go_ret
        exact ⟨rfl, tick_at H.out, tick_chg _ _⟩
    · have e1 : M.takes l who = false := by unfold MemS.takes; exact decide_eq_false (fun c => hq c.2.2.1)
      have e2 : M.take l who = M := by unfold MemS.take; rw [if_neg (fun c => hq c.2.2)]
      rw [e1, e2]
      clear e1 e2 h
      have hq' : who < 0 := by omega
      clear hq
      go_enter Try.func69, Try.ntmps69
      go_wp2_with (go_at_call 72; refine (lock_in _ _ _ _ H.out h0 h1).mono ?_; rintro e w' ⟨rfl, rfl⟩)
      go_ret
      exact ⟨rfl, H.out, Chg.refl _ _⟩
  · have e1 : M.takes l who = false := by unfold MemS.takes; exact decide_eq_false (fun c => hb ⟨c.1, c.2.1⟩)
    have e2 : M.take l who = M := by unfold MemS.take; rw [if_neg (fun c => hb ⟨c.1, c.2.1⟩)]
    rw [e1, e2]
    clear e1 e2 h
    go_enter Try.func69, Try.ntmps69
    go_wp2_with (go_at_call 72; refine (lock_out _ _ _ _ H.out hb).mono ?_; rintro e w' ⟨rfl, rfl⟩)
    go_ret
    exact ⟨rfl, H.out, Chg.refl _ _⟩

theorem free_ (w : World) (p : Mp) (M : MemS) (l who : Int) (h : MemAt 46 w p M) (ht : M.time < 4611686018427387904) (hw : who ≤ 9223372036854775807) :
    Calls Try.prog 70 #[pa p, .int .i64 l, .int .i64 who] w fun e w' => e = .returned (.bool (M.frees l who)) ∧ MemAt 46 w' p (M.free l who) ∧ Chg p.has w w' := by
  have H := Aside0.mk h
  by_cases hb : 0 ≤ l ∧ l < (M.locks.length : Int)
  · obtain ⟨h0, h1⟩ := hb
    by_cases hq : 0 ≤ who
    · have hx1 : w.cell? ⟨p.a, 1, none⟩ = some (.slice (some ⟨p.bl, 0, none⟩) M.locks.length M.locks.length) := (h.top.cell 1).trans rfl
      have hx2 : w.cell? ⟨p.a, 2, none⟩ = some (.int .i64 M.time) := (h.top.cell 2).trans rfl
      have hf2 := h.top.frozen 2
      have hxi : w.cell? ⟨p.bl, l.toNat, none⟩ = some (.int .i64 (rd M.locks l)) := (h.locks.cell _).trans (nums_at _ _ _ h0 h1)
      have hfi := h.locks.frozen l.toNat
      have hne := h.ne_al
      have hne' := h.ne_al.symm
      have t0 := h.t0
      have hlo : -1 ≤ rd M.locks l := by
        have e : rd M.locks l = M.locks[l.toNat]'(by omega) := by simp [rd, List.getD_eq_getElem?_getD, List.getElem?_eq_getElem (show l.toNat < M.locks.length by omega)]
        rw [e]; exact (h.lr _ (List.getElem_mem _)).1
      clear h
      by_cases he : rd M.locks l = who
      · have e1 : M.frees l who = true := by unfold MemS.frees; exact decide_eq_true ⟨h0, h1, hq, he⟩
        have e2 : M.free l who = { M.ticked with locks := M.locks.set l.toNat (-1) } := by unfold MemS.free; rw [if_pos ⟨h0, h1, hq⟩, if_pos he]; rfl
        rw [e1, e2]
        clear e1 e2
        have hbb : (rd M.locks l != who) = false := bne_eq_false_iff_eq.mpr he
        clear he hlo
        go_enter Try.func70, Try.ntmps70
        go_wp2_with (go_at_call 72; refine (lock_in _ _ _ _ H.out h0 h1).mono ?_; rintro e w' ⟨rfl, rfl⟩)
        go_ret
        exact ⟨rfl, put_lock (tick_at H.out) l (-1) (by omega), (tick_chg _ _).set (.inl (.inr (.inr rfl))) _⟩
      · have e1 : M.frees l who = false := by unfold MemS.frees; exact decide_eq_false (fun c => he c.2.2.2)
        have e2 : M.free l who = M.ticked := by unfold MemS.free; rw [if_pos ⟨h0, h1, hq⟩, if_neg he]
        rw [e1, e2]
        clear e1 e2
        have hbb : (rd M.locks l != who) = true := bne_iff_ne.mpr he
        clear he hlo
        go_enter Try.func70, Try.ntmps70
        go_wp2_with (go_at_call 72; refine (lock_in _ _ _ _ H.out h0 h1).mono ?_; rintro e w' ⟨rfl, rfl⟩)
        go_ret
        exact ⟨rfl, tick_at H.out, tick_chg _ _⟩
    · have e1 : M.frees l who = false := by unfold MemS.frees; exact decide_eq_false (fun c => hq c.2.2.1)
      have e2 : M.free l who = M := by unfold MemS.free; rw [if_neg (fun c => hq c.2.2)]
      rw [e1, e2]
      clear e1 e2 h
      have hq' : who < 0 := by omega
      clear hq
      go_enter Try.func70, Try.ntmps70
      go_wp2_with (go_at_call 72; refine (lock_in _ _ _ _ H.out h0 h1).mono ?_; rintro e w' ⟨rfl, rfl⟩)
      go_ret
      exact ⟨rfl, H.out, Chg.refl _ _⟩
  · have e1 : M.frees l who = false := by unfold MemS.frees; exact decide_eq_false (fun c => hb ⟨c.1, c.2.1⟩)
    have e2 : M.free l who = M := by unfold MemS.free; rw [if_neg (fun c => hb ⟨c.1, c.2.1⟩)]
    rw [e1, e2]
    clear e1 e2 h
    go_enter Try.func70, Try.ntmps70
    go_wp2_with (go_at_call 72; refine (lock_out _ _ _ _ H.out hb).mono ?_; rintro e w' ⟨rfl, rfl⟩)
    go_ret
    exact ⟨rfl, H.out, Chg.refl _ _⟩

theorem time_at (w : World) (p : Mp) (M : MemS) (h : MemAt 46 w p M) : w.cell? ⟨p.a, 2, none⟩ = some (.int .i64 M.time) := (h.top.cell 2).trans rfl
end Go.Proofs.Ytejplbeddcpmeaa.RMem
