/- The calls of package mem do what XMem says; no condition. -/
import Derived.Test.YtejplbeddcpmeaaProg
import Derived.Test.YtejplbeddcpmeaaMem
import Derived.WalkKit
import Derived.Outline
namespace Go.Proofs.Ytejplbeddcpmeaa.Mem
open Go.RowKit Go.Proofs.YtejplbeddcpmeaaW.PrintWords Go.Proofs.Ytejplbeddcpmeaa.Heap
set_option linter.unusedVariables false
set_option linter.unusedSimpArgs false

abbrev pa (p : Mp) : Value := .pointer (some ⟨p.a, 0, none⟩)

theorem nums_at (k : IntKind) (xs : List Int) (i : Int) (h0 : 0 ≤ i) (h1 : i < xs.length) : (nums k xs)[i.toNat]? = some (.int k (rd xs i)) := by
  simp [nums, rd, List.getElem?_eq_getElem (show i.toNat < xs.length by omega), List.getD_eq_getElem?_getD]
theorem nums_set (k : IntKind) (xs : List Int) (i : Nat) (v : Int) : (nums k xs).set i (.int k v) = nums k (xs.set i v) := by simp [nums, List.map_set]

theorem cell_in (w : World) (p : Mp) (M : MemS) (i : Int) (h : MemAt 97 w p M) (h0 : 0 ≤ i) (h1 : i < M.cells.length) :
    Calls Try.prog 66 #[pa p, .int .i64 i] w fun e w' => e = .returned (.bool true) ∧ w = w' := by
  have hx0 : w.cell? ⟨p.a, 0, none⟩ = some (.slice (some ⟨p.bc, 0, none⟩) M.cells.length M.cells.length) := (h.top.cell 0).trans rfl
  clear h
  go_enter Try.func66, Try.ntmps66
  go_wp2
  go_ret
  exact ⟨rfl, rfl⟩
theorem cell_out (w : World) (p : Mp) (M : MemS) (i : Int) (h : MemAt 97 w p M) (hn : ¬ (0 ≤ i ∧ i < M.cells.length)) :
    Calls Try.prog 66 #[pa p, .int .i64 i] w fun e w' => e = .returned (.bool false) ∧ w = w' := by
  have hx0 : w.cell? ⟨p.a, 0, none⟩ = some (.slice (some ⟨p.bc, 0, none⟩) M.cells.length M.cells.length) := (h.top.cell 0).trans rfl
  clear h
  by_cases h0 : 0 ≤ i
  · have h1 : (M.cells.length : Int) ≤ i := by omega
    clear hn
    go_enter Try.func66, Try.ntmps66
    go_wp2
    go_ret
    exact ⟨by simp; omega, rfl⟩
  · have h1 : i < 0 := by omega
    clear hn h0
    go_enter Try.func66, Try.ntmps66
    go_wp2
    go_ret
    exact ⟨rfl, rfl⟩
theorem cell_nil (w : World) (i : Int) :
    Calls Try.prog 66 #[.pointer none, .int .i64 i] w fun e w' => e = .returned (.bool false) ∧ w = w' := by
  go_enter Try.func66, Try.ntmps66
  go_wp2
  go_ret
  exact ⟨rfl, rfl⟩
theorem lock_in (w : World) (p : Mp) (M : MemS) (i : Int) (h : MemAt 97 w p M) (h0 : 0 ≤ i) (h1 : i < M.locks.length) :
    Calls Try.prog 64 #[pa p, .int .i64 i] w fun e w' => e = .returned (.bool true) ∧ w = w' := by
  have hx0 : w.cell? ⟨p.a, 1, none⟩ = some (.slice (some ⟨p.bl, 0, none⟩) M.locks.length M.locks.length) := (h.top.cell 1).trans rfl
  clear h
  go_enter Try.func64, Try.ntmps64
  go_wp2
  go_ret
  exact ⟨rfl, rfl⟩
theorem lock_out (w : World) (p : Mp) (M : MemS) (i : Int) (h : MemAt 97 w p M) (hn : ¬ (0 ≤ i ∧ i < M.locks.length)) :
    Calls Try.prog 64 #[pa p, .int .i64 i] w fun e w' => e = .returned (.bool false) ∧ w = w' := by
  have hx0 : w.cell? ⟨p.a, 1, none⟩ = some (.slice (some ⟨p.bl, 0, none⟩) M.locks.length M.locks.length) := (h.top.cell 1).trans rfl
  clear h
  by_cases h0 : 0 ≤ i
  · have h1 : (M.locks.length : Int) ≤ i := by omega
    clear hn
    go_enter Try.func64, Try.ntmps64
    go_wp2
    go_ret
    exact ⟨by simp; omega, rfl⟩
  · have h1 : i < 0 := by omega
    clear hn h0
    go_enter Try.func64, Try.ntmps64
    go_wp2
    go_ret
    exact ⟨rfl, rfl⟩
theorem lock_nil (w : World) (i : Int) :
    Calls Try.prog 64 #[.pointer none, .int .i64 i] w fun e w' => e = .returned (.bool false) ∧ w = w' := by
  go_enter Try.func64, Try.ntmps64
  go_wp2
  go_ret
  exact ⟨rfl, rfl⟩

/-- The time goes on. -/
theorem tick_at {T : TypeId} {w : World} {p : Mp} {M : MemS} (h : MemAt T w p M) : MemAt T (w.setCell ⟨p.a, 2, none⟩ (.int .i64 (M.time + 1))) p M.ticked :=
  { top := (h.top.set 2 _).eq rfl, cells := h.cells.far h.ne_ac.symm _, locks := h.locks.far h.ne_al.symm _, t0 := by have := h.t0; simp [MemS.ticked]; omega, cr := h.cr, lr := h.lr, cn := h.cn, ln := h.ln, t1 := h.t1, t2 := h.t2 }
theorem tick_chg {w : World} (p : Mp) (v : Value) : Chg p.has w (w.setCell ⟨p.a, 2, none⟩ v) := (Chg.refl _ _).set (.inl (.inl rfl)) _
theorem put_cell {T : TypeId} {w : World} {p : Mp} {M : MemS} (h : MemAt T w p M) (i v : Int) (hv : 0 ≤ v ∧ v ≤ 18446744073709551615) : MemAt T (w.setCell ⟨p.bc, i.toNat, none⟩ (.int .u64 v)) p { M with cells := M.cells.set i.toNat v } :=
  { top := (h.top.far h.ne_ac _).eq (by simp [topOf]), cells := (h.cells.set _ _).eq (nums_set _ _ _ _), locks := h.locks.far h.ne_cl.symm _, t0 := h.t0,
    cr := fun x hx => by rcases List.mem_or_eq_of_mem_set hx with c | rfl; exact h.cr x c; exact hv
    lr := h.lr, cn := by simpa using h.cn, ln := h.ln, t1 := h.t1, t2 := h.t2 }
theorem put_lock {T : TypeId} {w : World} {p : Mp} {M : MemS} (h : MemAt T w p M) (i v : Int) (hv : -1 ≤ v ∧ v ≤ 9223372036854775807) : MemAt T (w.setCell ⟨p.bl, i.toNat, none⟩ (.int .i64 v)) p { M with locks := M.locks.set i.toNat v } :=
  { top := (h.top.far h.ne_al _).eq (by simp [topOf]), cells := h.cells.far h.ne_cl _, locks := (h.locks.set _ _).eq (nums_set _ _ _ _), t0 := h.t0,
    cr := h.cr
    lr := fun x hx => by rcases List.mem_or_eq_of_mem_set hx with c | rfl; exact h.lr x c; exact hv
    cn := h.cn, ln := by simpa using h.ln, t1 := h.t1, t2 := h.t2 }

theorem load_ (w : World) (p : Mp) (M : MemS) (i : Int) (h : MemAt 97 w p M) (ht : M.time < 4611686018427387904) :
    Calls Try.prog 63 #[pa p, .int .i64 i] w fun e w' => e = .returned (.int .u64 (M.peek i)) ∧ MemAt 97 w' p (M.load i) ∧ Chg p.has w w' := by
  have H := Aside0.mk h
  by_cases hb : 0 ≤ i ∧ i < (M.cells.length : Int)
  · have hr : M.peek i = rd M.cells i := by unfold MemS.peek; rw [if_pos hb]
    have hl : M.load i = M.ticked := by unfold MemS.load; rw [if_pos hb]
    rw [hr, hl]
    clear hr hl
    obtain ⟨h0, h1⟩ := hb
    have hx0 : w.cell? ⟨p.a, 0, none⟩ = some (.slice (some ⟨p.bc, 0, none⟩) M.cells.length M.cells.length) := (h.top.cell 0).trans rfl
    have hx2 : w.cell? ⟨p.a, 2, none⟩ = some (.int .i64 M.time) := (h.top.cell 2).trans rfl
    have hf2 := h.top.frozen 2
    have hxi : w.cell? ⟨p.bc, i.toNat, none⟩ = some (.int .u64 (rd M.cells i)) := (h.cells.cell _).trans (nums_at _ _ _ h0 h1)
    have hne := h.ne_ac
    have t0 := h.t0
    clear h
    go_enter Try.func63, Try.ntmps63
    go_wp2_with (go_at_call 66; refine (cell_in _ _ _ _ H.out h0 h1).mono ?_; rintro e w' ⟨rfl, rfl⟩)
    go_ret
    exact ⟨rfl, tick_at H.out, tick_chg _ _⟩
  · have hr : M.peek i = 0 := by unfold MemS.peek; rw [if_neg hb]
    have hl : M.load i = M := by unfold MemS.load; rw [if_neg hb]
    rw [hr, hl]
    clear hr hl h
    go_enter Try.func63, Try.ntmps63
    go_wp2_with (go_at_call 66; refine (cell_out _ _ _ _ H.out hb).mono ?_; rintro e w' ⟨rfl, rfl⟩)
    go_ret
    exact ⟨rfl, H.out, Chg.refl _ _⟩


theorem peek_ (w : World) (p : Mp) (M : MemS) (i : Int) (h : MemAt 97 w p M) :
    Calls Try.prog 22 #[pa p, .int .i64 i] w fun e w' => e = .returned (.int .u64 (M.peek i)) ∧ w = w' := by
  have H := Aside0.mk h
  by_cases hb : 0 ≤ i ∧ i < (M.cells.length : Int)
  · have hr : M.peek i = rd M.cells i := by unfold MemS.peek; rw [if_pos hb]
    rw [hr]
    clear hr
    obtain ⟨h0, h1⟩ := hb
    have hx0 : w.cell? ⟨p.a, 0, none⟩ = some (.slice (some ⟨p.bc, 0, none⟩) M.cells.length M.cells.length) := (h.top.cell 0).trans rfl
    have hxi : w.cell? ⟨p.bc, i.toNat, none⟩ = some (.int .u64 (rd M.cells i)) := (h.cells.cell _).trans (nums_at _ _ _ h0 h1)
    clear h
    go_enter Try.func22, Try.ntmps22
    go_wp2_with (go_at_call 66; refine (cell_in _ _ _ _ H.out h0 h1).mono ?_; rintro e w' ⟨rfl, rfl⟩)
    go_ret
    exact ⟨rfl, rfl⟩
  · have hr : M.peek i = 0 := by unfold MemS.peek; rw [if_neg hb]
    rw [hr]
    clear hr h
    go_enter Try.func22, Try.ntmps22
    go_wp2_with (go_at_call 66; refine (cell_out _ _ _ _ H.out hb).mono ?_; rintro e w' ⟨rfl, rfl⟩)
    go_ret
    exact ⟨rfl, rfl⟩

theorem store_ (w : World) (p : Mp) (M : MemS) (i v : Int) (h : MemAt 97 w p M) (ht : M.time < 4611686018427387904) (hv : 0 ≤ v ∧ v ≤ 18446744073709551615) :
    Calls Try.prog 20 #[pa p, .int .i64 i, .int .u64 v] w fun e w' => e = .returned (.tuple #[]) ∧ MemAt 97 w' p (M.store i v) ∧ Chg p.has w w' := by
  have H := Aside0.mk h
  have HV := Aside0.mk hv
  clear hv
  by_cases hb : 0 ≤ i ∧ i < (M.cells.length : Int)
  · have hl : M.store i v = { M.ticked with cells := M.cells.set i.toNat v } := by unfold MemS.store; rw [if_pos hb]; rfl
    rw [hl]
    clear hl
    obtain ⟨h0, h1⟩ := hb
    have hx0 : w.cell? ⟨p.a, 0, none⟩ = some (.slice (some ⟨p.bc, 0, none⟩) M.cells.length M.cells.length) := (h.top.cell 0).trans rfl
    have hx2 : w.cell? ⟨p.a, 2, none⟩ = some (.int .i64 M.time) := (h.top.cell 2).trans rfl
    have hf2 := h.top.frozen 2
    have hxi : w.cell? ⟨p.bc, i.toNat, none⟩ = some (.int .u64 (rd M.cells i)) := (h.cells.cell _).trans (nums_at _ _ _ h0 h1)
    have hfi := h.cells.frozen i.toNat
    have hne := h.ne_ac
    have hne' := h.ne_ac.symm
    have t0 := h.t0
    clear h
    go_enter Try.func20, Try.ntmps20
    go_wp2_with (go_at_call 66; refine (cell_in _ _ _ _ H.out h0 h1).mono ?_; rintro e w' ⟨rfl, rfl⟩)
    go_end0
    exact ⟨rfl, put_cell (tick_at H.out) i v HV.out, (tick_chg _ _).set (.inl (.inr (.inl rfl))) _⟩
  · have hl : M.store i v = M := by unfold MemS.store; rw [if_neg hb]
    rw [hl]
    clear hl h
    go_enter Try.func20, Try.ntmps20
    go_wp2_with (go_at_call 66; refine (cell_out _ _ _ _ H.out hb).mono ?_; rintro e w' ⟨rfl, rfl⟩)
    go_end0
    exact ⟨rfl, H.out, Chg.refl _ _⟩

theorem pass_yes (w : World) (p : Mp) (M : MemS) (l fr tv : Int) (h : MemAt 97 w p M) (ht : M.time < 4611686018427387904) (h0 : 0 ≤ l) (h1 : l < (M.locks.length : Int)) (hv : -1 ≤ tv ∧ tv ≤ 9223372036854775807) (he : rd M.locks l = fr) :
    Calls Try.prog 65 #[pa p, .int .i64 l, .int .i64 fr, .int .i64 tv] w fun e w' => e = .returned (.bool true) ∧ MemAt 97 w' p { M.ticked with locks := M.locks.set l.toNat tv } ∧ Chg p.has w w' := by
  have H := Aside0.mk h
  have HV := Aside0.mk hv
  have hb : (rd M.locks l != fr) = false := bne_eq_false_iff_eq.mpr he
  have hx1 : w.cell? ⟨p.a, 1, none⟩ = some (.slice (some ⟨p.bl, 0, none⟩) M.locks.length M.locks.length) := (h.top.cell 1).trans rfl
  have hx2 : w.cell? ⟨p.a, 2, none⟩ = some (.int .i64 M.time) := (h.top.cell 2).trans rfl
  have hf2 := h.top.frozen 2
  have hxi : w.cell? ⟨p.bl, l.toNat, none⟩ = some (.int .i64 (rd M.locks l)) := (h.locks.cell _).trans (nums_at _ _ _ h0 h1)
  have hfi := h.locks.frozen l.toNat
  have hne := h.ne_al
  have hne' := h.ne_al.symm
  have t0 := h.t0
  clear h hv he
  go_enter Try.func65, Try.ntmps65
  go_wp2
  go_ret
  exact ⟨rfl, put_lock (tick_at H.out) l tv HV.out, (tick_chg _ _).set (.inl (.inr (.inr rfl))) _⟩
theorem pass_no (w : World) (p : Mp) (M : MemS) (l fr tv : Int) (h : MemAt 97 w p M) (ht : M.time < 4611686018427387904) (h0 : 0 ≤ l) (h1 : l < (M.locks.length : Int)) (he : ¬ rd M.locks l = fr) :
    Calls Try.prog 65 #[pa p, .int .i64 l, .int .i64 fr, .int .i64 tv] w fun e w' => e = .returned (.bool false) ∧ MemAt 97 w' p M.ticked ∧ Chg p.has w w' := by
  have H := Aside0.mk h
  have hb : (rd M.locks l != fr) = true := bne_iff_ne.mpr he
  have hx1 : w.cell? ⟨p.a, 1, none⟩ = some (.slice (some ⟨p.bl, 0, none⟩) M.locks.length M.locks.length) := (h.top.cell 1).trans rfl
  have hx2 : w.cell? ⟨p.a, 2, none⟩ = some (.int .i64 M.time) := (h.top.cell 2).trans rfl
  have hf2 := h.top.frozen 2
  have hxi : w.cell? ⟨p.bl, l.toNat, none⟩ = some (.int .i64 (rd M.locks l)) := (h.locks.cell _).trans (nums_at _ _ _ h0 h1)
  have hne := h.ne_al
  have hne' := h.ne_al.symm
  have t0 := h.t0
  clear h he
  go_enter Try.func65, Try.ntmps65
  go_wp2
  go_ret
  exact ⟨rfl, tick_at H.out, tick_chg _ _⟩

theorem take_ (w : World) (p : Mp) (M : MemS) (l who : Int) (h : MemAt 97 w p M) (ht : M.time < 4611686018427387904) (hw : who ≤ 9223372036854775807) :
    Calls Try.prog 18 #[pa p, .int .i64 l, .int .i64 who] w fun e w' => e = .returned (.bool (M.takes l who)) ∧ MemAt 97 w' p (M.take l who) ∧ Chg p.has w w' := by
  have H := Aside0.mk h
  clear h
  by_cases hb : 0 ≤ l ∧ l < (M.locks.length : Int)
  · obtain ⟨h0, h1⟩ := hb
    by_cases hq : 0 ≤ who
    · by_cases he : rd M.locks l = -1
      · have e1 : M.takes l who = true := by unfold MemS.takes; exact decide_eq_true ⟨h0, h1, hq, he⟩
        have e2 : M.take l who = { M.ticked with locks := M.locks.set l.toNat (who) } := by unfold MemS.take; rw [if_pos ⟨h0, h1, hq⟩, if_pos he]; rfl
        rw [e1, e2]
        clear e1 e2
        have HE := Aside0.mk he
        clear he
        go_enter Try.func18, Try.ntmps18
        go_wp2_with (first | (go_at_call 64; refine (lock_in _ _ _ _ H.out h0 h1).mono ?_; rintro e w' ⟨rfl, rfl⟩) | (go_at_call 65; refine (pass_yes _ _ _ _ _ _ H.out ht h0 h1 (by omega) HE.out).mono ?_; rintro e w' ⟨rfl, hm, hc⟩; have HM := Aside0.mk hm; have HCH := Aside0.mk hc; clear hm hc))
        go_ret
        exact ⟨rfl, HM.out, HCH.out⟩
      · have e1 : M.takes l who = false := by unfold MemS.takes; exact decide_eq_false (fun c => he c.2.2.2)
        have e2 : M.take l who = M.ticked := by unfold MemS.take; rw [if_pos ⟨h0, h1, hq⟩, if_neg he]
        rw [e1, e2]
        clear e1 e2
        have HE := Aside0.mk he
        clear he
        go_enter Try.func18, Try.ntmps18
        go_wp2_with (first | (go_at_call 64; refine (lock_in _ _ _ _ H.out h0 h1).mono ?_; rintro e w' ⟨rfl, rfl⟩) | (go_at_call 65; refine (pass_no _ _ _ _ _ _ H.out ht h0 h1 HE.out).mono ?_; rintro e w' ⟨rfl, hm, hc⟩; have HM := Aside0.mk hm; have HCH := Aside0.mk hc; clear hm hc))
        go_ret
        exact ⟨rfl, HM.out, HCH.out⟩
    · have e1 : M.takes l who = false := by unfold MemS.takes; exact decide_eq_false (fun c => hq c.2.2.1)
      have e2 : M.take l who = M := by unfold MemS.take; rw [if_neg (fun c => hq c.2.2)]
      rw [e1, e2]
      clear e1 e2
      have hq' : who < 0 := by omega
      clear hq
      go_enter Try.func18, Try.ntmps18
      go_wp2_with (go_at_call 64; refine (lock_in _ _ _ _ H.out h0 h1).mono ?_; rintro e w' ⟨rfl, rfl⟩)
      go_ret
      exact ⟨by first | rfl | (simp; omega), H.out, Chg.refl _ _⟩
  · have e1 : M.takes l who = false := by unfold MemS.takes; exact decide_eq_false (fun c => hb ⟨c.1, c.2.1⟩)
    have e2 : M.take l who = M := by unfold MemS.take; rw [if_neg (fun c => hb ⟨c.1, c.2.1⟩)]
    rw [e1, e2]
    clear e1 e2
    go_enter Try.func18, Try.ntmps18
    go_wp2_with (go_at_call 64; refine (lock_out _ _ _ _ H.out hb).mono ?_; rintro e w' ⟨rfl, rfl⟩)
    go_ret
    exact ⟨rfl, H.out, Chg.refl _ _⟩

theorem free_ (w : World) (p : Mp) (M : MemS) (l who : Int) (h : MemAt 97 w p M) (ht : M.time < 4611686018427387904) (hw : who ≤ 9223372036854775807) :
    Calls Try.prog 17 #[pa p, .int .i64 l, .int .i64 who] w fun e w' => e = .returned (.bool (M.frees l who)) ∧ MemAt 97 w' p (M.free l who) ∧ Chg p.has w w' := by
  have H := Aside0.mk h
  clear h
  by_cases hb : 0 ≤ l ∧ l < (M.locks.length : Int)
  · obtain ⟨h0, h1⟩ := hb
    by_cases hq : 0 ≤ who
    · by_cases he : rd M.locks l = who
      · have e1 : M.frees l who = true := by unfold MemS.frees; exact decide_eq_true ⟨h0, h1, hq, he⟩
        have e2 : M.free l who = { M.ticked with locks := M.locks.set l.toNat (-1) } := by unfold MemS.free; rw [if_pos ⟨h0, h1, hq⟩, if_pos he]; rfl
        rw [e1, e2]
        clear e1 e2
        have HE := Aside0.mk he
        clear he
        go_enter Try.func17, Try.ntmps17
        go_wp2_with (first | (go_at_call 64; refine (lock_in _ _ _ _ H.out h0 h1).mono ?_; rintro e w' ⟨rfl, rfl⟩) | (go_at_call 65; refine (pass_yes _ _ _ _ _ _ H.out ht h0 h1 (by omega) HE.out).mono ?_; rintro e w' ⟨rfl, hm, hc⟩; have HM := Aside0.mk hm; have HCH := Aside0.mk hc; clear hm hc))
        go_ret
        exact ⟨rfl, HM.out, HCH.out⟩
      · have e1 : M.frees l who = false := by unfold MemS.frees; exact decide_eq_false (fun c => he c.2.2.2)
        have e2 : M.free l who = M.ticked := by unfold MemS.free; rw [if_pos ⟨h0, h1, hq⟩, if_neg he]
        rw [e1, e2]
        clear e1 e2
        have HE := Aside0.mk he
        clear he
        go_enter Try.func17, Try.ntmps17
        go_wp2_with (first | (go_at_call 64; refine (lock_in _ _ _ _ H.out h0 h1).mono ?_; rintro e w' ⟨rfl, rfl⟩) | (go_at_call 65; refine (pass_no _ _ _ _ _ _ H.out ht h0 h1 HE.out).mono ?_; rintro e w' ⟨rfl, hm, hc⟩; have HM := Aside0.mk hm; have HCH := Aside0.mk hc; clear hm hc))
        go_ret
        exact ⟨rfl, HM.out, HCH.out⟩
    · have e1 : M.frees l who = false := by unfold MemS.frees; exact decide_eq_false (fun c => hq c.2.2.1)
      have e2 : M.free l who = M := by unfold MemS.free; rw [if_neg (fun c => hq c.2.2)]
      rw [e1, e2]
      clear e1 e2
      have hq' : who < 0 := by omega
      clear hq
      go_enter Try.func17, Try.ntmps17
      go_wp2_with (go_at_call 64; refine (lock_in _ _ _ _ H.out h0 h1).mono ?_; rintro e w' ⟨rfl, rfl⟩)
      go_ret
      exact ⟨by first | rfl | (simp; omega), H.out, Chg.refl _ _⟩
  · have e1 : M.frees l who = false := by unfold MemS.frees; exact decide_eq_false (fun c => hb ⟨c.1, c.2.1⟩)
    have e2 : M.free l who = M := by unfold MemS.free; rw [if_neg (fun c => hb ⟨c.1, c.2.1⟩)]
    rw [e1, e2]
    clear e1 e2
    go_enter Try.func17, Try.ntmps17
    go_wp2_with (go_at_call 64; refine (lock_out _ _ _ _ H.out hb).mono ?_; rintro e w' ⟨rfl, rfl⟩)
    go_ret
    exact ⟨rfl, H.out, Chg.refl _ _⟩

theorem holder_ (w : World) (p : Mp) (M : MemS) (i : Int) (h : MemAt 97 w p M) :
    Calls Try.prog 19 #[pa p, .int .i64 i] w fun e w' => e = .returned (.int .i64 (M.holder i)) ∧ w = w' := by
  have H := Aside0.mk h
  by_cases hb : 0 ≤ i ∧ i < (M.locks.length : Int)
  · have hr : M.holder i = rd M.locks i := by unfold MemS.holder; rw [if_pos hb]
    rw [hr]
    clear hr
    obtain ⟨h0, h1⟩ := hb
    have hx0 : w.cell? ⟨p.a, 1, none⟩ = some (.slice (some ⟨p.bl, 0, none⟩) M.locks.length M.locks.length) := (h.top.cell 1).trans rfl
    have hxi : w.cell? ⟨p.bl, i.toNat, none⟩ = some (.int .i64 (rd M.locks i)) := (h.locks.cell _).trans (nums_at _ _ _ h0 h1)
    clear h
    go_enter Try.func19, Try.ntmps19
    go_wp2_with (go_at_call 64; refine (lock_in _ _ _ _ H.out h0 h1).mono ?_; rintro e w' ⟨rfl, rfl⟩)
    go_ret
    exact ⟨rfl, rfl⟩
  · have hr : M.holder i = -1 := by unfold MemS.holder; rw [if_neg hb]
    rw [hr]
    clear hr h
    go_enter Try.func19, Try.ntmps19
    go_wp2_with (go_at_call 64; refine (lock_out _ _ _ _ H.out hb).mono ?_; rintro e w' ⟨rfl, rfl⟩)
    go_ret
    exact ⟨rfl, rfl⟩
theorem time_ (w : World) (p : Mp) (M : MemS) (h : MemAt 97 w p M) :
    Calls Try.prog 27 #[pa p] w fun e w' => e = .returned (.int .i64 M.time) ∧ w = w' := by
  have hx2 : w.cell? ⟨p.a, 2, none⟩ = some (.int .i64 M.time) := (h.top.cell 2).trans rfl
  clear h
  go_enter Try.func27, Try.ntmps27
  go_wp2
  go_ret
  exact ⟨rfl, rfl⟩
theorem cells_ (w : World) (p : Mp) (M : MemS) (h : MemAt 97 w p M) :
    Calls Try.prog 24 #[pa p] w fun e w' => e = .returned (.int .i64 (M.cells.length : Int)) ∧ w = w' := by
  have hx0 : w.cell? ⟨p.a, 0, none⟩ = some (.slice (some ⟨p.bc, 0, none⟩) M.cells.length M.cells.length) := (h.top.cell 0).trans rfl
  clear h
  go_enter Try.func24, Try.ntmps24
  go_wp2
  go_ret
  exact ⟨rfl, rfl⟩
theorem locks_ (w : World) (p : Mp) (M : MemS) (h : MemAt 97 w p M) :
    Calls Try.prog 25 #[pa p] w fun e w' => e = .returned (.int .i64 (M.locks.length : Int)) ∧ w = w' := by
  have hx0 : w.cell? ⟨p.a, 1, none⟩ = some (.slice (some ⟨p.bl, 0, none⟩) M.locks.length M.locks.length) := (h.top.cell 1).trans rfl
  clear h
  go_enter Try.func25, Try.ntmps25
  go_wp2
  go_ret
  exact ⟨rfl, rfl⟩

theorem load_nil (w : World) (i v : Int) :
    Calls Try.prog 63 #[.pointer none, .int .i64 i] w fun e w' => e = .returned (.int .u64 0) ∧ w = w' := by
  go_enter Try.func63, Try.ntmps63
  go_wp2_with (go_at_call 66; refine (cell_nil _ _).mono ?_; rintro e w' ⟨rfl, rfl⟩)
  go_ret
  exact ⟨rfl, rfl⟩

theorem peek_nil (w : World) (i v : Int) :
    Calls Try.prog 22 #[.pointer none, .int .i64 i] w fun e w' => e = .returned (.int .u64 0) ∧ w = w' := by
  go_enter Try.func22, Try.ntmps22
  go_wp2_with (go_at_call 66; refine (cell_nil _ _).mono ?_; rintro e w' ⟨rfl, rfl⟩)
  go_ret
  exact ⟨rfl, rfl⟩

theorem holder_nil (w : World) (i v : Int) :
    Calls Try.prog 19 #[.pointer none, .int .i64 i] w fun e w' => e = .returned (.int .i64 (-1)) ∧ w = w' := by
  go_enter Try.func19, Try.ntmps19
  go_wp2_with (go_at_call 64; refine (lock_nil _ _).mono ?_; rintro e w' ⟨rfl, rfl⟩)
  go_ret
  exact ⟨rfl, rfl⟩

theorem store_nil (w : World) (i v : Int) :
    Calls Try.prog 20 #[.pointer none, .int .i64 i, .int .u64 v] w fun e w' => e = .returned (.tuple #[]) ∧ w = w' := by
  go_enter Try.func20, Try.ntmps20
  go_wp2_with (go_at_call 66; refine (cell_nil _ _).mono ?_; rintro e w' ⟨rfl, rfl⟩)
  go_end0
  exact ⟨rfl, rfl⟩

theorem take_nil (w : World) (i v : Int) :
    Calls Try.prog 18 #[.pointer none, .int .i64 i, .int .i64 v] w fun e w' => e = .returned (.bool false) ∧ w = w' := by
  go_enter Try.func18, Try.ntmps18
  go_wp2_with (go_at_call 64; refine (lock_nil _ _).mono ?_; rintro e w' ⟨rfl, rfl⟩)
  go_ret
  exact ⟨rfl, rfl⟩

theorem free_nil (w : World) (i v : Int) :
    Calls Try.prog 17 #[.pointer none, .int .i64 i, .int .i64 v] w fun e w' => e = .returned (.bool false) ∧ w = w' := by
  go_enter Try.func17, Try.ntmps17
  go_wp2_with (go_at_call 64; refine (lock_nil _ _).mono ?_; rintro e w' ⟨rfl, rfl⟩)
  go_ret
  exact ⟨rfl, rfl⟩

theorem time_nil (w : World) (i v : Int) :
    Calls Try.prog 27 #[.pointer none] w fun e w' => e = .returned (.int .i64 0) ∧ w = w' := by
  go_enter Try.func27, Try.ntmps27
  go_wp2
  go_ret
  exact ⟨rfl, rfl⟩

theorem cells_nil (w : World) (i v : Int) :
    Calls Try.prog 24 #[.pointer none] w fun e w' => e = .returned (.int .i64 0) ∧ w = w' := by
  go_enter Try.func24, Try.ntmps24
  go_wp2
  go_ret
  exact ⟨rfl, rfl⟩

theorem locks_nil (w : World) (i v : Int) :
    Calls Try.prog 25 #[.pointer none] w fun e w' => e = .returned (.int .i64 0) ∧ w = w' := by
  go_enter Try.func25, Try.ntmps25
  go_wp2
  go_ret
  exact ⟨rfl, rfl⟩

end Go.Proofs.Ytejplbeddcpmeaa.Mem
