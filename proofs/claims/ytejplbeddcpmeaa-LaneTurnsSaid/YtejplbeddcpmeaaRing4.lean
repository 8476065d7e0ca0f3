/- The steps of a ring's acts, as of a queue; no condition. -/
import Derived.Test.YtejplbeddcpmeaaQueue
namespace Go.Proofs.Ytejplbeddcpmeaa.Ring
open Go.RowKit Go.Proofs.YtejplbeddcpmeaaW.PrintWords Go.Proofs.Ytejplbeddcpmeaa.Heap Go.Proofs.Ytejplbeddcpmeaa.Mem
set_option linter.unusedVariables false
set_option linter.unusedSimpArgs false

theorem ring_tell {M : MemS} {s : LR} (h : s.Inv M) (v : Int) (ib ob : Bool) : ({ s.ring ib ob with i := (s.ring ib ob).i.moved (s.ring ib ob).size } : RingS) = LR.ring { s with laid := none, L := s.L ++ [v] } ib ob := by
  have hlen : LR.len { s with laid := none, L := s.L ++ [v] } = s.len + 1 := by simp [LR.len]
  have hl := h.len; have h0 := h.c0
  unfold LR.ring EndS.moved
  simp only [hlen, u64_eq]
  congr 2
  · omega
  · rw [Int.emod_add_emod]; congr 1; omega
theorem ring_leave {M : MemS} {s : LR} (h : s.Inv M) {v : Int} {L : List Int} (hv : s.L = v :: L) (ib ob : Bool) : ({ s.ring ib ob with o := (s.ring ib ob).o.moved (s.ring ib ob).size } : RingS) = LR.ring { s with a := (s.a + 1) % s.size, cnt := IntKind.u64.wrap (s.cnt + 1), L := L } ib ob := by
  have hlen : s.len = LR.len { s with a := (s.a + 1) % s.size, cnt := IntKind.u64.wrap (s.cnt + 1), L := L } + 1 := by simp [LR.len, hv]
  unfold LR.ring EndS.moved
  simp only [hlen, u64_eq]
  congr 2
  · omega
  · rw [mod_step h.s0]
theorem ring_free_in (s : LR) (ob : Bool) (b : Bool) : (s.ring b ob).free true = s.ring false ob := rfl
theorem ring_free_out (s : LR) (ib : Bool) (b : Bool) : (s.ring ib b).free false = s.ring ib false := rfl

theorem lroom_full (w : World) (p : Mp) (g x : Nat) (M : MemS) (s : LR) (ob : Bool) (A : ActS) (h : All w p g x M (s.ring true ob) A) (hI : s.Inv M) (ht : M.time < 4611686018427387900) (hpush : A.push = true) (hnext : A.next = 74) (ho : A.over = false) (hf : s.len = s.size) :
    Calls Try.prog 36 #[pt x] w fun e w' => e = .returned (.bool true) ∧ All w' p g x (M.load (s.base + 1)) (s.ring false ob) ({ A with mark := M.time + 1, ok := false, over := true }) ∧ Chg (Mra p g x) w w' := by
  have k := step_room_true w p g x M _ _ _ A _ h ho hnext (room_full w p g x M _ A h ht hpush hnext s.len (by show IntKind.u64.wrap (IntKind.u64.wrap (s.cnt + s.len) - M.peek (s.base + 1)) = _; rw [hI.tak]; exact waits hI) (by show s.size ≤ _; omega)) hpush
  rw [show (M.load ((s.ring true ob).base + 1)).time = M.time + 1 from load_tick (has1 hI)] at k
  exact k

theorem lroom_free (w : World) (p : Mp) (g x : Nat) (M : MemS) (s : LR) (ob : Bool) (A : ActS) (h : All w p g x M (s.ring true ob) A) (hI : s.Inv M) (ht : M.time < 4611686018427387900) (hpush : A.push = true) (hnext : A.next = 74) (ho : A.over = false) (hf : s.len < s.size) :
    Calls Try.prog 36 #[pt x] w fun e w' => e = .returned (.bool false) ∧ All w' p g x (M.load (s.base + 1)) (s.ring true ob) ({ A with next := 81 }) ∧ Chg (Mra p g x) w w' := by
  obtain ⟨pu, nx, va, okk, mk, ov⟩ := A
  cases ho
  have k := step_room_false w p g x M _ _ _ _ _ h rfl hnext (room_free w p g x M _ _ h ht hpush hnext s.len (by show IntKind.u64.wrap (IntKind.u64.wrap (s.cnt + s.len) - M.peek (s.base + 1)) = _; rw [hI.tak]; exact waits hI) hf) hpush
  exact k

theorem llay (w : World) (p : Mp) (g x : Nat) (M : MemS) (s : LR) (ob : Bool) (A : ActS) (h : All w p g x M (s.ring true ob) A) (hI : s.Inv M) (ht : M.time < 4611686018427387900) (hpush : A.push = true) (hnext : A.next = 81) (ho : A.over = false) :
    Calls Try.prog 36 #[pt x] w fun e w' => e = .returned (.bool false) ∧ All w' p g x (M.store (s.slot s.len) A.value) (s.ring true ob) ({ A with next := 84 }) ∧ Chg (Mra p g x) w w' := by
  obtain ⟨pu, nx, va, okk, mk, ov⟩ := A
  cases ho
  have k := step_lay_false w p g x M _ _ _ _ _ h rfl hnext (lay_ w p g x M _ _ h ht hpush hnext) hpush
  exact k

theorem ltell (w : World) (p : Mp) (g x : Nat) (M : MemS) (s : LR) (ob : Bool) (A : ActS) (h : All w p g x M (s.ring true ob) A) (hI : s.Inv M) (ht : M.time < 4611686018427387900) (hpush : A.push = true) (hnext : A.next = 84) (ho : A.over = false) (v : Int) :
    Calls Try.prog 36 #[pt x] w fun e w' => e = .returned (.bool true) ∧ All w' p g x (M.store s.base (IntKind.u64.wrap (IntKind.u64.wrap (s.cnt + s.len) + 1))) (LR.ring { s with laid := none, L := s.L ++ [v] } false ob) ({ A with mark := M.time + 1, ok := true, over := true }) ∧ Chg (Mra p g x) w w' := by
  have k := step_tell_true w p g x M _ _ _ A _ h ho hnext (tell_ w p g x M _ A h ht hpush hnext) hpush
  rw [ring_tell hI v true ob, ring_free_in, show (M.store (s.ring true ob).base ((s.ring true ob).i.moved (s.ring true ob).size).count).time = M.time + 1 from store_tick (has0 hI) _] at k
  exact k

theorem lsome_none (w : World) (p : Mp) (g x : Nat) (M : MemS) (s : LR) (ib : Bool) (A : ActS) (h : All w p g x M (s.ring ib true) A) (hI : s.Inv M) (ht : M.time < 4611686018427387900) (hpush : A.push = false) (hnext : A.next = 75) (ho : A.over = false) (hf : s.L = []) :
    Calls Try.prog 36 #[pt x] w fun e w' => e = .returned (.bool true) ∧ All w' p g x (M.load s.base) (s.ring ib false) ({ A with mark := M.time + 1, ok := false, over := true }) ∧ Chg (Mra p g x) w w' := by
  have k := step_some_true w p g x M _ _ _ A _ h ho hnext (some_none w p g x M _ A h ht hpush hnext _ rfl ((none_waits hI).2 hf)) hpush
  rw [show (M.load (s.ring ib true).base).time = M.time + 1 from load_tick (has0 hI)] at k
  exact k

theorem lsome_one (w : World) (p : Mp) (g x : Nat) (M : MemS) (s : LR) (ib : Bool) (A : ActS) (h : All w p g x M (s.ring ib true) A) (hI : s.Inv M) (ht : M.time < 4611686018427387900) (hpush : A.push = false) (hnext : A.next = 75) (ho : A.over = false) (hf : s.L ≠ []) :
    Calls Try.prog 36 #[pt x] w fun e w' => e = .returned (.bool false) ∧ All w' p g x (M.load s.base) (s.ring ib true) ({ A with next := 82 }) ∧ Chg (Mra p g x) w w' := by
  obtain ⟨pu, nx, va, okk, mk, ov⟩ := A
  cases ho
  have k := step_some_false w p g x M _ _ _ _ _ h rfl hnext (some_one w p g x M _ _ h ht hpush hnext _ rfl (fun e => hf ((none_waits hI).1 e))) hpush
  exact k

theorem lget (w : World) (p : Mp) (g x : Nat) (M : MemS) (s : LR) (ib : Bool) (A : ActS) (h : All w p g x M (s.ring ib true) A) (hI : s.Inv M) (ht : M.time < 4611686018427387900) (hpush : A.push = false) (hnext : A.next = 82) (ho : A.over = false) (v : Int) (L : List Int) (hv : s.L = v :: L) :
    Calls Try.prog 36 #[pt x] w fun e w' => e = .returned (.bool false) ∧ All w' p g x (M.load (s.base + 2 + s.a)) (s.ring ib true) ({ A with next := 85, value := v }) ∧ Chg (Mra p g x) w w' := by
  obtain ⟨pu, nx, va, okk, mk, ov⟩ := A
  cases ho
  have k := step_get_false w p g x M _ _ _ _ _ h rfl hnext (get_ w p g x M _ _ h ht hpush hnext) hpush
  rw [show M.peek ((s.ring ib true).base + 2 + (s.ring ib true).o.at_) = v from head_at hI hv] at k
  exact k

theorem lleave (w : World) (p : Mp) (g x : Nat) (M : MemS) (s : LR) (ib : Bool) (A : ActS) (h : All w p g x M (s.ring ib true) A) (hI : s.Inv M) (ht : M.time < 4611686018427387900) (hpush : A.push = false) (hnext : A.next = 85) (ho : A.over = false) (v : Int) (L : List Int) (hv : s.L = v :: L) :
    Calls Try.prog 36 #[pt x] w fun e w' => e = .returned (.bool true) ∧ All w' p g x (M.store (s.base + 1) (IntKind.u64.wrap (s.cnt + 1))) (LR.ring { s with a := (s.a + 1) % s.size, cnt := IntKind.u64.wrap (s.cnt + 1), L := L } ib false) ({ A with mark := M.time + 1, ok := true, over := true }) ∧ Chg (Mra p g x) w w' := by
  have k := step_leave_true w p g x M _ _ _ A _ h ho hnext (leave_ w p g x M _ A h ht hpush hnext) hpush
  rw [ring_leave hI hv ib true, ring_free_out, show (M.store ((s.ring ib true).base + 1) ((s.ring ib true).o.moved (s.ring ib true).size).count).time = M.time + 1 from store_tick (has1 hI) _] at k
  exact k

/-- A new ring. -/
def NewRing (w : World) (p : Mp) (M : MemS) (base size start : Int) (e : Ending) (w' : World) : Prop :=
  ∃ g, e = .returned (.tuple #[pt g, .int .i64 0]) ∧ MemAt 97 w' p ((M.store base start).store (base + 1) start) ∧ RingAt w' g p ⟨base, size, ⟨start, 0, false⟩, ⟨start, 0, false⟩⟩ ∧ Chg p.has w w' ∧ w.heap.size ≤ g
set_option maxHeartbeats 1600000 in
theorem ringNew_ok (w : World) (p : Mp) (M : MemS) (base size start : Int) (hm : MemAt 97 w p M) (ht : M.time < 4611686018427387900) (hs : 1 ≤ size ∧ size ≤ 64) (hb : 0 ≤ base) (hb1 : base + size + 2 ≤ M.cells.length) (hst : 0 ≤ start ∧ start ≤ 18446744073709551615) :
    Calls Try.prog 30 #[pa p, .int .i64 base, .int .i64 size, .int .u64 start] w (NewRing w p M base size start) := by
  obtain ⟨hs0, hs1⟩ := hs
  have HM := Aside0.mk hm
  have HC := Aside0.mk (Chg.refl p.has w)
  have hcn := hm.cn
  have HT1 := Aside0.mk (store_time M base start)
  have HL := Aside0.mk (show ∀ W, MemAt 97 W p M → Calls Try.prog 24 #[pa p] W fun e w' => e = .returned (.int .i64 (M.cells.length : Int)) ∧ W = w' from fun W h => cells_ W p M h)
  generalize hcl : M.cells.length = cl at *
  have HST := Aside0.mk hst
  have hz : (size + 2 == 0) = false := beq_eq_false_iff_ne.mpr (by omega)
  clear hm hcl hst
  go_enter Try.func30, Try.ntmps30
  go_wp2_with (first
    | (go_at_call 48; (with_reducible refine (cellsN_in _ size hs0 hs1).mono ?_); rintro e w' ⟨rfl, rfl⟩)
    | (go_at_call 24; (with_reducible refine (HL.out _ HM.out).mono ?_); rintro e w' ⟨rfl, rfl⟩)
    | (go_at_call 20; refine (store_ _ p M base start HM.out (by omega) HST.out).mono ?_; rintro e w' ⟨rfl, hm, hc⟩; have HM1 := Aside0.mk hm; have HC1 := Aside0.mk hc; clear hm hc HM)
    | (go_at_call 20; refine (store_ _ p (M.store base start) (base + 1) start HM1.out (by have := HT1.out; omega) HST.out).mono ?_; rintro e w' ⟨rfl, hm, hc⟩; have HM2 := Aside0.mk hm; have HC2 := Aside0.mk (HC1.out.trans hc); clear hm hc HM1))
  go_ret2
  exact ⟨_, rfl, HM2.out.alloc _, Blk.new _ (ringCells p ⟨base, size, ⟨start, 0, false⟩, ⟨start, 0, false⟩⟩) 103, HC2.out.alloc _, HC2.out.size⟩
theorem ringNew_err (w : World) (p : Mp) (M : MemS) (base size start : Int) (hm : MemAt 97 w p M) (hw : -9223372036854775808 ≤ base ∧ base ≤ 9223372036854775807) (h : ¬ ((1 ≤ size ∧ size ≤ 64) ∧ 0 ≤ base ∧ base + size + 2 ≤ M.cells.length)) :
    Calls Try.prog 30 #[pa p, .int .i64 base, .int .i64 size, .int .u64 start] w fun e w' => e = .returned (.tuple #[.pointer none, .int .i64 1]) ∧ w = w' := by
  have HM := Aside0.mk hm
  have hcn := hm.cn
  have HL := Aside0.mk (show ∀ W, MemAt 97 W p M → Calls Try.prog 24 #[pa p] W fun e w' => e = .returned (.int .i64 (M.cells.length : Int)) ∧ W = w' from fun W h => cells_ W p M h)
  generalize hcl : M.cells.length = cl at *
  clear hm hcl
  by_cases hs : 1 ≤ size ∧ size ≤ 64
  · obtain ⟨hs0, hs1⟩ := hs
    by_cases hb : base < 0
    · clear h
      go_enter Try.func30, Try.ntmps30
      go_wp2_with (go_at_call 48; (with_reducible refine (cellsN_in _ size hs0 hs1).mono ?_); rintro e w' ⟨rfl, rfl⟩)
      go_ret2
      exact ⟨rfl, rfl⟩
    · by_cases hb2 : (cl : Int) < base
      · clear h
        go_enter Try.func30, Try.ntmps30
        go_wp2_with (first | (go_at_call 48; (with_reducible refine (cellsN_in _ size hs0 hs1).mono ?_); rintro e w' ⟨rfl, rfl⟩) | (go_at_call 24; (with_reducible refine (HL.out _ HM.out).mono ?_); rintro e w' ⟨rfl, rfl⟩))
        go_ret2
        exact ⟨rfl, rfl⟩
      · have hb3 : (cl : Int) - base < size + 2 := by omega
        clear h
        go_enter Try.func30, Try.ntmps30
        go_wp2_with (first | (go_at_call 48; (with_reducible refine (cellsN_in _ size hs0 hs1).mono ?_); rintro e w' ⟨rfl, rfl⟩) | (go_at_call 24; (with_reducible refine (HL.out _ HM.out).mono ?_); rintro e w' ⟨rfl, rfl⟩))
        go_ret2
        exact ⟨rfl, rfl⟩
  · have HS := Aside0.mk hs
    clear h hs
    go_enter Try.func30, Try.ntmps30
    go_wp2_with (go_at_call 48; (with_reducible refine (cellsN_out _ size HS.out).mono ?_); rintro e w' ⟨rfl, rfl⟩)
    go_ret2
    exact ⟨rfl, rfl⟩
theorem ringNew_nil (w : World) (size start : Int) (hs0 : 1 ≤ size) (hs1 : size ≤ 64) :
    Calls Try.prog 30 #[.pointer none, .int .i64 0, .int .i64 size, .int .u64 start] w fun e w' => e = .returned (.tuple #[.pointer none, .int .i64 1]) ∧ w = w' := by
  go_enter Try.func30, Try.ntmps30
  go_wp2_with (first | (go_at_call 48; (with_reducible refine (cellsN_in _ size hs0 hs1).mono ?_); rintro e w' ⟨rfl, rfl⟩) | (go_at_call 24; (with_reducible refine (cells_nil _ 0 0).mono ?_); rintro e w' ⟨rfl, rfl⟩))
  go_ret2
  exact ⟨rfl, rfl⟩

end Go.Proofs.Ytejplbeddcpmeaa.Ring
