/- What each step of a ring's act does; no condition. -/
import Derived.Test.YtejplbeddcpmeaaRing
import Derived.Laws.EntriesVeiled
namespace Go.Proofs.Ytejplbeddcpmeaa.Ring
open Go.RowKit Go.Proofs.YtejplbeddcpmeaaW.PrintWords Go.Proofs.Ytejplbeddcpmeaa.Heap Go.Proofs.Ytejplbeddcpmeaa.Mem
set_option linter.unusedVariables false
set_option linter.unusedSimpArgs false

theorem u64_id {x : Int} (h : 0 ≤ x ∧ x ≤ 18446744073709551615) : IntKind.u64.wrap x = x := by
  have e : (IntKind.u64.wrap x) = x % 18446744073709551616 := by simp [IntKind.wrap, IntKind.bits, IntKind.signed]
  rw [e]; omega
theorem i64_id {x : Int} (h : -9223372036854775808 ≤ x ∧ x ≤ 9223372036854775807) : IntKind.i64.wrap x = x := by
  simp [IntKind.wrap, IntKind.bits, IntKind.signed]
  split <;> omega
theorem peek_in {T : TypeId} {w : World} {p : Mp} {M : MemS} (h : MemAt T w p M) (i : Int) : 0 ≤ M.peek i ∧ M.peek i ≤ 18446744073709551615 := by
  unfold MemS.peek
  split
  · rename_i c
    have e : rd M.cells i = M.cells[i.toNat]'(by omega) := by simp [rd, List.getD_eq_getElem?_getD, List.getElem?_eq_getElem (show i.toNat < M.cells.length by omega)]
    rw [e]; exact h.cr _ (List.getElem_mem _)
  · omega
theorem load_time (M : MemS) (i : Int) : (M.load i).time ≤ M.time + 1 := by unfold MemS.load; split <;> (try simp only [MemS.ticked]) <;> omega
theorem store_time (M : MemS) (i v : Int) : (M.store i v).time ≤ M.time + 1 := by unfold MemS.store; split <;> (try simp only []) <;> omega
theorem load_peek (M : MemS) (i j : Int) : (M.load i).peek j = M.peek j := by unfold MemS.load; split <;> rfl

set_option maxHeartbeats 4000000 in
set_option maxRecDepth 100000 in
theorem room_full (w : World) (p : Mp) (g x : Nat) (M : MemS) (R : RingS) (A : ActS) (h : All w p g x M R A) (ht : M.time < 4611686018427387900) (hpush : A.push = true) (hnext : A.next = 74) (d : Int) (hd0 : IntKind.u64.wrap (R.i.count - M.peek (R.base + 1)) = d) (hdc : R.size ≤ d) :
    Calls Try.prog 74 #[pt x] w fun e w' => e = .returned (.bool true) ∧ All w' p g x (M.load (R.base + 1)) (R) ({ A with mark := (M.load (R.base + 1)).time, ok := false }) ∧ Chg (Mra p g x) w w' := by
  have HA := Aside0.mk h
  have HC := Aside0.mk (Chg.refl (Mra p g x) w)
  have hd : IntKind.u64.wrap (R.i.count - M.peek (R.base + 1)) = d := hd0
  have hz : IntKind.u64.wrap R.size = R.size := u64_id (by have := h.ok.s0; have := h.ok.s1; omega)
  have hdd : R.size ≤ d := hdc
  have hxa0 : w.cell? ⟨x, 0, none⟩ = some (pt g) := (Blk.cell h.a 0).trans (by simp [actCells, endOff, hpush, hnext])
  have hxa1 : w.cell? ⟨x, 1, none⟩ = some (.pointer (some ⟨g, 3, none⟩)) := (Blk.cell h.a 1).trans (by simp [actCells, endOff, hpush, hnext])
  have hxr0 : w.cell? ⟨g, 0, none⟩ = some (pa p) := (Blk.cell h.r 0).trans rfl
  have hxr1 : w.cell? ⟨g, 1, none⟩ = some (.int .i64 R.base) := (Blk.cell h.r 1).trans rfl
  have hxr2 : w.cell? ⟨g, 2, none⟩ = some (.int .i64 R.size) := (Blk.cell h.r 2).trans rfl
  have hxr3 : w.cell? ⟨g, 3, none⟩ = some (.int .u64 R.i.count) := (Blk.cell h.r 3).trans rfl
  have hfa2 := Blk.frozen h.a 2
  have hb0 := h.ok.b0
  have hb1 := h.ok.b1
  have hs0 := h.ok.s0
  have hs1 := h.ok.s1
  have hp := peek_in h.m (R.base + 1)
  have HT := Aside0.mk (load_time M (R.base + 1))
  have HL := Aside0.mk (show ∀ W, MemAt 97 W p M → Calls Try.prog 63 #[pa p, .int .i64 (R.base + 1)] W fun e w' => e = .returned (.int .u64 (M.peek (R.base + 1))) ∧ MemAt 97 w' p (M.load (R.base + 1)) ∧ Chg p.has W w' from fun W hm => load_ W p M _ hm (by omega))
  generalize M.peek (R.base + 1) = v at *
  have hnd : 0 ≤ d := by rw [← hd0]; exact (u64_in _).1
  clear h hd0 hdc
  have hw1 : IntKind.i64.wrap (R.base + 1) = R.base + 1 := i64_id (by omega)
  go_enter Try.func74, Try.ntmps74
  go_wp2
  go_region_held3 (fun w' => w'.cell? ⟨x, 0, none⟩ = some (pt g) ∧ w'.cell? ⟨x, 1, none⟩ = some (.pointer (some ⟨g, 3, none⟩)) ∧ w'.cell? ⟨g, 0, none⟩ = some (pa p) ∧ w'.cell? ⟨g, 1, none⟩ = some (.int .i64 R.base) ∧ w'.cell? ⟨g, 2, none⟩ = some (.int .i64 R.size) ∧ w'.cell? ⟨g, 3, none⟩ = some (.int .u64 R.i.count)) (first | go_keep | exact ⟨hxa0, hxa1, hxr0, hxr1, hxr2, hxr3⟩) ((go_at_call 63; (with_reducible refine (HL.out _ (All.m (g := g) (x := x) (R := R) (A := A) (by (with_reducible repeat (first | exact HA.out | refine All.drewN ?_ _ | refine All.drew ?_))))).mono ?_); rintro e w' ⟨rfl, hm, hc⟩; have HAn := Aside0.mk (All.mem (g := g) (x := x) (M := M) (R := R) (A := A) (by (with_reducible repeat (first | exact HA.out | refine All.drewN ?_ _ | refine All.drew ?_))) hm hc); have HCn := Aside0.mk (Chg.step (S := Mra p g x) (a := w) (by (with_reducible repeat (first | exact HC.out | refine Chg.drewN ?_ _ | refine Chg.drew ?_))) (Mra.of_mem (g := g) (x := x) hc) (fun _ _ s => s)); clear HA HC hm hc; have HA := HAn; have HC := HCn; clear HAn HCn; have hxa0 : w'.cell? ⟨x, 0, none⟩ = some (pt g) := (Blk.cell HA.out.a 0).trans (by simp [actCells, endOff, hpush, hnext]); have hxa1 : w'.cell? ⟨x, 1, none⟩ = some (.pointer (some ⟨g, 3, none⟩)) := (Blk.cell HA.out.a 1).trans (by simp [actCells, endOff, hpush, hnext]); have hxr0 : w'.cell? ⟨g, 0, none⟩ = some (pa p) := (Blk.cell HA.out.r 0).trans rfl; have hxr1 : w'.cell? ⟨g, 1, none⟩ = some (.int .i64 R.base) := (Blk.cell HA.out.r 1).trans rfl; have hxr2 : w'.cell? ⟨g, 2, none⟩ = some (.int .i64 R.size) := (Blk.cell HA.out.r 2).trans rfl; have hxr3 : w'.cell? ⟨g, 3, none⟩ = some (.int .u64 R.i.count) := (Blk.cell HA.out.r 3).trans rfl))
  clear hw1
  go_wp2_with (go_at_call 80; (with_reducible refine (done_ _ p g x (M.load (R.base + 1)) R A (by (with_reducible repeat (first | exact HA.out | refine All.drewN ?_ _ | refine All.drew ?_))) _).mono ?_); rintro e w' ⟨rfl, ha, hc⟩; have HAn := Aside0.mk ha; have HCn := Aside0.mk (Chg.step (S := Mra p g x) (a := w) (by (with_reducible repeat (first | exact HC.out | refine Chg.drewN ?_ _ | refine Chg.drew ?_))) hc (fun _ _ s => s)); clear HA HC ha hc; have HA := HAn; have HC := HCn; clear HAn HCn)
  go_ret
  exact ⟨rfl, HA.out, HC.out⟩

set_option maxHeartbeats 4000000 in
set_option maxRecDepth 100000 in
theorem room_free (w : World) (p : Mp) (g x : Nat) (M : MemS) (R : RingS) (A : ActS) (h : All w p g x M R A) (ht : M.time < 4611686018427387900) (hpush : A.push = true) (hnext : A.next = 74) (d : Int) (hd0 : IntKind.u64.wrap (R.i.count - M.peek (R.base + 1)) = d) (hdc : d < R.size) :
    Calls Try.prog 74 #[pt x] w fun e w' => e = .returned (.bool false) ∧ All w' p g x (M.load (R.base + 1)) (R) ({ A with next := 81 }) ∧ Chg (Mra p g x) w w' := by
  have HA := Aside0.mk h
  have HC := Aside0.mk (Chg.refl (Mra p g x) w)
  have hd : IntKind.u64.wrap (R.i.count - M.peek (R.base + 1)) = d := hd0
  have hz : IntKind.u64.wrap R.size = R.size := u64_id (by have := h.ok.s0; have := h.ok.s1; omega)
  have hdd : d < R.size := hdc
  have hxa0 : w.cell? ⟨x, 0, none⟩ = some (pt g) := (Blk.cell h.a 0).trans (by simp [actCells, endOff, hpush, hnext])
  have hxa1 : w.cell? ⟨x, 1, none⟩ = some (.pointer (some ⟨g, 3, none⟩)) := (Blk.cell h.a 1).trans (by simp [actCells, endOff, hpush, hnext])
  have hxr0 : w.cell? ⟨g, 0, none⟩ = some (pa p) := (Blk.cell h.r 0).trans rfl
  have hxr1 : w.cell? ⟨g, 1, none⟩ = some (.int .i64 R.base) := (Blk.cell h.r 1).trans rfl
  have hxr2 : w.cell? ⟨g, 2, none⟩ = some (.int .i64 R.size) := (Blk.cell h.r 2).trans rfl
  have hxr3 : w.cell? ⟨g, 3, none⟩ = some (.int .u64 R.i.count) := (Blk.cell h.r 3).trans rfl
  have hfa2 := Blk.frozen h.a 2
  have hxa2 : w.cell? ⟨x, 2, none⟩ = some (.func (.func 74) #[] #[]) := (Blk.cell h.a 2).trans (by simp [actCells, hnext])
  have hb0 := h.ok.b0
  have hb1 := h.ok.b1
  have hs0 := h.ok.s0
  have hs1 := h.ok.s1
  have hp := peek_in h.m (R.base + 1)
  have HT := Aside0.mk (load_time M (R.base + 1))
  have HL := Aside0.mk (show ∀ W, MemAt 97 W p M → Calls Try.prog 63 #[pa p, .int .i64 (R.base + 1)] W fun e w' => e = .returned (.int .u64 (M.peek (R.base + 1))) ∧ MemAt 97 w' p (M.load (R.base + 1)) ∧ Chg p.has W w' from fun W hm => load_ W p M _ hm (by omega))
  generalize M.peek (R.base + 1) = v at *
  have hnd : 0 ≤ d := by rw [← hd0]; exact (u64_in _).1
  clear h hd0 hdc
  have hw1 : IntKind.i64.wrap (R.base + 1) = R.base + 1 := i64_id (by omega)
  go_enter Try.func74, Try.ntmps74
  go_wp2
  go_region_held3 (fun w' => w'.cell? ⟨x, 0, none⟩ = some (pt g) ∧ w'.cell? ⟨x, 1, none⟩ = some (.pointer (some ⟨g, 3, none⟩)) ∧ w'.cell? ⟨g, 0, none⟩ = some (pa p) ∧ w'.cell? ⟨g, 1, none⟩ = some (.int .i64 R.base) ∧ w'.cell? ⟨g, 2, none⟩ = some (.int .i64 R.size) ∧ w'.cell? ⟨g, 3, none⟩ = some (.int .u64 R.i.count)) (first | go_keep | exact ⟨hxa0, hxa1, hxr0, hxr1, hxr2, hxr3⟩) ((go_at_call 63; (with_reducible refine (HL.out _ (All.m (g := g) (x := x) (R := R) (A := A) (by (with_reducible repeat (first | exact HA.out | refine All.drewN ?_ _ | refine All.drew ?_))))).mono ?_); rintro e w' ⟨rfl, hm, hc⟩; have HAn := Aside0.mk (All.mem (g := g) (x := x) (M := M) (R := R) (A := A) (by (with_reducible repeat (first | exact HA.out | refine All.drewN ?_ _ | refine All.drew ?_))) hm hc); have HCn := Aside0.mk (Chg.step (S := Mra p g x) (a := w) (by (with_reducible repeat (first | exact HC.out | refine Chg.drewN ?_ _ | refine Chg.drew ?_))) (Mra.of_mem (g := g) (x := x) hc) (fun _ _ s => s)); clear HA HC hm hc; have HA := HAn; have HC := HCn; clear HAn HCn; have hxa0 : w'.cell? ⟨x, 0, none⟩ = some (pt g) := (Blk.cell HA.out.a 0).trans (by simp [actCells, endOff, hpush, hnext]); have hxa1 : w'.cell? ⟨x, 1, none⟩ = some (.pointer (some ⟨g, 3, none⟩)) := (Blk.cell HA.out.a 1).trans (by simp [actCells, endOff, hpush, hnext]); have hxr0 : w'.cell? ⟨g, 0, none⟩ = some (pa p) := (Blk.cell HA.out.r 0).trans rfl; have hxr1 : w'.cell? ⟨g, 1, none⟩ = some (.int .i64 R.base) := (Blk.cell HA.out.r 1).trans rfl; have hxr2 : w'.cell? ⟨g, 2, none⟩ = some (.int .i64 R.size) := (Blk.cell HA.out.r 2).trans rfl; have hxr3 : w'.cell? ⟨g, 3, none⟩ = some (.int .u64 R.i.count) := (Blk.cell HA.out.r 3).trans rfl; have hfa2 := Blk.frozen HA.out.a 2; have hxa2 : w'.cell? ⟨x, 2, none⟩ = some (.func (.func 74) #[] #[]) := (Blk.cell HA.out.a 2).trans (by simp [actCells, hnext])))
  clear hw1
  go_wp2
  go_ret
  exact ⟨rfl, HA.out.setA 2 _ (A' := { A with next := 81 }) (by simp [actCells]) HA.out.av, Mra.setA HC.out _ _⟩

set_option maxHeartbeats 4000000 in
set_option maxRecDepth 100000 in
theorem lay_ (w : World) (p : Mp) (g x : Nat) (M : MemS) (R : RingS) (A : ActS) (h : All w p g x M R A) (ht : M.time < 4611686018427387900) (hpush : A.push = true) (hnext : A.next = 81) :
    Calls Try.prog 81 #[pt x] w fun e w' => e = .returned (.bool false) ∧ All w' p g x (M.store (R.base + 2 + R.i.at_) A.value) (R) ({ A with next := 84 }) ∧ Chg (Mra p g x) w w' := by
  have HA := Aside0.mk h
  have HC := Aside0.mk (Chg.refl (Mra p g x) w)
  have hxa0 : w.cell? ⟨x, 0, none⟩ = some (pt g) := (Blk.cell h.a 0).trans (by simp [actCells, endOff, hpush, hnext])
  have hxa1 : w.cell? ⟨x, 1, none⟩ = some (.pointer (some ⟨g, 3, none⟩)) := (Blk.cell h.a 1).trans (by simp [actCells, endOff, hpush, hnext])
  have hxa3 : w.cell? ⟨x, 3, none⟩ = some (.int .u64 A.value) := (Blk.cell h.a 3).trans (by simp [actCells, endOff, hpush, hnext])
  have hxr0 : w.cell? ⟨g, 0, none⟩ = some (pa p) := (Blk.cell h.r 0).trans rfl
  have hxr1 : w.cell? ⟨g, 1, none⟩ = some (.int .i64 R.base) := (Blk.cell h.r 1).trans rfl
  have hxr4 : w.cell? ⟨g, 4, none⟩ = some (.int .i64 R.i.at_) := (Blk.cell h.r 4).trans rfl
  have hfa2 := Blk.frozen h.a 2
  have hxa2 : w.cell? ⟨x, 2, none⟩ = some (.func (.func 81) #[] #[]) := (Blk.cell h.a 2).trans (by simp [actCells, hnext])
  have hb0 := h.ok.b0
  have hb1 := h.ok.b1
  have hs0 := h.ok.s0
  have hs1 := h.ok.s1
  have hi0 := h.ok.ia
  have hav := h.av
  have HL := Aside0.mk (show ∀ W, MemAt 97 W p M → Calls Try.prog 20 #[pa p, .int .i64 (R.base + 2 + R.i.at_), .int .u64 (A.value)] W fun e w' => e = .returned (.tuple #[]) ∧ MemAt 97 w' p (M.store (R.base + 2 + R.i.at_) (A.value)) ∧ Chg p.has W w' from fun W hm => store_ W p M _ _ hm (by omega) (by omega))
  clear h
  have hw1 : IntKind.i64.wrap (R.base + 2) = R.base + 2 := i64_id (by omega)
  have hw2 : IntKind.i64.wrap (R.base + 2 + R.i.at_) = R.base + 2 + R.i.at_ := i64_id (by omega)
  go_enter Try.func81, Try.ntmps81
  go_wp2
  go_region_held3 (fun w' => w'.cell? ⟨x, 0, none⟩ = some (pt g) ∧ w'.cell? ⟨x, 1, none⟩ = some (.pointer (some ⟨g, 3, none⟩)) ∧ w'.cell? ⟨x, 3, none⟩ = some (.int .u64 A.value) ∧ w'.cell? ⟨g, 0, none⟩ = some (pa p) ∧ w'.cell? ⟨g, 1, none⟩ = some (.int .i64 R.base) ∧ w'.cell? ⟨g, 4, none⟩ = some (.int .i64 R.i.at_)) (first | go_keep | exact ⟨hxa0, hxa1, hxa3, hxr0, hxr1, hxr4⟩) ((go_at_call 20; (with_reducible refine (HL.out _ (All.m (g := g) (x := x) (R := R) (A := A) (by (with_reducible repeat (first | exact HA.out | refine All.drewN ?_ _ | refine All.drew ?_))))).mono ?_); rintro e w' ⟨rfl, hm, hc⟩; have HAn := Aside0.mk (All.mem (g := g) (x := x) (M := M) (R := R) (A := A) (by (with_reducible repeat (first | exact HA.out | refine All.drewN ?_ _ | refine All.drew ?_))) hm hc); have HCn := Aside0.mk (Chg.step (S := Mra p g x) (a := w) (by (with_reducible repeat (first | exact HC.out | refine Chg.drewN ?_ _ | refine Chg.drew ?_))) (Mra.of_mem (g := g) (x := x) hc) (fun _ _ s => s)); clear HA HC hm hc; have HA := HAn; have HC := HCn; clear HAn HCn; have hxa0 : w'.cell? ⟨x, 0, none⟩ = some (pt g) := (Blk.cell HA.out.a 0).trans (by simp [actCells, endOff, hpush, hnext]); have hxa1 : w'.cell? ⟨x, 1, none⟩ = some (.pointer (some ⟨g, 3, none⟩)) := (Blk.cell HA.out.a 1).trans (by simp [actCells, endOff, hpush, hnext]); have hxa3 : w'.cell? ⟨x, 3, none⟩ = some (.int .u64 A.value) := (Blk.cell HA.out.a 3).trans (by simp [actCells, endOff, hpush, hnext]); have hxr0 : w'.cell? ⟨g, 0, none⟩ = some (pa p) := (Blk.cell HA.out.r 0).trans rfl; have hxr1 : w'.cell? ⟨g, 1, none⟩ = some (.int .i64 R.base) := (Blk.cell HA.out.r 1).trans rfl; have hxr4 : w'.cell? ⟨g, 4, none⟩ = some (.int .i64 R.i.at_) := (Blk.cell HA.out.r 4).trans rfl; have hfa2 := Blk.frozen HA.out.a 2; have hxa2 : w'.cell? ⟨x, 2, none⟩ = some (.func (.func 81) #[] #[]) := (Blk.cell HA.out.a 2).trans (by simp [actCells, hnext])))
  clear hw1 hw2
  go_wp2
  go_ret
  exact ⟨rfl, HA.out.setA 2 _ (A' := { A with next := 84 }) (by simp [actCells]) HA.out.av, Mra.setA HC.out _ _⟩

set_option maxHeartbeats 4000000 in
set_option maxRecDepth 100000 in
theorem some_none (w : World) (p : Mp) (g x : Nat) (M : MemS) (R : RingS) (A : ActS) (h : All w p g x M R A) (ht : M.time < 4611686018427387900) (hpush : A.push = false) (hnext : A.next = 75) (v : Int) (hv : M.peek R.base = v) (hdc : v = R.o.count) :
    Calls Try.prog 75 #[pt x] w fun e w' => e = .returned (.bool true) ∧ All w' p g x (M.load R.base) (R) ({ A with mark := (M.load R.base).time, ok := false }) ∧ Chg (Mra p g x) w w' := by
  have HA := Aside0.mk h
  have HC := Aside0.mk (Chg.refl (Mra p g x) w)
  have hdb : (v == R.o.count) = true := beq_iff_eq.mpr hdc
  have hxa0 : w.cell? ⟨x, 0, none⟩ = some (pt g) := (Blk.cell h.a 0).trans (by simp [actCells, endOff, hpush, hnext])
  have hxa1 : w.cell? ⟨x, 1, none⟩ = some (.pointer (some ⟨g, 6, none⟩)) := (Blk.cell h.a 1).trans (by simp [actCells, endOff, hpush, hnext])
  have hxr0 : w.cell? ⟨g, 0, none⟩ = some (pa p) := (Blk.cell h.r 0).trans rfl
  have hxr1 : w.cell? ⟨g, 1, none⟩ = some (.int .i64 R.base) := (Blk.cell h.r 1).trans rfl
  have hxr6 : w.cell? ⟨g, 6, none⟩ = some (.int .u64 R.o.count) := (Blk.cell h.r 6).trans rfl
  have hfa2 := Blk.frozen h.a 2
  have hb0 := h.ok.b0
  have hb1 := h.ok.b1
  have hs0 := h.ok.s0
  have hs1 := h.ok.s1
  have HL := Aside0.mk (show ∀ W, MemAt 97 W p M → Calls Try.prog 63 #[pa p, .int .i64 (R.base)] W fun e w' => e = .returned (.int .u64 (M.peek (R.base))) ∧ MemAt 97 w' p (M.load (R.base)) ∧ Chg p.has W w' from fun W hm => load_ W p M _ hm (by omega))
  rw [hv] at HL
  have HDC := Aside0.mk hdc
  clear h hv hdc
  have hw1 : IntKind.i64.wrap (R.base + 0) = R.base := by rw [Int.add_zero]; exact i64_id (by omega)
  have hw2 : IntKind.i64.wrap R.base = R.base := i64_id (by omega)
  go_enter Try.func75, Try.ntmps75
  go_wp2
  go_region_held3 (fun w' => w'.cell? ⟨x, 0, none⟩ = some (pt g) ∧ w'.cell? ⟨x, 1, none⟩ = some (.pointer (some ⟨g, 6, none⟩)) ∧ w'.cell? ⟨g, 0, none⟩ = some (pa p) ∧ w'.cell? ⟨g, 1, none⟩ = some (.int .i64 R.base) ∧ w'.cell? ⟨g, 6, none⟩ = some (.int .u64 R.o.count)) (first | go_keep | exact ⟨hxa0, hxa1, hxr0, hxr1, hxr6⟩) ((go_at_call 63; (with_reducible refine (HL.out _ (All.m (g := g) (x := x) (R := R) (A := A) (by (with_reducible repeat (first | exact HA.out | refine All.drewN ?_ _ | refine All.drew ?_))))).mono ?_); rintro e w' ⟨rfl, hm, hc⟩; have HAn := Aside0.mk (All.mem (g := g) (x := x) (M := M) (R := R) (A := A) (by (with_reducible repeat (first | exact HA.out | refine All.drewN ?_ _ | refine All.drew ?_))) hm hc); have HCn := Aside0.mk (Chg.step (S := Mra p g x) (a := w) (by (with_reducible repeat (first | exact HC.out | refine Chg.drewN ?_ _ | refine Chg.drew ?_))) (Mra.of_mem (g := g) (x := x) hc) (fun _ _ s => s)); clear HA HC hm hc; have HA := HAn; have HC := HCn; clear HAn HCn; have hxa0 : w'.cell? ⟨x, 0, none⟩ = some (pt g) := (Blk.cell HA.out.a 0).trans (by simp [actCells, endOff, hpush, hnext]); have hxa1 : w'.cell? ⟨x, 1, none⟩ = some (.pointer (some ⟨g, 6, none⟩)) := (Blk.cell HA.out.a 1).trans (by simp [actCells, endOff, hpush, hnext]); have hxr0 : w'.cell? ⟨g, 0, none⟩ = some (pa p) := (Blk.cell HA.out.r 0).trans rfl; have hxr1 : w'.cell? ⟨g, 1, none⟩ = some (.int .i64 R.base) := (Blk.cell HA.out.r 1).trans rfl; have hxr6 : w'.cell? ⟨g, 6, none⟩ = some (.int .u64 R.o.count) := (Blk.cell HA.out.r 6).trans rfl))
  clear hw1 hw2
  go_wp2_with (go_at_call 80; (with_reducible refine (done_ _ p g x (M.load R.base) R A (by (with_reducible repeat (first | exact HA.out | refine All.drewN ?_ _ | refine All.drew ?_))) _).mono ?_); rintro e w' ⟨rfl, ha, hc⟩; have HAn := Aside0.mk ha; have HCn := Aside0.mk (Chg.step (S := Mra p g x) (a := w) (by (with_reducible repeat (first | exact HC.out | refine Chg.drewN ?_ _ | refine Chg.drew ?_))) hc (fun _ _ s => s)); clear HA HC ha hc; have HA := HAn; have HC := HCn; clear HAn HCn)
  go_ret
  exact ⟨rfl, HA.out, HC.out⟩

set_option maxHeartbeats 4000000 in
set_option maxRecDepth 100000 in
theorem some_one (w : World) (p : Mp) (g x : Nat) (M : MemS) (R : RingS) (A : ActS) (h : All w p g x M R A) (ht : M.time < 4611686018427387900) (hpush : A.push = false) (hnext : A.next = 75) (v : Int) (hv : M.peek R.base = v) (hdc : ¬ v = R.o.count) :
    Calls Try.prog 75 #[pt x] w fun e w' => e = .returned (.bool false) ∧ All w' p g x (M.load R.base) (R) ({ A with next := 82 }) ∧ Chg (Mra p g x) w w' := by
  have HA := Aside0.mk h
  have HC := Aside0.mk (Chg.refl (Mra p g x) w)
  have hdb : (v == R.o.count) = false := beq_eq_false_iff_ne.mpr hdc
  have hxa0 : w.cell? ⟨x, 0, none⟩ = some (pt g) := (Blk.cell h.a 0).trans (by simp [actCells, endOff, hpush, hnext])
  have hxa1 : w.cell? ⟨x, 1, none⟩ = some (.pointer (some ⟨g, 6, none⟩)) := (Blk.cell h.a 1).trans (by simp [actCells, endOff, hpush, hnext])
  have hxr0 : w.cell? ⟨g, 0, none⟩ = some (pa p) := (Blk.cell h.r 0).trans rfl
  have hxr1 : w.cell? ⟨g, 1, none⟩ = some (.int .i64 R.base) := (Blk.cell h.r 1).trans rfl
  have hxr6 : w.cell? ⟨g, 6, none⟩ = some (.int .u64 R.o.count) := (Blk.cell h.r 6).trans rfl
  have hfa2 := Blk.frozen h.a 2
  have hxa2 : w.cell? ⟨x, 2, none⟩ = some (.func (.func 75) #[] #[]) := (Blk.cell h.a 2).trans (by simp [actCells, hnext])
  have hb0 := h.ok.b0
  have hb1 := h.ok.b1
  have hs0 := h.ok.s0
  have hs1 := h.ok.s1
  have HL := Aside0.mk (show ∀ W, MemAt 97 W p M → Calls Try.prog 63 #[pa p, .int .i64 (R.base)] W fun e w' => e = .returned (.int .u64 (M.peek (R.base))) ∧ MemAt 97 w' p (M.load (R.base)) ∧ Chg p.has W w' from fun W hm => load_ W p M _ hm (by omega))
  rw [hv] at HL
  have HDC := Aside0.mk hdc
  clear h hv hdc
  have hw1 : IntKind.i64.wrap (R.base + 0) = R.base := by rw [Int.add_zero]; exact i64_id (by omega)
  have hw2 : IntKind.i64.wrap R.base = R.base := i64_id (by omega)
  go_enter Try.func75, Try.ntmps75
  go_wp2
  go_region_held3 (fun w' => w'.cell? ⟨x, 0, none⟩ = some (pt g) ∧ w'.cell? ⟨x, 1, none⟩ = some (.pointer (some ⟨g, 6, none⟩)) ∧ w'.cell? ⟨g, 0, none⟩ = some (pa p) ∧ w'.cell? ⟨g, 1, none⟩ = some (.int .i64 R.base) ∧ w'.cell? ⟨g, 6, none⟩ = some (.int .u64 R.o.count)) (first | go_keep | exact ⟨hxa0, hxa1, hxr0, hxr1, hxr6⟩) ((go_at_call 63; (with_reducible refine (HL.out _ (All.m (g := g) (x := x) (R := R) (A := A) (by (with_reducible repeat (first | exact HA.out | refine All.drewN ?_ _ | refine All.drew ?_))))).mono ?_); rintro e w' ⟨rfl, hm, hc⟩; have HAn := Aside0.mk (All.mem (g := g) (x := x) (M := M) (R := R) (A := A) (by (with_reducible repeat (first | exact HA.out | refine All.drewN ?_ _ | refine All.drew ?_))) hm hc); have HCn := Aside0.mk (Chg.step (S := Mra p g x) (a := w) (by (with_reducible repeat (first | exact HC.out | refine Chg.drewN ?_ _ | refine Chg.drew ?_))) (Mra.of_mem (g := g) (x := x) hc) (fun _ _ s => s)); clear HA HC hm hc; have HA := HAn; have HC := HCn; clear HAn HCn; have hxa0 : w'.cell? ⟨x, 0, none⟩ = some (pt g) := (Blk.cell HA.out.a 0).trans (by simp [actCells, endOff, hpush, hnext]); have hxa1 : w'.cell? ⟨x, 1, none⟩ = some (.pointer (some ⟨g, 6, none⟩)) := (Blk.cell HA.out.a 1).trans (by simp [actCells, endOff, hpush, hnext]); have hxr0 : w'.cell? ⟨g, 0, none⟩ = some (pa p) := (Blk.cell HA.out.r 0).trans rfl; have hxr1 : w'.cell? ⟨g, 1, none⟩ = some (.int .i64 R.base) := (Blk.cell HA.out.r 1).trans rfl; have hxr6 : w'.cell? ⟨g, 6, none⟩ = some (.int .u64 R.o.count) := (Blk.cell HA.out.r 6).trans rfl; have hfa2 := Blk.frozen HA.out.a 2; have hxa2 : w'.cell? ⟨x, 2, none⟩ = some (.func (.func 75) #[] #[]) := (Blk.cell HA.out.a 2).trans (by simp [actCells, hnext])))
  clear hw1 hw2
  go_wp2
  go_ret
  exact ⟨rfl, HA.out.setA 2 _ (A' := { A with next := 82 }) (by simp [actCells]) HA.out.av, Mra.setA HC.out _ _⟩

set_option maxHeartbeats 4000000 in
set_option maxRecDepth 100000 in
theorem get_ (w : World) (p : Mp) (g x : Nat) (M : MemS) (R : RingS) (A : ActS) (h : All w p g x M R A) (ht : M.time < 4611686018427387900) (hpush : A.push = false) (hnext : A.next = 82) :
    Calls Try.prog 82 #[pt x] w fun e w' => e = .returned (.bool false) ∧ All w' p g x (M.load (R.base + 2 + R.o.at_)) (R) ({ A with next := 85, value := M.peek (R.base + 2 + R.o.at_) }) ∧ Chg (Mra p g x) w w' := by
  have HA := Aside0.mk h
  have HC := Aside0.mk (Chg.refl (Mra p g x) w)
  have hxa0 : w.cell? ⟨x, 0, none⟩ = some (pt g) := (Blk.cell h.a 0).trans (by simp [actCells, endOff, hpush, hnext])
  have hxa1 : w.cell? ⟨x, 1, none⟩ = some (.pointer (some ⟨g, 6, none⟩)) := (Blk.cell h.a 1).trans (by simp [actCells, endOff, hpush, hnext])
  have hxa3 : w.cell? ⟨x, 3, none⟩ = some (.int .u64 A.value) := (Blk.cell h.a 3).trans (by simp [actCells, endOff, hpush, hnext])
  have hxr0 : w.cell? ⟨g, 0, none⟩ = some (pa p) := (Blk.cell h.r 0).trans rfl
  have hxr1 : w.cell? ⟨g, 1, none⟩ = some (.int .i64 R.base) := (Blk.cell h.r 1).trans rfl
  have hxr7 : w.cell? ⟨g, 7, none⟩ = some (.int .i64 R.o.at_) := (Blk.cell h.r 7).trans rfl
  have hfa2 := Blk.frozen h.a 2
  have hfa3 := Blk.frozen h.a 3
  have hxa2 : w.cell? ⟨x, 2, none⟩ = some (.func (.func 82) #[] #[]) := (Blk.cell h.a 2).trans (by simp [actCells, hnext])
  have hb0 := h.ok.b0
  have hb1 := h.ok.b1
  have hs0 := h.ok.s0
  have hs1 := h.ok.s1
  have hi0 := h.ok.oa
  have HP := Aside0.mk (peek_in h.m (R.base + 2 + R.o.at_))
  have HL := Aside0.mk (show ∀ W, MemAt 97 W p M → Calls Try.prog 63 #[pa p, .int .i64 (R.base + 2 + R.o.at_)] W fun e w' => e = .returned (.int .u64 (M.peek (R.base + 2 + R.o.at_))) ∧ MemAt 97 w' p (M.load (R.base + 2 + R.o.at_)) ∧ Chg p.has W w' from fun W hm => load_ W p M _ hm (by omega))
  clear h
  have hw1 : IntKind.i64.wrap (R.base + 2) = R.base + 2 := i64_id (by omega)
  have hw2 : IntKind.i64.wrap (R.base + 2 + R.o.at_) = R.base + 2 + R.o.at_ := i64_id (by omega)
  go_enter Try.func82, Try.ntmps82
  have hgx := HA.out.gx
  go_wp2
  go_region_held3 (fun w' => w'.cell? ⟨x, 0, none⟩ = some (pt g) ∧ w'.cell? ⟨x, 1, none⟩ = some (.pointer (some ⟨g, 6, none⟩)) ∧ w'.cell? ⟨g, 0, none⟩ = some (pa p) ∧ w'.cell? ⟨g, 1, none⟩ = some (.int .i64 R.base) ∧ w'.cell? ⟨g, 7, none⟩ = some (.int .i64 R.o.at_)) (first | go_keep | (refine ⟨?_, ?_, ?_, ?_, ?_⟩ <;> go_simp; done) | exact ⟨hxa0, hxa1, hxr0, hxr1, hxr7⟩) ((go_at_call 63; (with_reducible refine (HL.out _ (All.m (g := g) (x := x) (R := R) (A := A) (by (with_reducible repeat (first | exact HA.out | refine All.drewN ?_ _ | refine All.drew ?_))))).mono ?_); rintro e w' ⟨rfl, hm, hc⟩; have HAn := Aside0.mk (All.mem (g := g) (x := x) (M := M) (R := R) (A := A) (by (with_reducible repeat (first | exact HA.out | refine All.drewN ?_ _ | refine All.drew ?_))) hm hc); have HCn := Aside0.mk (Chg.step (S := Mra p g x) (a := w) (by (with_reducible repeat (first | exact HC.out | refine Chg.drewN ?_ _ | refine Chg.drew ?_))) (Mra.of_mem (g := g) (x := x) hc) (fun _ _ s => s)); clear HA HC hm hc; have HA := HAn; have HC := HCn; clear HAn HCn; have hxa0 : w'.cell? ⟨x, 0, none⟩ = some (pt g) := (Blk.cell HA.out.a 0).trans (by simp [actCells, endOff, hpush, hnext]); have hxa1 : w'.cell? ⟨x, 1, none⟩ = some (.pointer (some ⟨g, 6, none⟩)) := (Blk.cell HA.out.a 1).trans (by simp [actCells, endOff, hpush, hnext]); have hxa3 : w'.cell? ⟨x, 3, none⟩ = some (.int .u64 A.value) := (Blk.cell HA.out.a 3).trans (by simp [actCells, endOff, hpush, hnext]); have hxr0 : w'.cell? ⟨g, 0, none⟩ = some (pa p) := (Blk.cell HA.out.r 0).trans rfl; have hxr1 : w'.cell? ⟨g, 1, none⟩ = some (.int .i64 R.base) := (Blk.cell HA.out.r 1).trans rfl; have hxr7 : w'.cell? ⟨g, 7, none⟩ = some (.int .i64 R.o.at_) := (Blk.cell HA.out.r 7).trans rfl; have hfa2 := Blk.frozen HA.out.a 2; have hfa3 := Blk.frozen HA.out.a 3; have hxa2 : w'.cell? ⟨x, 2, none⟩ = some (.func (.func 82) #[] #[]) := (Blk.cell HA.out.a 2).trans (by simp [actCells, hnext])))
  clear hw1 hw2
  go_wp2
  go_ret
  exact ⟨rfl, (HA.out.setA 3 _ (A' := { A with value := M.peek (R.base + 2 + R.o.at_) }) (by simp [actCells]) HP.out).setA 2 _ (A' := { A with next := 85, value := M.peek (R.base + 2 + R.o.at_) }) (by simp [actCells]) HP.out, Mra.setA (Mra.setA HC.out _ _) _ _⟩

set_option maxHeartbeats 4000000 in
set_option maxRecDepth 100000 in
theorem tell_ (w : World) (p : Mp) (g x : Nat) (M : MemS) (R : RingS) (A : ActS) (h : All w p g x M R A) (ht : M.time < 4611686018427387900) (hpush : A.push = true) (hnext : A.next = 84) :
    Calls Try.prog 84 #[pt x] w fun e w' => e = .returned (.bool true) ∧ All w' p g x (M.store (R.base) (R.i.moved R.size).count) ({ R with i := R.i.moved R.size }) ({ A with mark := (M.store (R.base) (R.i.moved R.size).count).time, ok := true }) ∧ Chg (Mra p g x) w w' := by
  have HA := Aside0.mk h
  have HC := Aside0.mk (Chg.refl (Mra p g x) w)
  have hxa0 : w.cell? ⟨x, 0, none⟩ = some (pt g) := (Blk.cell h.a 0).trans (by simp [actCells, endOff, hpush, hnext])
  have hxa1 : w.cell? ⟨x, 1, none⟩ = some (.pointer (some ⟨g, 3, none⟩)) := (Blk.cell h.a 1).trans (by simp [actCells, endOff, hpush, hnext])
  have hxr2 : w.cell? ⟨g, 2, none⟩ = some (.int .i64 R.size) := (Blk.cell h.r 2).trans rfl
  have hb0 := h.ok.b0
  have hb1 := h.ok.b1
  have hs0 := h.ok.s0
  have hs1 := h.ok.s1
  obtain ⟨cnt, hcnt⟩ : ∃ c, (R.i.moved R.size).count = c := ⟨_, rfl⟩
  have hcr : 0 ≤ cnt ∧ cnt ≤ 18446744073709551615 := by rw [← hcnt]; exact u64_in _
  have HCN := Aside0.mk (show (ringCells p { R with i := R.i.moved R.size })[3]? = some (Value.int .u64 cnt) from (by rw [← hcnt]; rfl))
  have HL := Aside0.mk (show ∀ W, MemAt 97 W p M → Calls Try.prog 20 #[pa p, .int .i64 (R.base), .int .u64 (cnt)] W fun e w' => e = .returned (.tuple #[]) ∧ MemAt 97 w' p (M.store (R.base) (cnt)) ∧ Chg p.has W w' from fun W hm => store_ W p M _ _ hm (by omega) (by omega))
  rw [hcnt]
  clear h hcnt
  go_enter Try.func84, Try.ntmps84
  go_wp2
  go_region_held3 (fun w' => w'.cell? ⟨x, 0, none⟩ = some (pt g) ∧ w'.cell? ⟨x, 1, none⟩ = some (.pointer (some ⟨g, 3, none⟩)) ∧ w'.cell? ⟨g, 2, none⟩ = some (.int .i64 R.size)) (first | go_keep | exact ⟨hxa0, hxa1, hxr2⟩) ((go_at_call 86; (with_reducible refine (move_in _ p g x M R A (by (with_reducible repeat (first | exact HA.out | refine All.drewN ?_ _ | refine All.drew ?_)))).mono ?_); rintro e w' ⟨rfl, ha, hc⟩; have HAn := Aside0.mk ha; have HCn := Aside0.mk (Chg.step (S := Mra p g x) (a := w) (by (with_reducible repeat (first | exact HC.out | refine Chg.drewN ?_ _ | refine Chg.drew ?_))) hc (fun _ _ s => s)); clear HA HC ha hc; have HA := HAn; have HC := HCn; clear HAn HCn; have hxa0 : w'.cell? ⟨x, 0, none⟩ = some (pt g) := (Blk.cell HA.out.a 0).trans (by simp [actCells, endOff, hpush, hnext]); have hxa1 : w'.cell? ⟨x, 1, none⟩ = some (.pointer (some ⟨g, 3, none⟩)) := (Blk.cell HA.out.a 1).trans (by simp [actCells, endOff, hpush, hnext]); have hxr0 : w'.cell? ⟨g, 0, none⟩ = some (pa p) := (Blk.cell HA.out.r 0).trans rfl; have hxr1 : w'.cell? ⟨g, 1, none⟩ = some (.int .i64 R.base) := (Blk.cell HA.out.r 1).trans rfl; have hxr2 : w'.cell? ⟨g, 2, none⟩ = some (.int .i64 R.size) := (Blk.cell HA.out.r 2).trans rfl; have hxr3 : w'.cell? ⟨g, 3, none⟩ = some (.int .u64 cnt) := (Blk.cell HA.out.r 3).trans HCN.out))
  have hw1 : IntKind.i64.wrap (R.base + 0) = R.base := by rw [Int.add_zero]; exact i64_id (by omega)
  have hw2 : IntKind.i64.wrap R.base = R.base := i64_id (by omega)
  go_wp2
  go_region_held3 (fun w' => w'.cell? ⟨x, 0, none⟩ = some (pt g) ∧ w'.cell? ⟨x, 1, none⟩ = some (.pointer (some ⟨g, 3, none⟩)) ∧ w'.cell? ⟨g, 0, none⟩ = some (pa p) ∧ w'.cell? ⟨g, 1, none⟩ = some (.int .i64 R.base) ∧ w'.cell? ⟨g, 3, none⟩ = some (.int .u64 cnt)) (first | go_keep | exact ⟨hxa0, hxa1, hxr0, hxr1, hxr3⟩) ((go_at_call 20; (with_reducible refine (HL.out _ (All.m (g := g) (x := x) (R := { R with i := R.i.moved R.size }) (A := A) (by (with_reducible repeat (first | exact HA.out | refine All.drewN ?_ _ | refine All.drew ?_))))).mono ?_); rintro e w' ⟨rfl, hm, hc⟩; have HAn := Aside0.mk (All.mem (g := g) (x := x) (M := M) (R := { R with i := R.i.moved R.size }) (A := A) (by (with_reducible repeat (first | exact HA.out | refine All.drewN ?_ _ | refine All.drew ?_))) hm hc); have HCn := Aside0.mk (Chg.step (S := Mra p g x) (a := w) (by (with_reducible repeat (first | exact HC.out | refine Chg.drewN ?_ _ | refine Chg.drew ?_))) (Mra.of_mem (g := g) (x := x) hc) (fun _ _ s => s)); clear HA HC hm hc; have HA := HAn; have HC := HCn; clear HAn HCn; have hxa0 : w'.cell? ⟨x, 0, none⟩ = some (pt g) := (Blk.cell HA.out.a 0).trans rfl; have hxa1 : w'.cell? ⟨x, 1, none⟩ = some (.pointer (some ⟨g, 3, none⟩)) := (Blk.cell HA.out.a 1).trans (by simp [actCells, endOff, hpush]); have hxr0 : w'.cell? ⟨g, 0, none⟩ = some (pa p) := (Blk.cell HA.out.r 0).trans rfl; have hxr1 : w'.cell? ⟨g, 1, none⟩ = some (.int .i64 R.base) := (Blk.cell HA.out.r 1).trans rfl; have hxr3 : w'.cell? ⟨g, 3, none⟩ = some (.int .u64 cnt) := (Blk.cell HA.out.r 3).trans HCN.out))
  clear hw1 hw2
  go_wp2_with (go_at_call 80; (with_reducible refine (done_ _ p g x (M.store (R.base) cnt) { R with i := R.i.moved R.size } A (by (with_reducible repeat (first | exact HA.out | refine All.drewN ?_ _ | refine All.drew ?_))) _).mono ?_); rintro e w' ⟨rfl, ha, hc⟩; have HAn := Aside0.mk ha; have HCn := Aside0.mk (Chg.step (S := Mra p g x) (a := w) (by (with_reducible repeat (first | exact HC.out | refine Chg.drewN ?_ _ | refine Chg.drew ?_))) hc (fun _ _ s => s)); clear HA HC ha hc; have HA := HAn; have HC := HCn; clear HAn HCn)
  go_ret
  exact ⟨rfl, HA.out, HC.out⟩

set_option maxHeartbeats 4000000 in
set_option maxRecDepth 100000 in
theorem leave_ (w : World) (p : Mp) (g x : Nat) (M : MemS) (R : RingS) (A : ActS) (h : All w p g x M R A) (ht : M.time < 4611686018427387900) (hpush : A.push = false) (hnext : A.next = 85) :
    Calls Try.prog 85 #[pt x] w fun e w' => e = .returned (.bool true) ∧ All w' p g x (M.store (R.base + 1) (R.o.moved R.size).count) ({ R with o := R.o.moved R.size }) ({ A with mark := (M.store (R.base + 1) (R.o.moved R.size).count).time, ok := true }) ∧ Chg (Mra p g x) w w' := by
  have HA := Aside0.mk h
  have HC := Aside0.mk (Chg.refl (Mra p g x) w)
  have hxa0 : w.cell? ⟨x, 0, none⟩ = some (pt g) := (Blk.cell h.a 0).trans (by simp [actCells, endOff, hpush, hnext])
  have hxa1 : w.cell? ⟨x, 1, none⟩ = some (.pointer (some ⟨g, 6, none⟩)) := (Blk.cell h.a 1).trans (by simp [actCells, endOff, hpush, hnext])
  have hxr2 : w.cell? ⟨g, 2, none⟩ = some (.int .i64 R.size) := (Blk.cell h.r 2).trans rfl
  have hb0 := h.ok.b0
  have hb1 := h.ok.b1
  have hs0 := h.ok.s0
  have hs1 := h.ok.s1
  obtain ⟨cnt, hcnt⟩ : ∃ c, (R.o.moved R.size).count = c := ⟨_, rfl⟩
  have hcr : 0 ≤ cnt ∧ cnt ≤ 18446744073709551615 := by rw [← hcnt]; exact u64_in _
  have HCN := Aside0.mk (show (ringCells p { R with o := R.o.moved R.size })[6]? = some (Value.int .u64 cnt) from (by rw [← hcnt]; rfl))
  have HL := Aside0.mk (show ∀ W, MemAt 97 W p M → Calls Try.prog 20 #[pa p, .int .i64 (R.base + 1), .int .u64 (cnt)] W fun e w' => e = .returned (.tuple #[]) ∧ MemAt 97 w' p (M.store (R.base + 1) (cnt)) ∧ Chg p.has W w' from fun W hm => store_ W p M _ _ hm (by omega) (by omega))
  rw [hcnt]
  clear h hcnt
  go_enter Try.func85, Try.ntmps85
  go_wp2
  go_region_held3 (fun w' => w'.cell? ⟨x, 0, none⟩ = some (pt g) ∧ w'.cell? ⟨x, 1, none⟩ = some (.pointer (some ⟨g, 6, none⟩)) ∧ w'.cell? ⟨g, 2, none⟩ = some (.int .i64 R.size)) (first | go_keep | exact ⟨hxa0, hxa1, hxr2⟩) ((go_at_call 86; (with_reducible refine (move_out _ p g x M R A (by (with_reducible repeat (first | exact HA.out | refine All.drewN ?_ _ | refine All.drew ?_)))).mono ?_); rintro e w' ⟨rfl, ha, hc⟩; have HAn := Aside0.mk ha; have HCn := Aside0.mk (Chg.step (S := Mra p g x) (a := w) (by (with_reducible repeat (first | exact HC.out | refine Chg.drewN ?_ _ | refine Chg.drew ?_))) hc (fun _ _ s => s)); clear HA HC ha hc; have HA := HAn; have HC := HCn; clear HAn HCn; have hxa0 : w'.cell? ⟨x, 0, none⟩ = some (pt g) := (Blk.cell HA.out.a 0).trans (by simp [actCells, endOff, hpush, hnext]); have hxa1 : w'.cell? ⟨x, 1, none⟩ = some (.pointer (some ⟨g, 6, none⟩)) := (Blk.cell HA.out.a 1).trans (by simp [actCells, endOff, hpush, hnext]); have hxr0 : w'.cell? ⟨g, 0, none⟩ = some (pa p) := (Blk.cell HA.out.r 0).trans rfl; have hxr1 : w'.cell? ⟨g, 1, none⟩ = some (.int .i64 R.base) := (Blk.cell HA.out.r 1).trans rfl; have hxr2 : w'.cell? ⟨g, 2, none⟩ = some (.int .i64 R.size) := (Blk.cell HA.out.r 2).trans rfl; have hxr6 : w'.cell? ⟨g, 6, none⟩ = some (.int .u64 cnt) := (Blk.cell HA.out.r 6).trans HCN.out))
  have hw1 : IntKind.i64.wrap (R.base + 1) = R.base + 1 := i64_id (by omega)
  have hw2 := hw1
  go_wp2
  go_region_held3 (fun w' => w'.cell? ⟨x, 0, none⟩ = some (pt g) ∧ w'.cell? ⟨x, 1, none⟩ = some (.pointer (some ⟨g, 6, none⟩)) ∧ w'.cell? ⟨g, 0, none⟩ = some (pa p) ∧ w'.cell? ⟨g, 1, none⟩ = some (.int .i64 R.base) ∧ w'.cell? ⟨g, 6, none⟩ = some (.int .u64 cnt)) (first | go_keep | exact ⟨hxa0, hxa1, hxr0, hxr1, hxr6⟩) ((go_at_call 20; (with_reducible refine (HL.out _ (All.m (g := g) (x := x) (R := { R with o := R.o.moved R.size }) (A := A) (by (with_reducible repeat (first | exact HA.out | refine All.drewN ?_ _ | refine All.drew ?_))))).mono ?_); rintro e w' ⟨rfl, hm, hc⟩; have HAn := Aside0.mk (All.mem (g := g) (x := x) (M := M) (R := { R with o := R.o.moved R.size }) (A := A) (by (with_reducible repeat (first | exact HA.out | refine All.drewN ?_ _ | refine All.drew ?_))) hm hc); have HCn := Aside0.mk (Chg.step (S := Mra p g x) (a := w) (by (with_reducible repeat (first | exact HC.out | refine Chg.drewN ?_ _ | refine Chg.drew ?_))) (Mra.of_mem (g := g) (x := x) hc) (fun _ _ s => s)); clear HA HC hm hc; have HA := HAn; have HC := HCn; clear HAn HCn; have hxa0 : w'.cell? ⟨x, 0, none⟩ = some (pt g) := (Blk.cell HA.out.a 0).trans rfl; have hxa1 : w'.cell? ⟨x, 1, none⟩ = some (.pointer (some ⟨g, 6, none⟩)) := (Blk.cell HA.out.a 1).trans (by simp [actCells, endOff, hpush]); have hxr0 : w'.cell? ⟨g, 0, none⟩ = some (pa p) := (Blk.cell HA.out.r 0).trans rfl; have hxr1 : w'.cell? ⟨g, 1, none⟩ = some (.int .i64 R.base) := (Blk.cell HA.out.r 1).trans rfl; have hxr6 : w'.cell? ⟨g, 6, none⟩ = some (.int .u64 cnt) := (Blk.cell HA.out.r 6).trans HCN.out))
  clear hw1 hw2
  go_wp2_with (go_at_call 80; (with_reducible refine (done_ _ p g x (M.store (R.base + 1) cnt) { R with o := R.o.moved R.size } A (by (with_reducible repeat (first | exact HA.out | refine All.drewN ?_ _ | refine All.drew ?_))) _).mono ?_); rintro e w' ⟨rfl, ha, hc⟩; have HAn := Aside0.mk ha; have HCn := Aside0.mk (Chg.step (S := Mra p g x) (a := w) (by (with_reducible repeat (first | exact HC.out | refine Chg.drewN ?_ _ | refine Chg.drew ?_))) hc (fun _ _ s => s)); clear HA HC ha hc; have HA := HAn; have HC := HCn; clear HAn HCn)
  go_ret
  exact ⟨rfl, HA.out, HC.out⟩


end Go.Proofs.Ytejplbeddcpmeaa.Ring
