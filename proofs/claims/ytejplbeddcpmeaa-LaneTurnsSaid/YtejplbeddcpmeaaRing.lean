/- Rings and acts (package ring): what stands in the heap, what each step does; no condition. -/
import Derived.Test.YtejplbeddcpmeaaMemN
import Derived.Deep.RegionHeld3
namespace Go.Proofs.Ytejplbeddcpmeaa.Ring
open Go.RowKit Go.Proofs.YtejplbeddcpmeaaW.PrintWords Go.Proofs.Ytejplbeddcpmeaa.Heap Go.Proofs.Ytejplbeddcpmeaa.Mem
set_option linter.unusedVariables false
set_option linter.unusedSimpArgs false

structure EndS where
  count : Int
  at_ : Int
  busy : Bool
structure RingS where
  base : Int
  size : Int
  i : EndS
  o : EndS
structure ActS where
  push : Bool
  next : Nat
  value : Int
  ok : Bool
  mark : Int
  over : Bool
abbrev pt (x : Nat) : Value := .pointer (some ⟨x, 0, none⟩)
def ringCells (p : Mp) (R : RingS) : List Value := [pa p, .int .i64 R.base, .int .i64 R.size, .int .u64 R.i.count, .int .i64 R.i.at_, .bool R.i.busy, .int .u64 R.o.count, .int .i64 R.o.at_, .bool R.o.busy]
def endOff (b : Bool) : Nat := if b then 3 else 6
def actCells (g : Nat) (A : ActS) : List Value := [pt g, .pointer (some ⟨g, endOff A.push, none⟩), .func (.func A.next) #[] #[], .int .u64 A.value, .bool A.ok, .int .i64 A.mark, .bool A.over]
structure RingOk (R : RingS) : Prop where
  b0 : 0 ≤ R.base
  b1 : R.base ≤ 1048576
  s0 : 1 ≤ R.size
  s1 : R.size ≤ 64
  ic : 0 ≤ R.i.count ∧ R.i.count ≤ 18446744073709551615
  ia : 0 ≤ R.i.at_ ∧ R.i.at_ < R.size
  oc : 0 ≤ R.o.count ∧ R.o.count ≤ 18446744073709551615
  oa : 0 ≤ R.o.at_ ∧ R.o.at_ < R.size
def RingAt (w : World) (g : Nat) (p : Mp) (R : RingS) : Prop := Blk w g (ringCells p R) 103
def ActAt (w : World) (x g : Nat) (A : ActS) : Prop := Blk w x (actCells g A) 107
def EndS.moved (E : EndS) (size : Int) : EndS := { E with count := IntKind.u64.wrap (E.count + 1), at_ := (E.at_ + 1) % size }
/-- The blocks of a memory, a ring and an act. -/
def Mra (p : Mp) (g x : Nat) (k : Nat) : Prop := p.has k ∨ k = g ∨ k = x
/-- All three at once. -/
structure All (w : World) (p : Mp) (g x : Nat) (M : MemS) (R : RingS) (A : ActS) : Prop where
  m : MemAt 97 w p M
  r : RingAt w g p R
  a : ActAt w x g A
  ok : RingOk R
  av : 0 ≤ A.value ∧ A.value ≤ 18446744073709551615
theorem ne_mem {T : TypeId} {w : World} {p : Mp} {M : MemS} {cs : List Value} {g t : Nat} (h : MemAt T w p M) (b : Blk w g cs t) (h1 : t ≠ T) (h2 : t ≠ 29) (h3 : t ≠ 3) : ¬ p.has g := by
  rintro (e | e | e)
  · exact (b.ne h.top h1) e
  · exact (b.ne h.cells h2) e
  · exact (b.ne h.locks h3) e
theorem All.gx {w : World} {p : Mp} {g x : Nat} {M : MemS} {R : RingS} {A : ActS} (h : All w p g x M R A) : g ≠ x := Blk.ne h.r h.a (by decide)
theorem All.pg {w : World} {p : Mp} {g x : Nat} {M : MemS} {R : RingS} {A : ActS} (h : All w p g x M R A) : ¬ p.has g := ne_mem h.m h.r (by decide) (by decide) (by decide)
theorem All.px {w : World} {p : Mp} {g x : Nat} {M : MemS} {R : RingS} {A : ActS} (h : All w p g x M R A) : ¬ p.has x := ne_mem h.m h.a (by decide) (by decide) (by decide)
theorem All.drewN {w : World} {p : Mp} {g x : Nat} {M : MemS} {R : RingS} {A : ActS} (h : All w p g x M R A) (n : Nat) : All (w.drewN n) p g x M R A := ⟨h.m.drewN n, h.r, h.a, h.ok, h.av⟩
theorem All.drew {w : World} {p : Mp} {g x : Nat} {M : MemS} {R : RingS} {A : ActS} (h : All w p g x M R A) : All w.drew p g x M R A := ⟨h.m.drew, h.r, h.a, h.ok, h.av⟩
/-- A step of the memory: ring and act stay. -/
theorem All.mem {w w' : World} {p : Mp} {g x : Nat} {M M' : MemS} {R : RingS} {A : ActS} (h : All w p g x M R A) (hm : MemAt 97 w' p M') (hc : Chg p.has w w') : All w' p g x M' R A :=
  ⟨hm, Blk.chg h.r hc h.pg, Blk.chg h.a hc h.px, h.ok, h.av⟩
theorem Mra.of_mem {p : Mp} {g x : Nat} {w w' : World} (h : Chg p.has w w') : Chg (Mra p g x) w w' := h.mono fun _ _ s => .inl s
/-- A store into the act. -/
theorem All.setA {w : World} {p : Mp} {g x : Nat} {M : MemS} {R : RingS} {A : ActS} (h : All w p g x M R A) (i : Nat) (v : Value) {A' : ActS} (e : (actCells g A).set i v = actCells g A') (hv : 0 ≤ A'.value ∧ A'.value ≤ 18446744073709551615) : All (w.setCell ⟨x, i, none⟩ v) p g x M R A' :=
  ⟨h.m.chg (show Chg (fun k => k = x) w _ from (Chg.refl (fun k => k = x) w).set (.inl rfl) _) (fun k hk e => h.px (e ▸ hk)), Blk.far h.r h.gx _, (Blk.set h.a i v).eq e, h.ok, hv⟩
theorem All.setR {w : World} {p : Mp} {g x : Nat} {M : MemS} {R : RingS} {A : ActS} (h : All w p g x M R A) (i : Nat) (v : Value) {R' : RingS} (e : (ringCells p R).set i v = ringCells p R') (hk : RingOk R') : All (w.setCell ⟨g, i, none⟩ v) p g x M R' A :=
  ⟨h.m.chg (show Chg (fun k => k = g) w _ from (Chg.refl (fun k => k = g) w).set (.inl rfl) _) (fun k hk e => h.pg (e ▸ hk)), (Blk.set h.r i v).eq e, Blk.far h.a h.gx.symm _, hk, h.av⟩
theorem Mra.setA {p : Mp} {g x : Nat} {w w' : World} (h : Chg (Mra p g x) w w') (i : Nat) (v : Value) : Chg (Mra p g x) w (w'.setCell ⟨x, i, none⟩ v) := h.set (.inl (.inr (.inr rfl))) _
theorem Mra.setR {p : Mp} {g x : Nat} {w w' : World} (h : Chg (Mra p g x) w w') (i : Nat) (v : Value) : Chg (Mra p g x) w (w'.setCell ⟨g, i, none⟩ v) := h.set (.inl (.inr (.inl rfl))) _

theorem u64_in (x : Int) : 0 ≤ IntKind.u64.wrap x ∧ IntKind.u64.wrap x ≤ 18446744073709551615 := by
  have h : (IntKind.u64.wrap x) = x % 18446744073709551616 := by simp [IntKind.wrap, IntKind.bits, IntKind.signed]
  rw [h]; omega

set_option maxHeartbeats 4000000 in
set_option maxRecDepth 100000 in
theorem done_ (w : World) (p : Mp) (g x : Nat) (M : MemS) (R : RingS) (A : ActS) (h : All w p g x M R A) (b : Bool) :
    Calls Try.prog 80 #[pt x, .bool b] w fun e w' => e = .returned (.bool true) ∧ All w' p g x (M) (R) ({ A with mark := M.time, ok := b }) ∧ Chg (Mra p g x) w w' := by
  have HA := Aside0.mk h
  have HC := Aside0.mk (Chg.refl (Mra p g x) w)
  have hxa0 : w.cell? ⟨x, 0, none⟩ = some (pt g) := (Blk.cell h.a 0).trans rfl
  have hxr0 : w.cell? ⟨g, 0, none⟩ = some (pa p) := (Blk.cell h.r 0).trans rfl
  have hxa4 : w.cell? ⟨x, 4, none⟩ = some (.bool A.ok) := (Blk.cell h.a 4).trans rfl
  have hxa5 : w.cell? ⟨x, 5, none⟩ = some (.int .i64 A.mark) := (Blk.cell h.a 5).trans rfl
  have hfa4 := Blk.frozen h.a 4
  have hfa5 := Blk.frozen h.a 5
  clear h
  go_enter Try.func80, Try.ntmps80
  go_wp2_with (go_at_call 27; refine (time_ _ p M (All.m (g := g) (x := x) (R := R) (A := A) (by (with_reducible repeat (first | exact HA.out | refine All.drewN ?_ _ | refine All.drew ?_))))).mono ?_; rintro e w' ⟨rfl, rfl⟩)
  go_ret
  exact ⟨rfl, (HA.out.setA 5 (.int .i64 M.time) (A' := { A with mark := M.time }) rfl HA.out.av).setA 4 (.bool b) (A' := { A with mark := M.time, ok := b }) rfl HA.out.av, Mra.setA (Mra.setA HC.out _ _) _ _⟩

set_option maxHeartbeats 4000000 in
set_option maxRecDepth 100000 in
theorem move_in (w : World) (p : Mp) (g x : Nat) (M : MemS) (R : RingS) (A : ActS) (h : All w p g x M R A) :
    Calls Try.prog 86 #[.pointer (some ⟨g, 3, none⟩), .int .i64 R.size] w fun e w' => e = .returned (.tuple #[]) ∧ All w' p g x (M) ({ R with i := R.i.moved R.size }) (A) ∧ Chg (Mra p g x) w w' := by
  have HA := Aside0.mk h
  have HC := Aside0.mk (Chg.refl (Mra p g x) w)
  have hxr3 : w.cell? ⟨g, 3, none⟩ = some (.int .u64 R.i.count) := (Blk.cell h.r 3).trans rfl
  have hxr4 : w.cell? ⟨g, 4, none⟩ = some (.int .i64 R.i.at_) := (Blk.cell h.r 4).trans rfl
  have hfr3 := Blk.frozen h.r 3
  have hfr4 := Blk.frozen h.r 4
  have hr0 := h.ok.ia.1
  have hr1 := h.ok.ia.2
  have hs0 := h.ok.s0
  have hs1 := h.ok.s1
  have hok : RingOk { R with i := R.i.moved R.size } := by
    have a := Int.emod_nonneg (R.i.at_ + 1) (show R.size ≠ 0 by omega)
    have b := Int.emod_lt_of_pos (R.i.at_ + 1) (show 0 < R.size by omega)
    exact { h.ok with ic := u64_in _, ia := ⟨a, b⟩ }
  have hok1 : RingOk { R with i := { R.i with count := IntKind.u64.wrap (R.i.count + 1) } } := { h.ok with ic := u64_in _ }
  have HO := Aside0.mk hok
  have HO1 := Aside0.mk hok1
  clear h hok hok1
  go_enter Try.func86, Try.ntmps86
  go_wp2
  go_end0
  exact ⟨rfl, (HA.out.setR 3 _ (R' := { R with i := { R.i with count := IntKind.u64.wrap (R.i.count + 1) } }) rfl HO1.out).setR 4 _ (R' := { R with i := R.i.moved R.size }) rfl HO.out, Mra.setR (Mra.setR HC.out _ _) _ _⟩

set_option maxHeartbeats 4000000 in
set_option maxRecDepth 100000 in
theorem move_out (w : World) (p : Mp) (g x : Nat) (M : MemS) (R : RingS) (A : ActS) (h : All w p g x M R A) :
    Calls Try.prog 86 #[.pointer (some ⟨g, 6, none⟩), .int .i64 R.size] w fun e w' => e = .returned (.tuple #[]) ∧ All w' p g x (M) ({ R with o := R.o.moved R.size }) (A) ∧ Chg (Mra p g x) w w' := by
  have HA := Aside0.mk h
  have HC := Aside0.mk (Chg.refl (Mra p g x) w)
  have hxr6 : w.cell? ⟨g, 6, none⟩ = some (.int .u64 R.o.count) := (Blk.cell h.r 6).trans rfl
  have hxr7 : w.cell? ⟨g, 7, none⟩ = some (.int .i64 R.o.at_) := (Blk.cell h.r 7).trans rfl
  have hfr6 := Blk.frozen h.r 6
  have hfr7 := Blk.frozen h.r 7
  have hr0 := h.ok.oa.1
  have hr1 := h.ok.oa.2
  have hs0 := h.ok.s0
  have hs1 := h.ok.s1
  have hok : RingOk { R with o := R.o.moved R.size } := by
    have a := Int.emod_nonneg (R.o.at_ + 1) (show R.size ≠ 0 by omega)
    have b := Int.emod_lt_of_pos (R.o.at_ + 1) (show 0 < R.size by omega)
    exact { h.ok with oc := u64_in _, oa := ⟨a, b⟩ }
  have hok1 : RingOk { R with o := { R.o with count := IntKind.u64.wrap (R.o.count + 1) } } := { h.ok with oc := u64_in _ }
  have HO := Aside0.mk hok
  have HO1 := Aside0.mk hok1
  clear h hok hok1
  go_enter Try.func86, Try.ntmps86
  go_wp2
  go_end0
  exact ⟨rfl, (HA.out.setR 6 _ (R' := { R with o := { R.o with count := IntKind.u64.wrap (R.o.count + 1) } }) rfl HO1.out).setR 7 _ (R' := { R with o := R.o.moved R.size }) rfl HO.out, Mra.setR (Mra.setR HC.out _ _) _ _⟩


end Go.Proofs.Ytejplbeddcpmeaa.Ring
