/- The memory (package mem, and its reference): what stands in the heap, what each call does; no condition. -/
import Derived.Test.YtejplbeddcpmeaaHeap
namespace Go.Proofs.Ytejplbeddcpmeaa.Mem
open Go.RowKit Go.Proofs.YtejplbeddcpmeaaW.PrintWords Go.Proofs.Ytejplbeddcpmeaa.Heap

structure MemS where
  cells : List Int
  locks : List Int
  time : Int

structure Mp where
  a : Nat
  bc : Nat
  bl : Nat
def Mp.has (p : Mp) (k : Nat) : Prop := k = p.a ∨ k = p.bc ∨ k = p.bl

def topOf (p : Mp) (M : MemS) : List Value := [.slice (some ⟨p.bc, 0, none⟩) M.cells.length M.cells.length, .slice (some ⟨p.bl, 0, none⟩) M.locks.length M.locks.length, .int .i64 M.time]

structure MemAt (T : TypeId) (w : World) (p : Mp) (M : MemS) : Prop where
  top : Blk w p.a (topOf p M) T
  cells : Blk w p.bc (nums .u64 M.cells) 29
  locks : Blk w p.bl (nums .i64 M.locks) 3
  t0 : 0 ≤ M.time
  cr : ∀ x ∈ M.cells, 0 ≤ x ∧ x ≤ 18446744073709551615
  lr : ∀ x ∈ M.locks, -1 ≤ x ∧ x ≤ 9223372036854775807
  cn : M.cells.length ≤ 1048576
  ln : M.locks.length ≤ 128
  t1 : T ≠ 29
  t2 : T ≠ 3

theorem MemAt.chg {T : TypeId} {w w' : World} {p : Mp} {M : MemS} {S : Nat → Prop} (h : MemAt T w p M) (hc : Chg S w w') (hn : ∀ k, p.has k → ¬ S k) : MemAt T w' p M :=
  { h with top := h.top.chg hc (hn _ (.inl rfl)), cells := h.cells.chg hc (hn _ (.inr (.inl rfl))), locks := h.locks.chg hc (hn _ (.inr (.inr rfl))) }
theorem MemAt.drewN {T : TypeId} {w : World} {p : Mp} {M : MemS} (h : MemAt T w p M) (n : Nat) : MemAt T (w.drewN n) p M := { h with top := h.top.drewN n, cells := h.cells.drewN n, locks := h.locks.drewN n }
theorem MemAt.drew {T : TypeId} {w : World} {p : Mp} {M : MemS} (h : MemAt T w p M) : MemAt T w.drew p M := { h with top := h.top.drew, cells := h.cells.drew, locks := h.locks.drew }
theorem MemAt.alloc {T : TypeId} {w : World} {p : Mp} {M : MemS} (h : MemAt T w p M) (o : Obj) : MemAt T (w.alloc o) p M := { h with top := h.top.alloc o, cells := h.cells.alloc o, locks := h.locks.alloc o }
theorem MemAt.ne_ac {T : TypeId} {w : World} {p : Mp} {M : MemS} (h : MemAt T w p M) : p.a ≠ p.bc := h.top.ne h.cells h.t1
theorem MemAt.ne_al {T : TypeId} {w : World} {p : Mp} {M : MemS} (h : MemAt T w p M) : p.a ≠ p.bl := h.top.ne h.locks h.t2
theorem MemAt.ne_cl {T : TypeId} {w : World} {p : Mp} {M : MemS} (h : MemAt T w p M) : p.bc ≠ p.bl := h.cells.ne h.locks (by decide)

def MemS.ticked (M : MemS) : MemS := { M with time := M.time + 1 }
def MemS.load (M : MemS) (i : Int) : MemS := if 0 ≤ i ∧ i < (M.cells.length : Int) then M.ticked else M
def MemS.peek (M : MemS) (i : Int) : Int := if 0 ≤ i ∧ i < (M.cells.length : Int) then rd M.cells i else 0
def MemS.store (M : MemS) (i v : Int) : MemS := if 0 ≤ i ∧ i < (M.cells.length : Int) then { M with time := M.time + 1, cells := M.cells.set i.toNat v } else M
def MemS.holder (M : MemS) (l : Int) : Int := if 0 ≤ l ∧ l < (M.locks.length : Int) then rd M.locks l else -1
def MemS.takes (M : MemS) (l who : Int) : Bool := decide (0 ≤ l ∧ l < (M.locks.length : Int) ∧ 0 ≤ who ∧ rd M.locks l = -1)
def MemS.take (M : MemS) (l who : Int) : MemS := if 0 ≤ l ∧ l < (M.locks.length : Int) ∧ 0 ≤ who then (if rd M.locks l = -1 then { M with time := M.time + 1, locks := M.locks.set l.toNat who } else M.ticked) else M
def MemS.frees (M : MemS) (l who : Int) : Bool := decide (0 ≤ l ∧ l < (M.locks.length : Int) ∧ 0 ≤ who ∧ rd M.locks l = who)
def MemS.free (M : MemS) (l who : Int) : MemS := if 0 ≤ l ∧ l < (M.locks.length : Int) ∧ 0 ≤ who then (if rd M.locks l = who then { M with time := M.time + 1, locks := M.locks.set l.toNat (-1) } else M.ticked) else M
def MemS.new (c l : Int) : MemS := ⟨List.replicate c.toNat 0, List.replicate l.toNat (-1), 0⟩

end Go.Proofs.Ytejplbeddcpmeaa.Mem
