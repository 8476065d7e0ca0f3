/- A memory is made as XMem says; no condition. -/
import Derived.Test.YtejplbeddcpmeaaMemW
import Derived.RegionTactic
import Derived.OwnWalk
import Derived.Deep.LoopGhost
import Derived.Laws.MakeOwn
namespace Go.Proofs.Ytejplbeddcpmeaa.Mem
open Go.RowKit Go.Proofs.YtejplbeddcpmeaaW.PrintWords Go.Proofs.Ytejplbeddcpmeaa.Heap
set_option linter.unusedVariables false
set_option linter.unusedSimpArgs false

def MadeMem (T : TypeId) (w : World) (M : MemS) (e : Ending) (w' : World) : Prop :=
  ∃ p : Mp, e = .returned (.tuple #[pa p, .int .i64 0]) ∧ MemAt T w' p M ∧ Below w.heap.size w w' ∧ (∀ k, p.has k → w.heap.size ≤ k)
def MadeMem1 (T : TypeId) (w : World) (M : MemS) (e : Ending) (w' : World) : Prop :=
  ∃ p : Mp, e = .returned (pa p) ∧ MemAt T w' p M ∧ Below w.heap.size w w' ∧ (∀ k, p.has k → w.heap.size ≤ k)

theorem info_u64 : (Try.prog.info? 29).map (fun i => (i.zero, i.size, i.bytes)) = some (some (.int .u64 0), 1, 8) := by kernel_rfl
theorem info_int : (Try.prog.info? 3).map (fun i => (i.zero, i.size, i.bytes)) = some (some (.int .i64 0), 1, 8) := by kernel_rfl

def locksAt (n k : Nat) : List Int := List.replicate k (-1) ++ List.replicate (n - k) 0
theorem locksAt_length (n k : Nat) (h : k ≤ n) : (locksAt n k).length = n := by simp [locksAt]; omega
theorem locksAt_set (n k : Nat) (h : k < n) : (locksAt n k).set k (-1) = locksAt n (k + 1) := by
  apply List.ext_getElem
  · simp [locksAt]; omega
  · intro i h1 h2
    simp only [List.getElem_set, locksAt, List.getElem_append, List.getElem_replicate, List.length_replicate]
    by_cases e : k = i
    · subst e; simp
    · rw [if_neg e]
      by_cases c : i < k
      · rw [dif_pos c, dif_pos (by omega)]
      · rw [dif_neg c, dif_neg (by omega)]
theorem locksAt_rd (n k : Nat) (h : k < n) : (locksAt n k)[k]? = some 0 := by
  unfold locksAt
  rw [List.getElem?_append_right (by simp)]
  simp only [List.length_replicate, Nat.sub_self]
  rw [List.getElem?_replicate, if_pos (by omega)]
theorem made_list (k : IntKind) (m : Nat) : (madeCells #[Value.int k 0] m).toList = nums k (List.replicate m 0) := by
  apply List.ext_getElem
  · simp [nums, madeCells]
  · intro i h1 h2
    simp [nums, madeCells, Nat.mod_one]

theorem made_start (ord : Bool) {T : TypeId} (w : World) (c l : Nat) (hc1 : c ≤ 1048576) (hl : l ≤ 128) (t1 : T ≠ 29) (t2 : T ≠ 3) :
    match ord with
    | false => MemAt T (((w.alloc (.cells (madeCells #[.int .u64 0] c) 29)).alloc (.cells (madeCells #[.int .i64 0] l) 3)).alloc (.cells (topOf ⟨w.heap.size + 1 + 1, w.heap.size, w.heap.size + 1⟩ ⟨List.replicate c 0, locksAt l 0, 0⟩).toArray T)).drew ⟨w.heap.size + 1 + 1, w.heap.size, w.heap.size + 1⟩ ⟨List.replicate c 0, locksAt l 0, 0⟩
    | true => MemAt T (((w.alloc (.cells (madeCells #[.int .i64 0] l) 3)).alloc (.cells (madeCells #[.int .u64 0] c) 29)).alloc (.cells (topOf ⟨w.heap.size + 1 + 1, w.heap.size + 1, w.heap.size⟩ ⟨List.replicate c 0, locksAt l 0, 0⟩).toArray T)).drew ⟨w.heap.size + 1 + 1, w.heap.size + 1, w.heap.size⟩ ⟨List.replicate c 0, locksAt l 0, 0⟩ := by
  have e1 : madeCells #[Value.int .u64 0] c = (nums .u64 (List.replicate c 0)).toArray := by rw [← made_list]
  have e2 : madeCells #[Value.int .i64 0] l = (nums .i64 (locksAt l 0)).toArray := by rw [show locksAt l 0 = List.replicate l 0 from by simp [locksAt], ← made_list]
  have s1 : ∀ (W : World) (o : Obj), (W.alloc o).heap.size = W.heap.size + 1 := fun W o => by show (W.heap.push o).size = _; simp
  rw [e1, e2]
  have cr : ∀ x ∈ List.replicate c (0 : Int), 0 ≤ x ∧ x ≤ 18446744073709551615 := fun x hx => by rw [(List.mem_replicate.1 hx).2]; omega
  have lr : ∀ x ∈ locksAt l 0, -1 ≤ x ∧ x ≤ 9223372036854775807 := fun x hx => by simp [locksAt] at hx; omega
  have cn : (List.replicate c (0 : Int)).length ≤ 1048576 := by simpa using hc1
  have ln : (locksAt l 0).length ≤ 128 := by rw [locksAt_length l 0 (by omega)]; exact hl
  cases ord with
  | false =>
    refine MemAt.drew ⟨?_, ?_, ?_, Int.le_refl _, cr, lr, cn, ln, t1, t2⟩
    · have := Blk.new ((w.alloc (.cells (nums .u64 (List.replicate c 0)).toArray 29)).alloc (.cells (nums .i64 (locksAt l 0)).toArray 3)) (topOf ⟨w.heap.size + 1 + 1, w.heap.size, w.heap.size + 1⟩ ⟨List.replicate c 0, locksAt l 0, 0⟩) T
      simpa only [s1] using this
    · exact ((Blk.new w _ _).alloc _).alloc _
    · have := (Blk.new (w.alloc (.cells (nums .u64 (List.replicate c 0)).toArray 29)) (nums .i64 (locksAt l 0)) 3).alloc (.cells (topOf ⟨w.heap.size + 1 + 1, w.heap.size, w.heap.size + 1⟩ ⟨List.replicate c 0, locksAt l 0, 0⟩).toArray T)
      simpa only [s1] using this
  | true =>
    refine MemAt.drew ⟨?_, ?_, ?_, Int.le_refl _, cr, lr, cn, ln, t1, t2⟩
    · have := Blk.new ((w.alloc (.cells (nums .i64 (locksAt l 0)).toArray 3)).alloc (.cells (nums .u64 (List.replicate c 0)).toArray 29)) (topOf ⟨w.heap.size + 1 + 1, w.heap.size + 1, w.heap.size⟩ ⟨List.replicate c 0, locksAt l 0, 0⟩) T
      simpa only [s1] using this
    · have := (Blk.new (w.alloc (.cells (nums .i64 (locksAt l 0)).toArray 3)) (nums .u64 (List.replicate c 0)) 29).alloc (.cells (topOf ⟨w.heap.size + 1 + 1, w.heap.size + 1, w.heap.size⟩ ⟨List.replicate c 0, locksAt l 0, 0⟩).toArray T)
      simpa only [s1] using this
    · exact ((Blk.new w _ _).alloc _).alloc _

theorem locksAt_all (l : Nat) : locksAt l l = List.replicate l (-1) := by simp [locksAt]
set_option maxHeartbeats 1600000 in
theorem new_ok (w : World) (c l : Nat) (hc0 : 1 ≤ c) (hc1 : c ≤ 1048576) (hl : l ≤ 128) :
    Calls Try.prog 15 #[.int .i64 c, .int .i64 l] w (MadeMem 97 w (MemS.new c l)) := by
  have hm1 := print_make (P := Try.prog) 44 29 .u64 8 Try.underlying44 info_u64 (by omega) c (by omega)
  have hm2 := print_make (P := Try.prog) 22 3 .i64 8 Try.underlying22 info_int (by omega) l (by omega)
  go_enter Try.func15, Try.ntmps15
  go_wp2
  go_region
  · have HM0 : Aside0 (MemAt 97 (((w.alloc (.cells (madeCells #[.int .u64 0] c) 29)).alloc (.cells (madeCells #[.int .i64 0] l) 3)).alloc (.cells (topOf ⟨w.heap.size + 1 + 1, w.heap.size, w.heap.size + 1⟩ ⟨List.replicate c 0, locksAt l 0, 0⟩).toArray 97)).drew ⟨w.heap.size + 1 + 1, w.heap.size, w.heap.size + 1⟩ ⟨List.replicate c 0, locksAt l 0, 0⟩) := ⟨made_start false w c l hc1 hl (by decide) (by decide)⟩
    have HB0 : Aside0 (Below w.heap.size w (((w.alloc (.cells (madeCells #[.int .u64 0] c) 29)).alloc (.cells (madeCells #[.int .i64 0] l) 3)).alloc (.cells (topOf ⟨w.heap.size + 1 + 1, w.heap.size, w.heap.size + 1⟩ ⟨List.replicate c 0, locksAt l 0, 0⟩).toArray 97)).drew) := ⟨Below.drew (below_alloc (below_alloc (below_alloc (Below.refl _ _) _) _) _)⟩
    have hbl : w.heap.size ≤ w.heap.size + 1 := by omega
    clear hm1 hm2
    go_wp2
    go_loopg [33] l (fun kq v33 wr => ∃ k : Nat, Aside0 (kq = l - k) ∧ k ≤ l ∧ v33 = .int .i64 (k : Int) ∧ Aside0 (MemAt 97 wr ⟨w.heap.size + 1 + 1, w.heap.size, w.heap.size + 1⟩ ⟨List.replicate c 0, locksAt l k, 0⟩) ∧ Aside0 (Below w.heap.size w wr))
    case atStart => exact ⟨0, ⟨by omega⟩, Nat.zero_le _, rfl, by simpa [topOf, locksAt] using HM0, by simpa [topOf, locksAt] using HB0⟩
    case round =>
      obtain ⟨k, HKQ, hk, rfl, HM, HB⟩ := hrel
      by_cases hlt : k < l
      · have hx1 : wr.cell? ⟨w.heap.size + 1 + 1, 1, none⟩ = some (.slice (some ⟨w.heap.size + 1, 0, none⟩) l l) := (HM.out.top.cell 1).trans (by simp [topOf, locksAt_length l k hk])
        have hxi : wr.cell? ⟨w.heap.size + 1, k, none⟩ = some (.int .i64 0) := (HM.out.locks.cell _).trans (by simp [nums, locksAt_rd l k hlt])
        have hfi := HM.out.locks.frozen k
        go_wp2
        go_roundg (l - (k + 1))
        case measure => have := HKQ.out; omega
        case rel => exact ⟨k + 1, ⟨rfl⟩, by omega, by simp, ⟨by have h := put_lock HM.out (k : Int) (-1) (by omega); simp only [Int.toNat_natCast, locksAt_set l k hlt] at h; exact h⟩, ⟨HB.out.setCell hbl _⟩⟩
      · have hkm : k = l := by omega
        subst hkm
        go_wp2
        go_ret2
        exact ⟨⟨w.heap.size + 1 + 1, w.heap.size, w.heap.size + 1⟩, rfl, by simpa only [MemS.new, Int.toNat_natCast, locksAt_all] using HM.out, HB.out, fun k hk => by rcases hk with h | h | h <;> simp at h <;> omega⟩
  · have HM0 : Aside0 (MemAt 97 (((w.alloc (.cells (madeCells #[.int .i64 0] l) 3)).alloc (.cells (madeCells #[.int .u64 0] c) 29)).alloc (.cells (topOf ⟨w.heap.size + 1 + 1, w.heap.size + 1, w.heap.size⟩ ⟨List.replicate c 0, locksAt l 0, 0⟩).toArray 97)).drew ⟨w.heap.size + 1 + 1, w.heap.size + 1, w.heap.size⟩ ⟨List.replicate c 0, locksAt l 0, 0⟩) := ⟨made_start true w c l hc1 hl (by decide) (by decide)⟩
    have HB0 : Aside0 (Below w.heap.size w (((w.alloc (.cells (madeCells #[.int .i64 0] l) 3)).alloc (.cells (madeCells #[.int .u64 0] c) 29)).alloc (.cells (topOf ⟨w.heap.size + 1 + 1, w.heap.size + 1, w.heap.size⟩ ⟨List.replicate c 0, locksAt l 0, 0⟩).toArray 97)).drew) := ⟨Below.drew (below_alloc (below_alloc (below_alloc (Below.refl _ _) _) _) _)⟩
    have hbl : w.heap.size ≤ w.heap.size := by omega
    clear hm1 hm2
    go_wp2
    go_loopg [33] l (fun kq v33 wr => ∃ k : Nat, Aside0 (kq = l - k) ∧ k ≤ l ∧ v33 = .int .i64 (k : Int) ∧ Aside0 (MemAt 97 wr ⟨w.heap.size + 1 + 1, w.heap.size + 1, w.heap.size⟩ ⟨List.replicate c 0, locksAt l k, 0⟩) ∧ Aside0 (Below w.heap.size w wr))
    case atStart => exact ⟨0, ⟨by omega⟩, Nat.zero_le _, rfl, by simpa [topOf, locksAt] using HM0, by simpa [topOf, locksAt] using HB0⟩
    case round =>
      obtain ⟨k, HKQ, hk, rfl, HM, HB⟩ := hrel
      by_cases hlt : k < l
      · have hx1 : wr.cell? ⟨w.heap.size + 1 + 1, 1, none⟩ = some (.slice (some ⟨w.heap.size, 0, none⟩) l l) := (HM.out.top.cell 1).trans (by simp [topOf, locksAt_length l k hk])
        have hxi : wr.cell? ⟨w.heap.size, k, none⟩ = some (.int .i64 0) := (HM.out.locks.cell _).trans (by simp [nums, locksAt_rd l k hlt])
        have hfi := HM.out.locks.frozen k
        go_wp2
        go_roundg (l - (k + 1))
        case measure => have := HKQ.out; omega
        case rel => exact ⟨k + 1, ⟨rfl⟩, by omega, by simp, ⟨by have h := put_lock HM.out (k : Int) (-1) (by omega); simp only [Int.toNat_natCast, locksAt_set l k hlt] at h; exact h⟩, ⟨HB.out.setCell hbl _⟩⟩
      · have hkm : k = l := by omega
        subst hkm
        go_wp2
        go_ret2
        exact ⟨⟨w.heap.size + 1 + 1, w.heap.size + 1, w.heap.size⟩, rfl, by simpa only [MemS.new, Int.toNat_natCast, locksAt_all] using HM.out, HB.out, fun k hk => by rcases hk with h | h | h <;> simp at h <;> omega⟩
set_option maxHeartbeats 1600000 in
theorem rnew_ok (w : World) (c l : Nat) (hc0 : 1 ≤ c) (hc1 : c ≤ 1048576) (hl : l ≤ 128) :
    Calls Try.prog 23 #[.int .i64 c, .int .i64 l] w (MadeMem1 46 w (MemS.new c l)) := by
  have hm1 := print_make (P := Try.prog) 44 29 .u64 8 Try.underlying44 info_u64 (by omega) c (by omega)
  have hm2 := print_make (P := Try.prog) 22 3 .i64 8 Try.underlying22 info_int (by omega) l (by omega)
  go_enter Try.func23, Try.ntmps23
  go_wp2
  go_region
  · have HM0 : Aside0 (MemAt 46 (((w.alloc (.cells (madeCells #[.int .u64 0] c) 29)).alloc (.cells (madeCells #[.int .i64 0] l) 3)).alloc (.cells (topOf ⟨w.heap.size + 1 + 1, w.heap.size, w.heap.size + 1⟩ ⟨List.replicate c 0, locksAt l 0, 0⟩).toArray 46)).drew ⟨w.heap.size + 1 + 1, w.heap.size, w.heap.size + 1⟩ ⟨List.replicate c 0, locksAt l 0, 0⟩) := ⟨made_start false w c l hc1 hl (by decide) (by decide)⟩
    have HB0 : Aside0 (Below w.heap.size w (((w.alloc (.cells (madeCells #[.int .u64 0] c) 29)).alloc (.cells (madeCells #[.int .i64 0] l) 3)).alloc (.cells (topOf ⟨w.heap.size + 1 + 1, w.heap.size, w.heap.size + 1⟩ ⟨List.replicate c 0, locksAt l 0, 0⟩).toArray 46)).drew) := ⟨Below.drew (below_alloc (below_alloc (below_alloc (Below.refl _ _) _) _) _)⟩
    have hbl : w.heap.size ≤ w.heap.size + 1 := by omega
    clear hm1 hm2
    go_wp2
    go_loopg [6] l (fun kq v33 wr => ∃ k : Nat, Aside0 (kq = l - k) ∧ k ≤ l ∧ v33 = .int .i64 (k : Int) ∧ Aside0 (MemAt 46 wr ⟨w.heap.size + 1 + 1, w.heap.size, w.heap.size + 1⟩ ⟨List.replicate c 0, locksAt l k, 0⟩) ∧ Aside0 (Below w.heap.size w wr))
    case atStart => exact ⟨0, ⟨by omega⟩, Nat.zero_le _, rfl, by simpa [topOf, locksAt] using HM0, by simpa [topOf, locksAt] using HB0⟩
    case round =>
      obtain ⟨k, HKQ, hk, rfl, HM, HB⟩ := hrel
      by_cases hlt : k < l
      · have hx1 : wr.cell? ⟨w.heap.size + 1 + 1, 1, none⟩ = some (.slice (some ⟨w.heap.size + 1, 0, none⟩) l l) := (HM.out.top.cell 1).trans (by simp [topOf, locksAt_length l k hk])
        have hxi : wr.cell? ⟨w.heap.size + 1, k, none⟩ = some (.int .i64 0) := (HM.out.locks.cell _).trans (by simp [nums, locksAt_rd l k hlt])
        have hfi := HM.out.locks.frozen k
        go_wp2
        go_roundg (l - (k + 1))
        case measure => have := HKQ.out; omega
        case rel => exact ⟨k + 1, ⟨rfl⟩, by omega, by simp, ⟨by have h := put_lock HM.out (k : Int) (-1) (by omega); simp only [Int.toNat_natCast, locksAt_set l k hlt] at h; exact h⟩, ⟨HB.out.setCell hbl _⟩⟩
      · have hkm : k = l := by omega
        subst hkm
        go_wp2
        go_ret
        exact ⟨⟨w.heap.size + 1 + 1, w.heap.size, w.heap.size + 1⟩, rfl, by simpa only [MemS.new, Int.toNat_natCast, locksAt_all] using HM.out, HB.out, fun k hk => by rcases hk with h | h | h <;> simp at h <;> omega⟩
  · have HM0 : Aside0 (MemAt 46 (((w.alloc (.cells (madeCells #[.int .i64 0] l) 3)).alloc (.cells (madeCells #[.int .u64 0] c) 29)).alloc (.cells (topOf ⟨w.heap.size + 1 + 1, w.heap.size + 1, w.heap.size⟩ ⟨List.replicate c 0, locksAt l 0, 0⟩).toArray 46)).drew ⟨w.heap.size + 1 + 1, w.heap.size + 1, w.heap.size⟩ ⟨List.replicate c 0, locksAt l 0, 0⟩) := ⟨made_start true w c l hc1 hl (by decide) (by decide)⟩
    have HB0 : Aside0 (Below w.heap.size w (((w.alloc (.cells (madeCells #[.int .i64 0] l) 3)).alloc (.cells (madeCells #[.int .u64 0] c) 29)).alloc (.cells (topOf ⟨w.heap.size + 1 + 1, w.heap.size + 1, w.heap.size⟩ ⟨List.replicate c 0, locksAt l 0, 0⟩).toArray 46)).drew) := ⟨Below.drew (below_alloc (below_alloc (below_alloc (Below.refl _ _) _) _) _)⟩
    have hbl : w.heap.size ≤ w.heap.size := by omega
    clear hm1 hm2
    go_wp2
    go_loopg [6] l (fun kq v33 wr => ∃ k : Nat, Aside0 (kq = l - k) ∧ k ≤ l ∧ v33 = .int .i64 (k : Int) ∧ Aside0 (MemAt 46 wr ⟨w.heap.size + 1 + 1, w.heap.size + 1, w.heap.size⟩ ⟨List.replicate c 0, locksAt l k, 0⟩) ∧ Aside0 (Below w.heap.size w wr))
    case atStart => exact ⟨0, ⟨by omega⟩, Nat.zero_le _, rfl, by simpa [topOf, locksAt] using HM0, by simpa [topOf, locksAt] using HB0⟩
    case round =>
      obtain ⟨k, HKQ, hk, rfl, HM, HB⟩ := hrel
      by_cases hlt : k < l
      · have hx1 : wr.cell? ⟨w.heap.size + 1 + 1, 1, none⟩ = some (.slice (some ⟨w.heap.size, 0, none⟩) l l) := (HM.out.top.cell 1).trans (by simp [topOf, locksAt_length l k hk])
        have hxi : wr.cell? ⟨w.heap.size, k, none⟩ = some (.int .i64 0) := (HM.out.locks.cell _).trans (by simp [nums, locksAt_rd l k hlt])
        have hfi := HM.out.locks.frozen k
        go_wp2
        go_roundg (l - (k + 1))
        case measure => have := HKQ.out; omega
        case rel => exact ⟨k + 1, ⟨rfl⟩, by omega, by simp, ⟨by have h := put_lock HM.out (k : Int) (-1) (by omega); simp only [Int.toNat_natCast, locksAt_set l k hlt] at h; exact h⟩, ⟨HB.out.setCell hbl _⟩⟩
      · have hkm : k = l := by omega
        subst hkm
        go_wp2
        go_ret
        exact ⟨⟨w.heap.size + 1 + 1, w.heap.size + 1, w.heap.size⟩, rfl, by simpa only [MemS.new, Int.toNat_natCast, locksAt_all] using HM.out, HB.out, fun k hk => by rcases hk with h | h | h <;> simp at h <;> omega⟩

theorem new_err (w : World) (c l : Int) (h : ¬ (1 ≤ c ∧ c ≤ 1048576 ∧ 0 ≤ l ∧ l ≤ 128)) :
    Calls Try.prog 15 #[.int .i64 c, .int .i64 l] w fun e w' => e = .returned (.tuple #[.pointer none, .int .i64 1]) ∧ w = w' := by
  by_cases h1 : c < 1
  · clear h
    go_enter Try.func15, Try.ntmps15
    go_wp2
    go_ret2
    exact ⟨rfl, rfl⟩
  · by_cases h2 : 1048576 < c
    · clear h
      go_enter Try.func15, Try.ntmps15
      go_wp2
      go_ret2
      exact ⟨rfl, rfl⟩
    · by_cases h3 : l < 0
      · clear h
        go_enter Try.func15, Try.ntmps15
        go_wp2
        go_ret2
        exact ⟨rfl, rfl⟩
      · have h4 : 128 < l := by omega
        clear h
        go_enter Try.func15, Try.ntmps15
        go_wp2
        go_ret2
        exact ⟨rfl, rfl⟩
theorem rnew_err (w : World) (c l : Int) (h : ¬ (1 ≤ c ∧ c ≤ 1048576 ∧ 0 ≤ l ∧ l ≤ 128)) :
    Calls Try.prog 23 #[.int .i64 c, .int .i64 l] w fun e w' => e = .returned (.pointer none) ∧ w = w' := by
  by_cases h1 : c < 1
  · clear h
    go_enter Try.func23, Try.ntmps23
    go_wp2
    go_ret
    exact ⟨rfl, rfl⟩
  · by_cases h2 : 1048576 < c
    · clear h
      go_enter Try.func23, Try.ntmps23
      go_wp2
      go_ret
      exact ⟨rfl, rfl⟩
    · by_cases h3 : l < 0
      · clear h
        go_enter Try.func23, Try.ntmps23
        go_wp2
        go_ret
        exact ⟨rfl, rfl⟩
      · have h4 : 128 < l := by omega
        clear h
        go_enter Try.func23, Try.ntmps23
        go_wp2
        go_ret
        exact ⟨rfl, rfl⟩

end Go.Proofs.Ytejplbeddcpmeaa.Mem
