/- A ring as a queue: the plain mathematics of its cells; no condition. -/
import Derived.Test.YtejplbeddcpmeaaRing3
namespace Go.Proofs.Ytejplbeddcpmeaa.Ring
set_option linter.unusedVariables false
set_option linter.unusedSimpArgs false
open Go.RowKit Go.Proofs.YtejplbeddcpmeaaW.PrintWords Go.Proofs.Ytejplbeddcpmeaa.Heap Go.Proofs.Ytejplbeddcpmeaa.Mem

theorem u64_eq (x : Int) : IntKind.u64.wrap x = x % 18446744073709551616 := by simp [IntKind.wrap, IntKind.bits, IntKind.signed]

/-- Is there such a cell? -/
abbrev MemS.has (M : MemS) (i : Int) : Prop := 0 ≤ i ∧ i < (M.cells.length : Int)
theorem peek_store {M : MemS} {i : Int} (h : MemS.has M i) (v j : Int) : (M.store i v).peek j = if j = i then v else M.peek j := by
  have h' : 0 ≤ i ∧ i < (M.cells.length : Int) := h
  unfold MemS.store MemS.peek
  rw [if_pos h']
  simp only [List.length_set]
  by_cases e : j = i
  · subst e
    rw [if_pos rfl, if_pos h']
    have : j.toNat < M.cells.length := by have := h.1; have := h.2; omega
    simp [rd, List.getD_eq_getElem?_getD, List.getElem?_set, this]
  · rw [if_neg e]
    split
    · rename_i c
      have : i.toNat ≠ j.toNat := by have := h.1; have := c.1; omega
      simp [rd, List.getD_eq_getElem?_getD, List.getElem?_set, this]
    · rfl
theorem store_len (M : MemS) (i v : Int) : (M.store i v).cells.length = M.cells.length := by unfold MemS.store; split <;> simp
theorem load_len (M : MemS) (i : Int) : (M.load i).cells.length = M.cells.length := by unfold MemS.load; split <;> rfl
theorem store_tick {M : MemS} {i : Int} (h : MemS.has M i) (v : Int) : (M.store i v).time = M.time + 1 := by unfold MemS.store; rw [if_pos (show 0 ≤ i ∧ i < (M.cells.length : Int) from h)]
theorem load_tick {M : MemS} {i : Int} (h : MemS.has M i) : (M.load i).time = M.time + 1 := by unfold MemS.load; rw [if_pos (show 0 ≤ i ∧ i < (M.cells.length : Int) from h)]; rfl

structure LR where
  base : Int
  size : Int
  a : Int
  cnt : Int
  L : List Int
  laid : Option Int

def LR.len (s : LR) : Int := s.L.length
def LR.slot (s : LR) (j : Int) : Int := s.base + 2 + (s.a + j) % s.size
def LR.ring (s : LR) (ib ob : Bool) : RingS := ⟨s.base, s.size, ⟨IntKind.u64.wrap (s.cnt + s.len), (s.a + s.len) % s.size, ib⟩, ⟨s.cnt, s.a, ob⟩⟩

structure LR.Inv (M : MemS) (s : LR) : Prop where
  b0 : 0 ≤ s.base
  b1 : s.base + s.size + 2 ≤ M.cells.length
  b2 : M.cells.length ≤ 1048576
  s0 : 1 ≤ s.size
  s1 : s.size ≤ 64
  a0 : 0 ≤ s.a
  a1 : s.a < s.size
  c0 : 0 ≤ s.cnt ∧ s.cnt ≤ 18446744073709551615
  len : s.len ≤ s.size
  put : M.peek s.base = IntKind.u64.wrap (s.cnt + s.len)
  tak : M.peek (s.base + 1) = s.cnt
  at_ : ∀ j : Nat, j < s.L.length → M.peek (s.slot j) = rd s.L j
  laid : ∀ v, s.laid = some v → s.len < s.size ∧ M.peek (s.slot s.len) = v

theorem mod_in (x : Int) {m : Int} (h : 1 ≤ m) : 0 ≤ x % m ∧ x % m < m := ⟨Int.emod_nonneg _ (by omega), Int.emod_lt_of_pos _ (by omega)⟩
theorem slot_in {M : MemS} {s : LR} (h : s.Inv M) (j : Int) : s.base + 2 ≤ s.slot j ∧ s.slot j < s.base + 2 + s.size := by
  have := mod_in (s.a + j) h.s0
  unfold LR.slot; omega
theorem slot_has {M : MemS} {s : LR} (h : s.Inv M) (j : Int) : MemS.has M (s.slot j) := by
  have := slot_in h j; have := h.b0; have := h.b1
  exact ⟨by omega, by omega⟩
theorem has0 {M : MemS} {s : LR} (h : s.Inv M) : MemS.has M s.base := by have := h.b0; have := h.b1; have := h.s0; exact ⟨by omega, by omega⟩
theorem has1 {M : MemS} {s : LR} (h : s.Inv M) : MemS.has M (s.base + 1) := by have := h.b0; have := h.b1; have := h.s0; exact ⟨by omega, by omega⟩
theorem mod_ne {a m i j : Int} (hm : 1 ≤ m) (h : i < j) (k : j - i < m) : (a + i) % m ≠ (a + j) % m := by
  intro e
  have h1 : (a + j - (a + i)) % m = 0 := Int.emod_eq_emod_iff_emod_sub_eq_zero.1 e.symm
  have h2 : a + j - (a + i) = j - i := by omega
  rw [h2, Int.emod_eq_of_lt (by omega) k] at h1
  omega
theorem slot_ne {M : MemS} {s : LR} (h : s.Inv M) {i j : Int} (hij : i < j) (hj : j - i < s.size) : s.slot i ≠ s.slot j := by
  have := mod_ne (a := s.a) h.s0 hij hj
  unfold LR.slot; omega
theorem ring_ok {M : MemS} {s : LR} (h : s.Inv M) (ib ob : Bool) : RingOk (s.ring ib ob) :=
  ⟨h.b0, by show s.base ≤ _; have := h.b1; have := h.b2; have := h.s0; omega, h.s0, h.s1, u64_in _, mod_in _ h.s0, h.c0, ⟨h.a0, h.a1⟩⟩

/-- How many wait, by the counters. -/
theorem waits {M : MemS} {s : LR} (h : s.Inv M) : IntKind.u64.wrap (IntKind.u64.wrap (s.cnt + s.len) - s.cnt) = s.len := by
  have h1 := h.c0; have h2 := h.len; have h3 := h.s1
  have h4 : 0 ≤ s.len := by unfold LR.len; omega
  rw [u64_eq, u64_eq]; omega
theorem none_waits {M : MemS} {s : LR} (h : s.Inv M) : M.peek s.base = s.cnt ↔ s.L = [] := by
  have h1 := h.c0; have h2 := h.len; have h3 := h.s1
  rw [h.put, u64_eq]
  constructor
  · intro e
    have h4 : s.len = 0 := by have : 0 ≤ s.len := by unfold LR.len; omega
                              omega
    unfold LR.len at h4
    exact List.length_eq_zero_iff.1 (by omega)
  · intro e
    have : s.len = 0 := by unfold LR.len; rw [e]; rfl
    rw [this]; omega

/-- A memory with the same cells as far as this ring goes. -/
theorem Inv.same {M M' : MemS} {s : LR} (h : s.Inv M) (hl : M'.cells.length = M.cells.length) (hp : ∀ i, s.base ≤ i → i < s.base + s.size + 2 → M'.peek i = M.peek i) : s.Inv M' := by
  have s0 := h.s0
  refine ⟨h.b0, by rw [hl]; exact h.b1, by rw [hl]; exact h.b2, h.s0, h.s1, h.a0, h.a1, h.c0, h.len, ?_, ?_, fun j hj => ?_, fun v hv => ?_⟩
  · rw [hp _ (by omega) (by omega)]; exact h.put
  · rw [hp _ (by omega) (by omega)]; exact h.tak
  · have := slot_in h (j : Int)
    rw [hp _ (by omega) (by omega)]; exact h.at_ j hj
  · have := slot_in h s.len
    rw [hp _ (by omega) (by omega)]; exact h.laid v hv
theorem Inv.load {M : MemS} {s : LR} (h : s.Inv M) (i : Int) : s.Inv (M.load i) := Inv.same h (load_len M i) (fun j _ _ => load_peek M i j)
theorem Inv.far {M : MemS} {s : LR} (h : s.Inv M) {i : Int} (hi : MemS.has M i) (v : Int) (hf : i < s.base ∨ s.base + s.size + 2 ≤ i) : s.Inv (M.store i v) :=
  Inv.same h (store_len M i v) (fun j h1 h2 => by rw [peek_store hi, if_neg (by omega)])

/-- A number is laid. -/
theorem Inv.lay {M : MemS} {s : LR} (h : s.Inv M) (hl : s.len < s.size) (v : Int) : LR.Inv (M.store (s.slot s.len) v) { s with laid := some v } := by
  have hs := slot_has h s.len
  have hi := slot_in h s.len
  refine ⟨h.b0, by rw [store_len]; exact h.b1, by rw [store_len]; exact h.b2, h.s0, h.s1, h.a0, h.a1, h.c0, h.len, ?_, ?_, fun j hj => ?_, fun v' hv => ?_⟩
  · rw [peek_store hs, if_neg (by show s.base ≠ _; omega)]; exact h.put
  · rw [peek_store hs, if_neg (by show s.base + 1 ≠ _; omega)]; exact h.tak
  · have hj' : (j : Int) < s.len := by unfold LR.len; exact Int.ofNat_lt.2 hj
    have := slot_ne h (i := (j : Int)) (j := s.len) hj' (by omega)
    show (M.store (s.slot s.len) v).peek (s.slot j) = rd s.L j
    rw [peek_store hs, if_neg this]; exact h.at_ j hj
  · cases hv
    refine ⟨hl, ?_⟩
    show (M.store (s.slot s.len) v).peek (s.slot s.len) = v
    rw [peek_store hs, if_pos rfl]
/-- One more was put. -/
theorem Inv.tell {M : MemS} {s : LR} (h : s.Inv M) {v : Int} (hv : s.laid = some v) : LR.Inv (M.store s.base (IntKind.u64.wrap (IntKind.u64.wrap (s.cnt + s.len) + 1))) { s with laid := none, L := s.L ++ [v] } := by
  have hs := has0 h
  obtain ⟨hl, hp⟩ := h.laid v hv
  have s0 := h.s0
  have hlen : LR.len { s with laid := none, L := s.L ++ [v] } = s.len + 1 := by simp [LR.len]
  refine ⟨h.b0, by rw [store_len]; exact h.b1, by rw [store_len]; exact h.b2, h.s0, h.s1, h.a0, h.a1, h.c0, by rw [hlen]; show _ ≤ s.size; omega, ?_, ?_, fun j hj => ?_, fun v' hv => by cases hv⟩
  · show (M.store s.base _).peek s.base = IntKind.u64.wrap (s.cnt + _)
    rw [peek_store hs, if_pos rfl, hlen, u64_eq, u64_eq, u64_eq]
    omega
  · show (M.store s.base _).peek (s.base + 1) = _
    rw [peek_store hs, if_neg (by omega)]; exact h.tak
  · have hi := slot_in h (j : Int)
    show (M.store s.base _).peek (s.slot j) = rd (s.L ++ [v]) j
    rw [peek_store hs, if_neg (by omega)]
    simp only [List.length_append, List.length_singleton] at hj
    by_cases c : j < s.L.length
    · rw [h.at_ j c]
      simp [rd, List.getD_eq_getElem?_getD, List.getElem?_append_left c]
    · have e : j = s.L.length := by omega
      subst e
      have hp' : M.peek (s.slot ((s.L.length : Nat) : Int)) = v := hp
      rw [hp']
      simp [rd, List.getD_eq_getElem?_getD]
theorem mod_step {a m j : Int} (hm : 1 ≤ m) : ((a + 1) % m + j) % m = (a + (j + 1)) % m := by
  rw [Int.emod_add_emod]
  congr 1; omega
/-- One more was taken. -/
theorem Inv.leave {M : MemS} {s : LR} (h : s.Inv M) {v : Int} {L : List Int} (hv : s.L = v :: L) : LR.Inv (M.store (s.base + 1) (IntKind.u64.wrap (s.cnt + 1))) { s with a := (s.a + 1) % s.size, cnt := IntKind.u64.wrap (s.cnt + 1), L := L } := by
  have hs := has1 h
  have s0 := h.s0
  have hlen : s.len = LR.len { s with a := (s.a + 1) % s.size, cnt := IntKind.u64.wrap (s.cnt + 1), L := L } + 1 := by simp [LR.len, hv]
  have hm := mod_in (s.a + 1) h.s0
  have hsl : ∀ j : Int, LR.slot { s with a := (s.a + 1) % s.size, cnt := IntKind.u64.wrap (s.cnt + 1), L := L } j = s.slot (j + 1) := fun j => by
    unfold LR.slot; show s.base + 2 + ((s.a + 1) % s.size + j) % s.size = _; rw [mod_step h.s0]
  have hln := h.len
  refine ⟨h.b0, by rw [store_len]; exact h.b1, by rw [store_len]; exact h.b2, h.s0, h.s1, hm.1, hm.2, u64_in _, by show _ ≤ s.size; omega, ?_, ?_, fun j hj => ?_, fun v' hv' => ?_⟩
  · show (M.store (s.base + 1) _).peek s.base = IntKind.u64.wrap (IntKind.u64.wrap (s.cnt + 1) + _)
    rw [peek_store hs, if_neg (by omega), h.put, hlen, u64_eq, u64_eq, u64_eq]
    omega
  · show (M.store (s.base + 1) _).peek (s.base + 1) = _
    rw [peek_store hs, if_pos rfl]
  · have hi := slot_in h ((j : Int) + 1)
    rw [hsl, peek_store hs, if_neg (by omega)]
    have hj' : j + 1 < s.L.length := by rw [hv]; simp; exact hj
    have := h.at_ (j + 1) hj'
    rw [show ((j : Int) + 1) = ((j + 1 : Nat) : Int) from by omega, this, hv]
    show rd (v :: L) _ = rd L _
    simp [rd, List.getD_eq_getElem?_getD]
  · obtain ⟨h1, h2⟩ := h.laid v' hv'
    have hi := slot_in h s.len
    refine ⟨by show _ < s.size; omega, ?_⟩
    rw [hsl, ← hlen, peek_store hs, if_neg (by omega)]
    exact h2
theorem head_at {M : MemS} {s : LR} (h : s.Inv M) {v : Int} {L : List Int} (hv : s.L = v :: L) : M.peek (s.base + 2 + s.a) = v := by
  have := h.at_ 0 (by rw [hv]; simp)
  unfold LR.slot at this
  rw [Int.natCast_zero, Int.add_zero, Int.emod_eq_of_lt h.a0 h.a1] at this
  rw [this, hv]; rfl
theorem Inv.unlaid {M : MemS} {s : LR} (h : s.Inv M) : LR.Inv M { s with laid := none } := ⟨h.b0, h.b1, h.b2, h.s0, h.s1, h.a0, h.a1, h.c0, h.len, h.put, h.tak, h.at_, fun v hv => by cases hv⟩

end Go.Proofs.Ytejplbeddcpmeaa.Ring
