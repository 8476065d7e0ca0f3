/- strings.Builder and strings.IndexByte, as mac.Text and mac.Parse use them; no condition. -/
import Derived.Test.YtdohdjfclnlpmaaPMacx0
import Derived.Lib.FrozenHead2
import Derived.Lib.Builder
import Derived.Lib.UnsafeStr
import Derived.Lib.Bytealg
import Derived.Lib.OthersKept
namespace Go.Proofs.Ytdohdjfclnlpmaa.MacW
open Go.RowKit
set_option linter.unusedVariables false
set_option linter.unusedSimpArgs false

abbrev pt (b : Nat) : Value := .pointer (some ⟨b, 0, none⟩)

theorem strings_IndexByte (s : ByteArray) (c : Int) (w : World) :
    Calls Try.prog 57 #[.string s, .int .u8 c] w fun e w' => e = .returned (.int .i64 (Lib.indexByte s.data.toList c.toNat.toUInt8)) ∧ w' = w := by
  go_enter Try.func57, Try.ntmps57
  have k : Calls Try.prog 61 #[.string s, .int .u8 c] w fun e w' => e = .returned (.int .i64 (Lib.indexByte s.data.toList c.toNat.toUInt8)) ∧ w' = w := by
    go_enter Try.func61, Try.ntmps61
    go_wp2
    rw [run_callFunc_extern Try.func64 (by kernel_rfl) (by kernel_rfl) (by kernel_rfl) (e := Extern.BytealgIndexByte.indexByte) (by kernel_rfl), Lib.run_indexByteString]
    simp only [Result.andThen]
    rw [Oper.upon_value]
    go_wp2
    go_ret
    exact ⟨rfl, rfl⟩
  go_wp2_with (go_at_call 61; refine k.mono ?_; rintro e w' ⟨rfl, rfl⟩)
  go_ret
  exact ⟨rfl, rfl⟩

theorem u80 : Try.prog.underlying 80 = some (.pointer 82) := by kernel_rfl
theorem u93 : Try.prog.underlying 93 = some .unsafePointer := by kernel_rfl
theorem u90 : Try.prog.underlying 90 = some (.pointer 5) := by kernel_rfl
theorem u22 : Try.prog.underlying 22 = some (.slice 5) := by kernel_rfl
theorem c5 : Try.prog.cellsOf 5 = 1 := by kernel_rfl
theorem i82 : ∃ j, Try.prog.info? 82 = some j ∧ j.size = 2 := Option.map_eq_some_iff.1 (show (Try.prog.info? 82).map (·.size) = some 2 by kernel_rfl)
theorem lies82 : liesAt Try.prog Try.prog.depth 82 (2 / Try.prog.cellsOf 82) 0 82 1 = true := by kernel_rfl
theorem i5 : ∃ i, Try.prog.info? 5 = some i ∧ i.zero = some (.int .u8 0) ∧ i.size = 1 ∧ i.bytes = 1 := by
  have h : (Try.prog.info? 5).map (fun i => (i.zero, i.size, i.bytes)) = some (some (.int .u8 0), 1, 1) := by kernel_rfl
  obtain ⟨i, hi, e⟩ := Option.map_eq_some_iff.1 h
  simp only [Prod.mk.injEq] at e
  exact ⟨i, hi, e⟩

theorem cc_used (b : Nat) (w : World) (h0 : w.cell? ⟨b, 0, none⟩ = some (pt b)) :
    Calls Try.prog 60 #[pt b] w fun e w' => e = .returned (.tuple #[]) ∧ w' = w := by
  obtain ⟨j, hj, _⟩ := i82
  go_enter Try.func60, Try.ntmps60
  go_wp2
  rw [Lib.run_neq_ptr_same w _ u80 hj]
  go_wp2
  go_end0
  exact ⟨rfl, rfl⟩

theorem cc_fresh (b : Nat) (w : World) (h0 : w.cell? ⟨b, 0, none⟩ = some (.pointer none)) (hsh : w.shape? b = some (82, 2)) (hfz : w.frozen? ⟨b, 0, none⟩ = false) :
    Calls Try.prog 60 #[pt b] w fun e w' => e = .returned (.tuple #[]) ∧ w' = w.setCell ⟨b, 0, none⟩ (pt b) := by
  obtain ⟨j, hj, hjs⟩ := i82
  go_enter Try.func60, Try.ntmps60
  go_wp2
  rw [Lib.run_to_unsafe w ⟨b, 0, none⟩ u80 u93 hj (by rw [hjs]; decide) hsh (Nat.zero_lt_succ 1)]
  simp only [Result.andThen]
  rw [Oper.upon_value]
  go_wp2
  rw [run_callFunc_extern Try.func63 (by kernel_rfl) (by kernel_rfl) (by kernel_rfl) (e := Extern.AbiNoEscape.same) (by kernel_rfl)]
  rw [Lib.run_noEscape]
  simp only [Result.andThen]
  rw [Oper.upon_value]
  go_wp2
  rw [Lib.run_from_unsafe w ⟨b, 0, none⟩ u93 u80 hj hsh lies82]
  simp only [Result.andThen]
  rw [Oper.upon_value]
  go_wp2
  go_end0
  exact ⟨rfl, rfl⟩

/-- A builder in block b: its row stands at B or above. -/
def Bd (B b : Nat) (p : Value) (bs : List Value) (w : World) : Prop :=
  b < B ∧ B ≤ w.heap.size ∧ ∃ v, w.heap[b]? = some (.cells #[p, v] 82 (0, 0)) ∧ w.ownsRowF B 5 1 v bs.length bs

theorem Bd.ne {B b : Nat} {bs : List Value} {w : World} {v : Value} (hb : b < B) (h : w.ownsRowF B 5 1 v bs.length bs) : v.ownBlock ≠ some b := fun e => by have := (h.lt b e).1; omega

/-- Nothing below B but block b has changed. -/
structure Kp (B b : Nat) (w w' : World) : Prop where
  os : w'.os = w.os
  tape : w'.tape = w.tape
  output : w'.output = w.output
  size : w.heap.size ≤ w'.heap.size
  block : ∀ k, k < B → k ≠ b → w'.heap[k]? = w.heap[k]?

theorem Kp.refl (B b : Nat) (w : World) : Kp B b w w := ⟨rfl, rfl, rfl, Nat.le_refl _, fun _ _ _ => rfl⟩
theorem Kp.trans {B b : Nat} {u v w : World} (h : Kp B b u v) (g : Kp B b v w) : Kp B b u w := ⟨g.os.trans h.os, g.tape.trans h.tape, g.output.trans h.output, Nat.le_trans h.size g.size, fun k a c => (g.block k a c).trans (h.block k a c)⟩

def Bu (B b : Nat) (bs : List Value) (w : World) : Prop := Bd B b (.pointer none) bs w ∨ Bd B b (pt b) bs w

theorem copyCheck (B b : Nat) (bs : List Value) (w : World) (h : Bu B b bs w) :
    Calls Try.prog 60 #[pt b] w fun e w' => e = .returned (.tuple #[]) ∧ Bd B b (pt b) bs w' ∧ Kp B b w w' := by
  rcases h with ⟨hB, hS, v, hb, ho⟩ | ⟨hB, hS, v, hb, ho⟩
  · refine (cc_fresh b w (by simp [World.cell?, hb]) (by simp [World.shape?, hb]) (by simp [World.frozen?, hb])).mono ?_
    rintro e w' ⟨rfl, rfl⟩
    refine ⟨rfl, ⟨hB, by simpa [World.setCell] using hS, v, by simp [World.setCell, Array.getElem?_modify, hb], ?_⟩, rfl, rfl, rfl, by simp [World.setCell], fun k _ hk => Below.heap_setCell _ _ _ _ (fun e => hk (by simp [e]))⟩
    refine ho.kept (row := some b) ⟨rfl, rfl, rfl, by simp [World.setCell], fun k _ hk => Below.heap_setCell _ _ _ _ (fun e => hk (by simp [e]))⟩ ?_
    exact Or.inr (Bd.ne hB ho)
  · refine (cc_used b w (by simp [World.cell?, hb])).mono ?_
    rintro e w' ⟨rfl, rfl⟩
    exact ⟨rfl, ⟨hB, hS, v, hb, ho⟩, Kp.refl _ _ _⟩

set_option maxHeartbeats 2000000 in
set_option maxRecDepth 100000 in
theorem WriteByte (B b : Nat) (bs : List Value) (c : Int) (w : World) (h : Bu B b bs w) (hlen : bs.length ≤ 1000) :
    Calls Try.prog 55 #[pt b, .int .u8 c] w fun e w' => e = .returned .nilIface ∧ Bu B b (bs ++ [.int .u8 c]) w' ∧ Kp B b w w' := by
  obtain ⟨i0, hi, hz0, hz1, hz2⟩ := i5
  go_enter Try.func55, Try.ntmps55
  go_wp2_with (go_at_call 60; refine (copyCheck B b bs _ h).mono ?_)
  rintro e w1 ⟨rfl, h1, hk1⟩
  obtain ⟨hB, hS, v, hbk, hown⟩ := h1
  have hne := Bd.ne hB hown
  have c0 : w1.cell? ⟨b, 0, none⟩ = some (.pointer (some ⟨b, 0, none⟩)) := by rw [Lib.cell_of_heap hbk]; rfl
  have c1 : w1.cell? ⟨b, 1, none⟩ = some v := by rw [Lib.cell_of_heap hbk]; rfl
  go_wp2_with (at_builtin; refine wpList_append_ownF _ rfl _ _ 22 rfl B 5 i0 (.int .u8 0) 1 1 u22 hi hz0 hz1 hz2 rfl (by decide) _ _ _ rfl (hown.alloc _) ⟨w1.heap.size, 0, none⟩ 1 1 [.int .u8 c] rfl rfl ?c1 ?c2 ?c3 ?c4 ?c5 ?_)
  case c1 =>
    intro j u hj
    match j, hj with
    | 0, hj => simp at hj; subst hj; simp [Addr.add]
  case c2 => intro u hu; simp at hu; subst hu; rfl
  case c3 => unfold maxLen; omega
  case c4 => omega
  case c5 => simp; omega
  intro v' w2 hown' hgrow _
  have hlt : b < w1.heap.size := by omega
  have hb2 : w2.heap[b]? = some (.cells #[.pointer (some ⟨b, 0, none⟩), v] 82 (0, 0)) := by
    rw [hgrow.block b (by simp; omega) (fun e => hne e.symm), Lib.alloc_old w1 _ b hlt]
    exact hbk
  have d0 : w2.cell? ⟨b, 0, none⟩ = some (.pointer (some ⟨b, 0, none⟩)) := by rw [Lib.cell_of_heap hb2]; rfl
  have d1 : w2.cell? ⟨b, 1, none⟩ = some v := by rw [Lib.cell_of_heap hb2]; rfl
  have f1 : w2.frozen? ⟨b, 1, none⟩ = false := Lib.frozen_of_heap hb2 1
  obtain ⟨g, cap, rfl⟩ : ∃ g cap, v' = .slice (some ⟨g, 0, none⟩) (bs.length + 1) cap := by
    rcases hown'.2 with ⟨_, h0⟩ | ⟨g, cap, cur, fz, hv, _⟩
    · omega
    · exact ⟨g, cap, hv⟩
  have hs2 : w1.heap.size + 1 ≤ w2.heap.size := by have := hgrow.size; simpa using this
  have hg : B ≤ g := (hown'.lt g rfl).1
  go_wp2
  go_ret
  refine ⟨rfl, .inr ⟨hB, by simp [World.setCell]; omega, .slice (some ⟨g, 0, none⟩) (bs.length + 1) cap, by simp [World.setCell, Array.getElem?_modify, hb2], ?_⟩, hgrow.os.trans hk1.os, hgrow.tape.trans hk1.tape, hgrow.output.trans hk1.output, by have := hk1.size; simp [World.setCell]; omega, fun k hk hkb => ?_⟩
  · rw [List.length_append, List.length_singleton]
    refine hown'.kept (row := some b) ⟨rfl, rfl, rfl, by simp [World.setCell], fun k _ hk => Below.heap_setCell _ _ _ _ (fun e => hk (by simp [e]))⟩ ?_
    exact Or.inr (by simp [Value.ownBlock]; omega)
  · rw [Below.heap_setCell _ _ _ _ (fun e => hkb (by simp [e])), hgrow.block k (by simp; omega) ?_, Lib.alloc_old w1 _ k (by omega)]
    · exact hk1.block k hk hkb
    · intro e
      have := (hown.lt k e.symm).1
      omega

set_option maxHeartbeats 1000000 in
set_option maxRecDepth 100000 in
theorem String_ (B b : Nat) (l : List UInt8) (w : World) (h : Bu B b (Lib.byteCells l) w) (h0 : l ≠ []) :
    Calls Try.prog 56 #[pt b] w fun e w' => e = .returned (.string ⟨l.toArray⟩) ∧ Below b w w' := by
  obtain ⟨p, hB, hS, v, hbk, hown⟩ : ∃ p, Bd B b p (Lib.byteCells l) w := by
    rcases h with h | h
    · exact ⟨_, h⟩
    · exact ⟨_, h⟩
  have hl0 : l.length ≠ 0 := by simpa using h0
  rw [Lib.byteCells_length] at hown
  obtain ⟨g, cap, cur, fz, rfl, hbg, hg, hfz, hnc, hcm, hcs, htake⟩ : ∃ g cap cur fz, v = .slice (some ⟨g, 0, none⟩) l.length cap ∧ B ≤ g ∧ w.heap[g]? = some (.cells cur 5 fz) ∧ fz.2 ≤ l.length * 1 ∧ l.length ≤ cap ∧ cap ≤ maxLen ∧ cur.size = cap * 1 ∧ cur.toList.take (l.length * 1) = Lib.byteCells l := by
    rcases hown.2 with ⟨_, hz⟩ | ⟨g, cap, cur, fz, hv, r⟩
    · exact absurd hz hl0
    · exact ⟨g, cap, cur, fz, hv, r⟩
  have c1 : w.drew.cell? ⟨b, 1, none⟩ = some (.slice (some ⟨g, 0, none⟩) l.length cap) := by
    have : w.drew.heap[b]? = some (.cells #[p, .slice (some ⟨g, 0, none⟩) l.length cap] 82 (0, 0)) := hbk
    rw [Lib.cell_of_heap this]; rfl
  have hSD : (Builtin.unsafeSliceData_ #[22] 90 #[.slice (some ⟨g, 0, none⟩) l.length cap]).run Try.prog w.drew = .ok (.pointer (some ⟨g, 0, none⟩)) w.drew :=
    Lib.run_unsafeSliceData_row _ _ _ _ _ _ (by omega)
  have hUS : (Builtin.unsafeString_ #[90, 3] 9 #[.pointer (some ⟨g, 0, none⟩), .int .i64 l.length]).run Try.prog w.drew = .ok (.string ⟨l.toArray⟩) (w.drew.freeze ⟨g, 0, none⟩ l.length) := by
    refine Lib.run_unsafeString_row w.drew 90 3 9 5 u90 c5 g cur.size (by have hg' : w.drew.heap[g]? = some (.cells cur 5 fz) := hg; simp [World.shape?, hg']) l h0 (by omega) (by unfold maxLen at hcm; omega) ?_
    intro j x hx
    have := hown.cells (g := g) rfl j (.int .u8 x.toNat) (by simp [Lib.byteCells, hx])
    exact this
  go_enter Try.func56, Try.ntmps56
  go_wp2
  go_region
  all_goals (go_wp2; go_ret; exact ⟨rfl, Lib.below_freeze (Below.drew (Below.refl b w)) (p := ⟨g, 0, none⟩) (by simp; omega) _⟩)
end Go.Proofs.Ytdohdjfclnlpmaa.MacW
