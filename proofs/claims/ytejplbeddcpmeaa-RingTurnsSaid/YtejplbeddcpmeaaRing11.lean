/- The reference's queue; whether two rows are the same; no condition. -/
import Derived.Test.YtejplbeddcpmeaaRing10
import Derived.RegionTactic
import Derived.Deep.QuietTactic
import Derived.BigQuiet
namespace Go.Proofs.Ytejplbeddcpmeaa.Ring
open Go.RowKit Go.Proofs.YtejplbeddcpmeaaW.PrintWords Go.Proofs.Ytejplbeddcpmeaa.Heap Go.Proofs.Ytejplbeddcpmeaa.Mem
set_option linter.unusedVariables false
set_option linter.unusedSimpArgs false

/-- A queue of the law's own: its block, its row from base on. -/
def QAt (base : Nat) (w : World) (qb : Nat) (n : Int) (L : List Int) : Prop := ∃ v, Blk w qb [.int .i64 n, v] 65 ∧ OwnU base w v L
/-- What an act of the queue may change: its block, rows of numbers from base on. -/
def QS (base qb : Nat) (w : World) (k : Nat) : Prop := k = qb ∨ (base ≤ k ∧ ∃ cs, w.heap[k]? = some (.cells cs 29 (0, 0)))
theorem Blk.drewx {w : World} {b t : Nat} {cs : List Value} (h : Blk w b cs t) : Blk w.drew b cs t := h
theorem own_qs {base qb : Nat} {w w1 : World} {v : Value} {n : Nat} {xs : List Value} (h : w.ownsRow base 29 1 v n xs) (hg : w.grownBy w1 v.ownBlock) : Chg (QS base qb w) w w1 :=
  ⟨hg.os, hg.tape, hg.output, hg.size, fun k hk hn => hg.block k hk (fun e => hn (.inr ⟨own_base h k e.symm, own_typed h k e.symm⟩))⟩
theorem qs_blk {base qb : Nat} {w w' : World} {b t : Nat} {cs : List Value} (h : Blk w b cs t) (hc : Chg (QS base qb w) w w') (h1 : b ≠ qb) (h2 : t ≠ 29) : Blk w' b cs t :=
  Blk.chg h hc (by
    rintro (e | ⟨_, cs', e⟩)
    · exact h1 e
    · have h' : w.heap[b]? = some (.cells cs.toArray t (0, 0)) := h
      rw [h'] at e
      injection e with e
      injection e with _ e
      exact h2 e)
theorem qs_low {base qb : Nat} {w w' : World} {b t : Nat} {cs : List Value} (h : Blk w b cs t) (hc : Chg (QS base qb w) w w') (h1 : b ≠ qb) (h2 : b < base) : Blk w' b cs t :=
  Blk.chg h hc (by
    rintro (e | ⟨e, _⟩)
    · exact h1 e
    · omega)
theorem own_one {w : World} {base : Nat} {v : Value} {n : Nat} {xs : List Value} (h : w.ownsRow base 29 1 v n xs) : v.oneCell' = true := by
  obtain ⟨A, c, rfl⟩ := own_slice h
  rfl
set_option maxHeartbeats 1600000 in
theorem qpush (base : Nat) (w : World) (qb : Nat) (n : Int) (L : List Int) (y : Int) (h : QAt base w qb n L) (hb : base ≤ w.heap.size) (hl : L.length ≤ 1000) :
    Calls Try.prog 41 #[pt qb, .int .u64 y] w fun e w' => e = .returned (.bool (decide ((L.length : Int) < n))) ∧ QAt base w' qb n (if (L.length : Int) < n then L ++ [y] else L) ∧ Chg (QS base qb w) w w' := by
  obtain ⟨v, hq, ho⟩ := h
  obtain ⟨A, c, rfl⟩ := own_slice ho
  have HQ := Aside0.mk hq
  have HO := Aside0.mk (show w.ownsRow base 29 1 (.slice A L.length c) L.length (nums .u64 L) from ho)
  have hx0 : w.cell? ⟨qb, 0, none⟩ = some (.int .i64 n) := (Blk.cell hq 0).trans rfl
  have hx1 : w.cell? ⟨qb, 1, none⟩ = some (.slice A L.length c) := (Blk.cell hq 1).trans rfl
  have hf1 := Blk.frozen hq 1
  have hqt := Blk.lt hq
  clear hq ho
  by_cases hlt : (L.length : Int) < n
  · rw [if_pos hlt, decide_eq_true hlt]
    go_enter Try.func41, Try.ntmps41
    go_wp2
    go_region
    go_wp2_with (at_builtin; (first | rw [← World.alloc_drew] | skip); refine print_append_num (w0 := w) (W := w.drew) base rfl (.tmp 19) (.tmp 21) 44 29 .u64 8 rfl Try.underlying44 info_u64 (by decide) _ L y rfl rfl HO.out.drew ((Below.refl base w).drew) hb (by omega) ?_; intro v1 w1 hown hB hgr hat; obtain ⟨A1, c1, e1⟩ := own_slice hown; subst e1; rw [show (L ++ [y]).length = L.length + 1 from by simp] at hown; have HO1 := Aside0.mk hown; have HG := Aside0.mk hgr; have HQ1 := Aside0.mk (show Blk w1 qb [.int .i64 n, .slice A L.length c] 65 from blk_grown (w := w.drew) HQ.out hgr (own_ne HO.out HQ.out (by decide))); have hx1 : w1.cell? ⟨qb, 1, none⟩ = some (.slice A L.length c) := (Blk.cell HQ1.out 1).trans rfl; have hf1 := Blk.frozen HQ1.out 1; have hlt1 := own_one HO1.out; clear hown hB hgr hat)
    go_ret
    have hne : (Value.slice A1 (L.length + 1) c1).ownBlock ≠ some qb := fun e => by
      have k := own_typed HO1.out qb e
      obtain ⟨cs, k⟩ := k
      have k2 : w1.heap[qb]? = some (.cells [Value.int .i64 n, .slice A L.length c].toArray 65 (0, 0)) := HQ1.out
      rw [k2] at k
      injection k with k
      injection k with _ k
      exact absurd k (by decide)
    exact ⟨rfl, ⟨.slice A1 (L.length + 1) c1, (Blk.set HQ1.out 1 _).eq rfl, (by unfold OwnU; rw [show (L ++ [y]).length = L.length + 1 from by simp]; exact own_setCell HO1.out (fun e => hne e.symm) _)⟩, (Chg.trans (Chg.refl _ _).drew ((own_qs (qb := qb) (w := w.drew) HO.out.drew HG.out).mono (fun k hk s => s))).set (.inl (.inl rfl)) _⟩
  · rw [if_neg hlt, decide_eq_false hlt]
    have hge : n ≤ (L.length : Int) := by omega
    clear hlt
    go_enter Try.func41, Try.ntmps41
    go_wp2
    go_region
    all_goals (go_wp2; go_ret)
    all_goals exact ⟨rfl, ⟨_, Blk.drewx HQ.out, HO.out.drew⟩, (Chg.refl _ _).drew⟩
set_option maxHeartbeats 1600000 in
theorem qpop_none (base : Nat) (w : World) (qb : Nat) (n : Int) (h : QAt base w qb n []) :
    Calls Try.prog 43 #[pt qb] w fun e w' => e = .returned (.tuple #[.int .u64 0, .bool false]) ∧ w = w' := by
  obtain ⟨v, hq, ho⟩ := h
  obtain ⟨A, c, rfl⟩ := own_slice ho
  have hx1 : w.cell? ⟨qb, 1, none⟩ = some (.slice A ([] : List Int).length c) := (Blk.cell hq 1).trans rfl
  simp only [List.length_nil] at hx1
  clear hq ho
  go_enter Try.func43, Try.ntmps43
  go_wp2
  go_ret2
  exact ⟨rfl, rfl⟩
set_option maxHeartbeats 1600000 in
theorem qpop_one (base : Nat) (w : World) (qb : Nat) (n : Int) (y : Int) (L : List Int) (h : QAt base w qb n (y :: L)) (hb : base ≤ w.heap.size) (hl : L.length ≤ 1000) :
    Calls Try.prog 43 #[pt qb] w fun e w' => e = .returned (.tuple #[.int .u64 y, .bool true]) ∧ QAt base w' qb n L ∧ Chg (QS base qb w) w w' := by
  obtain ⟨v, hq, ho⟩ := h
  obtain ⟨A, c, rfl⟩ := own_slice ho
  have hcap := own_cap ho
  have hrd := own_reads' ho
  obtain ⟨i0, hi0, _, hsz, _⟩ := info_parts info_u64
  obtain ⟨A2, hcut, hA2⟩ := print_cut (P := Try.prog) 44 29 .i64 Try.underlying44 hi0 hsz A (y :: L).length c 1 (by simp)
  have hr2 := hA2 w .u64 (y :: L) hcap hrd
  obtain ⟨ad, hA, hx⟩ := hrd.at_ 0 (Int.le_refl _) (by simp)
  subst hA
  have hx2 : w.cell? ad = some (.int .u64 y) := by simpa [rd, Addr.add] using hx
  have hx1 : w.cell? ⟨qb, 1, none⟩ = some (.slice (some ad) (L.length + 1) c) := (Blk.cell hq 1).trans (by simp)
  have e1 : (y :: L).length = L.length + 1 := rfl
  rw [e1] at hcut hr2 hcap
  have e2 : L.length + 1 - 1 = L.length := by omega
  rw [e2] at hcut hr2
  have HQ := Aside0.mk hq
  have HR2 := Aside0.mk (show ReadsInt w .u64 A2 L.length L from hr2)
  have HO := Aside0.mk ho
  have hqt := Blk.lt hq
  have hz : (((L.length : Int) + 1) == 0) = false := beq_eq_false_iff_ne.mpr (by omega)
  have hcut1 : ∀ W : World, (Instr.slice 44 (.slice (some ad) (L.length + 1) c) (some (.int .i64 1)) none none).run Try.prog W = .ok (.slice A2 L.length (c - 1)) W := fun W => hcut W
  clear hq ho hrd hA2 hr2 hx hi0 hsz hcut e1 e2
  go_enter Try.func43, Try.ntmps43
  go_wp2_with (at_builtin; refine print_append_row (w0 := w) (W := w.alloc (.cells #[] 29)) base rfl (.tmp 18) (.tmp 23) 44 29 .u64 8 rfl Try.underlying44 info_u64 (by decide) (.slice (some ⟨w.heap.size, 0, none⟩) 0 0) [] L A2 L.length (c - 1) rfl rfl (own_lit w base 29 .u64 [] hb (by simp)) (HR2.out.allocS _) ((Below.refl base w).alloc hb _) (by simp; omega) (by simp; omega) ?_; intro v1 w1 hown hB hgr hat; obtain ⟨A1, c1, e1⟩ := own_slice hown; subst e1; rw [show (([] : List Int) ++ L).length = L.length from by simp, List.nil_append] at hown; have HO1 := Aside0.mk hown; have HG := Aside0.mk hgr; have HQ1 := Aside0.mk (show Blk w1 qb [.int .i64 n, .slice (some ad) (L.length + 1) c] 65 from blk_grown (Blk.alloc HQ.out _) hgr (by simp [Value.ownBlock]; omega)); have hx1 : w1.cell? ⟨qb, 1, none⟩ = some (.slice (some ad) (L.length + 1) c) := (Blk.cell HQ1.out 1).trans rfl; have hf1 := Blk.frozen HQ1.out 1; have hlt1 := own_one HO1.out; clear hown hB hgr hat)
  go_ret2
  have hne : (Value.slice A1 L.length c1).ownBlock ≠ some qb := fun e => by
    have k := own_typed HO1.out qb e
    obtain ⟨cs, k⟩ := k
    have k2 : w1.heap[qb]? = some (.cells [Value.int .i64 n, .slice (some ad) (L.length + 1) c].toArray 65 (0, 0)) := HQ1.out
    rw [k2] at k
    injection k with k
    injection k with _ k
    exact absurd k (by decide)
  exact ⟨rfl, ⟨.slice A1 L.length c1, (Blk.set HQ1.out 1 _).eq rfl, own_setCell HO1.out (fun e => hne e.symm) _⟩, (Chg.step ((Chg.refl (QS base qb w) w).alloc (.cells #[] 29)) (own_qs (qb := qb) (own_lit w base 29 .u64 [] hb (by simp)) HG.out) (fun k hk s => by
    rcases s with s | ⟨s, cs, e⟩
    · exact .inl s
    · exact .inr ⟨s, cs, (Below.heap_alloc w _ k hk).symm.trans e⟩)).set (.inl (.inl rfl)) _⟩
set_option maxHeartbeats 1600000 in
theorem same_yes (w : World) (A B : Option Addr) (c d : Nat) (L : List Int) (hA : ReadsInt w .u64 A L.length L) (hB : ReadsInt w .u64 B L.length L) :
    Calls Try.prog 44 #[.slice A L.length c, .slice B L.length d] w fun e w' => e = .returned (.bool true) ∧ Drawn0 w w' := by
  have HA := Aside0.mk hA
  have HB := Aside0.mk hB
  have hm := hA.2.1
  clear hA hB
  go_enter Try.func44, Try.ntmps44
  go_wp2
  go_loopg [5] L.length (fun kq v5 w' => ∃ k : Nat, Aside0 (kq = L.length - k) ∧ k ≤ L.length ∧ v5 = .int .i64 (k : Int) ∧ Aside0 (Drawn0 w w'))
  case atStart => exact ⟨0, ⟨by omega⟩, Nat.zero_le _, rfl, ⟨Drawn0.refl _⟩⟩
  case round =>
    obtain ⟨k, HKQ, hk, rfl, HD⟩ := hrel
    have HAr : Aside0 (ReadsInt wr .u64 A L.length L) := ⟨by obtain ⟨n, hn⟩ := HD.out.out; rw [hn]; exact HA.out.drewN n⟩
    have HBr : Aside0 (ReadsInt wr .u64 B L.length L) := ⟨by obtain ⟨n, hn⟩ := HD.out.out; rw [hn]; exact HB.out.drewN n⟩
    by_cases hlt : k < L.length
    · obtain ⟨ad, ea, xa⟩ := HAr.out.at_ (k : Int) (by omega) (by omega)
      obtain ⟨bd, eb, xb⟩ := HBr.out.at_ (k : Int) (by omega) (by omega)
      cases ea
      cases eb
      rw [Int.toNat_natCast] at xa xb
      generalize rd L (k : Int) = y at *
      go_wp2
      go_region
      all_goals (go_wp2; go_roundg (L.length - (k + 1)))
      all_goals (first
        | (case measure => have := HKQ.out; omega)
        | (case rel => exact ⟨k + 1, ⟨rfl⟩, by omega, by simp, ⟨by repeat (first | exact HD.out | apply Drawn0.step | exact HD.out.step 1)⟩⟩))
    · have hkm : k = L.length := by omega
      subst hkm
      go_wp2
      go_ret
      exact ⟨rfl, HD.out⟩

end Go.Proofs.Ytejplbeddcpmeaa.Ring
