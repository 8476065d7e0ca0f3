/- The laws' begin: a memory, rings, a lane; no condition beyond bounds. -/
import Derived.Test.YtejplbeddcpmeaaLane8
namespace Go.Proofs.Ytejplbeddcpmeaa.Lane
open Go.RowKit Go.Proofs.YtejplbeddcpmeaaW.PrintWords Go.Proofs.Ytejplbeddcpmeaa.Heap Go.Proofs.Ytejplbeddcpmeaa.Mem Go.Proofs.Ytejplbeddcpmeaa.Ring
set_option linter.unusedVariables false
set_option linter.unusedSimpArgs false

theorem Chg.of_grown {w w' : World} {row : Option Nat} (h : w.grownBy w' row) : Chg (fun k => some k = row) w w' := ⟨h.os, h.tape, h.output, h.size, fun k hk hn => h.block k hk hn⟩
theorem OwnP.ne {base : Nat} {w : World} {v : Value} {L : List (Option Nat)} (h : OwnP base w v L) {k t : Nat} {cs : List Value} (hb : Blk w k cs t) (ht : t ≠ 52) : ¬ some k = v.ownBlock := by
  intro e
  rcases h.2 with ⟨q, _⟩ | ⟨g, cap, cur, q, _, hg, _⟩
  · rw [q] at e; simp [Value.ownBlock] at e
  · rw [q] at e
    have e2 : k = g := by simpa [Value.ownBlock] using e
    have hB : Blk w g cur.toList 52 := by unfold Blk; simpa using hg
    exact Blk.ne hb hB ht e2
theorem Rings.stay {w w' : World} {p : Mp} {n : Nat} {gs : Nat → Nat} {ss : Nat → LR} {M : MemS} (h : Rings w p n gs ss M) {S : Nat → Prop} (hc : Chg S w w') (hS : ∀ {k t : Nat} {cs : List Value}, Blk w k cs t → t ≠ 52 → t ≠ 91 → t ≠ 111 → ¬ S k) : Rings w' p n gs ss M :=
  ⟨h.m.chg hc (fun k hk => by rcases hk with q | q | q <;> subst q; exact hS h.m.top (by decide) (by decide) (by decide); exact hS h.m.cells (by decide) (by decide) (by decide); exact hS h.m.locks (by decide) (by decide) (by decide)), fun i hi => Blk.chg (h.r i hi) hc (hS (h.r i hi) (by decide) (by decide) (by decide)), h.inv, h.ap, h.ne⟩
def rw_ (n : Nat) (gs : Nat → Nat) : List (Option Nat) := (List.range n).map fun i => some (gs i)
theorem rw_len (n : Nat) (gs : Nat → Nat) : (rw_ n gs).length = n := by simp [rw_]
def startOf (i : Nat) : Int := IntKind.u64.wrap ((i : Int) * 1000003 - 2)
def ini (k : Nat) (i : Nat) : LR := ⟨66 * (i : Int), k, 0, startOf i, [], none⟩
theorem startOf_in (i : Nat) : 0 ≤ startOf i ∧ startOf i ≤ 18446744073709551615 := u64_in _
theorem ini_apart (k : Nat) (hk : k ≤ 64) (i j : Nat) (h : i ≠ j) : Apart (ini k i) (ini k j) := by
  unfold Apart ini
  simp only
  rcases Nat.lt_or_gt_of_ne h with q | q
  · right; omega
  · left; omega
/-- One more ring. -/
theorem Rings.more {w w' : World} {p : Mp} {n k g : Nat} {gs : Nat → Nat} {M : MemS} (h : Rings w p n gs (ini k) M) (hk0 : 1 ≤ k) (hk : k ≤ 64) (hcl : 66 * (n : Int) + 66 ≤ M.cells.length) (hcl2 : M.cells.length ≤ 1048576) (hg : w.heap.size ≤ g) (hc : Chg p.has w w') (hm : MemAt 97 w' p ((M.store (66 * (n : Int)) (startOf n)).store (66 * (n : Int) + 1) (startOf n))) (hr : RingAt w' g p ⟨66 * (n : Int), k, ⟨startOf n, 0, false⟩, ⟨startOf n, 0, false⟩⟩) :
    Rings w' p (n + 1) (fun j => if j = n then g else gs j) (ini k) ((M.store (66 * (n : Int)) (startOf n)).store (66 * (n : Int) + 1) (startOf n)) := by
  have hS := startOf_in n
  have hnew : LR.Inv ((M.store (66 * (n : Int)) (startOf n)).store (66 * (n : Int) + 1) (startOf n)) (ini k n) := new_inv (size := (k : Int)) ⟨by omega, by omega⟩ (by omega) (by omega) hcl2 hS
  refine ⟨hm, fun j hj => ?_, fun j hj => ?_, fun i j _ _ hne => ini_apart k hk i j hne, fun i j hi hj hne => ?_⟩
  · by_cases e : j = n
    · subst e
      rw [if_pos rfl, show (ini k j).ring false false = _ from (new_ring (66 * (j : Int)) k (startOf j) (by omega) hS).symm]
      exact hr
    · rw [if_neg e]
      exact Blk.chg (h.r j (by omega)) hc (ne_mem h.m (h.r j (by omega)) (by decide) (by decide) (by decide))
  · by_cases e : j = n
    · subst e; exact hnew
    · have hI := h.inv j (by omega)
      have hb : (ini k j).base = 66 * (j : Int) := rfl
      have hs : (ini k j).size = (k : Int) := rfl
      refine Inv.far (Inv.far hI ⟨by omega, by omega⟩ _ (.inr (by rw [hb, hs]; omega))) ⟨by omega, by rw [store_len]; omega⟩ _ (.inr (by rw [hb, hs]; omega))
  · have hlt : ∀ j, j < n → gs j < w.heap.size := fun j hj => Blk.lt (h.r j hj)
    by_cases e : i = n
    · rw [if_pos e, if_neg (by omega)]
      have := hlt j (by omega)
      omega
    · by_cases d : j = n
      · rw [if_neg e, if_pos d]
        have := hlt i (by omega)
        omega
      · rw [if_neg e, if_neg d]
        exact h.ne i j (by omega) (by omega) hne
theorem range_more (n g : Nat) (gs : Nat → Nat) : ((List.range (n + 1)).map fun i => some (if i = n then g else gs i)) = ((List.range n).map fun i => some (gs i)) ++ [some g] := by
  rw [List.range_succ, List.map_append]
  congr 1
  · refine List.map_congr_left fun i hi => ?_
    rw [if_neg (by have := List.mem_range.1 hi; omega)]
  · simp
theorem range_none (n : Nat) (gs : Nat → Nat) : ((List.range n).map fun i => some (gs i)).contains none = false := by
  rw [Bool.eq_false_iff]
  intro h
  rw [List.contains_iff_mem] at h
  simp at h

set_option maxHeartbeats 8000000 in
set_option maxRecDepth 100000 in
theorem begin_ (w : World) (n k : Nat) (hn0 : 1 ≤ n) (hn : n ≤ 60) (hk0 : 1 ≤ k) (hk : k ≤ 64) :
    Calls Try.prog 49 #[.int .i64 (n : Int), .int .i64 (k : Int)] w fun e w' => ∃ u p b2 c2 x gs s M, e = .returned (pt u) ∧ LW w' u p b2 c2 x gs (ini k) s M ∧ s.n = n ∧ s.at_ = 0 ∧ M.time ≤ 1000 ∧ Below w.heap.size w w' ∧ w.heap.size ≤ u ∧ w.heap.size ≤ x ∧ (∀ j, p.has j → w.heap.size ≤ j) ∧ (∀ j, j < n → w.heap.size ≤ gs j) := by
  have HMN := Aside0.mk (show Calls Try.prog 15 #[.int .i64 4224, .int .i64 0] w (MadeMem 97 w (MemS.new 4224 0)) from Mem.new_ok w 4224 0 (by decide) (by decide) (by decide))
  have HB := Aside0.mk (Below.refl w.heap.size w)
  go_enter Try.func49, Try.ntmps49
  go_wp2_with (first | (go_at_call 15; (with_reducible refine HMN.out.mono ?_); rintro e w1 ⟨p, rfl, hm, hb, hp⟩; have HM := Aside0.mk hm; have HP := Aside0.mk hp; have HB1 := Aside0.mk hb; clear hm hp hb HB) | ((with_reducible refine gate_dst (N := 19) rfl ?_); refine box_event ?hg (N := 19) ?hd (cs := #[pa p, .slice none 0 0, .pointer none]) (t := 91) ?hr ?_; (case hd => rfl); (case hg => rfl); (case hr => first | (go_simp; done) | (go_simp; rfl)); intro u hu wb hbb hb; have HU := Aside0.mk hbb; have HUW := Aside0.mk (show w.heap.size ≤ u from by rw [hu]; exact HB1.out.size); have HMb := Aside0.mk (MemAt.below HM.out hb); have HBb := Aside0.mk (below_step HB1.out hb); clear hbb hb hu HM HB1))
  go_loopg [8] n (fun kq v8 wr => ∃ (i : Nat) (gs : Nat → Nat) (A : Option Addr) (c : Nat) (M : MemS), Aside0 (kq = n - i) ∧ i ≤ n ∧ v8 = .int .i64 (i : Int) ∧ Aside0 (Blk wr u [pa p, .slice A i c, .pointer none] 91) ∧ Aside0 (OwnP w.heap.size wr (.slice A i c) (rw_ i gs)) ∧ Aside0 (Rings wr p i gs (ini k) M) ∧ Aside0 (M.cells.length = 4224) ∧ Aside0 (M.time ≤ 2 * i) ∧ Aside0 (Below w.heap.size w wr) ∧ Aside0 (∀ j, j < i → w.heap.size ≤ gs j))
  case atStart => exact ⟨0, fun _ => 0, none, 0, _, ⟨by omega⟩, by omega, rfl, HU, ⟨own_nil _ _ _ _⟩, ⟨⟨HMb.out, fun j hj => absurd hj (by omega), fun j hj => absurd hj (by omega), fun i j hi => absurd hi (by omega), fun i j hi => absurd hi (by omega)⟩⟩, ⟨by simp [MemS.new]⟩, ⟨by simp [MemS.new]⟩, HBb, ⟨fun j hj => absurd hj (by omega)⟩⟩
  case round =>
    clear HU HMb HBb
    obtain ⟨i, gs, A, c, M, HKQ, hi, rfl, HU, HO, HR, HCL, HT, HB, HG⟩ := hrel
    have HST := Aside0.mk (startOf_in i)
    by_cases hlt : i < n
    · have e1 : IntKind.i64.wrap ((i : Int) * 66) = 66 * (i : Int) := by rw [i64_id (by omega)]; omega
      have e2 : IntKind.u64.wrap (i : Int) = (i : Int) := u64_id (by omega)
      have e3 : IntKind.u64.wrap ((i : Int) * 1000003 - 2) = startOf i := rfl
      have hd : decide ((i : Int) < (n : Int)) = true := decide_eq_true (by omega)
      go_wp2_with (first
        | (go_at_call 30; (with_reducible refine (ringNew_ok _ p M (66 * (i : Int)) (k : Int) (startOf i) HR.out.m (by have := HT.out; omega) ⟨by omega, by omega⟩ (by omega) (by rw [HCL.out]; omega) HST.out).mono ?_); rintro e w2 ⟨g, rfl, hm2, hr2, hc2, hg2⟩; have HR2 := Aside0.mk (HR.out.more (by omega) hk (by rw [HCL.out]; omega) (by rw [HCL.out]; omega) hg2 hc2 hm2 hr2); have HO2 := Aside0.mk (HO.out.chg hc2 (fun k cs hb => ne_mem HR.out.m hb (by decide) (by decide) (by decide))); have HU2 := Aside0.mk (Blk.chg HU.out hc2 (ne_mem HR.out.m HU.out (by decide) (by decide) (by decide))); have HB2 := Aside0.mk (below_chg HB.out hc2 HB.out.size HP.out); have HG2 := Aside0.mk (Nat.le_trans HB.out.size hg2); have y1 : w2.cell? ⟨u, 1, none⟩ = some (.slice A i c) := (Blk.cell HU2.out 1).trans rfl; have f1 := Blk.frozen HU2.out 1; clear hm2 hr2 hc2 hg2)
        | (at_builtin; (first | rw [← World.alloc_drew] | skip); refine print_append_of (w0 := w) (W := w2) ptr w.heap.size rfl (.tmp 47) (.tmp 49) 88 52 (.pointer none) 8 rfl Try.underlying88 (by kernel_rfl) rfl (by omega) (.slice A i c) (rw_ i gs) (some g) rfl rfl rfl HO2.out HB2.out HB2.out.size (by rw [rw_len]; omega) ?_; intro v1 w3 hown hB hgr hat; have HB3 := Aside0.mk hB; have HC3 := Aside0.mk (Chg.of_grown hgr); have HO3 := Aside0.mk (show OwnP w.heap.size w3 v1 (rw_ i gs ++ [some g]) from hown); have HR3 := Aside0.mk (HR2.out.stay HC3.out (fun hb h1 _ _ => HO2.out.ne hb h1)); have HU3 := Aside0.mk (Blk.chg HU2.out HC3.out (HO2.out.ne HU2.out (by decide))); clear hown hB hgr hat; obtain ⟨A1, c1, ev1, _, _⟩ := HO3.out.reads; rw [show (rw_ i gs ++ [some g]).length = i + 1 from by simp [rw_len]] at ev1; subst ev1; clear y1 f1; have y1 : w3.cell? ⟨u, 1, none⟩ = some (.slice A i c) := (Blk.cell HU3.out 1).trans rfl; have f1 := Blk.frozen HU3.out 1))
      go_roundg (n - (i + 1))
      case measure => have := HKQ.out; omega
      case rel => exact ⟨i + 1, fun j => if j = i then g else gs j, A1, c1, _, ⟨rfl⟩, by omega, by simp, ⟨Blk.eq (Blk.set HU3.out 1 _) rfl⟩, ⟨by
          have h := HO3.out.chg (Chg.set (S := fun j => j = u) (Chg.refl _ w3) (p := ⟨u, 1, none⟩) (.inl rfl) (.slice A1 (i + 1) c1)) (fun k cs hb => Blk.ne hb HU3.out (by decide))
          rw [show rw_ i gs ++ [some g] = rw_ (i + 1) (fun j => if j = i then g else gs j) from (range_more i g gs).symm] at h
          exact h⟩, ⟨HR3.out.stay (Chg.set (S := fun j => j = u) (Chg.refl _ w3) (p := ⟨u, 1, none⟩) (.inl rfl) (.slice A1 (i + 1) c1)) (fun hb _ h2 _ => Blk.ne hb HU3.out h2)⟩, ⟨by rw [store_len, store_len]; exact HCL.out⟩, ⟨by have h1 := store_time M (66 * (i : Int)) (startOf i); have h2 := store_time (M.store (66 * (i : Int)) (startOf i)) (66 * (i : Int) + 1) (startOf i); have := HT.out; push_cast; omega⟩, ⟨below_set HB3.out HUW.out⟩, ⟨fun j hj => by
          by_cases e : j = i
          · simp only [e, if_true]; exact HG2.out
          · simp only [if_neg e]; exact HG.out j (by omega)⟩⟩
    · obtain rfl : i = n := by omega
      have hd : decide ((i : Int) < (i : Int)) = false := decide_eq_false (by omega)
      have HRD := Aside0.mk HO.out.reads
      have hwlk : IntKind.i64.wrap 0 = 0 := rfl
      have y1 : wr.cell? ⟨u, 1, none⟩ = some (.slice A i c) := (Blk.cell HU.out 1).trans rfl
      have f2 := Blk.frozen HU.out 2
      have HNW := Aside0.mk (show ∃ c', c' = c ∧ Calls Try.prog 59 #[.slice A i c'] wr fun e w' => ∃ x v, e = .returned (.tuple #[pt x, .int .i64 0]) ∧ Blk w' x [v, .int .i64 0, .pointer none] 111 ∧ OwnP wr.heap.size w' v (rw_ i gs) ∧ Below wr.heap.size wr w' ∧ wr.heap.size ≤ x from by
        obtain ⟨A', c', e', hrd, _⟩ := HO.out.reads
        rw [rw_len] at e'
        injection e' with q1 q2 q3
        subst q1; subst q3
        have h := new_ok wr A c (rw_ i gs) hrd (by rw [rw_len]; omega) (by rw [rw_len]; omega) (range_none i gs)
        rw [rw_len] at h
        exact ⟨c, rfl, h⟩)
      obtain ⟨c', hcc, hnew⟩ := HNW.out
      subst hcc
      have HNEW := Aside0.mk hnew
      clear hnew HNW HRD
      go_wp2_with (go_at_call 59; (with_reducible refine HNEW.out.mono ?_); rintro e w4 ⟨x, v, rfl, hx, ho, hb, hxw⟩; have HX := Aside0.mk hx; have HO4 := Aside0.mk ho; have HB4 := Aside0.mk hb; have HXW := Aside0.mk hxw; have HU4 := Aside0.mk (Blk.below HU.out hb); clear y1 f2 hx ho hb hxw; have y2 : w4.cell? ⟨u, 2, none⟩ = some (.pointer none) := (Blk.cell HU4.out 2).trans rfl; have f2 := Blk.frozen HU4.out 2)
      go_ret
      obtain ⟨b2, c2, e2, hrow2, hb2⟩ := HO.out.row (by omega)
      obtain ⟨b, cl, ev, hrow, hbb⟩ := HO4.out.row (by omega)
      injection e2 with q1 q2 q3
      subst q1; subst q3; subst ev
      have hux : u ≠ x := Blk.ne HU4.out HX.out (by decide)
      have hset : Chg (fun j => j = u) w4 (w4.setCell ⟨u, 2, none⟩ (pt x)) := Chg.set (S := fun j => j = u) (Chg.refl _ w4) (.inl rfl) _
      have hrow4 : Row w4 b2 i gs := by obtain ⟨cs, hb, hr⟩ := hrow2; exact ⟨cs, Blk.below hb HB4.out, hr⟩
      refine ⟨u, p, b2, _, x, gs, ⟨b, i, cl, 0, .pointer none⟩, M, rfl, ⟨Blk.eq (Blk.set HU4.out 2 _) rfl, hrow4.chg hset (by obtain ⟨cs, hb, _⟩ := hrow4; exact Blk.ne hb HU4.out (by decide)), Blk.far HX.out (fun e => hux e.symm) _, hrow.chg hset (by obtain ⟨cs, hb, _⟩ := hrow; exact Blk.ne hb HU4.out (by decide)), (HR.out.stay (Chg.of_below (S := fun _ => False) HB4.out) (fun _ _ _ _ => id)).stay hset (fun hb _ h2 _ => Blk.ne hb HU4.out h2), .inl rfl, by show 0 < i; omega, by show i ≤ 1000; omega⟩, rfl, rfl, by have := HT.out; omega, below_set (below_step HB.out HB4.out) HUW.out, HUW.out, Nat.le_trans HB.out.size HXW.out, HP.out, HG.out⟩
end Go.Proofs.Ytejplbeddcpmeaa.Lane
