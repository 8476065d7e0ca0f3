/- The laws of package mem: their walks; no condition. -/
import Derived.Test.YtejplbeddcpmeaaMemD
import Derived.Test.YtejplbeddcpmeaaOpen
namespace Go.Proofs.Ytejplbeddcpmeaa.Mem
open Go.RowKit Go.Proofs.YtejplbeddcpmeaaW.PrintWords Go.Proofs.Ytejplbeddcpmeaa.Heap Go.Proofs.Ytejplbeddcpmeaa.Opens
set_option linter.unusedVariables false
set_option linter.unusedSimpArgs false

abbrev toldM (n : Nat) : MemS :=
  match n with
  | 0 => MemS.new (2 : Nat) (1 : Nat)
  | 1 => (MemS.new (2 : Nat) (1 : Nat)).store 1 7
  | _ => (MemS.new (2 : Nat) (1 : Nat)).store 1 7
theorem take_b (w : World) (p : Mp) (M : MemS) (l who : Int) (b : Bool) (hb : M.takes l who = b) (h : MemAt 97 w p M) (ht : M.time < 4611686018427387904) (hw : who ≤ 9223372036854775807) :
    Calls Try.prog 18 #[pa p, .int .i64 l, .int .i64 who] w fun e w' => e = .returned (.bool b) ∧ MemAt 97 w' p (M.take l who) ∧ Chg p.has w w' := hb ▸ take_ w p M l who h ht hw
theorem free_b (w : World) (p : Mp) (M : MemS) (l who : Int) (b : Bool) (hb : M.frees l who = b) (h : MemAt 97 w p M) (ht : M.time < 4611686018427387904) (hw : who ≤ 9223372036854775807) :
    Calls Try.prog 17 #[pa p, .int .i64 l, .int .i64 who] w fun e w' => e = .returned (.bool b) ∧ MemAt 97 w' p (M.free l who) ∧ Chg p.has w w' := hb ▸ free_ w p M l who h ht hw
theorem load_v (w : World) (p : Mp) (M : MemS) (i v : Int) (hv : M.peek i = v) (h : MemAt 97 w p M) (ht : M.time < 4611686018427387904) :
    Calls Try.prog 63 #[pa p, .int .i64 i] w fun e w' => e = .returned (.int .u64 v) ∧ MemAt 97 w' p (M.load i) ∧ Chg p.has w w' := hv ▸ load_ w p M i h ht
theorem peek_v (w : World) (p : Mp) (M : MemS) (i v : Int) (hv : M.peek i = v) (h : MemAt 97 w p M) :
    Calls Try.prog 22 #[pa p, .int .i64 i] w fun e w' => e = .returned (.int .u64 v) ∧ w = w' := hv ▸ peek_ w p M i h
theorem holder_v (w : World) (p : Mp) (M : MemS) (i v : Int) (hv : M.holder i = v) (h : MemAt 97 w p M) :
    Calls Try.prog 19 #[pa p, .int .i64 i] w fun e w' => e = .returned (.int .i64 v) ∧ w = w' := hv ▸ holder_ w p M i h
theorem time_v (w : World) (p : Mp) (M : MemS) (v : Int) (hv : M.time = v) (h : MemAt 97 w p M) :
    Calls Try.prog 27 #[pa p] w fun e w' => e = .returned (.int .i64 v) ∧ w = w' := hv ▸ time_ w p M h

set_option maxHeartbeats 1600000 in
theorem told_ (w : World) : Calls Try.prog 16 #[] w fun e w' => e = .returned (.bool true) ∧ Below w.heap.size w w' := by
  have HB := Aside0.mk (Below.refl w.heap.size w)
  have hnew : ∀ W : World, Calls Try.prog 15 #[.int .i64 2, .int .i64 1] W (MadeMem 97 W (MemS.new (2 : Nat) (1 : Nat))) := fun W => new_ok W 2 1 (by decide) (by decide) (by decide)
  go_enter Try.func16, Try.ntmps16
  go_wp2_with (first | (go_at_call 15; refine (hnew _).mono ?_; rintro e w' ⟨p, rfl, hm, hb, hk⟩; have HBn := Aside0.mk (below_step (by repeat (first | exact HB.out | apply below_alloc | apply pw_below_drewN | apply below_drew1)) hb); have HK := Aside0.mk (fun k (hh : p.has k) => Nat.le_trans (below_size HB.out) (hk k hh)); have HM := Aside0.mk hm; clear HB hm hb hk; have HB := HBn; clear HBn) | (go_at_call 20; refine (store_ _ p _ _ _ HM.out (by decide) (by decide)).mono ?_; rintro e w' ⟨rfl, hm, hc⟩; have HBn := Aside0.mk (below_chg (by repeat (first | exact HB.out | apply below_alloc | apply pw_below_drewN | apply below_drew1)) hc (below_size (by repeat (first | exact HB.out | apply below_alloc | apply pw_below_drewN | apply below_drew1))) HK.out); have HMn := Aside0.mk hm; clear HB HM hm hc; have HB := HBn; have HM := HMn; clear HBn HMn) | (go_at_call 18; refine (take_b _ p _ _ _ true (by decide) HM.out (by decide) (by decide)).mono ?_; rintro e w' ⟨rfl, hm, hc⟩; have HBn := Aside0.mk (below_chg (by repeat (first | exact HB.out | apply below_alloc | apply pw_below_drewN | apply below_drew1)) hc (below_size (by repeat (first | exact HB.out | apply below_alloc | apply pw_below_drewN | apply below_drew1))) HK.out); have HMn := Aside0.mk hm; clear HB HM hm hc; have HB := HBn; have HM := HMn; clear HBn HMn) | (go_at_call 18; refine (take_b _ p _ _ _ false (by decide) HM.out (by decide) (by decide)).mono ?_; rintro e w' ⟨rfl, hm, hc⟩; have HBn := Aside0.mk (below_chg (by repeat (first | exact HB.out | apply below_alloc | apply pw_below_drewN | apply below_drew1)) hc (below_size (by repeat (first | exact HB.out | apply below_alloc | apply pw_below_drewN | apply below_drew1))) HK.out); have HMn := Aside0.mk hm; clear HB HM hm hc; have HB := HBn; have HM := HMn; clear HBn HMn) | (go_at_call 17; refine (free_b _ p _ _ _ true (by decide) HM.out (by decide) (by decide)).mono ?_; rintro e w' ⟨rfl, hm, hc⟩; have HBn := Aside0.mk (below_chg (by repeat (first | exact HB.out | apply below_alloc | apply pw_below_drewN | apply below_drew1)) hc (below_size (by repeat (first | exact HB.out | apply below_alloc | apply pw_below_drewN | apply below_drew1))) HK.out); have HMn := Aside0.mk hm; clear HB HM hm hc; have HB := HBn; have HM := HMn; clear HBn HMn) | (go_at_call 17; refine (free_b _ p _ _ _ false (by decide) HM.out (by decide) (by decide)).mono ?_; rintro e w' ⟨rfl, hm, hc⟩; have HBn := Aside0.mk (below_chg (by repeat (first | exact HB.out | apply below_alloc | apply pw_below_drewN | apply below_drew1)) hc (below_size (by repeat (first | exact HB.out | apply below_alloc | apply pw_below_drewN | apply below_drew1))) HK.out); have HMn := Aside0.mk hm; clear HB HM hm hc; have HB := HBn; have HM := HMn; clear HBn HMn) | (go_at_call 19; refine (holder_v _ p _ _ 5 (by decide) HM.out).mono ?_; rintro e w' ⟨rfl, rfl⟩) | (go_at_call 63; refine (load_v _ p _ _ 7 (by decide) HM.out (by decide)).mono ?_; rintro e w' ⟨rfl, hm, hc⟩; have HBn := Aside0.mk (below_chg (by repeat (first | exact HB.out | apply below_alloc | apply pw_below_drewN | apply below_drew1)) hc (below_size (by repeat (first | exact HB.out | apply below_alloc | apply pw_below_drewN | apply below_drew1))) HK.out); have HMn := Aside0.mk hm; clear HB HM hm hc; have HB := HBn; have HM := HMn; clear HBn HMn) | (go_at_call 27; refine (time_v _ p _ 6 (by decide) HM.out).mono ?_; rintro e w' ⟨rfl, rfl⟩))
  go_ret
  exact ⟨rfl, HB.out⟩
def kin (m : Int) (x : Int) : Int := wrap64 ((IntKind.u64.wrap x).tmod m)
theorem kin_in (m : Int) (hm : 0 < m) (hm2 : m ≤ 1000000) (x : Int) : 0 ≤ kin m x ∧ kin m x < m := by
  have h : (IntKind.u64.wrap x) = x % 18446744073709551616 := by simp [IntKind.wrap, IntKind.bits, IntKind.signed]
  have h0 : 0 ≤ x % 18446744073709551616 := Int.emod_nonneg _ (by omega)
  have h2 : (x % 18446744073709551616).tmod m = (x % 18446744073709551616) % m := Int.tmod_eq_emod_of_nonneg h0
  unfold kin
  rw [h, h2]
  have a := Int.emod_nonneg (x % 18446744073709551616) (show m ≠ 0 by omega)
  have b := Int.emod_lt_of_pos (x % 18446744073709551616) hm
  have e : wrap64 ((x % 18446744073709551616) % m) = (x % 18446744073709551616) % m := by unfold wrap64; omega
  rw [e]
  exact ⟨a, b⟩

theorem one_frees (c t hd q : Int) (h0 : 0 ≤ q) : (MemS.mk [c] [hd] t).frees 0 q = decide (hd = q) := by simp [MemS.frees, rd, h0]
theorem one_takes (c t hd q : Int) (h0 : 0 ≤ q) : (MemS.mk [c] [hd] t).takes 0 q = decide (hd = -1) := by simp [MemS.takes, rd, h0]
theorem one_free (c t hd q : Int) (h0 : 0 ≤ q) : (MemS.mk [c] [hd] t).free 0 q = ⟨[c], [if hd = q then -1 else hd], t + 1⟩ := by by_cases e : hd = q <;> simp [MemS.free, rd, h0, e, MemS.ticked]
theorem one_take (c t hd q : Int) (h0 : 0 ≤ q) : (MemS.mk [c] [hd] t).take 0 q = ⟨[c], [if hd = -1 then q else hd], t + 1⟩ := by by_cases e : hd = -1 <;> simp [MemS.take, rd, h0, e, MemS.ticked]
theorem one_holder (c t hd : Int) : (MemS.mk [c] [hd] t).holder 0 = hd := by simp [MemS.holder, rd]

set_option maxHeartbeats 4000000 in
set_option maxRecDepth 100000 in
theorem MemLocks_calls (A0 : Option Addr) (c0 : Nat) (l0 : List Int) (A1 : Option Addr) (c1 : Nat) (l1 : List Bool) (w : World) (h0 : RowC (intK .i64) 1 w A0 l0.length l0) (h1 : RowC boolK 1 w A1 l1.length l1) (g0 : l0.length ≤ 9223372036854775807) (g1 : l1.length ≤ 9223372036854775807) :
    Calls Try.prog 3 #[.slice A0 l0.length c0, .slice A1 l1.length c1] w fun e w' => e = .returned (.bool true) ∧ Below w.heap.size w w' := by
  have HB := Aside0.mk (Below.refl w.heap.size w)
  have hnew : ∀ W : World, Calls Try.prog 15 #[.int .i64 1, .int .i64 1] W (MadeMem 97 W ⟨[0], [-1], 0⟩) := fun W => new_ok W 1 1 (by decide) (by decide) (by decide)
  have H0 := Aside0.mk h0
  have H1 := Aside0.mk h1
  clear h0 h1
  go_enter Try.func3, Try.ntmps3
  go_wp2_with (first | (go_at_call 15; refine (hnew _).mono ?_; rintro e w' ⟨p, rfl, hm, hb, hk⟩; have HBn := Aside0.mk (below_step (by repeat (first | exact HB.out | apply below_alloc | apply pw_below_drewN | apply below_drew1)) hb); have HK := Aside0.mk (fun k (hh : p.has k) => Nat.le_trans (below_size HB.out) (hk k hh)); have HM := Aside0.mk hm; clear HB hm hb hk; have HB := HBn; clear HBn) | (go_at_call 16; refine (told_ _).mono ?_; rintro e w' ⟨rfl, hb⟩; have HBn := Aside0.mk (below_step (by repeat (first | exact HB.out | apply below_alloc | apply pw_below_drewN | apply below_drew1)) hb); have HMn := Aside0.mk (MemAt.chg (S := fun _ => False) (by (with_reducible repeat (first | exact HM.out | refine MemAt.drewN ?_ _ | refine MemAt.drew ?_ | refine MemAt.alloc ?_ _))) (Chg.of_below hb) (fun _ _ => id)); clear HB hb HM; have HB := HBn; have HM := HMn; clear HBn HMn))
  go_loopg [7, 8] l0.length (fun kq v7 v8 w' => ∃ (k : Nat) (hd tm : Int), Aside0 (kq = l0.length - k) ∧ k ≤ l0.length ∧ k ≤ 400 ∧ v8 = .int .i64 (k : Int) ∧ v7 = .int .i64 hd ∧ Aside0 (-1 ≤ hd ∧ hd ≤ 4 ∧ tm < 4611686018427387904 ∧ tm ≤ k) ∧ Aside0 (MemAt 97 w' p ⟨[0], [hd], tm⟩) ∧ Aside0 (Below w.heap.size w w'))
  case atStart => exact ⟨0, -1, 0, ⟨by omega⟩, Nat.zero_le _, Nat.zero_le _, rfl, rfl, ⟨by decide⟩, HM, HB⟩
  case round =>
    clear HB HM
    obtain ⟨k, hd, tm, HKQ, hk, hk4, rfl, rfl, HR, HM, HB⟩ := hrel
    by_cases hlt : k < l0.length ∧ k < l1.length ∧ k < 400
    · obtain ⟨hl0, hl1, hl4⟩ := hlt
      obtain ⟨ad0, e0, x0⟩ := H0.out.one k hl0
      obtain ⟨ad1, e1, x1⟩ := H1.out.one k hl1
      cases e0
      cases e1
      have y0 := (HB.out.cell (World.block_lt_of_cell? w _ x0)).trans x0
      have y1 := (HB.out.cell (World.block_lt_of_cell? w _ x1)).trans x1
      clear x0 x1
      obtain ⟨q, hq⟩ : ∃ q, kin 5 l0[k] = q := ⟨_, rfl⟩
      have hqr := kin_in 5 (by decide) (by decide) l0[k]
      rw [hq] at hqr
      unfold kin at hq
      generalize l0[k] = lk at *
      have HQ := Aside0.mk hqr
      obtain ⟨fr, hfr⟩ : ∃ fr, l1[k] = fr := ⟨_, rfl⟩
      rw [hfr] at y1
      clear hfr hqr
      cases fr with
      | true =>
        by_cases he : hd = q
        · have hbe : (hd == q) = true := beq_iff_eq.mpr he
          have HE := Aside0.mk he
          clear he
          go_wp2_with (first | (go_at_call 17; refine (free_b _ p ⟨[0], [hd], tm⟩ 0 q true (by rw [one_frees _ _ _ _ HQ.out.1]; exact decide_eq_true HE.out) (by (with_reducible repeat (first | exact HM.out | refine MemAt.drewN ?_ _ | refine MemAt.drew ?_ | refine MemAt.alloc ?_ _))) HR.out.2.2.1 (by have := HQ.out; omega)).mono ?_; rintro e w' ⟨rfl, hm, hc⟩; have HBn := Aside0.mk (below_chg (by repeat (first | exact HB.out | apply below_alloc | apply pw_below_drewN | apply below_drew1)) hc (below_size (by repeat (first | exact HB.out | apply below_alloc | apply pw_below_drewN | apply below_drew1))) HK.out); have HMn := Aside0.mk hm; clear HB HM hm hc; have HB := HBn; have HM := HMn; clear HBn HMn; rw [one_free _ _ _ _ HQ.out.1, if_pos HE.out] at HM) | (go_at_call 19; refine (holder_v _ p _ _ _ (one_holder _ _ _) HM.out).mono ?_; rintro e w' ⟨rfl, rfl⟩))
          go_roundg (l0.length - (k + 1))
          case measure => have := HKQ.out; omega
          case rel => exact ⟨k + 1, -1, tm + 1, ⟨rfl⟩, by omega, by omega, by simp, rfl, ⟨by have := HR.out; omega⟩, HM, HB⟩
        · have hbe : (hd == q) = false := beq_eq_false_iff_ne.mpr he
          have HE := Aside0.mk he
          clear he
          go_wp2_with (first | (go_at_call 17; refine (free_b _ p ⟨[0], [hd], tm⟩ 0 q false (by rw [one_frees _ _ _ _ HQ.out.1]; exact decide_eq_false HE.out) (by (with_reducible repeat (first | exact HM.out | refine MemAt.drewN ?_ _ | refine MemAt.drew ?_ | refine MemAt.alloc ?_ _))) HR.out.2.2.1 (by have := HQ.out; omega)).mono ?_; rintro e w' ⟨rfl, hm, hc⟩; have HBn := Aside0.mk (below_chg (by repeat (first | exact HB.out | apply below_alloc | apply pw_below_drewN | apply below_drew1)) hc (below_size (by repeat (first | exact HB.out | apply below_alloc | apply pw_below_drewN | apply below_drew1))) HK.out); have HMn := Aside0.mk hm; clear HB HM hm hc; have HB := HBn; have HM := HMn; clear HBn HMn; rw [one_free _ _ _ _ HQ.out.1, if_neg HE.out] at HM) | (go_at_call 19; refine (holder_v _ p _ _ _ (one_holder _ _ _) HM.out).mono ?_; rintro e w' ⟨rfl, rfl⟩))
          go_roundg (l0.length - (k + 1))
          case measure => have := HKQ.out; omega
          case rel => exact ⟨k + 1, hd, tm + 1, ⟨rfl⟩, by omega, by omega, by simp, rfl, ⟨by have := HR.out; omega⟩, HM, HB⟩
      | false =>
        by_cases he : hd = -1
        · have hbe : (hd == -1) = true := beq_iff_eq.mpr he
          have HE := Aside0.mk he
          clear he
          go_wp2_with (first | (go_at_call 18; refine (take_b _ p ⟨[0], [hd], tm⟩ 0 q true (by rw [one_takes _ _ _ _ HQ.out.1]; exact decide_eq_true HE.out) (by (with_reducible repeat (first | exact HM.out | refine MemAt.drewN ?_ _ | refine MemAt.drew ?_ | refine MemAt.alloc ?_ _))) HR.out.2.2.1 (by have := HQ.out; omega)).mono ?_; rintro e w' ⟨rfl, hm, hc⟩; have HBn := Aside0.mk (below_chg (by repeat (first | exact HB.out | apply below_alloc | apply pw_below_drewN | apply below_drew1)) hc (below_size (by repeat (first | exact HB.out | apply below_alloc | apply pw_below_drewN | apply below_drew1))) HK.out); have HMn := Aside0.mk hm; clear HB HM hm hc; have HB := HBn; have HM := HMn; clear HBn HMn; rw [one_take _ _ _ _ HQ.out.1, if_pos HE.out] at HM) | (go_at_call 19; refine (holder_v _ p _ _ _ (one_holder _ _ _) HM.out).mono ?_; rintro e w' ⟨rfl, rfl⟩))
          go_roundg (l0.length - (k + 1))
          case measure => have := HKQ.out; omega
          case rel => exact ⟨k + 1, q, tm + 1, ⟨rfl⟩, by omega, by omega, by simp, rfl, ⟨by have := HR.out; have := HQ.out; omega⟩, HM, HB⟩
        · have hbe : (hd == -1) = false := beq_eq_false_iff_ne.mpr he
          have HE := Aside0.mk he
          clear he
          go_wp2_with (first | (go_at_call 18; refine (take_b _ p ⟨[0], [hd], tm⟩ 0 q false (by rw [one_takes _ _ _ _ HQ.out.1]; exact decide_eq_false HE.out) (by (with_reducible repeat (first | exact HM.out | refine MemAt.drewN ?_ _ | refine MemAt.drew ?_ | refine MemAt.alloc ?_ _))) HR.out.2.2.1 (by have := HQ.out; omega)).mono ?_; rintro e w' ⟨rfl, hm, hc⟩; have HBn := Aside0.mk (below_chg (by repeat (first | exact HB.out | apply below_alloc | apply pw_below_drewN | apply below_drew1)) hc (below_size (by repeat (first | exact HB.out | apply below_alloc | apply pw_below_drewN | apply below_drew1))) HK.out); have HMn := Aside0.mk hm; clear HB HM hm hc; have HB := HBn; have HM := HMn; clear HBn HMn; rw [one_take _ _ _ _ HQ.out.1, if_neg HE.out] at HM) | (go_at_call 19; refine (holder_v _ p _ _ _ (one_holder _ _ _) HM.out).mono ?_; rintro e w' ⟨rfl, rfl⟩))
          go_roundg (l0.length - (k + 1))
          case measure => have := HKQ.out; omega
          case rel => exact ⟨k + 1, hd, tm + 1, ⟨rfl⟩, by omega, by omega, by simp, rfl, ⟨by have := HR.out; omega⟩, HM, HB⟩
    · have hge : l0.length ≤ k ∨ l1.length ≤ k ∨ 400 ≤ k := by omega
      clear hlt
      rcases hge with hge | hge | hge
      all_goals (by_cases a0 : k < l0.length <;> by_cases a1 : k < l1.length <;> try omega)
      all_goals (first | (go_wp2; go_ret; exact ⟨rfl, HB.out⟩))

abbrev OpT := Int × Int × Int × Int
def opEnc (x : OpT) : List Value := [.int .i64 x.1, .int .i64 x.2.1, .int .i64 x.2.2.1, .int .u64 x.2.2.2]
def opQ (x : OpT) : Prop := (Lit.int .i64 x.1).wf = true ∧ (Lit.int .i64 x.2.1).wf = true ∧ (Lit.int .i64 x.2.2.1).wf = true ∧ (Lit.int .u64 x.2.2.2).wf = true
theorem wf_i64 {x : Int} (h : (Lit.int .i64 x).wf = true) : -9223372036854775808 ≤ x ∧ x ≤ 9223372036854775807 := by
  have e1 : IntKind.min .i64 = -9223372036854775808 := by decide
  have e2 : IntKind.max .i64 = 9223372036854775807 := by decide
  simp only [Lit.wf, e1, e2, Bool.and_eq_true, decide_eq_true_eq] at h
  exact h
theorem wf_u64 {x : Int} (h : (Lit.int .u64 x).wf = true) : 0 ≤ x ∧ x ≤ 18446744073709551615 := by
  have e1 : IntKind.min .u64 = 0 := by decide
  have e2 : IntKind.max .u64 = 18446744073709551615 := by decide
  simp only [Lit.wf, e1, e2, Bool.and_eq_true, decide_eq_true_eq] at h
  exact h

/-- What MemApart keeps: cell and lock k as they are. -/
def Kept (k : Int) (n : Nat) (M : MemS) : Prop := M.cells.length = 6 ∧ M.locks.length = 4 ∧ rd M.cells k = 77 ∧ rd M.locks k = 9 ∧ M.time ≤ n + 2
theorem rd_set_ne (xs : List Int) (i k v : Int) (h0 : 0 ≤ i) (hk : 0 ≤ k) (hne : i ≠ k) : rd (xs.set i.toNat v) k = rd xs k := by
  have : i.toNat ≠ k.toNat := by omega
  simp [rd, List.getD_eq_getElem?_getD, List.getElem?_set, this]
theorem rd_set_eq (xs : List Int) (i v : Int) (h0 : 0 ≤ i) (h1 : i < xs.length) : rd (xs.set i.toNat v) i = v := by
  have : i.toNat < xs.length := by omega
  simp [rd, List.getD_eq_getElem?_getD, List.getElem?_set, this]
theorem kept_aft {k : Int} {n : Nat} {M : MemS} (h : Kept k n M) (hk : 0 ≤ k) (kd at_ who v : Int) (hne : at_ ≠ k) : Kept k (n + 1) (M.aft kd at_ who v) := by
  obtain ⟨h1, h2, h3, h4, h5⟩ := h
  unfold MemS.aft
  split
  · unfold MemS.load; split
    · exact ⟨h1, h2, h3, h4, by simp [MemS.ticked]; omega⟩
    · exact ⟨h1, h2, h3, h4, by omega⟩
  split
  · unfold MemS.store; split
    · rename_i c; exact ⟨by simpa using h1, h2, by rw [rd_set_ne _ _ _ _ c.1 hk hne]; exact h3, h4, by simp; omega⟩
    · exact ⟨h1, h2, h3, h4, by omega⟩
  split
  · unfold MemS.take; split
    · rename_i c; split
      · exact ⟨h1, by simpa using h2, h3, by rw [rd_set_ne _ _ _ _ c.1 hk hne]; exact h4, by simp; omega⟩
      · exact ⟨h1, h2, h3, h4, by simp [MemS.ticked]; omega⟩
    · exact ⟨h1, h2, h3, h4, by omega⟩
  split
  · unfold MemS.free; split
    · rename_i c; split
      · exact ⟨h1, by simpa using h2, h3, by rw [rd_set_ne _ _ _ _ c.1 hk hne]; exact h4, by simp; omega⟩
      · exact ⟨h1, h2, h3, h4, by simp [MemS.ticked]; omega⟩
    · exact ⟨h1, h2, h3, h4, by omega⟩
  · exact ⟨h1, h2, h3, h4, by omega⟩
theorem kept_start (k : Int) (h0 : 0 ≤ k) (h1 : k < 4) : Kept k 0 (((MemS.new (6 : Nat) (4 : Nat)).store k 77).take k 9) ∧ ((MemS.new (6 : Nat) (4 : Nat)).store k 77).takes k 9 = true := by
  obtain rfl | rfl | rfl | rfl : k = 0 ∨ k = 1 ∨ k = 2 ∨ k = 3 := by omega
  all_goals exact ⟨⟨by decide, by decide, by decide, by decide, by decide⟩, by decide⟩
theorem kept_peek {k : Int} {n : Nat} {M : MemS} (h : Kept k n M) (h0 : 0 ≤ k) (h1 : k < 4) : M.peek k = 77 := by
  unfold MemS.peek; rw [if_pos ⟨h0, by have := h.1; omega⟩]; exact h.2.2.1
theorem kept_holder {k : Int} {n : Nat} {M : MemS} (h : Kept k n M) (h0 : 0 ≤ k) (h1 : k < 4) : M.holder k = 9 := by
  unfold MemS.holder; rw [if_pos ⟨h0, by have := h.2.1; omega⟩]; exact h.2.2.2.1

set_option maxHeartbeats 4000000 in
set_option maxRecDepth 100000 in
theorem MemApart_calls (A0 : Option Addr) (c0 : Nat) (l0 : List OpT) (a1 : Int) (w : World) (h0 : RowC (flatK opEnc) 4 w A0 l0.length l0) (g0 : l0.length ≤ 9223372036854775807) (hq : ∀ x ∈ l0, opQ x) :
    Calls Try.prog 4 #[.slice A0 l0.length c0, .int .i64 a1] w fun e w' => e = .returned (.bool true) ∧ Below w.heap.size w w' := by
  have HB := Aside0.mk (Below.refl w.heap.size w)
  have hnew : ∀ W : World, Calls Try.prog 15 #[.int .i64 6, .int .i64 4] W (MadeMem 97 W (MemS.new (6 : Nat) (4 : Nat))) := fun W => new_ok W 6 4 (by decide) (by decide) (by decide)
  have H0 := Aside0.mk h0
  have HQ := Aside0.mk hq
  clear h0 hq
  obtain ⟨k, hk⟩ : ∃ k, kin 4 a1 = k := ⟨_, rfl⟩
  have hkr := kin_in 4 (by decide) (by decide) a1
  rw [hk] at hkr
  unfold kin at hk
  have HK4 := Aside0.mk hkr
  have HS := Aside0.mk (kept_start k hkr.1 hkr.2)
  clear hkr
  go_enter Try.func4, Try.ntmps4
  go_wp2_with (first | (go_at_call 15; refine (hnew _).mono ?_; rintro e w' ⟨p, rfl, hm, hb, hk⟩; have HBn := Aside0.mk (below_step (by repeat (first | exact HB.out | apply below_alloc | apply pw_below_drewN | apply below_drew1)) hb); have HK := Aside0.mk (fun k (hh : p.has k) => Nat.le_trans (below_size HB.out) (hk k hh)); have HM := Aside0.mk hm; clear HB hm hb hk; have HB := HBn; clear HBn) | (go_at_call 16; refine (told_ _).mono ?_; rintro e w' ⟨rfl, hb⟩; have HBn := Aside0.mk (below_step (by repeat (first | exact HB.out | apply below_alloc | apply pw_below_drewN | apply below_drew1)) hb); have HMn := Aside0.mk (MemAt.chg (S := fun _ => False) (by (with_reducible repeat (first | exact HM.out | refine MemAt.drewN ?_ _ | refine MemAt.drew ?_ | refine MemAt.alloc ?_ _))) (Chg.of_below hb) (fun _ _ => id)); clear HB hb HM; have HB := HBn; have HM := HMn; clear HBn HMn) | (go_at_call 20; refine (store_ _ p _ _ _ (by (with_reducible repeat (first | exact HM.out | refine MemAt.drewN ?_ _ | refine MemAt.drew ?_ | refine MemAt.alloc ?_ _))) (by decide) (by decide)).mono ?_; rintro e w' ⟨rfl, hm, hc⟩; have HBn := Aside0.mk (below_chg (by repeat (first | exact HB.out | apply below_alloc | apply pw_below_drewN | apply below_drew1)) hc (below_size (by repeat (first | exact HB.out | apply below_alloc | apply pw_below_drewN | apply below_drew1))) HK.out); have HMn := Aside0.mk hm; clear HB HM hm hc; have HB := HBn; have HM := HMn; clear HBn HMn) | (go_at_call 18; refine (take_b _ p ((MemS.new (6 : Nat) (4 : Nat)).store k 77) k 9 true HS.out.2 (by (with_reducible repeat (first | exact HM.out | refine MemAt.drewN ?_ _ | refine MemAt.drew ?_ | refine MemAt.alloc ?_ _))) (by obtain rfl | rfl | rfl | rfl : k = 0 ∨ k = 1 ∨ k = 2 ∨ k = 3 := (by have := HK4.out; omega) <;> decide) (by decide)).mono ?_; rintro e w' ⟨rfl, hm, hc⟩; have HBn := Aside0.mk (below_chg (by repeat (first | exact HB.out | apply below_alloc | apply pw_below_drewN | apply below_drew1)) hc (below_size (by repeat (first | exact HB.out | apply below_alloc | apply pw_below_drewN | apply below_drew1))) HK.out); have HMn := Aside0.mk hm; clear HB HM hm hc; have HB := HBn; have HM := HMn; clear HBn HMn))
  replace HS := Aside0.mk HS.out.1
  generalize ((MemS.new (6 : Nat) (4 : Nat)).store k 77).take k 9 = M at *
  have hloop := hk
  go_loopg [8] l0.length (fun kq v8 w' => ∃ (i : Nat) (M : MemS), Aside0 (kq = l0.length - i) ∧ i ≤ l0.length ∧ i ≤ 200 ∧ v8 = .int .i64 (i : Int) ∧ Aside0 (Kept k i M) ∧ Aside0 (MemAt 97 w' p M) ∧ Aside0 (Below w.heap.size w w'))
  case atStart => exact ⟨0, M, ⟨by omega⟩, Nat.zero_le _, Nat.zero_le _, rfl, HS, HM, HB⟩
  case round =>
    clear HB HM HS
    obtain ⟨i, M, HKQ, hi, hi4, rfl, HS, HM, HB⟩ := hrel
    by_cases hlt : i < l0.length ∧ i < 200
    · obtain ⟨hl0, hl4⟩ := hlt
      obtain ⟨ad, e0, x0, x1⟩ := H0.out.field i hl0
      cases e0
      have q := HQ.out _ (List.getElem_mem hl0)
      generalize l0[i] = op at *
      obtain ⟨o0, o1, o2, o3⟩ := op
      have y0 := x0 _ rfl
      have y1 := x1 1 _ (by decide) rfl
      have y2 := x1 2 _ (by decide) rfl
      have y3 := x1 3 _ (by decide) rfl
      clear x0 x1
      replace y0 := (HB.out.cell (World.block_lt_of_cell? w _ y0)).trans y0
      replace y1 := (HB.out.cell (World.block_lt_of_cell? w _ y1)).trans y1
      replace y2 := (HB.out.cell (World.block_lt_of_cell? w _ y2)).trans y2
      replace y3 := (HB.out.cell (World.block_lt_of_cell? w _ y3)).trans y3
      have q1 := wf_i64 q.2.2.1
      have q2 := wf_u64 q.2.2.2
      have HQ1 := Aside0.mk q1
      have HQ2 := Aside0.mk q2
      clear q q1 q2
      by_cases he : o1 = k
      · have hb1 : (o1 != k) = false := bne_eq_false_iff_eq.mpr he
        clear he
        go_wp2
        go_roundg (l0.length - (i + 1))
        case measure => have := HKQ.out; omega
        case rel => exact ⟨i + 1, M, ⟨rfl⟩, by omega, by omega, by simp, ⟨⟨HS.out.1, HS.out.2.1, HS.out.2.2.1, HS.out.2.2.2.1, by have := HS.out.2.2.2.2; omega⟩⟩, ⟨(by (with_reducible repeat (first | exact HM.out | refine MemAt.drewN ?_ _ | refine MemAt.drew ?_ | refine MemAt.alloc ?_ _)))⟩, ⟨(by repeat (first | exact HB.out | apply below_alloc | apply pw_below_drewN | apply below_drew1))⟩⟩
      · have hb1 : (o1 != k) = true := bne_iff_ne.mpr he
        have HE := Aside0.mk he
        clear he
        go_wp2_with (go_at_call 21; refine (do_ _ p M _ _ _ _ (by (with_reducible repeat (first | exact HM.out | refine MemAt.drewN ?_ _ | refine MemAt.drew ?_ | refine MemAt.alloc ?_ _))) (by have := HS.out.2.2.2.2; omega) HQ1.out.2 HQ2.out).mono ?_; rintro e w' ⟨rfl, hm, hc⟩; have HBn := Aside0.mk (below_chg (by repeat (first | exact HB.out | apply below_alloc | apply pw_below_drewN | apply below_drew1)) hc (below_size (by repeat (first | exact HB.out | apply below_alloc | apply pw_below_drewN | apply below_drew1))) HK.out); have HMn := Aside0.mk hm; clear HB HM hm hc; have HB := HBn; have HM := HMn; clear HBn HMn)
        go_roundg (l0.length - (i + 1))
        case measure => have := HKQ.out; omega
        case rel => exact ⟨i + 1, _, ⟨rfl⟩, by omega, by omega, by simp, ⟨kept_aft HS.out HK4.out.1 _ _ _ _ HE.out⟩, HM, HB⟩
    · have hge : l0.length ≤ i ∨ 200 ≤ i := by omega
      clear hlt
      have hp := kept_peek HS.out HK4.out.1 HK4.out.2
      have hh := kept_holder HS.out HK4.out.1 HK4.out.2
      have HP := Aside0.mk hp
      have HH := Aside0.mk hh
      clear hp hh
      rcases hge with hge | hge
      all_goals (by_cases a0 : i < l0.length <;> try omega)
      all_goals go_wp2_with (first | (go_at_call 22; refine (peek_v _ p M k 77 HP.out HM.out).mono ?_; rintro e w' ⟨rfl, rfl⟩) | (go_at_call 19; refine (holder_v _ p M k 9 HH.out HM.out).mono ?_; rintro e w' ⟨rfl, rfl⟩))
      all_goals (first | (go_ret; exact ⟨rfl, HB.out⟩))

end Go.Proofs.Ytejplbeddcpmeaa.Mem
