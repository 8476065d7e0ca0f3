/- The laws MemActs and MemNews: their walks; no condition. -/
import Derived.Test.YtejplbeddcpmeaaMemL
import Derived.Deep.RegionWith
namespace Go.Proofs.Ytejplbeddcpmeaa.Mem
open Go.RowKit Go.Proofs.YtejplbeddcpmeaaW.PrintWords Go.Proofs.Ytejplbeddcpmeaa.Heap Go.Proofs.Ytejplbeddcpmeaa.Opens
set_option linter.unusedVariables false
set_option linter.unusedSimpArgs false


theorem apart_new {T : TypeId} {w : World} {p r : Mp} {M : MemS} (h : MemAt T w p M) (hk : ∀ k, r.has k → w.heap.size ≤ k) : ∀ k, p.has k → ¬ r.has k := by
  intro k a b
  have := hk k b
  rcases a with rfl | rfl | rfl
  · have := h.top.lt; omega
  · have := h.cells.lt; omega
  · have := h.locks.lt; omega
theorem aft_time (M : MemS) (k a who v : Int) : (M.aft k a who v).time ≤ M.time + 1 := by
  unfold MemS.aft
  split
  · unfold MemS.load; split <;> (try simp only [MemS.ticked]) <;> omega
  split
  · unfold MemS.store; split <;> (try simp only []) <;> omega
  split
  · unfold MemS.take; split
    · split <;> simp [MemS.ticked]
    · omega
  split
  · unfold MemS.free; split
    · split <;> simp [MemS.ticked]
    · omega
  · omega
theorem aft_len (M : MemS) (k a who v : Int) : (M.aft k a who v).cells.length = M.cells.length ∧ (M.aft k a who v).locks.length = M.locks.length := by
  unfold MemS.aft
  split
  · unfold MemS.load; split <;> exact ⟨rfl, rfl⟩
  split
  · unfold MemS.store; split <;> simp
  split
  · unfold MemS.take; split
    · split <;> simp [MemS.ticked]
    · exact ⟨rfl, rfl⟩
  split
  · unfold MemS.free; split
    · split <;> simp [MemS.ticked]
    · exact ⟨rfl, rfl⟩
  · exact ⟨rfl, rfl⟩

set_option maxHeartbeats 8000000 in
set_option maxRecDepth 100000 in
theorem MemActs_calls (a0 a1 : Int) (A0 : Option Addr) (c0 : Nat) (l0 : List OpT) (w : World) (h0 : RowC (flatK opEnc) 4 w A0 l0.length l0) (g0 : l0.length ≤ 9223372036854775807) (hq : ∀ x ∈ l0, opQ x) :
    Calls Try.prog 5 #[.int .i64 a0, .int .i64 a1, .slice A0 l0.length c0] w fun e w' => e = .returned (.bool true) ∧ Below w.heap.size w w' := by
  have HB := Aside0.mk (Below.refl w.heap.size w)
  obtain ⟨c, hc⟩ : ∃ c : Nat, kin 8 a0 = (c : Int) := ⟨(kin 8 a0).toNat, by have := (kin_in 8 (by decide) (by decide) a0).1; omega⟩
  obtain ⟨l, hl⟩ : ∃ l : Nat, kin 5 a1 = (l : Int) := ⟨(kin 5 a1).toNat, by have := (kin_in 5 (by decide) (by decide) a1).1; omega⟩
  have hc8 : c < 8 := by have := (kin_in 8 (by decide) (by decide) a0).2; omega
  have hl5 : l < 5 := by have := (kin_in 5 (by decide) (by decide) a1).2; omega
  have ec : (1 + (c : Int)) = ((1 + c : Nat) : Int) := by omega
  have hnew : ∀ W : World, Calls Try.prog 15 #[.int .i64 (1 + (c : Int)), .int .i64 (l : Int)] W (MadeMem 97 W (MemS.new ((1 + c : Nat) : Int) (l : Nat))) := fun W => by rw [ec]; exact new_ok W (1 + c) l (by omega) (by omega) (by omega)
  have hrnew : ∀ W : World, Calls Try.prog 23 #[.int .i64 (1 + (c : Int)), .int .i64 (l : Int)] W (MadeMem1 46 W (MemS.new ((1 + c : Nat) : Int) (l : Nat))) := fun W => by rw [ec]; exact rnew_ok W (1 + c) l (by omega) (by omega) (by omega)
  have HN := Aside0.mk hnew
  have HRN := Aside0.mk hrnew
  have hM0 : (MemS.new ((1 + c : Nat) : Int) (l : Nat)).cells.length = 1 + c ∧ (MemS.new ((1 + c : Nat) : Int) (l : Nat)).locks.length = l ∧ (MemS.new ((1 + c : Nat) : Int) (l : Nat)).time = 0 := by simp [MemS.new]; omega
  generalize (MemS.new ((1 + c : Nat) : Int) (l : Nat)) = M0 at *
  have HM0 := Aside0.mk hM0
  have hcl : ∀ W p (h : MemAt 97 W p M0), Calls Try.prog 24 #[pa p] W fun e w' => e = .returned (.int .i64 (1 + (c : Int))) ∧ W = w' := fun W p h => by have k := cells_ W p M0 h; rw [hM0.1] at k; rw [ec]; exact k
  have hll : ∀ W p (h : MemAt 97 W p M0), Calls Try.prog 25 #[pa p] W fun e w' => e = .returned (.int .i64 (l : Int)) ∧ W = w' := fun W p h => by have k := locks_ W p M0 h; rw [hM0.2.1] at k; exact k
  have HCL := Aside0.mk hcl
  have HLL := Aside0.mk hll
  clear hnew hrnew hcl hll ec hM0
  have H0 := Aside0.mk h0
  have HQ := Aside0.mk hq
  clear h0 hq
  unfold kin at hc hl
  go_enter Try.func5, Try.ntmps5
  go_wp2_with (first | (go_at_call 15; refine (HN.out _).mono ?_; rintro e w' ⟨p, rfl, hm, hb, hk⟩; have HBn := Aside0.mk (below_step (by repeat (first | exact HB.out | apply below_alloc | apply pw_below_drewN | apply below_drew1)) hb); have HK := Aside0.mk (fun k (hh : p.has k) => Nat.le_trans (below_size HB.out) (hk k hh)); have HM := Aside0.mk hm; clear HB hm hb hk; have HB := HBn; clear HBn) | (go_at_call 23; refine (HRN.out _).mono ?_; rintro e w' ⟨r, rfl, hm, hb, hk⟩; have HBn := Aside0.mk (below_step (by repeat (first | exact HB.out | apply below_alloc | apply pw_below_drewN | apply below_drew1)) hb); have HKR := Aside0.mk (fun k (hh : r.has k) => Nat.le_trans (below_size HB.out) (hk k hh)); have HPR := Aside0.mk (apart_new HM.out hk); have HMn := Aside0.mk (MemAt.chg (S := fun _ => False) (by (with_reducible repeat (first | exact HM.out | refine MemAt.drewN ?_ _ | refine MemAt.drew ?_ | refine MemAt.alloc ?_ _))) (Chg.of_below hb) (fun _ _ => id)); have HR := Aside0.mk hm; clear HB HM hm hb hk; have HB := HBn; have HM := HMn; clear HBn HMn) | (go_at_call 16; refine (told_ _).mono ?_; rintro e w' ⟨rfl, hb⟩; have HBn := Aside0.mk (below_step (by repeat (first | exact HB.out | apply below_alloc | apply pw_below_drewN | apply below_drew1)) hb); have HMn := Aside0.mk (MemAt.chg (S := fun _ => False) (by (with_reducible repeat (first | exact HM.out | refine MemAt.drewN ?_ _ | refine MemAt.drew ?_ | refine MemAt.alloc ?_ _))) (Chg.of_below hb) (fun _ _ => id)); have HRn := Aside0.mk (MemAt.chg (S := fun _ => False) (by (with_reducible repeat (first | exact HR.out | refine MemAt.drewN ?_ _ | refine MemAt.drew ?_ | refine MemAt.alloc ?_ _))) (Chg.of_below hb) (fun _ _ => id)); clear HB hb HM HR; have HB := HBn; have HM := HMn; have HR := HRn; clear HBn HMn HRn) | (go_at_call 24; refine (HCL.out _ p HM.out).mono ?_; rintro e w' ⟨rfl, rfl⟩) | (go_at_call 25; refine (HLL.out _ p HM.out).mono ?_; rintro e w' ⟨rfl, rfl⟩))
  go_loopg [12] l0.length (fun kq v12 w' => ∃ (i : Nat) (M : MemS), Aside0 (kq = l0.length - i) ∧ i ≤ l0.length ∧ i ≤ 400 ∧ v12 = .int .i64 (i : Int) ∧ Aside0 (M.time ≤ i ∧ M.cells.length = 1 + c ∧ M.locks.length = l) ∧ Aside0 (MemAt 97 w' p M) ∧ Aside0 (MemAt 46 w' r M) ∧ Aside0 (Below w.heap.size w w'))
  case atStart => exact ⟨0, M0, ⟨by omega⟩, Nat.zero_le _, Nat.zero_le _, rfl, ⟨by have := HM0.out; omega⟩, HM, HR, HB⟩
  case round =>
    clear HB HM HR HM0 HN HRN HCL HLL
    obtain ⟨i, M, HKQ, hi, hi4, rfl, HT, HM, HR, HB⟩ := hrel
    by_cases hlt : i < l0.length ∧ i < 400
    · obtain ⟨hl0, hl4⟩ := hlt
      obtain ⟨ad, e0, x0, x1⟩ := H0.out.field i hl0
      cases e0
      have q := HQ.out _ (List.getElem_mem hl0)
      generalize l0[i] = op at *
      obtain ⟨o0, o1, o2, o3⟩ := op
      have X0 := Aside0.mk (And.intro (x0 _ rfl) (And.intro (x1 1 _ (by decide) rfl) (And.intro (x1 2 _ (by decide) rfl) (x1 3 _ (by decide) rfl))))
      clear x0 x1
      have HQ1 := Aside0.mk (wf_i64 q.2.2.1)
      have HQ2 := Aside0.mk (wf_u64 q.2.2.2)
      clear q
      have y0 := (HB.out.cell (World.block_lt_of_cell? w _ X0.out.1)).trans X0.out.1
      have y1 := (HB.out.cell (World.block_lt_of_cell? w _ X0.out.2.1)).trans X0.out.2.1
      have y2 := (HB.out.cell (World.block_lt_of_cell? w _ X0.out.2.2.1)).trans X0.out.2.2.1
      have y3 := (HB.out.cell (World.block_lt_of_cell? w _ X0.out.2.2.2)).trans X0.out.2.2.2
      go_wp2_with fail
      go_region_with (first | (go_at_call 21; refine (do_ _ p M o0 o1 o2 o3 (by (with_reducible repeat (first | exact HM.out | refine MemAt.drewN ?_ _ | refine MemAt.drew ?_ | refine MemAt.alloc ?_ _))) (by have := HT.out; omega) HQ1.out.2 HQ2.out).mono ?_; rintro e w' ⟨rfl, hm, hc⟩; have HBn := Aside0.mk (below_chg (by repeat (first | exact HB.out | apply below_alloc | apply pw_below_drewN | apply below_drew1)) hc (below_size (by repeat (first | exact HB.out | apply below_alloc | apply pw_below_drewN | apply below_drew1))) HK.out); have HRn := Aside0.mk (MemAt.chg (p := r) (T := 46) (M := M) (by (with_reducible repeat (first | exact HR.out | refine MemAt.drewN ?_ _ | refine MemAt.drew ?_ | refine MemAt.alloc ?_ _))) hc (fun k a b => HPR.out k b a)); clear HR; have HR := HRn; clear HRn; have HMn := Aside0.mk hm; clear HB HM hm hc; have HB := HBn; have HM := HMn; clear HBn HMn; have y0 := (HB.out.cell (World.block_lt_of_cell? w _ X0.out.1)).trans X0.out.1; have y1 := (HB.out.cell (World.block_lt_of_cell? w _ X0.out.2.1)).trans X0.out.2.1; have y2 := (HB.out.cell (World.block_lt_of_cell? w _ X0.out.2.2.1)).trans X0.out.2.2.1; have y3 := (HB.out.cell (World.block_lt_of_cell? w _ X0.out.2.2.2)).trans X0.out.2.2.2) | (go_at_call 26; refine (want_ _ r M o0 o1 o2 o3 (by (with_reducible repeat (first | exact HR.out | refine MemAt.drewN ?_ _ | refine MemAt.drew ?_ | refine MemAt.alloc ?_ _))) (by have := HT.out; omega) HQ1.out.2 HQ2.out).mono ?_; rintro e w' ⟨rfl, hm, hc⟩; have HBn := Aside0.mk (below_chg (by repeat (first | exact HB.out | apply below_alloc | apply pw_below_drewN | apply below_drew1)) hc (below_size (by repeat (first | exact HB.out | apply below_alloc | apply pw_below_drewN | apply below_drew1))) HKR.out); have HMn := Aside0.mk (MemAt.chg (p := p) (T := 97) (M := M.aft (kin6 o0) o1 o2 o3) (by (with_reducible repeat (first | exact HM.out | refine MemAt.drewN ?_ _ | refine MemAt.drew ?_ | refine MemAt.alloc ?_ _))) hc (fun k a b => HPR.out k a b)); clear HM; have HM := HMn; clear HMn; have HMn := Aside0.mk hm; clear HB HR hm hc; have HB := HBn; have HR := HMn; clear HBn HMn; have y0 := (HB.out.cell (World.block_lt_of_cell? w _ X0.out.1)).trans X0.out.1; have y1 := (HB.out.cell (World.block_lt_of_cell? w _ X0.out.2.1)).trans X0.out.2.1; have y2 := (HB.out.cell (World.block_lt_of_cell? w _ X0.out.2.2.1)).trans X0.out.2.2.1; have y3 := (HB.out.cell (World.block_lt_of_cell? w _ X0.out.2.2.2)).trans X0.out.2.2.2; have hx2 := RMem.time_at _ _ _ HR.out) | (go_at_call 27; refine (time_ _ p _ HM.out).mono ?_; rintro e w' ⟨rfl, rfl⟩))
      all_goals (go_wp2; go_roundg (l0.length - (i + 1)))
      all_goals (first
        | (case measure => have := HKQ.out; omega)
        | (case rel => exact ⟨i + 1, M.aft (kin6 o0) o1 o2 o3, ⟨rfl⟩, by omega, by omega, by simp, ⟨by have h1 := aft_time M (kin6 o0) o1 o2 o3; have h2 := aft_len M (kin6 o0) o1 o2 o3; have h3 := HT.out; exact ⟨by omega, by omega, by omega⟩⟩, ⟨(by (with_reducible repeat (first | exact HM.out | refine MemAt.drewN ?_ _ | refine MemAt.drew ?_ | refine MemAt.alloc ?_ _)))⟩, ⟨(by (with_reducible repeat (first | exact HR.out | refine MemAt.drewN ?_ _ | refine MemAt.drew ?_ | refine MemAt.alloc ?_ _)))⟩, ⟨(by repeat (first | exact HB.out | apply below_alloc | apply pw_below_drewN | apply below_drew1))⟩⟩))
    · have hge : l0.length ≤ i ∨ 400 ≤ i := by omega
      clear hlt
      rcases hge with hge | hge
      all_goals (by_cases a0 : i < l0.length <;> try omega)
      all_goals (go_wp2; go_loopg [13] (1 + c) (fun kq v13 w' => ∃ (j : Nat), Aside0 (kq = 1 + c - j) ∧ j ≤ 1 + c ∧ v13 = .int .i64 (j : Int) ∧ Aside0 (MemAt 97 w' p M) ∧ Aside0 (MemAt 46 w' r M) ∧ Aside0 (Below w.heap.size w w')))
      all_goals (first | (case atStart => exact ⟨0, ⟨by omega⟩, Nat.zero_le _, rfl, HM, HR, HB⟩) | skip)
      all_goals
        clear HB HM HR
        obtain ⟨j, HKQ, hj, rfl, HM, HR, HB⟩ := hrel
        by_cases hlt : j < 1 + c
        · go_wp2_with (first | (go_at_call 22; refine (peek_ _ p M _ HM.out).mono ?_; rintro e w' ⟨rfl, rfl⟩) | (go_at_call 28; refine (RMem.peek_ _ r M _ HR.out).mono ?_; rintro e w' ⟨rfl, rfl⟩))
          go_roundg (1 + c - (j + 1))
          case measure => have := HKQ.out; omega
          case rel => exact ⟨j + 1, ⟨rfl⟩, by omega, by simp, HM, HR, HB⟩
        · go_wp2
          go_loopg [14] l (fun kq v14 w' => ∃ (j : Nat), Aside0 (kq = l - j) ∧ j ≤ l ∧ v14 = .int .i64 (j : Int) ∧ Aside0 (MemAt 97 w' p M) ∧ Aside0 (MemAt 46 w' r M) ∧ Aside0 (Below w.heap.size w w'))
          case atStart => exact ⟨0, ⟨by omega⟩, Nat.zero_le _, rfl, HM, HR, HB⟩
          case round =>
            clear HB HM HR HKQ
            obtain ⟨q, HKQ, hq, rfl, HM, HR, HB⟩ := hrel
            by_cases hlt : q < l
            · go_wp2_with (first | (go_at_call 19; refine (holder_ _ p M _ HM.out).mono ?_; rintro e w' ⟨rfl, rfl⟩) | (go_at_call 29; refine (RMem.holder_ _ r M _ HR.out).mono ?_; rintro e w' ⟨rfl, rfl⟩))
              go_roundg (l - (q + 1))
              case measure => have := HKQ.out; omega
              case rel => exact ⟨q + 1, ⟨rfl⟩, by omega, by simp, HM, HR, HB⟩
            · go_wp2
              go_ret
              exact ⟨rfl, HB.out⟩

end Go.Proofs.Ytejplbeddcpmeaa.Mem
