/- The law RingStill: its walk; no condition. -/
import Derived.Test.YtejplbeddcpmeaaRing8
namespace Go.Proofs.Ytejplbeddcpmeaa.Ring
open Go.RowKit Go.Proofs.YtejplbeddcpmeaaW.PrintWords Go.Proofs.Ytejplbeddcpmeaa.Heap Go.Proofs.Ytejplbeddcpmeaa.Mem
set_option linter.unusedVariables false
set_option linter.unusedSimpArgs false


theorem len_nn (s : LR) : 0 ≤ s.len := by unfold LR.len; omega
theorem popped_size (s : LR) : s.popped.size = s.size := by unfold LR.popped; split <;> rfl
theorem popped_pos {s : LR} (h : 0 < s.len) : s.popped.len = s.len - 1 := by
  unfold LR.popped
  split
  · rename_i e; simp [LR.len, e] at h
  · rename_i e; simp [LR.len, e]
theorem popped_zero {s : LR} (h : s.len ≤ 0) : s.popped = s := by
  unfold LR.popped
  split
  · rfl
  · rename_i e; simp [LR.len, e] at h; omega
set_option maxHeartbeats 8000000 in
set_option maxRecDepth 100000 in
theorem RingStill_calls (a0 a1 : Int) (who : Bool) (b0 b1 : Int) (w : World) (h1 : 0 ≤ a1 ∧ a1 ≤ 18446744073709551615) :
    Calls Try.prog 7 #[.agg #[.int .i64 a0, .int .u64 a1], .bool who, .agg #[.int .i64 b0, .int .i64 b1]] w fun e w' => e = .returned (.bool true) ∧ Below w.heap.size w w' := by
  have HB := Aside0.mk (Below.refl w.heap.size w)
  obtain ⟨q, hq⟩ : ∃ q : Nat, kin 8 a0 = (q : Int) := ⟨(kin 8 a0).toNat, by have := (kin_in 8 (by decide) (by decide) a0).1; omega⟩
  have hq8 : q < 8 := by have := (kin_in 8 (by decide) (by decide) a0).2; omega
  obtain ⟨c, hc⟩ : ∃ c : Nat, wrap64 ((IntKind.u64.wrap b0).tmod (1 + (q : Int) + 1)) = (c : Int) := ⟨(kin (1 + (q : Int) + 1) b0).toNat, by have := (kin_in (1 + (q : Int) + 1) (by omega) (by omega) b0).1; show kin _ _ = _; omega⟩
  have hcn : c ≤ 1 + q := by have := (kin_in (1 + (q : Int) + 1) (by omega) (by omega) b0).2; have e : kin (1 + (q : Int) + 1) b0 = (c : Int) := hc; omega
  obtain ⟨d, hd⟩ : ∃ d : Nat, kin 8 b1 = (d : Int) := ⟨(kin 8 b1).toNat, by have := (kin_in 8 (by decide) (by decide) b1).1; omega⟩
  have hd8 : d < 8 := by have := (kin_in 8 (by decide) (by decide) b1).2; omega
  have hlen : (MemS.new ((3 + q : Nat) : Int) ((0 : Nat) : Int)).cells.length = 3 + q := by simp [MemS.new]; omega
  have htm : (MemS.new ((3 + q : Nat) : Int) ((0 : Nat) : Int)).time = 0 := rfl
  have HNEW := Aside0.mk (show ∀ W : World, Calls Try.prog 15 #[.int .i64 (1 + (q : Int) + 2), .int .i64 0] W (MadeMem 97 W (MemS.new ((3 + q : Nat) : Int) ((0 : Nat) : Int))) from fun W => by rw [show 1 + (q : Int) + 2 = ((3 + q : Nat) : Int) from by omega]; exact new_ok W (3 + q) 0 (by omega) (by omega) (by decide))
  generalize MemS.new ((3 + q : Nat) : Int) ((0 : Nat) : Int) = M0 at *
  have HRN := Aside0.mk (fun W (p : Mp) (hm : MemAt 97 W p M0) => ringNew_ok W p M0 0 (1 + (q : Int)) a1 hm (by omega) (by omega) (by decide) (by omega) h1)
  have HNR := Aside0.mk (new_ring 0 (1 + (q : Int)) a1 (by omega) h1)
  have HI0 := Aside0.mk (new_inv (M := M0) (base := 0) (size := 1 + (q : Int)) (start := a1) (by omega) (by decide) (by omega) (by omega) h1)
  have HT0 := Aside0.mk (show ((M0.store 0 a1).store (0 + 1) a1).time ≤ 2 from by have := store_time (M0.store 0 a1) (0 + 1) a1; have := store_time M0 0 a1; omega)
  have HW50 := Aside0.mk (show Blk ((w.alloc (.cells #[.int .i64 a0, .int .u64 a1] 50)).alloc (.cells #[.int .i64 b0, .int .i64 b1] 51)) w.heap.size [.int .i64 a0, .int .u64 a1] 50 from (Blk.new w [.int .i64 a0, .int .u64 a1] 50).alloc _)
  have HW51 := Aside0.mk (show Blk ((w.alloc (.cells #[.int .i64 a0, .int .u64 a1] 50)).alloc (.cells #[.int .i64 b0, .int .i64 b1] 51)) (w.heap.size + 1) [.int .i64 b0, .int .i64 b1] 51 from by have k := Blk.new (w.alloc (.cells #[.int .i64 a0, .int .u64 a1] 50)) [.int .i64 b0, .int .i64 b1] 51; simpa using k)
  clear hlen htm h1
  unfold kin at hq hd
  go_enter Try.func7, Try.ntmps7
  go_wp2_with (first | (go_at_call 15; (with_reducible refine (HNEW.out _).mono ?_); rintro e w' ⟨p, rfl, hm, hb, hk⟩; have HBn := Aside0.mk (below_step (by repeat (first | exact HB.out | apply below_alloc | apply pw_below_drewN | apply below_drew1)) hb); have HK := Aside0.mk (fun k (hh : p.has k) => Nat.le_trans (below_size (by repeat (first | exact HB.out | apply below_alloc | apply pw_below_drewN | apply below_drew1))) (hk k hh)); have HM := Aside0.mk hm; have HX50 := Aside0.mk (Blk.below HW50.out hb); have HX51n := Aside0.mk (Blk.below HW51.out hb); clear HW51; have HX51 := HX51n; clear HX51n; have hx501 : w'.cell? ⟨w.heap.size, 1, none⟩ = some (.int .u64 a1) := (Blk.cell HX50.out 1).trans rfl; clear HB hm hb hk; have HB := HBn; clear HBn) | (go_at_call 30; (with_reducible refine (HRN.out _ p HM.out).mono ?_); rintro e w' ⟨g, rfl, hm, hr, hc, hg⟩; have HBn := Aside0.mk (below_chg (by repeat (first | exact HB.out | apply below_alloc | apply pw_below_drewN | apply below_drew1)) hc (below_size (by repeat (first | exact HB.out | apply below_alloc | apply pw_below_drewN | apply below_drew1))) HK.out); have HG := Aside0.mk (Nat.le_trans (below_size HB.out) hg); have HX51n := Aside0.mk (Blk.mem1 HX51.out HM.out hc (by decide) (by decide) (by decide)); have HM1 := Aside0.mk hm; rw [HNR.out] at hr; have HR := Aside0.mk hr; clear HB hm hr hc hg HM HX51; have HB := HBn; have HM := HM1; have HX51 := HX51n; clear HBn HM1 HX51n) | (go_at_call 31; (with_reducible refine (told_ _).mono ?_); rintro e w' ⟨rfl, hb⟩; have HBn := Aside0.mk (below_step (by repeat (first | exact HB.out | apply below_alloc | apply pw_below_drewN | apply below_drew1)) hb); have HMn := Aside0.mk (HM.out.chg (S := fun _ => False) (Chg.of_below hb) (fun _ _ => id)); have HRn := Aside0.mk (show RingAt w' g p _ from Blk.below HR.out hb); have HX51n := Aside0.mk (Blk.below HX51.out hb); clear HB hb HM HR HX51; have HB := HBn; have HM := HMn; have HR := HRn; have HX51 := HX51n; clear HBn HMn HRn HX51n; have hxs0 : w'.cell? ⟨w.heap.size + 1, 0, none⟩ = some (.int .i64 b0) := (Blk.cell HX51.out 0).trans rfl; have hxs1 : w'.cell? ⟨w.heap.size + 1, 1, none⟩ = some (.int .i64 b1) := (Blk.cell HX51.out 1).trans rfl))
  have HI := HI0
  have HT := HT0
  go_loopg [12] c (fun kq v12 w' => ∃ (i : Nat) (M : MemS) (s : LR), Aside0 (kq = c - i) ∧ i ≤ c ∧ v12 = .int .i64 (i : Int) ∧ Aside0 (s.size = 1 + (q : Int) ∧ s.len = i ∧ M.time ≤ 2 + 3 * i) ∧ Aside0 (MemAt 97 w' p M) ∧ Aside0 (RingAt w' g p (s.ring false false)) ∧ Aside0 (s.Inv M) ∧ Aside0 (Blk w' (w.heap.size + 1) [.int .i64 b0, .int .i64 b1] 51) ∧ Aside0 (Below w.heap.size w w'))
  case atStart => exact ⟨0, _, _, ⟨by omega⟩, Nat.zero_le _, rfl, ⟨⟨rfl, rfl, by have := HT.out; omega⟩⟩, HM, HR, HI, HX51, HB⟩
  case round =>
    clear HB HM HR HI HX51 HI0 HT0 HT
    obtain ⟨i, M, s, HKQ, hi, rfl, HS, HM, HR, HI, HX51, HB⟩ := hrel
    have hxs0 : wr.cell? ⟨w.heap.size + 1, 0, none⟩ = some (.int .i64 b0) := (Blk.cell HX51.out 0).trans rfl
    have hxs1 : wr.cell? ⟨w.heap.size + 1, 1, none⟩ = some (.int .i64 b1) := (Blk.cell HX51.out 1).trans rfl
    by_cases hlt : i < c
    · have hin := HS.out
      go_wp2_with (first | (go_at_call 33; (refine (push_new _ g p (M) (LR.ring (s) false false) HM.out HR.out (ring_ok HI.out _ _) rfl (i : Int) (by omega)).mono ?_); rintro e w' ⟨x, rfl, ha, hc, hx⟩; have HBn := Aside0.mk (below_chg (base := w.heap.size) HB.out hc HB.out.size (fun k e => e ▸ HG.out)); have HXB := Aside0.mk (Nat.le_trans HB.out.size hx); have HX51n := Aside0.mk (Blk.ring1 HX51.out HR.out hc (by decide)); have HC := Aside0.mk ha; clear HB HM HR ha hc hx HX51; have HB := HBn; have HX51 := HX51n; clear HBn HX51n; have hxs0 : w'.cell? ⟨w.heap.size + 1, 0, none⟩ = some (.int .i64 b0) := (Blk.cell HX51.out 0).trans rfl; have hxs1 : w'.cell? ⟨w.heap.size + 1, 1, none⟩ = some (.int .i64 b1) := (Blk.cell HX51.out 1).trans rfl) | (go_at_call 32; (refine (pushed _ p g x M s false (i : Int) HC.out HI.out (by have := HS.out; omega)).mono ?_); rintro e w' ⟨rfl, ⟨⟨M', A', hm, hr, ha, hI, hT, hok⟩, hc⟩⟩; have HBn := Aside0.mk (below_chg (base := w.heap.size) HB.out hc HB.out.size (Mra.new HK.out HG.out HXB.out)); have HX51n := Aside0.mk (Blk.mra HX51.out HC.out hc (by decide) (by decide) (by decide) (by decide) (by decide)); have HM := Aside0.mk hm; have HR := Aside0.mk hr; have HA := Aside0.mk ha; have HIn := Aside0.mk hI; have HTn := Aside0.mk hT; have HOK := Aside0.mk hok; clear HB hm hr ha hI hT hok hc HC HXB HX51; have HB := HBn; have HX51 := HX51n; clear HBn HX51n; have hxs0 : w'.cell? ⟨w.heap.size + 1, 0, none⟩ = some (.int .i64 b0) := (Blk.cell HX51.out 0).trans rfl; have hxs1 : w'.cell? ⟨w.heap.size + 1, 1, none⟩ = some (.int .i64 b1) := (Blk.cell HX51.out 1).trans rfl))
      go_roundg (c - (i + 1))
      case measure => have := HKQ.out; omega
      case rel => exact ⟨i + 1, M', _, ⟨rfl⟩, by omega, by simp, ⟨by have h1 := HS.out; have h2 := HTn.out; rw [if_pos (by omega)]; refine ⟨h1.1, ?_, by omega⟩; simp [LR.len] at h1 ⊢; omega⟩, HM, HR, HIn, HX51, HB⟩
    · have hic2 : c = i := by omega
      subst hic2
      have hic2 := trivial
      clear hlt hic2
      have HLN := Aside0.mk (show IntKind.u64.wrap (M.peek (s.ring false false).base - M.peek ((s.ring false false).base + 1)) = (c : Int) from by rw [show M.peek (s.ring false false).base = _ from HI.out.put, show M.peek ((s.ring false false).base + 1) = _ from HI.out.tak, waits HI.out]; have := HS.out.2.1; omega)
      have HS2 := Aside0.mk (show s.size = 1 + (q : Int) ∧ s.len = c ∧ M.time ≤ 2 + 3 * c from by have := HS.out; omega)
      clear HS HKQ
      cases who with
      | true =>
        go_wp2_with (go_at_call 34; (refine (len_ _ g p M (s.ring false false) HM.out HR.out (ring_ok HI.out _ _) (c : Int) HLN.out (by omega)).mono ?_); rintro e w2 ⟨rfl, ⟨nd, hnd⟩⟩; have HMn := Aside0.mk (show MemAt 97 w2 p M from hnd ▸ HM.out.drewN nd); have HRn := Aside0.mk (show RingAt w2 g p (s.ring false false) from hnd ▸ (show RingAt (World.drewN _ nd) g p (s.ring false false) from HR.out)); have HX51n := Aside0.mk (show Blk w2 (w.heap.size + 1) [.int .i64 b0, .int .i64 b1] 51 from hnd ▸ (show Blk (World.drewN _ nd) (w.heap.size + 1) [.int .i64 b0, .int .i64 b1] 51 from HX51.out)); have HBn := Aside0.mk (show Below w.heap.size w w2 from hnd ▸ pw_below_drewN HB.out nd); clear HM HR HX51 HB hnd; have HM := HMn; have HR := HRn; have HX51 := HX51n; have HB := HBn; clear HMn HRn HX51n HBn)
        go_wp2_with (go_at_call 33; (refine (push_new _ g p (M) (LR.ring (s) false false) HM.out HR.out (ring_ok HI.out _ _) rfl 99 (by decide)).mono ?_); rintro e w' ⟨x, rfl, ha, hc, hx⟩; have HBn := Aside0.mk (below_chg (base := w.heap.size) HB.out hc HB.out.size (fun k e => e ▸ HG.out)); have HXB := Aside0.mk (Nat.le_trans HB.out.size hx); have HX51n := Aside0.mk (Blk.ring1 HX51.out HR.out hc (by decide)); have HC := Aside0.mk ha; clear HB HM HR ha hc hx HX51; have HB := HBn; have HX51 := HX51n; clear HBn HX51n; have hxs0 : w'.cell? ⟨w.heap.size + 1, 0, none⟩ = some (.int .i64 b0) := (Blk.cell HX51.out 0).trans rfl; have hxs1 : w'.cell? ⟨w.heap.size + 1, 1, none⟩ = some (.int .i64 b1) := (Blk.cell HX51.out 1).trans rfl)
        obtain ⟨St, N, hst, hrun⟩ := run_push _ p g x M s 99 HC.out HI.out (by have := HS2.out; omega)
        have HRUN := Aside0.mk hrun
        have HST := Aside0.mk hst
        clear hst hrun
        obtain ⟨w3, hw3⟩ : ∃ w3, w3 = w' := ⟨_, rfl⟩
        subst hw3
        go_wp2_with fail
        go_loopg [15] d (fun kq v15 w' => ∃ (k j : Nat), Aside0 (kq = d - k) ∧ k ≤ d ∧ v15 = .int .i64 (k : Int) ∧ j ≤ N ∧ Aside0 (St j w'))
        case atStart => exact ⟨0, 0, ⟨by omega⟩, by omega, rfl, by omega, HST⟩
        case round =>
          clear HST
          obtain ⟨k, j, HKQ, hk, rfl, hjN, HST⟩ := hrel
          have HSA := Aside0.mk (HRUN.out.at_ j _ hjN HST.out)
          have HX := Aside0.mk (Blk.mra HX51.out HC.out HSA.out.chg (by decide) (by decide) (by decide) (by decide) (by decide))
          have hxs1 : wr.cell? ⟨w.heap.size + 1, 1, none⟩ = some (.int .i64 b1) := (Blk.cell HX.out 1).trans rfl
          by_cases hkd : k < d
          · by_cases hj : j < N
            · go_wp2_with (go_at_call 36; (with_reducible refine (HRUN.out.step j _ hj HST.out).mono ?_); rintro e w' ⟨⟨b, rfl⟩, hs⟩; have HSn := Aside0.mk hs; clear hs)
              go_roundg (d - (k + 1))
              case measure => have := HKQ.out; omega
              case rel => exact ⟨k + 1, j + 1, ⟨rfl⟩, by omega, by simp, hj, HSn⟩
            · obtain rfl : j = N := by omega
              go_wp2_with (go_at_call 36; (with_reducible refine (HRUN.out.over _ HST.out).mono ?_); rintro e w' ⟨⟨b, rfl⟩, rfl⟩)
              go_roundg (d - (k + 1))
              case measure => have := HKQ.out; omega
              case rel => exact ⟨k + 1, j, ⟨rfl⟩, by omega, by simp, hjN, HST⟩
          · obtain ⟨⟨M2, s2, A2, fl, ha2, hI2, hs2, hl2, ht2⟩, hc2⟩ := HSA.out
            simp only [if_true] at ha2
            have HB3 := Aside0.mk (below_chg (base := w.heap.size) HB.out hc2 HB.out.size (Mra.new HK.out HG.out HXB.out))
            have HM3 := Aside0.mk ha2.m
            have HR3 := Aside0.mk ha2.r
            have HI3 := Aside0.mk hI2
            have HL3 := Aside0.mk (show s2.size = 1 + (q : Int) ∧ (s2.len = c ∨ s2.len = c + 1) ∧ M2.time ≤ 40 from by have := HS2.out; omega)
            clear ha2 hI2 hs2 hl2 ht2 hc2
            go_wp2_with fail
            simp only [hd]
            clear hxs1
            go_loopg [16, 17, 18] 12 (fun kq v16 v17 v18 w' => ∃ (i gt : Nat) (M : MemS) (s : LR), Aside0 (kq = 12 - i) ∧ i ≤ 12 ∧ v17 = .int .i64 (i : Int) ∧ v16 = .int .i64 (gt : Int) ∧ Aside0 (s.size = 1 + (q : Int) ∧ (gt : Int) + s.len = s2.len ∧ (gt = i ∨ s.len = 0) ∧ M.time ≤ 40 + 3 * i ∧ gt ≤ i) ∧ Aside0 (MemAt 97 w' p M) ∧ Aside0 (RingAt w' g p (s.ring fl false)) ∧ Aside0 (s.Inv M) ∧ Aside0 (Below w.heap.size w w'))
            case atStart => exact ⟨0, 0, M2, s2, ⟨by omega⟩, by omega, rfl, rfl, ⟨by have := HL3.out; omega⟩, HM3, HR3, HI3, HB3⟩
            case round =>
              clear HM3 HR3 HI3 HB3 HB HX51 HC HX HSA
              obtain ⟨i, gt, M, s, HKQ3, hi, rfl, rfl, HS, HM, HR, HI, HB⟩ := hrel
              by_cases hi12 : i < 12
              · have hgt := HS.out.2.2.2.2
                by_cases hp : 0 < s.len
                · have HP := Aside0.mk hp
                  clear hp
                  go_wp2_with (first | (go_at_call 35; (refine (pop_new _ g p (M) (LR.ring (s) fl false) HM.out HR.out (ring_ok HI.out _ _) rfl).mono ?_); rintro e w' ⟨x, rfl, ha, hc, hx⟩; have HBn := Aside0.mk (below_chg (base := w.heap.size) HB.out hc HB.out.size (fun k e => e ▸ HG.out)); have HXB3 := Aside0.mk (Nat.le_trans HB.out.size hx); have HC3 := Aside0.mk ha; clear HB HM HR ha hc hx; have HB := HBn; clear HBn) | (go_at_call 32; (refine (popped _ p g x M s fl HC3.out HI.out (by have := HS.out; omega)).mono ?_); rintro e w' ⟨rfl, ⟨⟨M', A', hm, hr, ha, hI, hT, hok⟩, hc⟩⟩; have HBn := Aside0.mk (below_chg (base := w.heap.size) HB.out hc HB.out.size (Mra.new HK.out HG.out HXB3.out)); have HM := Aside0.mk hm; have HR := Aside0.mk hr; have HA := Aside0.mk ha; have HIn := Aside0.mk hI; have HTn := Aside0.mk hT; have HOK := Aside0.mk hok; clear HB hm hr ha hI hT hok hc HC3 HXB3; have HB := HBn; clear HBn) | (go_at_call 37; (with_reducible refine (ok_ _ x g A' HA.out).mono ?_); rintro e w' ⟨rfl, rfl⟩; rw [HOK.out, decide_eq_true HP.out]))
                  go_roundg (12 - (i + 1))
                  case measure => have := HKQ3.out; omega
                  case rel => exact ⟨i + 1, gt + 1, M', s.popped, ⟨rfl⟩, by omega, by simp, by simp, ⟨by have h1 := HS.out; have h2 := HTn.out; have h3 := popped_pos HP.out; have h5 := HP.out; have h4 : s.popped.size = s.size := popped_size s; omega⟩, HM, HR, HIn, HB⟩
                · have HP := Aside0.mk hp
                  clear hp
                  go_wp2_with (first | (go_at_call 35; (refine (pop_new _ g p (M) (LR.ring (s) fl false) HM.out HR.out (ring_ok HI.out _ _) rfl).mono ?_); rintro e w' ⟨x, rfl, ha, hc, hx⟩; have HBn := Aside0.mk (below_chg (base := w.heap.size) HB.out hc HB.out.size (fun k e => e ▸ HG.out)); have HXB3 := Aside0.mk (Nat.le_trans HB.out.size hx); have HC3 := Aside0.mk ha; clear HB HM HR ha hc hx; have HB := HBn; clear HBn) | (go_at_call 32; (refine (popped _ p g x M s fl HC3.out HI.out (by have := HS.out; omega)).mono ?_); rintro e w' ⟨rfl, ⟨⟨M', A', hm, hr, ha, hI, hT, hok⟩, hc⟩⟩; have HBn := Aside0.mk (below_chg (base := w.heap.size) HB.out hc HB.out.size (Mra.new HK.out HG.out HXB3.out)); have HM := Aside0.mk hm; have HR := Aside0.mk hr; have HA := Aside0.mk ha; have HIn := Aside0.mk hI; have HTn := Aside0.mk hT; have HOK := Aside0.mk hok; clear HB hm hr ha hI hT hok hc HC3 HXB3; have HB := HBn; clear HBn) | (go_at_call 37; (with_reducible refine (ok_ _ x g A' HA.out).mono ?_); rintro e w' ⟨rfl, rfl⟩; rw [HOK.out, decide_eq_false (by have := HP.out; omega)]))
                  go_roundg (12 - (i + 1))
                  case measure => have := HKQ3.out; omega
                  case rel => exact ⟨i + 1, gt, M', s.popped, ⟨rfl⟩, by omega, by simp, rfl, ⟨by have h0 := len_nn s; have h1 := HS.out; have h2 := HTn.out; have h3 := popped_zero (s := s) (by have := HP.out; omega); have h6 := HP.out; rw [h3]; omega⟩, HM, HR, HIn, HB⟩
              · have h0 := len_nn s
                have h1 := HS.out
                have h2 := HI.out.len
                have h3 := HL3.out
                have hfin : (gt : Int) = (c : Int) ∨ (gt : Int) = (c : Int) + 1 := by omega
                have hi12b : (12 : Int) ≤ (i : Int) := by omega
                clear h0 h1 h2 h3 hi12
                rcases hfin with hfin | hfin
                · have e1 : ((gt : Int) == (c : Int)) = true := beq_iff_eq.mpr hfin
                  clear hfin
                  go_wp2
                  go_ret
                  exact ⟨by first | rfl | (simp; done), HB.out⟩
                · have e1 : ((gt : Int) == (c : Int)) = false := beq_eq_false_iff_ne.mpr (by omega)
                  have e2 : ((gt : Int) == (c : Int) + 1) = true := beq_iff_eq.mpr hfin
                  clear hfin
                  go_wp2
                  go_ret
                  exact ⟨by first | rfl | (simp; done), HB.out⟩
      | false =>
        go_wp2_with (go_at_call 34; (refine (len_ _ g p M (s.ring false false) HM.out HR.out (ring_ok HI.out _ _) (c : Int) HLN.out (by omega)).mono ?_); rintro e w2 ⟨rfl, ⟨nd, hnd⟩⟩; have HMn := Aside0.mk (show MemAt 97 w2 p M from hnd ▸ HM.out.drewN nd); have HRn := Aside0.mk (show RingAt w2 g p (s.ring false false) from hnd ▸ (show RingAt (World.drewN _ nd) g p (s.ring false false) from HR.out)); have HX51n := Aside0.mk (show Blk w2 (w.heap.size + 1) [.int .i64 b0, .int .i64 b1] 51 from hnd ▸ (show Blk (World.drewN _ nd) (w.heap.size + 1) [.int .i64 b0, .int .i64 b1] 51 from HX51.out)); have HBn := Aside0.mk (show Below w.heap.size w w2 from hnd ▸ pw_below_drewN HB.out nd); clear HM HR HX51 HB hnd; have HM := HMn; have HR := HRn; have HX51 := HX51n; have HB := HBn; clear HMn HRn HX51n HBn)
        go_wp2_with (go_at_call 35; (refine (pop_new _ g p (M) (LR.ring (s) false false) HM.out HR.out (ring_ok HI.out _ _) rfl).mono ?_); rintro e w' ⟨x, rfl, ha, hc, hx⟩; have HBn := Aside0.mk (below_chg (base := w.heap.size) HB.out hc HB.out.size (fun k e => e ▸ HG.out)); have HXB := Aside0.mk (Nat.le_trans HB.out.size hx); have HX51n := Aside0.mk (Blk.ring1 HX51.out HR.out hc (by decide)); have HC := Aside0.mk ha; clear HB HM HR ha hc hx HX51; have HB := HBn; have HX51 := HX51n; clear HBn HX51n; have hxs0 : w'.cell? ⟨w.heap.size + 1, 0, none⟩ = some (.int .i64 b0) := (Blk.cell HX51.out 0).trans rfl; have hxs1 : w'.cell? ⟨w.heap.size + 1, 1, none⟩ = some (.int .i64 b1) := (Blk.cell HX51.out 1).trans rfl)
        obtain ⟨St, N, hst, hrun⟩ := run_pop _ p g x M s HC.out HI.out (by have := HS2.out; omega)
        have HRUN := Aside0.mk hrun
        have HST := Aside0.mk hst
        clear hst hrun
        obtain ⟨w3, hw3⟩ : ∃ w3, w3 = w' := ⟨_, rfl⟩
        subst hw3
        go_wp2_with fail
        go_loopg [15] d (fun kq v15 w' => ∃ (k j : Nat), Aside0 (kq = d - k) ∧ k ≤ d ∧ v15 = .int .i64 (k : Int) ∧ j ≤ N ∧ Aside0 (St j w'))
        case atStart => exact ⟨0, 0, ⟨by omega⟩, by omega, rfl, by omega, HST⟩
        case round =>
          clear HST
          obtain ⟨k, j, HKQ, hk, rfl, hjN, HST⟩ := hrel
          have HSA := Aside0.mk (HRUN.out.at_ j _ hjN HST.out)
          have HX := Aside0.mk (Blk.mra HX51.out HC.out HSA.out.chg (by decide) (by decide) (by decide) (by decide) (by decide))
          have hxs1 : wr.cell? ⟨w.heap.size + 1, 1, none⟩ = some (.int .i64 b1) := (Blk.cell HX.out 1).trans rfl
          by_cases hkd : k < d
          · by_cases hj : j < N
            · go_wp2_with (go_at_call 36; (with_reducible refine (HRUN.out.step j _ hj HST.out).mono ?_); rintro e w' ⟨⟨b, rfl⟩, hs⟩; have HSn := Aside0.mk hs; clear hs)
              go_roundg (d - (k + 1))
              case measure => have := HKQ.out; omega
              case rel => exact ⟨k + 1, j + 1, ⟨rfl⟩, by omega, by simp, hj, HSn⟩
            · obtain rfl : j = N := by omega
              go_wp2_with (go_at_call 36; (with_reducible refine (HRUN.out.over _ HST.out).mono ?_); rintro e w' ⟨⟨b, rfl⟩, rfl⟩)
              go_roundg (d - (k + 1))
              case measure => have := HKQ.out; omega
              case rel => exact ⟨k + 1, j, ⟨rfl⟩, by omega, by simp, hjN, HST⟩
          · obtain ⟨⟨M2, s2, A2, fl, ha2, hI2, hs2, hl2, ht2⟩, hc2⟩ := HSA.out
            simp only [Bool.false_eq_true, if_false] at ha2
            have HB3 := Aside0.mk (below_chg (base := w.heap.size) HB.out hc2 HB.out.size (Mra.new HK.out HG.out HXB.out))
            have HM3 := Aside0.mk ha2.m
            have HR3 := Aside0.mk ha2.r
            have HI3 := Aside0.mk hI2
            have HL3 := Aside0.mk (show s2.size = 1 + (q : Int) ∧ (s2.len = c ∨ s2.len = c + -1) ∧ M2.time ≤ 40 from by have := HS2.out; omega)
            clear ha2 hI2 hs2 hl2 ht2 hc2
            go_wp2_with fail
            simp only [hd]
            clear hxs1
            go_loopg [16, 17, 18] 12 (fun kq v16 v17 v18 w' => ∃ (i gt : Nat) (M : MemS) (s : LR), Aside0 (kq = 12 - i) ∧ i ≤ 12 ∧ v17 = .int .i64 (i : Int) ∧ v16 = .int .i64 (gt : Int) ∧ Aside0 (s.size = 1 + (q : Int) ∧ (gt : Int) + s2.len = s.len ∧ (gt = i ∨ s.len = s.size) ∧ M.time ≤ 40 + 3 * i ∧ gt ≤ i) ∧ Aside0 (MemAt 97 w' p M) ∧ Aside0 (RingAt w' g p (s.ring false fl)) ∧ Aside0 (s.Inv M) ∧ Aside0 (Below w.heap.size w w'))
            case atStart => exact ⟨0, 0, M2, s2, ⟨by omega⟩, by omega, rfl, rfl, ⟨by have := HL3.out; omega⟩, HM3, HR3, HI3, HB3⟩
            case round =>
              clear HM3 HR3 HI3 HB3 HB HX51 HC HX HSA
              obtain ⟨i, gt, M, s, HKQ3, hi, rfl, rfl, HS, HM, HR, HI, HB⟩ := hrel
              by_cases hi12 : i < 12
              · have hgt := HS.out.2.2.2.2
                by_cases hp : s.len < s.size
                · have HP := Aside0.mk hp
                  clear hp
                  go_wp2_with (first | (go_at_call 33; (refine (push_new _ g p (M) (LR.ring (s) false fl) HM.out HR.out (ring_ok HI.out _ _) rfl (i : Int) (by omega)).mono ?_); rintro e w' ⟨x, rfl, ha, hc, hx⟩; have HBn := Aside0.mk (below_chg (base := w.heap.size) HB.out hc HB.out.size (fun k e => e ▸ HG.out)); have HXB3 := Aside0.mk (Nat.le_trans HB.out.size hx); have HC3 := Aside0.mk ha; clear HB HM HR ha hc hx; have HB := HBn; clear HBn) | (go_at_call 32; (refine (pushed _ p g x M s fl (i : Int) HC3.out HI.out (by have := HS.out; omega)).mono ?_); rintro e w' ⟨rfl, ⟨⟨M', A', hm, hr, ha, hI, hT, hok⟩, hc⟩⟩; have HBn := Aside0.mk (below_chg (base := w.heap.size) HB.out hc HB.out.size (Mra.new HK.out HG.out HXB3.out)); have HM := Aside0.mk hm; have HR := Aside0.mk hr; have HA := Aside0.mk ha; have HIn := Aside0.mk hI; have HTn := Aside0.mk hT; have HOK := Aside0.mk hok; clear HB hm hr ha hI hT hok hc HC3 HXB3; have HB := HBn; clear HBn) | (go_at_call 37; (with_reducible refine (ok_ _ x g A' HA.out).mono ?_); rintro e w' ⟨rfl, rfl⟩; rw [HOK.out, decide_eq_true HP.out]))
                  go_roundg (12 - (i + 1))
                  case measure => have := HKQ3.out; omega
                  case rel => exact ⟨i + 1, gt + 1, M', _, ⟨rfl⟩, by omega, by simp, by simp, ⟨by have h1 := HS.out; have h2 := HTn.out; have h3 := HP.out; rw [if_pos h3]; have h4 : LR.len { s with laid := none, L := s.L ++ [(i : Int)] } = s.len + 1 := (by simp [LR.len]); rw [h4]; show s.size = _ ∧ _; omega⟩, HM, HR, HIn, HB⟩
                · have HP := Aside0.mk hp
                  clear hp
                  go_wp2_with (first | (go_at_call 33; (refine (push_new _ g p (M) (LR.ring (s) false fl) HM.out HR.out (ring_ok HI.out _ _) rfl (i : Int) (by omega)).mono ?_); rintro e w' ⟨x, rfl, ha, hc, hx⟩; have HBn := Aside0.mk (below_chg (base := w.heap.size) HB.out hc HB.out.size (fun k e => e ▸ HG.out)); have HXB3 := Aside0.mk (Nat.le_trans HB.out.size hx); have HC3 := Aside0.mk ha; clear HB HM HR ha hc hx; have HB := HBn; clear HBn) | (go_at_call 32; (refine (pushed _ p g x M s fl (i : Int) HC3.out HI.out (by have := HS.out; omega)).mono ?_); rintro e w' ⟨rfl, ⟨⟨M', A', hm, hr, ha, hI, hT, hok⟩, hc⟩⟩; have HBn := Aside0.mk (below_chg (base := w.heap.size) HB.out hc HB.out.size (Mra.new HK.out HG.out HXB3.out)); have HM := Aside0.mk hm; have HR := Aside0.mk hr; have HA := Aside0.mk ha; have HIn := Aside0.mk hI; have HTn := Aside0.mk hT; have HOK := Aside0.mk hok; clear HB hm hr ha hI hT hok hc HC3 HXB3; have HB := HBn; clear HBn) | (go_at_call 37; (with_reducible refine (ok_ _ x g A' HA.out).mono ?_); rintro e w' ⟨rfl, rfl⟩; rw [HOK.out, decide_eq_false (by have := HP.out; omega)]))
                  go_roundg (12 - (i + 1))
                  case measure => have := HKQ3.out; omega
                  case rel => exact ⟨i + 1, gt, M', _, ⟨rfl⟩, by omega, by simp, rfl, ⟨by have h0 := HI.out.len; have h1 := HS.out; have h2 := HTn.out; have h6 := HP.out; rw [if_neg (by omega)]; omega⟩, HM, HR, HIn, HB⟩
              · have h0 := len_nn s
                have h1 := HS.out
                have h2 := HI.out.len
                have h3 := HL3.out
                have hfin : (gt : Int) = 1 + (q : Int) - (c : Int) ∨ (gt : Int) = 1 + (q : Int) - (c : Int) + 1 := by omega
                have hi12b : (12 : Int) ≤ (i : Int) := by omega
                clear h0 h1 h2 h3 hi12
                rcases hfin with hfin | hfin
                · have e1 : ((gt : Int) == 1 + (q : Int) - (c : Int)) = true := beq_iff_eq.mpr hfin
                  clear hfin
                  go_wp2
                  go_ret
                  exact ⟨by first | rfl | (simp; done), HB.out⟩
                · have e1 : ((gt : Int) == 1 + (q : Int) - (c : Int)) = false := beq_eq_false_iff_ne.mpr (by omega)
                  have e2 : ((gt : Int) == 1 + (q : Int) - (c : Int) + 1) = true := beq_iff_eq.mpr hfin
                  clear hfin
                  go_wp2
                  go_ret
                  exact ⟨by first | rfl | (simp; done), HB.out⟩

end Go.Proofs.Ytejplbeddcpmeaa.Ring
