/- The laws of package ring: told; RingNews; no condition. -/
import Derived.Test.YtejplbeddcpmeaaRing5
import Derived.Test.YtejplbeddcpmeaaMemL
namespace Go.Proofs.Ytejplbeddcpmeaa.Ring
open Go.RowKit Go.Proofs.YtejplbeddcpmeaaW.PrintWords Go.Proofs.Ytejplbeddcpmeaa.Heap Go.Proofs.Ytejplbeddcpmeaa.Mem
set_option linter.unusedVariables false
set_option linter.unusedSimpArgs false

theorem new_inv {M : MemS} {base size start : Int} (hs : 1 ≤ size ∧ size ≤ 64) (hb : 0 ≤ base) (hb1 : base + size + 2 ≤ M.cells.length) (hl : M.cells.length ≤ 1048576) (hst : 0 ≤ start ∧ start ≤ 18446744073709551615) :
    LR.Inv ((M.store base start).store (base + 1) start) ⟨base, size, 0, start, [], none⟩ := by
  have h0 : MemS.has M base := ⟨hb, by omega⟩
  have h1 : MemS.has (M.store base start) (base + 1) := ⟨by omega, by rw [store_len]; omega⟩
  refine ⟨hb, by rw [store_len, store_len]; exact hb1, by rw [store_len, store_len]; exact hl, hs.1, hs.2, Int.le_refl _, by show (0 : Int) < size; omega, hst, by show ((([] : List Int).length : Nat) : Int) ≤ size; simp; omega, ?_, ?_, fun j hj => by simp at hj, fun v hv => by cases hv⟩
  · show ((M.store base start).store (base + 1) start).peek base = IntKind.u64.wrap (start + ((([] : List Int).length : Nat) : Int))
    rw [peek_store h1, if_neg (by omega), peek_store h0, if_pos rfl]
    simp [u64_id hst]
  · show ((M.store base start).store (base + 1) start).peek (base + 1) = start
    rw [peek_store h1, if_pos rfl]
theorem new_ring (base size start : Int) (hs : 1 ≤ size) (hst : 0 ≤ start ∧ start ≤ 18446744073709551615) : (⟨base, size, ⟨start, 0, false⟩, ⟨start, 0, false⟩⟩ : RingS) = LR.ring ⟨base, size, 0, start, [], none⟩ false false := by
  simp [LR.ring, LR.len, u64_id hst]
theorem ActAt.chg {w w' : World} {y g gx x : Nat} {p : Mp} {A : ActS} (h : ActAt w y g A) (hc : Chg (Mra p gx x) w w') (h1 : ¬ p.has y) (h2 : y ≠ gx) (h3 : y ≠ x) : ActAt w' y g A := Blk.chg h hc (by rintro (k | k | k); exact h1 k; exact h2 k; exact h3 k)
theorem ActAt.one {w w' : World} {y g gx : Nat} {A : ActS} (h : ActAt w y g A) (hc : Chg (fun k => k = gx) w w') (h2 : y ≠ gx) : ActAt w' y g A := Blk.chg h hc h2
theorem Mra.new {p : Mp} {g x B : Nat} (hk : ∀ k, p.has k → B ≤ k) (hg : B ≤ g) (hx : B ≤ x) : ∀ k, Mra p g x k → B ≤ k := by
  rintro k (h | rfl | rfl)
  · exact hk k h
  · exact hg
  · exact hx
set_option maxHeartbeats 1600000 in
theorem list_nil (w : World) : Calls Try.prog 45 #[.pointer none] w fun e w' => e = .returned (.slice none 0 0) ∧ w = w' := by
  go_enter Try.func45, Try.ntmps45
  go_wp2_with (go_at_call 34; (with_reducible refine (len_nil _).mono ?_); rintro e w' ⟨rfl, rfl⟩)
  go_loopg [3, 7] 1 (fun kq v3 v w' => v3 = .slice none 0 0 ∧ v = .int .i64 0 ∧ w = w')
  case atStart => exact ⟨rfl, rfl, rfl⟩
  case round =>
    obtain ⟨rfl, rfl, rfl⟩ := hrel
    go_wp2
    go_ret
    exact ⟨rfl, rfl⟩

set_option maxHeartbeats 4000000 in
set_option maxRecDepth 100000 in
theorem told_ (w : World) : Calls Try.prog 31 #[] w fun e w' => e = .returned (.bool true) ∧ Below w.heap.size w w' := by
  have HB := Aside0.mk (Below.refl w.heap.size w)
  have hnew : ∀ W : World, Calls Try.prog 15 #[.int .i64 4, .int .i64 1] W (MadeMem 97 W (MemS.new (4 : Nat) (1 : Nat))) := fun W => new_ok W 4 1 (by decide) (by decide) (by decide)
  have HNEW := Aside0.mk hnew
  clear hnew
  have HI := Aside0.mk (new_inv (M := MemS.new (4 : Nat) (1 : Nat)) (base := 1) (size := 1) (start := 0) (by decide) (by decide) (by decide) (by decide) (by decide))
  go_enter Try.func31, Try.ntmps31
  go_wp2_with (first | (go_at_call 15; refine (HNEW.out _).mono ?_; rintro e w' ⟨p, rfl, hm, hb, hk⟩; have HBn := Aside0.mk (below_step (by repeat (first | exact HB.out | apply below_alloc | apply pw_below_drewN | apply below_drew1)) hb); have HK := Aside0.mk (fun k (hh : p.has k) => Nat.le_trans (below_size HB.out) (hk k hh)); have HM := Aside0.mk hm; clear HB hm hb hk; have HB := HBn; clear HBn) | (go_at_call 30; refine (ringNew_ok _ p (MemS.new (4 : Nat) (1 : Nat)) 1 1 0 HM.out (by decide) (by decide) (by decide) (by decide) (by decide)).mono ?_; rintro e w' ⟨g, rfl, hm, hr, hc, hg⟩; have HBn := Aside0.mk (below_chg (by repeat (first | exact HB.out | apply below_alloc | apply pw_below_drewN | apply below_drew1)) hc (below_size (by repeat (first | exact HB.out | apply below_alloc | apply pw_below_drewN | apply below_drew1))) HK.out); have HG := Aside0.mk (Nat.le_trans (below_size HB.out) hg); have HM1 := Aside0.mk hm; rw [new_ring _ _ _ (by decide) (by decide)] at hr; have HR := Aside0.mk hr; clear HB hm hr hc hg HM; have HB := HBn; have HM := HM1; clear HBn HM1))
  have HT := Aside0.mk (show (((MemS.new (4 : Nat) (1 : Nat)).store 1 0).store (1 + 1) 0).time = 2 from by decide)
  generalize ((MemS.new (4 : Nat) (1 : Nat)).store 1 0).store (1 + 1) 0 = M0 at *
  have HT0 := HT
  go_wp2_with (go_at_call 33; (refine (push_new _ g p (M0) ((⟨1, 1, 0, 0, [], none⟩ : LR).ring false false) HM.out HR.out (ring_ok HI.out _ _) rfl 5 (by decide)).mono ?_); rintro e w' ⟨xa, rfl, ha, hc, hx⟩; have HBn := Aside0.mk (below_chg (base := w.heap.size) HB.out hc HB.out.size (fun k e => e ▸ HG.out)); have HXB := Aside0.mk (Nat.le_trans HB.out.size hx); have HGXa := Aside0.mk ha.gx; have HPXa := Aside0.mk ha.px; have HCa := Aside0.mk ha; clear HB HM HR ha hc hx; have HB := HBn; clear HBn)
  go_wp2_with (go_at_call 33; (refine (push_busy _ g p ((⟨1, 1, 0, 0, [], none⟩ : LR).ring true false) HCa.out.r rfl 6).mono ?_); rintro e w' ⟨rfl, rfl⟩)
  go_wp2_with (go_at_call 32; (refine (finish_free _ p g xa (M0) (⟨1, 1, 0, 0, [], none⟩ : LR) false 5 HCa.out HI.out (by rw [HT.out]; decide) (by decide)).mono ?_); rintro e w' ⟨rfl, ⟨⟨M1, ha, hI, hT, hap⟩, hc⟩⟩; have HBn := Aside0.mk (below_chg (base := w.heap.size) HB.out hc HB.out.size (Mra.new HK.out HG.out HXB.out)); have HM := Aside0.mk ha.m; have HR := Aside0.mk ha.r; have HAa := Aside0.mk ha.a; have HIn := Aside0.mk hI; have HTn := Aside0.mk hT; clear HB HI ha hI hT hap hc HCa HXB; have HB := HBn; have HI := HIn; clear HBn HIn)
  have HT1 := Aside0.mk (show M1.time = 5 from HTn.out.trans (by rw [HT.out]; rfl))
  clear HTn HT
  go_wp2_with (first | (go_at_call 37; (with_reducible refine (ok_ _ xa g _ HAa.out).mono ?_); rintro e w' ⟨rfl, rfl⟩) | (go_at_call 42; (with_reducible refine (value_ _ xa g _ HAa.out).mono ?_); rintro e w' ⟨rfl, rfl⟩) | (go_at_call 33; (refine (push_new _ g p (M1) ((⟨1, 1, 0, 0, [] ++ [5], none⟩ : LR).ring false false) HM.out HR.out (ring_ok HI.out _ _) rfl 6 (by decide)).mono ?_); have HLa := Aside0.mk (Blk.lt HAa.out); rintro e w' ⟨xb, rfl, ha, hc, hx⟩; have HBn := Aside0.mk (below_chg (base := w.heap.size) HB.out hc HB.out.size (fun k e => e ▸ HG.out)); have HXB := Aside0.mk (Nat.le_trans HB.out.size hx); have HGXb := Aside0.mk ha.gx; have HPXb := Aside0.mk ha.px; have HCb := Aside0.mk ha; have HXa_b := Aside0.mk (show xa ≠ xb from Nat.ne_of_lt (Nat.lt_of_lt_of_le HLa.out hx)); have HAan := Aside0.mk (ActAt.one HAa.out hc (Ne.symm HGXa.out)); clear HAa HLa; have HAa := HAan; clear HAan; clear HB HM HR ha hc hx; have HB := HBn; clear HBn))
  go_wp2_with (go_at_call 32; (refine (finish_full _ p g xb (M1) (⟨1, 1, 0, 0, [] ++ [5], none⟩ : LR) false 6 HCb.out HI.out (by rw [HT1.out]; decide) (by decide)).mono ?_); rintro e w' ⟨rfl, ⟨⟨M2, ha, hI, hT, hap⟩, hc⟩⟩; have HBn := Aside0.mk (below_chg (base := w.heap.size) HB.out hc HB.out.size (Mra.new HK.out HG.out HXB.out)); have HM := Aside0.mk ha.m; have HR := Aside0.mk ha.r; have HAb := Aside0.mk ha.a; have HIn := Aside0.mk hI; have HTn := Aside0.mk hT; have HAan := Aside0.mk (ActAt.chg HAa.out hc HPXa.out (Ne.symm HGXa.out) HXa_b.out); clear HAa; have HAa := HAan; clear HAan; clear HB HI ha hI hT hap hc HCb HXB; have HB := HBn; have HI := HIn; clear HBn HIn)
  have HT2 := Aside0.mk (show M2.time = 6 from HTn.out.trans (by rw [HT1.out]; rfl))
  clear HTn
  go_wp2_with (first | (go_at_call 37; (with_reducible refine (ok_ _ xb g _ HAb.out).mono ?_); rintro e w' ⟨rfl, rfl⟩) | (go_at_call 34; (refine (len_ _ g p M2 ((⟨1, 1, 0, 0, [] ++ [5], none⟩ : LR).ring false false) HM.out HR.out (ring_ok HI.out _ _) 1 (by have := waits HI.out; rw [show M2.peek ((⟨1, 1, 0, 0, [] ++ [5], none⟩ : LR).ring false false).base = _ from HI.out.put, show M2.peek (((⟨1, 1, 0, 0, [] ++ [5], none⟩ : LR).ring false false).base + 1) = _ from HI.out.tak]; exact this) (by decide)).mono ?_); rintro e w' ⟨rfl, ⟨nd, rfl⟩⟩))
  go_wp2_with (go_at_call 35; (refine (pop_new _ g p (M2) ((⟨1, 1, 0, 0, [] ++ [5], none⟩ : LR).ring false false) (HM.out.drewN _) HR.out (ring_ok HI.out _ _) rfl).mono ?_); have HLa := Aside0.mk (Blk.lt HAa.out); have HLb := Aside0.mk (Blk.lt HAb.out); rintro e w' ⟨xc, rfl, ha, hc, hx⟩; have HBn := Aside0.mk (below_chg (base := w.heap.size) (pw_below_drewN HB.out _) hc HB.out.size (fun k e => e ▸ HG.out)); have HXB := Aside0.mk (Nat.le_trans HB.out.size hx); have HGXc := Aside0.mk ha.gx; have HPXc := Aside0.mk ha.px; have HCc := Aside0.mk ha; have HXa_c := Aside0.mk (show xa ≠ xc from Nat.ne_of_lt (Nat.lt_of_lt_of_le HLa.out hx)); have HAan := Aside0.mk (ActAt.one (w := World.drewN _ _) HAa.out hc (Ne.symm HGXa.out)); clear HAa HLa; have HAa := HAan; clear HAan; have HXb_c := Aside0.mk (show xb ≠ xc from Nat.ne_of_lt (Nat.lt_of_lt_of_le HLb.out hx)); have HAbn := Aside0.mk (ActAt.one (w := World.drewN _ _) HAb.out hc (Ne.symm HGXb.out)); clear HAb HLb; have HAb := HAbn; clear HAbn; clear HB HM HR ha hc hx; have HB := HBn; clear HBn)
  go_wp2_with (go_at_call 32; (refine (finish_one _ p g xc (M2) (⟨1, 1, 0, 0, [] ++ [5], none⟩ : LR) false HCc.out HI.out (by rw [HT2.out]; decide) 5 [] rfl).mono ?_); rintro e w' ⟨rfl, ⟨⟨M3, ha, hI, hT, hap⟩, hc⟩⟩; have HBn := Aside0.mk (below_chg (base := w.heap.size) HB.out hc HB.out.size (Mra.new HK.out HG.out HXB.out)); have HM := Aside0.mk ha.m; have HR := Aside0.mk ha.r; have HAc := Aside0.mk ha.a; have HIn := Aside0.mk hI; have HTn := Aside0.mk hT; have HAan := Aside0.mk (ActAt.chg HAa.out hc HPXa.out (Ne.symm HGXa.out) HXa_c.out); clear HAa; have HAa := HAan; clear HAan; have HAbn := Aside0.mk (ActAt.chg HAb.out hc HPXb.out (Ne.symm HGXb.out) HXb_c.out); clear HAb; have HAb := HAbn; clear HAbn; clear HB HI ha hI hT hap hc HCc HXB; have HB := HBn; have HI := HIn; clear HBn HIn)
  have h1 := HT1.out
  have h2 := HT2.out
  have h0 := HT0.out
  go_wp2_with (first | (go_at_call 37; (with_reducible refine (ok_ _ xc g _ HAc.out).mono ?_); rintro e w' ⟨rfl, rfl⟩) | (go_at_call 42; (with_reducible refine (value_ _ xc g _ HAc.out).mono ?_); rintro e w' ⟨rfl, rfl⟩) | (go_at_call 39; (with_reducible refine (mark_ _ xc g _ HAc.out).mono ?_); rintro e w' ⟨rfl, rfl⟩) | (go_at_call 39; (with_reducible refine (mark_ _ xb g _ HAb.out).mono ?_); rintro e w' ⟨rfl, rfl⟩) | (go_at_call 39; (with_reducible refine (mark_ _ xa g _ HAa.out).mono ?_); rintro e w' ⟨rfl, rfl⟩))
  go_ret
  exact ⟨rfl, HB.out⟩

end Go.Proofs.Ytejplbeddcpmeaa.Ring
