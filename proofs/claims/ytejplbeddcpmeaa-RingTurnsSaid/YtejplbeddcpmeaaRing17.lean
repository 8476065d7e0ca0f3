/- RingTurns walked; no condition beyond the stated ones. -/
import Derived.Test.YtejplbeddcpmeaaRing16
import Derived.Test.YtejplbeddcpmeaaRing13
import Derived.Deep.RegionHeld3
import Derived.Deep.CutBlock
namespace Go.Proofs.Ytejplbeddcpmeaa.Ring
open Go.RowKit Go.Proofs.Ytejplbeddcpmeaa.Opens Go.Proofs.Ytejplbeddcpmeaa.PRingTurns Go.Proofs.YtejplbeddcpmeaaW.PrintWords Go.Proofs.YtejplbeddcpmeaaW.PrintLast Go.Proofs.YtejplbeddcpmeaaW.PrintMore Go.Proofs.Ytejplbeddcpmeaa.Heap Go.Proofs.Ytejplbeddcpmeaa.Mem
set_option linter.unusedVariables false
set_option linter.unusedSimpArgs false

set_option maxHeartbeats 8000000 in
set_option maxRecDepth 100000 in
theorem RingTurns_calls (a0 a1 : Int) (A1 : Option Addr) (c1 : Nat) (l1 : List Int) (A2 : Option Addr) (c2 : Nat) (l2 : List Int) (w : World) (h1 : 0 ≤ a1 ∧ a1 ≤ 18446744073709551615) (k1 : RowC (intK .u64) 1 w A1 l1.length l1) (g1 : l1.length ≤ 9223372036854775807) (hq1 : ∀ x ∈ l1, (Lit.int .u64 x).wf = true) (k2 : RowC (intK .i64) 1 w A2 l2.length l2) (g2 : l2.length ≤ 9223372036854775807) :
    Calls Try.prog 8 #[.agg #[.int .i64 a0, .int .u64 a1], .slice A1 l1.length c1, .slice A2 l2.length c2] w fun e w' => e = .returned (.bool true) ∧ Below w.heap.size w w' := by
  have HB := Aside0.mk (Below.refl w.heap.size w)
  obtain ⟨q, hq⟩ : ∃ q : Nat, kin 8 a0 = (q : Int) := ⟨(kin 8 a0).toNat, by have := (kin_in 8 (by decide) (by decide) a0).1; omega⟩
  have hq8 : q < 8 := by have := (kin_in 8 (by decide) (by decide) a0).2; omega
  have hlen : (MemS.new ((3 + q : Nat) : Int) ((0 : Nat) : Int)).cells.length = 3 + q := by simp [MemS.new]; omega
  have htm : (MemS.new ((3 + q : Nat) : Int) ((0 : Nat) : Int)).time = 0 := rfl
  have HNEW := Aside0.mk (show ∀ W : World, Calls Try.prog 15 #[.int .i64 (1 + (q : Int) + 2), .int .i64 0] W (MadeMem 97 W (MemS.new ((3 + q : Nat) : Int) ((0 : Nat) : Int))) from fun W => by rw [show 1 + (q : Int) + 2 = ((3 + q : Nat) : Int) from by omega]; exact new_ok W (3 + q) 0 (by omega) (by omega) (by decide))
  generalize MemS.new ((3 + q : Nat) : Int) ((0 : Nat) : Int) = M0 at *
  have HRN := Aside0.mk (fun W (p : Mp) (hm : MemAt 97 W p M0) => ringNew_ok W p M0 0 (1 + (q : Int)) a1 hm (by omega) (by omega) (by decide) (by omega) h1)
  have HNR := Aside0.mk (new_ring 0 (1 + (q : Int)) a1 (by omega) h1)
  have HI := Aside0.mk (new_inv (M := M0) (base := 0) (size := 1 + (q : Int)) (start := a1) (by omega) (by decide) (by omega) (by omega) h1)
  have HT := Aside0.mk (show ((M0.store 0 a1).store (0 + 1) a1).time ≤ 2 ∧ 0 ≤ ((M0.store 0 a1).store (0 + 1) a1).time from by have := store_time (M0.store 0 a1) (0 + 1) a1; have := store_time M0 0 a1; have := store_ge (M0.store 0 a1) (0 + 1) a1; have := store_ge M0 0 a1; omega)
  have HW50 := Aside0.mk (show Blk (w.alloc (.cells #[.int .i64 a0, .int .u64 a1] 50)) w.heap.size [.int .i64 a0, .int .u64 a1] 50 from Blk.new w [.int .i64 a0, .int .u64 a1] 50)
  have HK1 := Aside0.mk k1
  have HQ1 := Aside0.mk hq1
  have HK2 := Aside0.mk k2
  clear hlen htm h1 k1 hq1 k2
  unfold kin at hq
  go_enter Try.func8, Try.ntmps8
  go_upto_block 0 with (first | (go_at_call 15; (with_reducible refine (HNEW.out _).mono ?_); rintro e w' ⟨p, rfl, hm, hb, hk⟩; have HBn := Aside0.mk (below_step (by repeat (first | exact HB.out | apply below_alloc | apply pw_below_drewN | apply below_drew1)) hb); have HK := Aside0.mk (fun k (hh : p.has k) => Nat.le_trans (below_size (by repeat (first | exact HB.out | apply below_alloc | apply pw_below_drewN | apply below_drew1))) (hk k hh)); have HM := Aside0.mk hm; have HX50 := Aside0.mk (Blk.below HW50.out hb); have hx501 : w'.cell? ⟨w.heap.size, 1, none⟩ = some (.int .u64 a1) := (Blk.cell HX50.out 1).trans rfl; clear HB hm hb hk; have HB := HBn; clear HBn) | (go_at_call 30; (with_reducible refine (HRN.out _ p HM.out).mono ?_); rintro e w' ⟨g, rfl, hm, hr, hc, hg⟩; have HBn := Aside0.mk (below_chg (by repeat (first | exact HB.out | apply below_alloc | apply pw_below_drewN | apply below_drew1)) hc (below_size (by repeat (first | exact HB.out | apply below_alloc | apply pw_below_drewN | apply below_drew1))) HK.out); have HG := Aside0.mk (Nat.le_trans (below_size HB.out) hg); have HM1 := Aside0.mk hm; rw [HNR.out] at hr; have HR := Aside0.mk hr; clear HB hm hr hc hg HM; have HB := HBn; have HM := HM1; clear HBn HM1 hx501) | (go_at_call 31; (with_reducible refine (told_ _).mono ?_); rintro e w' ⟨rfl, hb⟩; have HBn := Aside0.mk (below_step (by repeat (first | exact HB.out | apply below_alloc | apply pw_below_drewN | apply below_drew1)) hb); have HMn := Aside0.mk (MemAt.below HM.out hb); have HRn := Aside0.mk (RingAt.below HR.out hb); clear HB hb HM HR; have HB := HBn; have HM := HMn; have HR := HRn; clear HBn HMn HRn))
  obtain ⟨B, hB⟩ : ∃ B, w'.heap.size = B := ⟨_, rfl⟩
  have HT0 := Aside0.mk (show TW w ((w'.alloc (.cells #[.int .i64 0, .int .i64 0] 51)).alloc (.cells #[.int .i64 (-1), .int .i64 (-1)] 51)) p g B ((M0.store 0 a1).store (0 + 1) a1) ⟨0, 1 + (q : Int), 0, a1, [], none⟩ false false [] [] [] (.slice none 0 0) (.slice none 0 0) (.slice none 0 0) [] [] B (B + 1) 0 0 (-1) (-1) from by
    have hk := HK.out
    have hb := HB.out.size
    have hgl : g < B := hB ▸ Blk.lt HR.out
    have hpl : ∀ k, p.has k → k < B := fun k hk => by rw [← hB]; rcases hk with e | e | e; exact e ▸ HM.out.top.lt; exact e ▸ HM.out.cells.lt; exact e ▸ HM.out.locks.lt
    have k1 := Blk.new w' [.int .i64 0, .int .i64 0] 51
    have k2 := Blk.new (w'.alloc (.cells #[.int .i64 0, .int .i64 0] 51)) [.int .i64 (-1), .int .i64 (-1)] 51
    have hsz : (w'.alloc (.cells #[.int .i64 0, .int .i64 0] 51)).heap.size = B + 1 := by simp [hB]
    rw [hsz] at k2
    rw [hB] at k1
    exact ⟨(HM.out.alloc _).alloc _, (Blk.alloc HR.out _).alloc _, HI.out, rfl, fun i x A h => by simp at h, fun i j x h => by simp at h, own_nil _ _ _ _, own_nil _ _ _ _, own_nil _ _ _ _, fun b h => (by cases h), k1.alloc _, k2, by omega, fun k h => ⟨hk k h, hpl k h⟩, ⟨HG.out, hgl⟩, ⟨by omega, by omega⟩, by omega, by simp; omega, below_alloc (below_alloc HB.out _) _⟩)
  have HTI0 := Aside0.mk (show TI (1 + (q : Int)) l1 ((M0.store 0 a1).store (0 + 1) a1) ⟨0, 1 + (q : Int), 0, a1, [], none⟩ false false [] [] [] 0 0 (-1) (-1) [] (fun _ => []) from ⟨Hist.nil _ _ _, rfl, fun i f h => by simp at h, rfl, HT.out.2, .inl ⟨rfl, rfl⟩, .inl ⟨rfl, rfl⟩⟩)
  clear HK HX50 HG HB HM HR HI HNEW HRN HNR HW50
  rw [hB]
  rw [hB] at *
  go_cut [12, 13, 14] from 17 to 188 (fun v12 v13 v14 wc => ∃ (A12 A13 A14 : Option Addr) (c12 c13 c14 : Nat) (M : MemS) (s : LR) (ib ob : Bool) (xs : List Nat) (As : List ActS) (ps fs : List Int) (st0 st1 n0 n1 : Int) (H : List Nat) (Ls : Nat → List Int), v12 = .slice A12 As.length c12 ∧ v13 = .slice A13 As.length c13 ∧ v14 = .slice A14 As.length c14 ∧
    Aside0 (TW w wc p g B M s ib ob xs xs As (.slice A12 As.length c12) (.slice A13 As.length c13) (.slice A14 As.length c14) ps fs B (B + 1) st0 st1 n0 n1) ∧ Aside0 (TI (1 + (q : Int)) l1 M s ib ob As ps fs st0 st1 n0 n1 H Ls) ∧ Aside0 (As.length ≤ 2000 ∧ ∀ r ∈ ps, -1 ≤ r ∧ r < l1.length))
  case first =>
    go_wp2_with fail
    go_loopg [12, 13, 14, 17, 18] l2.length (fun kq v12 v13 v14 v17 v18 w' => ∃ (i k : Nat) (A12 A13 A14 : Option Addr) (c12 c13 c14 : Nat) (M : MemS) (s : LR) (ib ob : Bool) (xs : List Nat) (As : List ActS) (ps fs : List Int) (st0 st1 n0 n1 : Int) (H : List Nat) (Ls : Nat → List Int),
      Aside0 (kq = l2.length - i) ∧ i ≤ l2.length ∧ i ≤ 2000 ∧ v12 = .slice A12 As.length c12 ∧ v13 = .slice A13 As.length c13 ∧ v14 = .slice A14 As.length c14 ∧ v17 = .int .i64 (k : Int) ∧ v18 = .int .i64 (i : Int) ∧
      Aside0 (TW w w' p g B M s ib ob xs xs As (.slice A12 As.length c12) (.slice A13 As.length c13) (.slice A14 As.length c14) ps fs B (B + 1) st0 st1 n0 n1) ∧ Aside0 (TI (1 + (q : Int)) l1 M s ib ob As ps fs st0 st1 n0 n1 H Ls) ∧ Aside0 (M.time ≤ 2 + i ∧ k ≤ l1.length ∧ As.length ≤ i ∧ ∀ r ∈ ps, -1 ≤ r ∧ r < l1.length))
    case atStart => exact ⟨0, 0, none, none, none, 0, 0, 0, _, _, _, _, [], [], [], [], _, _, _, _, [], _, ⟨by omega⟩, Nat.zero_le _, Nat.zero_le _, rfl, rfl, rfl, rfl, rfl, HT0, HTI0, ⟨⟨by have := HT.out; omega, Nat.zero_le _, Nat.le_refl _, fun r h => by simp at h⟩⟩⟩
    case round =>
      clear HT0 HTI0 HT
      obtain ⟨i, k, A12, A13, A14, c12, c13, c14, M, s, ib, ob, xs, As, ps, fs, st0, st1, n0, n1, H, Ls, HKQ, hi, hi2, rfl, rfl, rfl, rfl, rfl, HT, HTI, HX⟩ := hrel
      have hle := HT.out.le
      have hlp := HTI.out.hist.len
      have hlf := HTI.out.fl
      have hx := HX.out
      by_cases hlt : i < l2.length ∧ i < 2000
      · obtain ⟨hl0, hl4⟩ := hlt
        obtain ⟨ad, e0, x0⟩ := HK2.out.one i hl0
        cases e0
        have hy := (HT.out.bel.cell (World.block_lt_of_cell? w _ x0)).trans x0
        obtain ⟨y, hyy⟩ : ∃ y, l2[i] = y := ⟨_, rfl⟩
        rw [hyy] at hy
        obtain ⟨kd, hkd⟩ : ∃ kd : Nat, wrap64 ((IntKind.u64.wrap y).tmod 2) = (kd : Int) := ⟨(kin 2 y).toNat, by have := (kin_in 2 (by decide) (by decide) y).1; show kin _ _ = _; omega⟩
        have hk2 : kd < 2 := by have := (kin_in 2 (by decide) (by decide) y).2; have e : kin 2 y = (kd : Int) := hkd; omega
        clear x0 hyy
        have hn0 : wr.cell? ⟨B + 1, 0, none⟩ = some (.int .i64 n0) := (Blk.cell HT.out.hn 0).trans rfl
        have hn1 : wr.cell? ⟨B + 1, 1, none⟩ = some (.int .i64 n1) := (Blk.cell HT.out.hn 1).trans rfl
        have hs0 : wr.cell? ⟨B, 0, none⟩ = some (.int .i64 st0) := (Blk.cell HT.out.hs 0).trans rfl
        have hs1 : wr.cell? ⟨B, 1, none⟩ = some (.int .i64 st1) := (Blk.cell HT.out.hs 1).trans rfl
        have fn0 : wr.frozen? ⟨B + 1, 0, none⟩ = false := Blk.frozen HT.out.hn 0
        have fn1 : wr.frozen? ⟨B + 1, 1, none⟩ = false := Blk.frozen HT.out.hn 1
        have fs0 : wr.frozen? ⟨B, 0, none⟩ = false := Blk.frozen HT.out.hs 0
        have fs1 : wr.frozen? ⟨B, 1, none⟩ = false := Blk.frozen HT.out.hs 1
        rcases (show kd = 0 ∨ kd = 1 by omega) with rfl | rfl
        · rw [Int.natCast_zero] at hkd
          rcases HTI.out.e0 with ⟨rfl, rfl⟩ | ⟨d, A, r, rfl, rfl, hA, hr, hr0, hp⟩
          · by_cases hkl : k < l1.length
            · have HV := Aside0.mk (wf_u64 (HQ1.out _ (List.getElem_mem hkl)))
              obtain ⟨ad1, e1, x1⟩ := HK1.out.one k hkl
              cases e1
              have hz := (HT.out.bel.cell (World.block_lt_of_cell? w _ x1)).trans x1
              have hrd : rd l1 (k : Int) = l1[k] := by simp [rd, List.getD_eq_getElem?_getD, List.getElem?_eq_getElem hkl]
              rw [← hrd] at hz HV
              obtain ⟨u, hu⟩ : ∃ u, rd l1 (k : Int) = u := ⟨_, rfl⟩
              rw [hu] at hz HV
              clear x1 hrd
              as_aux_lemma =>
                go_wp2_with (first | ((with_reducible refine gate_builtin (b := .append) (xs := #[.tmp 127, .tmp 129]) rfl ?_); at_builtin; refine print_append_cells (w0 := ((w2.setCell ⟨B + 1, 0, none⟩ (.int .i64 (As.length : Int))).setCell ⟨B, 0, none⟩ (.int .i64 0))) (W := ((w2.setCell ⟨B + 1, 0, none⟩ (.int .i64 (As.length : Int))).setCell ⟨B, 0, none⟩ (.int .i64 0))) B rfl (.tmp 127) (.tmp 129) 60 56 (.pointer none) 1 8 rfl Try.underlying60 (by kernel_rfl) rfl (by decide) (by decide) (.slice A12 As.length c12) As.length (xs.map pt) [pt x] (by rfl) (by first | rfl | (have e_ : (((w2.setCell ⟨B + 1, 0, none⟩ (.int .i64 (As.length : Int))).setCell ⟨B, 0, none⟩ (.int .i64 0))).heap.size = w2.heap.size := (by simp [World.setCell]); rw [e_]; rfl)) rfl (by intro u hu; simp at hu; subst hu; rfl) ?aO ?aB ?aS ?aL ?_; (case aO => exact (by have := ((HT2.out.setN 0 (.int .i64 (As.length : Int)) (a := (As.length : Int)) rfl).setS 0 (.int .i64 0) (a := 0) rfl).o12; rwa [hle] at this)); (case aB => exact Below.refl _ _); (case aS => exact ((HT2.out.setN 0 (.int .i64 (As.length : Int)) (a := (As.length : Int)) rfl).setS 0 (.int .i64 0) (a := 0) rfl).bs); (case aL => omega); intro v1 wa hown hbel hg hat; obtain ⟨An, cn, hv⟩ := own_slice hown; subst hv; have HT3 := Aside0.mk (((HT2.out.setN 0 (.int .i64 (As.length : Int)) (a := (As.length : Int)) rfl).setS 0 (.int .i64 0) (a := 0) rfl).app12 (by rw [hle]; exact hown) hg); clear HT2; clear hown hbel hg hat) | ((with_reducible refine gate_builtin (b := .append) (xs := #[.tmp 131, .tmp 133]) rfl ?_); at_builtin; refine print_append_cells (w0 := wa) (W := wa) B rfl (.tmp 131) (.tmp 133) 22 3 (.int .i64 0) 1 8 rfl Try.underlying22 (by kernel_rfl) rfl (by decide) (by decide) (.slice A13 As.length c13) As.length (nums .i64 ps) [.int .i64 (k : Int)] (by rfl) (by first | rfl | (have e_ : (wa).heap.size = w2.heap.size := (by simp [World.setCell]); rw [e_]; rfl)) rfl (by intro u hu; simp at hu; subst hu; rfl) ?aO ?aB ?aS ?aL ?_; (case aO => exact (by have := HT3.out.o13; rwa [hlp] at this)); (case aB => exact Below.refl _ _); (case aS => exact HT3.out.bs); (case aL => omega); intro v1 wb hown hbel hg hat; obtain ⟨An, cn, hv⟩ := own_slice hown; subst hv; have HT4 := Aside0.mk (HT3.out.app13 (by rw [hlp]; exact hown) hg hat); clear HT3; clear hown hbel hg hat) | ((with_reducible refine gate_builtin (b := .append) (xs := #[.tmp 135, .tmp 138]) rfl ?_); at_builtin; refine print_append_cells (w0 := wb) (W := wb) B rfl (.tmp 135) (.tmp 138) 22 3 (.int .i64 0) 1 8 rfl Try.underlying22 (by kernel_rfl) rfl (by decide) (by decide) (.slice A14 As.length c14) As.length (nums .i64 fs) [.int .i64 M.time] (by rfl) (by first | rfl | (have e_ : (wb).heap.size = w2.heap.size := (by simp [World.setCell]); rw [e_]; rfl)) rfl (by intro u hu; simp at hu; subst hu; rfl) ?aO ?aB ?aS ?aL ?_; (case aO => exact (by have := HT4.out.o14; rwa [hlf] at this)); (case aB => exact Below.refl _ _); (case aS => exact HT4.out.bs); (case aL => omega); intro v1 wc hown hbel hg hat; obtain ⟨An, cn, hv⟩ := own_slice hown; subst hv; have HT5 := Aside0.mk (HT4.out.app14 (by rw [hlf]; exact hown) hg hat); clear HT4; clear hown hbel hg hat) | (go_at_call 27; (with_reducible refine (t_time _ HT4.out M.time rfl).mono ?_); rintro e w3 ⟨rfl, rfl⟩) | (go_at_call 33; (with_reducible refine (t_push _ HT.out u HV.out).mono ?_); rintro e w2 ⟨x, rfl, ht⟩; have HT2 := Aside0.mk ht; clear ht hn0 hn1 hs0 hs1 fn0 fn1 fs0 fs1; have hn0 : w2.cell? ⟨B + 1, 0, none⟩ = some (.int .i64 (-1)) := (Blk.cell HT2.out.hn 0).trans rfl; have hs0 : w2.cell? ⟨B, 0, none⟩ = some (.int .i64 st0) := (Blk.cell HT2.out.hs 0).trans rfl; have fn0 : w2.frozen? ⟨B + 1, 0, none⟩ = false := Blk.frozen HT2.out.hn 0; have fs0 : w2.frozen? ⟨B, 0, none⟩ = false := Blk.frozen HT2.out.hs 0) | (go_at_call 38; (with_reducible refine (t_over _ HT2.out (d := xs.length) List.getElem?_concat_length (by rw [hle]; exact List.getElem?_concat_length) false rfl).mono ?_); rintro e w3 ⟨rfl, rfl⟩) | (go_at_call 39; (with_reducible refine (t_mark _ HT2.out (d := xs.length) List.getElem?_concat_length (by rw [hle]; exact List.getElem?_concat_length) 0 rfl).mono ?_); rintro e w3 ⟨rfl, rfl⟩))
                have HTIc := Aside0.mk (show TI (1 + (q : Int)) l1 M s true ob (As ++ [(⟨true, 74, u, false, 0, false⟩ : ActS)]) (ps ++ [(k : Int)]) (fs ++ [M.time]) 0 st1 (As.length : Int) n1 H Ls from by have h_ := HTI.out.begin0 k; rw [hu] at h_; exact h_)
                have hx_ : (xs ++ [x])[As.length]? = some x := by rw [← hle]; exact List.getElem?_concat_length
                have hA_ : (As ++ [(⟨true, 74, u, false, 0, false⟩ : ActS)])[As.length]? = some (⟨true, 74, u, false, 0, false⟩ : ActS) := List.getElem?_concat_length
                have hq_ : (ps ++ [(k : Int)])[As.length]? = some (k : Int) := by rw [← hlp]; exact List.getElem?_concat_length
                have hr0_ : (0 : Int) ≤ (k : Int) := by omega
                have hp_ : PP s (⟨true, 74, u, false, 0, false⟩ : ActS) 0 (rd l1 (k : Int)) := by rw [hu]; exact .inl ⟨rfl, rfl⟩
                have OW12 := HT5.out.o12
                rw [show (xs ++ [x]).length = As.length + 1 from by simp [hle]] at OW12
                obtain ⟨b12, e12, hc12⟩ := own_cell OW12 (i := As.length) (by omega)
                rw [show ((xs ++ [x]).map pt)[As.length]? = some (pt x) from by rw [List.getElem?_map, hx_]; rfl] at hc12
                have hb12 : b12 ≠ B := own_ne OW12 (by rw [e12]; rfl) HT5.out.hs (by decide)
                clear OW12
                subst e12
                have hs_ : (wc).cell? ⟨B, 0, none⟩ = some (.int .i64 (0)) := (Blk.cell HT5.out.hs 0).trans rfl
                have hn_ : (wc).cell? ⟨B + 1, 0, none⟩ = some (.int .i64 ((As.length : Nat) : Int)) := (Blk.cell HT5.out.hn 0).trans rfl
                have fs_ : (wc).frozen? ⟨B, 0, none⟩ = false := Blk.frozen HT5.out.hs 0
                have hwT : IntKind.i64.wrap (M.time + 1) = M.time + 1 := i64_id (by have := HTI.out.t0; omega)
                have FL_ := Aside0.mk (show ∀ f, (fs ++ [M.time])[As.length]? = some f → f ≤ M.time from fun f hf => HTIc.out.ft As.length f hf)
                have LF_ := Aside0.mk (show As.length < (fs ++ [M.time]).length from by rw [show (fs ++ [M.time]).length = As.length + 1 from by simp [hlf]]; omega)
                go_wp2_with (first | (go_at_call 27; (first | (with_reducible refine (t_time _ HT6.out (M.time + 1) HTM.out).mono ?_) | (with_reducible refine (t_time _ HT5.out M.time rfl).mono ?_)); rintro e w3 ⟨rfl, rfl⟩) | (go_at_call 39; (with_reducible refine (t_mark _ HT6.out hx_ HA'.out (M.time + 1) (HTR.out (by first | rfl | assumption)).1).mono ?_); rintro e w3 ⟨rfl, rfl⟩) | (go_at_call 36; (with_reducible refine (t_step0 (HT5.out.setS 0 (.int .i64 (1)) (a := 1) (b := st1) rfl) HTIc.out (by omega) hx_ hA_ hq_ hr0_ hp_).mono ?_); rintro e w4 ⟨b, M', s', A', rfl, hT', hA', ht, hf, htr⟩; have HT6 := Aside0.mk ht; have HTM := Aside0.mk hT'; have HA' := Aside0.mk hA'; have HF := Aside0.mk hf; have HTR := Aside0.mk htr; clear ht hT' hA' hf htr hs_ hn_ fs_ hc12; have hs_ : w4.cell? ⟨B, 0, none⟩ = some (.int .i64 (1)) := (Blk.cell HT6.out.hs 0).trans rfl; have hn_ : w4.cell? ⟨B + 1, 0, none⟩ = some (.int .i64 ((As.length : Nat) : Int)) := (Blk.cell HT6.out.hn 0).trans rfl; have OW12 := HT6.out.o12; rw [show (xs ++ [x]).length = As.length + 1 from by simp [hle]] at OW12; obtain ⟨b_, e12, hc12⟩ := own_cell OW12 (i := As.length) (by omega); have eb_ : b12 = b_ := (by have h_ := Option.some.inj e12; simpa using h_); rw [← eb_] at hc12; rw [show ((xs ++ [x]).map pt)[As.length]? = some (pt x) from by rw [List.getElem?_map, hx_]; rfl] at hc12; have OW14 := HT6.out.o14; rw [show (fs ++ [M.time]).length = As.length + 1 from by simp [hlf]] at OW14; obtain ⟨b14, e14, hc14⟩ := own_cell OW14 (i := As.length) (by omega); obtain ⟨f, hf_⟩ : ∃ f, (fs ++ [M.time])[As.length]? = some f := ⟨_, List.getElem?_eq_getElem LF_.out⟩; rw [show (nums .i64 (fs ++ [M.time]))[As.length]? = some (.int .i64 f) from by unfold nums; rw [List.getElem?_map, hf_]; rfl] at hc14; have hd1 : ¬ (M.time + 1 ≤ f) := (by have := FL_.out f hf_; omega); clear OW12 OW14 e12 eb_ hf_; subst e14; have fn_ : w4.frozen? ⟨B + 1, 0, none⟩ = false := Blk.frozen HT6.out.hn 0))
                · have hbt : b = true := by first | assumption | (simp_all; done)
                  subst hbt
                  have hlN : ((As ++ [(⟨true, 74, u, false, 0, false⟩ : ActS)]).set As.length A').length = As.length + 1 := by simp
                  obtain ⟨Ls', hTI'⟩ := (HTR.out rfl).2
                  go_roundg (l2.length - (i + 1))
                  case measure => have := HKQ.out; omega
                  case rel => exact ⟨i + 1, k + 1, _, _, _, _, _, _, M', s', false, ob, xs ++ [x], (As ++ [(⟨true, 74, u, false, 0, false⟩ : ActS)]).set As.length A', ps ++ [(k : Int)], fs ++ [M.time], 1, st1, (-1), n1, H ++ [As.length], Ls', ⟨rfl⟩, by omega, by omega, by rw [hlN], by rw [hlN], by rw [hlN], by simp, by simp, ⟨by have h_ := HT6.out.setN 0 (.int .i64 (-1)) (a := -1) (b := n1) rfl; rw [hlN]; exact h_⟩, ⟨hTI' _⟩, ⟨by have h_ := HTM.out; refine ⟨by omega, by omega, by rw [hlN]; omega, fun r hr => (by rcases List.mem_append.1 hr with h | h; exact hx.2.2.2 r h; have : r = (k : Int) := (by simpa using h); omega)⟩⟩⟩
                · have hbt : b = false := by first | assumption | (simp_all; done)
                  subst hbt
                  have hlN : ((As ++ [(⟨true, 74, u, false, 0, false⟩ : ActS)]).set As.length A').length = As.length + 1 := by simp
                  go_roundg (l2.length - (i + 1))
                  case measure => have := HKQ.out; omega
                  case rel => exact ⟨i + 1, k + 1, _, _, _, _, _, _, M', s', true, ob, xs ++ [x], (As ++ [(⟨true, 74, u, false, 0, false⟩ : ActS)]).set As.length A', ps ++ [(k : Int)], fs ++ [M.time], 1, st1, As.length, n1, H, Ls, ⟨rfl⟩, by omega, by omega, by rw [hlN], by rw [hlN], by rw [hlN], by simp, by simp, ⟨by have h_ := HT6.out; rw [hlN]; exact h_⟩, ⟨HF.out rfl⟩, ⟨by have h_ := HTM.out; refine ⟨by omega, by omega, by rw [hlN]; omega, fun r hr => (by rcases List.mem_append.1 hr with h | h; exact hx.2.2.2 r h; have : r = (k : Int) := (by simpa using h); omega)⟩⟩⟩
            · have hkl2 : l1.length ≤ k := by omega
              go_wp2
              go_roundg (l2.length - (i + 1))
              case measure => have := HKQ.out; omega
              case rel => exact ⟨i + 1, k, _, _, _, _, _, _, M, s, false, ob, xs, As, ps, fs, st0, st1, -1, n1, H, Ls, ⟨rfl⟩, by omega, by omega, rfl, rfl, rfl, rfl, by simp, HT, HTI, ⟨⟨by omega, by omega, by omega, hx.2.2.2⟩⟩⟩
          · skip
            as_aux_lemma =>
              have hdN : d < As.length := (List.getElem?_eq_some_iff.1 hA).1
              obtain ⟨x, hx_⟩ : ∃ x, xs[d]? = some x := ⟨_, List.getElem?_eq_getElem (by omega)⟩
              have hA_ := hA
              have hq_ := hr
              have hr0_ := hr0
              have hp_ := hp
              have hst := hp.over
              have hw_ : IntKind.i64.wrap (st0 + 1) = st0 + 1 := i64_id (by omega)
              have hw8 : ¬ (8 < st0 + 1) := by omega
              clear hn0 hn1 hs0 hs1 fn0 fn1 fs0 fs1 hA hr hp
              have OW12 := HT.out.o12
              rw [hle] at OW12
              obtain ⟨b12, e12, hc12⟩ := own_cell OW12 (i := d) (by omega)
              rw [show ((xs).map pt)[d]? = some (pt x) from by rw [List.getElem?_map, hx_]; rfl] at hc12
              have hb12 : b12 ≠ B := own_ne OW12 (by rw [e12]; rfl) HT.out.hs (by decide)
              clear OW12
              subst e12
              have hs_ : (wr).cell? ⟨B, 0, none⟩ = some (.int .i64 (st0)) := (Blk.cell HT.out.hs 0).trans rfl
              have hn_ : (wr).cell? ⟨B + 1, 0, none⟩ = some (.int .i64 ((d : Nat) : Int)) := (Blk.cell HT.out.hn 0).trans rfl
              have fs_ : (wr).frozen? ⟨B, 0, none⟩ = false := Blk.frozen HT.out.hs 0
              have hwT : IntKind.i64.wrap (M.time + 1) = M.time + 1 := i64_id (by have := HTI.out.t0; omega)
              have FL_ := Aside0.mk (show ∀ f, (fs)[d]? = some f → f ≤ M.time from fun f hf => HTI.out.ft d f hf)
              have LF_ := Aside0.mk (show d < (fs).length from by rw [show (fs).length = As.length from by simp [hlf]]; omega)
              go_wp2_with (first | (go_at_call 27; (first | (with_reducible refine (t_time _ HT6.out (M.time + 1) HTM.out).mono ?_) | (with_reducible refine (t_time _ HT.out M.time rfl).mono ?_)); rintro e w3 ⟨rfl, rfl⟩) | (go_at_call 39; (with_reducible refine (t_mark _ HT6.out hx_ HA'.out (M.time + 1) (HTR.out (by first | rfl | assumption)).1).mono ?_); rintro e w3 ⟨rfl, rfl⟩) | (go_at_call 36; (with_reducible refine (t_step0 (HT.out.setS 0 (.int .i64 (st0 + 1)) (a := st0 + 1) (b := st1) rfl) HTI.out (by omega) hx_ hA_ hq_ hr0_ hp_).mono ?_); rintro e w4 ⟨b, M', s', A', rfl, hT', hA', ht, hf, htr⟩; have HT6 := Aside0.mk ht; have HTM := Aside0.mk hT'; have HA' := Aside0.mk hA'; have HF := Aside0.mk hf; have HTR := Aside0.mk htr; clear ht hT' hA' hf htr hs_ hn_ fs_ hc12; have hs_ : w4.cell? ⟨B, 0, none⟩ = some (.int .i64 (st0 + 1)) := (Blk.cell HT6.out.hs 0).trans rfl; have hn_ : w4.cell? ⟨B + 1, 0, none⟩ = some (.int .i64 ((d : Nat) : Int)) := (Blk.cell HT6.out.hn 0).trans rfl; have OW12 := HT6.out.o12; rw [hle] at OW12; obtain ⟨b_, e12, hc12⟩ := own_cell OW12 (i := d) (by omega); have eb_ : b12 = b_ := (by have h_ := Option.some.inj e12; simpa using h_); rw [← eb_] at hc12; rw [show ((xs).map pt)[d]? = some (pt x) from by rw [List.getElem?_map, hx_]; rfl] at hc12; have OW14 := HT6.out.o14; rw [hlf] at OW14; obtain ⟨b14, e14, hc14⟩ := own_cell OW14 (i := d) (by omega); obtain ⟨f, hf_⟩ : ∃ f, (fs)[d]? = some f := ⟨_, List.getElem?_eq_getElem LF_.out⟩; rw [show (nums .i64 (fs))[d]? = some (.int .i64 f) from by unfold nums; rw [List.getElem?_map, hf_]; rfl] at hc14; have hd1 : ¬ (M.time + 1 ≤ f) := (by have := FL_.out f hf_; omega); clear OW12 OW14 e12 eb_ hf_; subst e14; have fn_ : w4.frozen? ⟨B + 1, 0, none⟩ = false := Blk.frozen HT6.out.hn 0))
              · have hbt : b = true := by first | assumption | (simp_all; done)
                subst hbt
                have hlN : ((As).set d A').length = As.length := by simp
                obtain ⟨Ls', hTI'⟩ := (HTR.out rfl).2
                go_roundg (l2.length - (i + 1))
                case measure => have := HKQ.out; omega
                case rel => exact ⟨i + 1, k, _, _, _, _, _, _, M', s', false, ob, xs, (As).set d A', ps, fs, st0 + 1, st1, (-1), n1, H ++ [d], Ls', ⟨rfl⟩, by omega, by omega, by rw [hlN], by rw [hlN], by rw [hlN], rfl, by simp, ⟨by have h_ := HT6.out.setN 0 (.int .i64 (-1)) (a := -1) (b := n1) rfl; rw [hlN]; exact h_⟩, ⟨hTI' _⟩, ⟨by have h_ := HTM.out; refine ⟨by omega, by omega, by rw [hlN]; omega, hx.2.2.2⟩⟩⟩
              · have hbt : b = false := by first | assumption | (simp_all; done)
                subst hbt
                have hlN : ((As).set d A').length = As.length := by simp
                go_roundg (l2.length - (i + 1))
                case measure => have := HKQ.out; omega
                case rel => exact ⟨i + 1, k, _, _, _, _, _, _, M', s', true, ob, xs, (As).set d A', ps, fs, st0 + 1, st1, d, n1, H, Ls, ⟨rfl⟩, by omega, by omega, by rw [hlN], by rw [hlN], by rw [hlN], rfl, by simp, ⟨by have h_ := HT6.out; rw [hlN]; exact h_⟩, ⟨HF.out rfl⟩, ⟨by have h_ := HTM.out; refine ⟨by omega, by omega, by rw [hlN]; omega, hx.2.2.2⟩⟩⟩
        · rw [show ((1 : Nat) : Int) = 1 from rfl] at hkd
          rcases HTI.out.e1 with ⟨rfl, rfl⟩ | ⟨d, A, rfl, rfl, hA, hr, hp⟩
          · skip
            as_aux_lemma =>
              go_wp2_with (first | ((with_reducible refine gate_builtin (b := .append) (xs := #[.tmp 127, .tmp 129]) rfl ?_); at_builtin; refine print_append_cells (w0 := ((w2.setCell ⟨B + 1, 1, none⟩ (.int .i64 (As.length : Int))).setCell ⟨B, 1, none⟩ (.int .i64 0))) (W := ((w2.setCell ⟨B + 1, 1, none⟩ (.int .i64 (As.length : Int))).setCell ⟨B, 1, none⟩ (.int .i64 0))) B rfl (.tmp 127) (.tmp 129) 60 56 (.pointer none) 1 8 rfl Try.underlying60 (by kernel_rfl) rfl (by decide) (by decide) (.slice A12 As.length c12) As.length (xs.map pt) [pt x] (by rfl) (by first | rfl | (have e_ : (((w2.setCell ⟨B + 1, 1, none⟩ (.int .i64 (As.length : Int))).setCell ⟨B, 1, none⟩ (.int .i64 0))).heap.size = w2.heap.size := (by simp [World.setCell]); rw [e_]; rfl)) rfl (by intro u hu; simp at hu; subst hu; rfl) ?aO ?aB ?aS ?aL ?_; (case aO => exact (by have := ((HT2.out.setN 1 (.int .i64 (As.length : Int)) (b := (As.length : Int)) rfl).setS 1 (.int .i64 0) (b := 0) rfl).o12; rwa [hle] at this)); (case aB => exact Below.refl _ _); (case aS => exact ((HT2.out.setN 1 (.int .i64 (As.length : Int)) (b := (As.length : Int)) rfl).setS 1 (.int .i64 0) (b := 0) rfl).bs); (case aL => omega); intro v1 wa hown hbel hg hat; obtain ⟨An, cn, hv⟩ := own_slice hown; subst hv; have HT3 := Aside0.mk (((HT2.out.setN 1 (.int .i64 (As.length : Int)) (b := (As.length : Int)) rfl).setS 1 (.int .i64 0) (b := 0) rfl).app12 (by rw [hle]; exact hown) hg); clear HT2; clear hown hbel hg hat) | ((with_reducible refine gate_builtin (b := .append) (xs := #[.tmp 131, .tmp 133]) rfl ?_); at_builtin; refine print_append_cells (w0 := wa) (W := wa) B rfl (.tmp 131) (.tmp 133) 22 3 (.int .i64 0) 1 8 rfl Try.underlying22 (by kernel_rfl) rfl (by decide) (by decide) (.slice A13 As.length c13) As.length (nums .i64 ps) [.int .i64 (-1)] (by rfl) (by first | rfl | (have e_ : (wa).heap.size = w2.heap.size := (by simp [World.setCell]); rw [e_]; rfl)) rfl (by intro u hu; simp at hu; subst hu; rfl) ?aO ?aB ?aS ?aL ?_; (case aO => exact (by have := HT3.out.o13; rwa [hlp] at this)); (case aB => exact Below.refl _ _); (case aS => exact HT3.out.bs); (case aL => omega); intro v1 wb hown hbel hg hat; obtain ⟨An, cn, hv⟩ := own_slice hown; subst hv; have HT4 := Aside0.mk (HT3.out.app13 (by rw [hlp]; exact hown) hg hat); clear HT3; clear hown hbel hg hat) | ((with_reducible refine gate_builtin (b := .append) (xs := #[.tmp 135, .tmp 138]) rfl ?_); at_builtin; refine print_append_cells (w0 := wb) (W := wb) B rfl (.tmp 135) (.tmp 138) 22 3 (.int .i64 0) 1 8 rfl Try.underlying22 (by kernel_rfl) rfl (by decide) (by decide) (.slice A14 As.length c14) As.length (nums .i64 fs) [.int .i64 M.time] (by rfl) (by first | rfl | (have e_ : (wb).heap.size = w2.heap.size := (by simp [World.setCell]); rw [e_]; rfl)) rfl (by intro u hu; simp at hu; subst hu; rfl) ?aO ?aB ?aS ?aL ?_; (case aO => exact (by have := HT4.out.o14; rwa [hlf] at this)); (case aB => exact Below.refl _ _); (case aS => exact HT4.out.bs); (case aL => omega); intro v1 wc hown hbel hg hat; obtain ⟨An, cn, hv⟩ := own_slice hown; subst hv; have HT5 := Aside0.mk (HT4.out.app14 (by rw [hlf]; exact hown) hg hat); clear HT4; clear hown hbel hg hat) | (go_at_call 27; (with_reducible refine (t_time _ HT4.out M.time rfl).mono ?_); rintro e w3 ⟨rfl, rfl⟩) | (go_at_call 35; (with_reducible refine (t_pop _ HT.out).mono ?_); rintro e w2 ⟨x, rfl, ht⟩; have HT2 := Aside0.mk ht; clear ht hn0 hn1 hs0 hs1 fn0 fn1 fs0 fs1; have hn0 : w2.cell? ⟨B + 1, 1, none⟩ = some (.int .i64 (-1)) := (Blk.cell HT2.out.hn 1).trans rfl; have hs0 : w2.cell? ⟨B, 1, none⟩ = some (.int .i64 st1) := (Blk.cell HT2.out.hs 1).trans rfl; have fn0 : w2.frozen? ⟨B + 1, 1, none⟩ = false := Blk.frozen HT2.out.hn 1; have fs0 : w2.frozen? ⟨B, 1, none⟩ = false := Blk.frozen HT2.out.hs 1) | (go_at_call 38; (with_reducible refine (t_over _ HT2.out (d := xs.length) List.getElem?_concat_length (by rw [hle]; exact List.getElem?_concat_length) false rfl).mono ?_); rintro e w3 ⟨rfl, rfl⟩) | (go_at_call 39; (with_reducible refine (t_mark _ HT2.out (d := xs.length) List.getElem?_concat_length (by rw [hle]; exact List.getElem?_concat_length) 0 rfl).mono ?_); rintro e w3 ⟨rfl, rfl⟩))
              have HTIc := Aside0.mk (show TI (1 + (q : Int)) l1 M s ib true (As ++ [(⟨false, 75, 0, false, 0, false⟩ : ActS)]) (ps ++ [-1]) (fs ++ [M.time]) st0 0 n0 (As.length : Int) H Ls from HTI.out.begin1)
              have hx_ : (xs ++ [x])[As.length]? = some x := by rw [← hle]; exact List.getElem?_concat_length
              have hA_ : (As ++ [(⟨false, 75, 0, false, 0, false⟩ : ActS)])[As.length]? = some (⟨false, 75, 0, false, 0, false⟩ : ActS) := List.getElem?_concat_length
              have hq_ : (ps ++ [-1])[As.length]? = some (-1) := by rw [← hlp]; exact List.getElem?_concat_length
              have hp_ : GP s (⟨false, 75, 0, false, 0, false⟩ : ActS) 0 := .inl ⟨rfl, rfl⟩
              have OW12 := HT5.out.o12
              rw [show (xs ++ [x]).length = As.length + 1 from by simp [hle]] at OW12
              obtain ⟨b12, e12, hc12⟩ := own_cell OW12 (i := As.length) (by omega)
              rw [show ((xs ++ [x]).map pt)[As.length]? = some (pt x) from by rw [List.getElem?_map, hx_]; rfl] at hc12
              have hb12 : b12 ≠ B := own_ne OW12 (by rw [e12]; rfl) HT5.out.hs (by decide)
              clear OW12
              subst e12
              have hs_ : (wc).cell? ⟨B, 1, none⟩ = some (.int .i64 (0)) := (Blk.cell HT5.out.hs 1).trans rfl
              have hn_ : (wc).cell? ⟨B + 1, 1, none⟩ = some (.int .i64 ((As.length : Nat) : Int)) := (Blk.cell HT5.out.hn 1).trans rfl
              have fs_ : (wc).frozen? ⟨B, 1, none⟩ = false := Blk.frozen HT5.out.hs 1
              have hwT : IntKind.i64.wrap (M.time + 1) = M.time + 1 := i64_id (by have := HTI.out.t0; omega)
              have FL_ := Aside0.mk (show ∀ f, (fs ++ [M.time])[As.length]? = some f → f ≤ M.time from fun f hf => HTIc.out.ft As.length f hf)
              have LF_ := Aside0.mk (show As.length < (fs ++ [M.time]).length from by rw [show (fs ++ [M.time]).length = As.length + 1 from by simp [hlf]]; omega)
              go_wp2_with (first | (go_at_call 27; (first | (with_reducible refine (t_time _ HT6.out (M.time + 1) HTM.out).mono ?_) | (with_reducible refine (t_time _ HT5.out M.time rfl).mono ?_)); rintro e w3 ⟨rfl, rfl⟩) | (go_at_call 39; (with_reducible refine (t_mark _ HT6.out hx_ HA'.out (M.time + 1) (HTR.out (by first | rfl | assumption)).1).mono ?_); rintro e w3 ⟨rfl, rfl⟩) | (go_at_call 36; (with_reducible refine (t_step1 (HT5.out.setS 1 (.int .i64 (1)) (a := st0) (b := 1) rfl) HTIc.out (by omega) hx_ hA_ hq_ hp_).mono ?_); rintro e w4 ⟨b, M', s', A', rfl, hT', hA', ht, hf, htr⟩; have HT6 := Aside0.mk ht; have HTM := Aside0.mk hT'; have HA' := Aside0.mk hA'; have HF := Aside0.mk hf; have HTR := Aside0.mk htr; clear ht hT' hA' hf htr hs_ hn_ fs_ hc12; have hs_ : w4.cell? ⟨B, 1, none⟩ = some (.int .i64 (1)) := (Blk.cell HT6.out.hs 1).trans rfl; have hn_ : w4.cell? ⟨B + 1, 1, none⟩ = some (.int .i64 ((As.length : Nat) : Int)) := (Blk.cell HT6.out.hn 1).trans rfl; have OW12 := HT6.out.o12; rw [show (xs ++ [x]).length = As.length + 1 from by simp [hle]] at OW12; obtain ⟨b_, e12, hc12⟩ := own_cell OW12 (i := As.length) (by omega); have eb_ : b12 = b_ := (by have h_ := Option.some.inj e12; simpa using h_); rw [← eb_] at hc12; rw [show ((xs ++ [x]).map pt)[As.length]? = some (pt x) from by rw [List.getElem?_map, hx_]; rfl] at hc12; have OW14 := HT6.out.o14; rw [show (fs ++ [M.time]).length = As.length + 1 from by simp [hlf]] at OW14; obtain ⟨b14, e14, hc14⟩ := own_cell OW14 (i := As.length) (by omega); obtain ⟨f, hf_⟩ : ∃ f, (fs ++ [M.time])[As.length]? = some f := ⟨_, List.getElem?_eq_getElem LF_.out⟩; rw [show (nums .i64 (fs ++ [M.time]))[As.length]? = some (.int .i64 f) from by unfold nums; rw [List.getElem?_map, hf_]; rfl] at hc14; have hd1 : ¬ (M.time + 1 ≤ f) := (by have := FL_.out f hf_; omega); clear OW12 OW14 e12 eb_ hf_; subst e14; have fn_ : w4.frozen? ⟨B + 1, 1, none⟩ = false := Blk.frozen HT6.out.hn 1))
              · have hbt : b = true := by first | assumption | (simp_all; done)
                subst hbt
                have hlN : ((As ++ [(⟨false, 75, 0, false, 0, false⟩ : ActS)]).set As.length A').length = As.length + 1 := by simp
                obtain ⟨Ls', hTI'⟩ := (HTR.out rfl).2
                go_roundg (l2.length - (i + 1))
                case measure => have := HKQ.out; omega
                case rel => exact ⟨i + 1, k, _, _, _, _, _, _, M', s', ib, false, xs ++ [x], (As ++ [(⟨false, 75, 0, false, 0, false⟩ : ActS)]).set As.length A', ps ++ [-1], fs ++ [M.time], st0, 1, n0, (-1), H ++ [As.length], Ls', ⟨rfl⟩, by omega, by omega, by rw [hlN], by rw [hlN], by rw [hlN], rfl, by simp, ⟨by have h_ := HT6.out.setN 1 (.int .i64 (-1)) (a := n0) (b := -1) rfl; rw [hlN]; exact h_⟩, ⟨hTI' _⟩, ⟨by have h_ := HTM.out; refine ⟨by omega, by omega, by rw [hlN]; omega, fun r hr => (by rcases List.mem_append.1 hr with h | h; exact hx.2.2.2 r h; have : r = -1 := (by simpa using h); omega)⟩⟩⟩
              · have hbt : b = false := by first | assumption | (simp_all; done)
                subst hbt
                have hlN : ((As ++ [(⟨false, 75, 0, false, 0, false⟩ : ActS)]).set As.length A').length = As.length + 1 := by simp
                go_roundg (l2.length - (i + 1))
                case measure => have := HKQ.out; omega
                case rel => exact ⟨i + 1, k, _, _, _, _, _, _, M', s', ib, true, xs ++ [x], (As ++ [(⟨false, 75, 0, false, 0, false⟩ : ActS)]).set As.length A', ps ++ [-1], fs ++ [M.time], st0, 1, n0, As.length, H, Ls, ⟨rfl⟩, by omega, by omega, by rw [hlN], by rw [hlN], by rw [hlN], rfl, by simp, ⟨by have h_ := HT6.out; rw [hlN]; exact h_⟩, ⟨HF.out rfl⟩, ⟨by have h_ := HTM.out; refine ⟨by omega, by omega, by rw [hlN]; omega, fun r hr => (by rcases List.mem_append.1 hr with h | h; exact hx.2.2.2 r h; have : r = -1 := (by simpa using h); omega)⟩⟩⟩
          · skip
            as_aux_lemma =>
              have hdN : d < As.length := (List.getElem?_eq_some_iff.1 hA).1
              obtain ⟨x, hx_⟩ : ∃ x, xs[d]? = some x := ⟨_, List.getElem?_eq_getElem (by omega)⟩
              have hA_ := hA
              have hq_ := hr
              have hp_ := hp
              have hst := hp.over
              have hw_ : IntKind.i64.wrap (st1 + 1) = st1 + 1 := i64_id (by omega)
              have hw8 : ¬ (8 < st1 + 1) := by omega
              clear hn0 hn1 hs0 hs1 fn0 fn1 fs0 fs1 hA hr hp
              have OW12 := HT.out.o12
              rw [hle] at OW12
              obtain ⟨b12, e12, hc12⟩ := own_cell OW12 (i := d) (by omega)
              rw [show ((xs).map pt)[d]? = some (pt x) from by rw [List.getElem?_map, hx_]; rfl] at hc12
              have hb12 : b12 ≠ B := own_ne OW12 (by rw [e12]; rfl) HT.out.hs (by decide)
              clear OW12
              subst e12
              have hs_ : (wr).cell? ⟨B, 1, none⟩ = some (.int .i64 (st1)) := (Blk.cell HT.out.hs 1).trans rfl
              have hn_ : (wr).cell? ⟨B + 1, 1, none⟩ = some (.int .i64 ((d : Nat) : Int)) := (Blk.cell HT.out.hn 1).trans rfl
              have fs_ : (wr).frozen? ⟨B, 1, none⟩ = false := Blk.frozen HT.out.hs 1
              have hwT : IntKind.i64.wrap (M.time + 1) = M.time + 1 := i64_id (by have := HTI.out.t0; omega)
              have FL_ := Aside0.mk (show ∀ f, (fs)[d]? = some f → f ≤ M.time from fun f hf => HTI.out.ft d f hf)
              have LF_ := Aside0.mk (show d < (fs).length from by rw [show (fs).length = As.length from by simp [hlf]]; omega)
              go_wp2_with (first | (go_at_call 27; (first | (with_reducible refine (t_time _ HT6.out (M.time + 1) HTM.out).mono ?_) | (with_reducible refine (t_time _ HT.out M.time rfl).mono ?_)); rintro e w3 ⟨rfl, rfl⟩) | (go_at_call 39; (with_reducible refine (t_mark _ HT6.out hx_ HA'.out (M.time + 1) (HTR.out (by first | rfl | assumption)).1).mono ?_); rintro e w3 ⟨rfl, rfl⟩) | (go_at_call 36; (with_reducible refine (t_step1 (HT.out.setS 1 (.int .i64 (st1 + 1)) (a := st0) (b := st1 + 1) rfl) HTI.out (by omega) hx_ hA_ hq_ hp_).mono ?_); rintro e w4 ⟨b, M', s', A', rfl, hT', hA', ht, hf, htr⟩; have HT6 := Aside0.mk ht; have HTM := Aside0.mk hT'; have HA' := Aside0.mk hA'; have HF := Aside0.mk hf; have HTR := Aside0.mk htr; clear ht hT' hA' hf htr hs_ hn_ fs_ hc12; have hs_ : w4.cell? ⟨B, 1, none⟩ = some (.int .i64 (st1 + 1)) := (Blk.cell HT6.out.hs 1).trans rfl; have hn_ : w4.cell? ⟨B + 1, 1, none⟩ = some (.int .i64 ((d : Nat) : Int)) := (Blk.cell HT6.out.hn 1).trans rfl; have OW12 := HT6.out.o12; rw [hle] at OW12; obtain ⟨b_, e12, hc12⟩ := own_cell OW12 (i := d) (by omega); have eb_ : b12 = b_ := (by have h_ := Option.some.inj e12; simpa using h_); rw [← eb_] at hc12; rw [show ((xs).map pt)[d]? = some (pt x) from by rw [List.getElem?_map, hx_]; rfl] at hc12; have OW14 := HT6.out.o14; rw [hlf] at OW14; obtain ⟨b14, e14, hc14⟩ := own_cell OW14 (i := d) (by omega); obtain ⟨f, hf_⟩ : ∃ f, (fs)[d]? = some f := ⟨_, List.getElem?_eq_getElem LF_.out⟩; rw [show (nums .i64 (fs))[d]? = some (.int .i64 f) from by unfold nums; rw [List.getElem?_map, hf_]; rfl] at hc14; have hd1 : ¬ (M.time + 1 ≤ f) := (by have := FL_.out f hf_; omega); clear OW12 OW14 e12 eb_ hf_; subst e14; have fn_ : w4.frozen? ⟨B + 1, 1, none⟩ = false := Blk.frozen HT6.out.hn 1))
              · have hbt : b = true := by first | assumption | (simp_all; done)
                subst hbt
                have hlN : ((As).set d A').length = As.length := by simp
                obtain ⟨Ls', hTI'⟩ := (HTR.out rfl).2
                go_roundg (l2.length - (i + 1))
                case measure => have := HKQ.out; omega
                case rel => exact ⟨i + 1, k, _, _, _, _, _, _, M', s', ib, false, xs, (As).set d A', ps, fs, st0, st1 + 1, n0, (-1), H ++ [d], Ls', ⟨rfl⟩, by omega, by omega, by rw [hlN], by rw [hlN], by rw [hlN], rfl, by simp, ⟨by have h_ := HT6.out.setN 1 (.int .i64 (-1)) (a := n0) (b := -1) rfl; rw [hlN]; exact h_⟩, ⟨hTI' _⟩, ⟨by have h_ := HTM.out; refine ⟨by omega, by omega, by rw [hlN]; omega, hx.2.2.2⟩⟩⟩
              · have hbt : b = false := by first | assumption | (simp_all; done)
                subst hbt
                have hlN : ((As).set d A').length = As.length := by simp
                go_roundg (l2.length - (i + 1))
                case measure => have := HKQ.out; omega
                case rel => exact ⟨i + 1, k, _, _, _, _, _, _, M', s', ib, true, xs, (As).set d A', ps, fs, st0, st1 + 1, n0, d, H, Ls, ⟨rfl⟩, by omega, by omega, by rw [hlN], by rw [hlN], by rw [hlN], rfl, by simp, ⟨by have h_ := HT6.out; rw [hlN]; exact h_⟩, ⟨HF.out rfl⟩, ⟨by have h_ := HTM.out; refine ⟨by omega, by omega, by rw [hlN]; omega, hx.2.2.2⟩⟩⟩
      · have hxL : As.length ≤ 2000 := by omega
        go_wp2_with fail
        all_goals (go_meet; exact ⟨A12, A13, A14, c12, c13, c14, M, s, ib, ob, xs, As, ps, fs, st0, st1, n0, n1, H, Ls, rfl, rfl, rfl, HT, HTI, ⟨⟨hxL, hx.2.2.2⟩⟩⟩)
  case rest =>
    clear HT0 HTI0 HT HK2
    obtain ⟨A12, A13, A14, c12, c13, c14, M, s, ib, ob, xs, As, ps, fs, st0, st1, n0, n1, H, Ls, rfl, rfl, rfl, HT, HTI, HX⟩ := hcut
    have hle := HT.out.le
    have hlp := HTI.out.hist.len
    have hlf := HTI.out.fl
    have hx := HX.out
    obtain ⟨W0, hW0⟩ : ∃ W0, wc = W0 := ⟨_, rfl⟩
    have HB0 := Aside0.mk (Below.refl W0.heap.size W0)
    have hxL := hx.1
    rw [hW0] at HT
    rw [hW0]
    clear hW0
    go_wp2_with fail
    go_loopg [25, 26] As.length (fun kq v25 v26 w' => ∃ j : Nat, Aside0 (kq = As.length - j) ∧ j ≤ As.length ∧ v26 = .int .i64 (j : Int) ∧ Aside0 (Kd.R (Kd.int .i64) 3 w' W0.heap.size (fun _ => True) v25 ((mks As).take j)) ∧ Aside0 (Below W0.heap.size W0 w'))
    case atStart => exact ⟨0, ⟨by omega⟩, Nat.zero_le _, rfl, ⟨Kd.R_nil _ _ _ _ _⟩, HB0⟩
    case round =>
      clear HB0
      obtain ⟨j, HJQ, hj, rfl, HO, HB⟩ := hrel
      have hmt : ((mks As).take j).length = j := by rw [List.length_take, List.length_map]; omega
      by_cases hjl : j < As.length
      · obtain ⟨AJ, hAJ⟩ : ∃ AJ, As[j]? = some AJ := ⟨_, List.getElem?_eq_getElem hjl⟩
        obtain ⟨x, hx_⟩ : ∃ x, xs[j]? = some x := ⟨_, List.getElem?_eq_getElem (by omega)⟩
        have HTj := Aside0.mk (HT.out.below HB.out)
        have OW12 := HTj.out.o12
        rw [hle] at OW12
        obtain ⟨b12, e12, hc12⟩ := own_cell OW12 (i := j) (by omega)
        rw [show (xs.map pt)[j]? = some (pt x) from by rw [List.getElem?_map, hx_]; rfl] at hc12
        clear OW12
        subst e12
        obtain ⟨mk, hmk⟩ : ∃ mk, AJ.mark = mk := ⟨_, rfl⟩
        have HTK := Aside0.mk (show (mks As).take j ++ [mk] = (mks As).take (j + 1) from by
          have h_ := take_snoc_rd (mks As) j (by rw [List.length_map]; exact hjl)
          rw [rd_mks hAJ, hmk] at h_; exact h_)
        obtain ⟨u25, hu25⟩ : ∃ u25, wr.heap.size = u25 := ⟨_, rfl⟩
        clear hu25
        go_wp2_with (first | (go_at_call 39; (with_reducible refine (t_mark _ HTj.out hx_ hAJ mk hmk).mono ?_); rintro e w3 ⟨rfl, rfl⟩) | ((with_reducible refine gate_builtin (b := .append) (xs := #[.tmp 195, .tmp 201]) rfl ?_); at_builtin; refine Kd.R_append (Kd.int .i64) (w0 := W0) W0.heap.size rfl (.tmp 195) (.tmp 201) 22 3 (.int .i64 0) 8 rfl Try.underlying22 (by kernel_rfl) rfl (by decide) (by omega) _ ((mks As).take j) mk [.int .i64 mk] (fun _ => True) (fun _ => False) rfl rfl ?aP (fun _ hk => hk.elim) ?aF ?aO ?aB ?aS ?aL ?_; (case aP => exact rfl); (case aB => exact HB.out); (case aF => exact (fun _ _ => trivial)); (case aO => exact HO.out); (case aS => exact HB.out.size); (case aL => rw [hmt]; omega); intro v1 w5 ho hb hg hat; rw [HTK.out] at ho; have HB1 := Aside0.mk hb; have HO1 := Aside0.mk ho; clear HB HO ho hb hg hat))
        go_roundg (As.length - (j + 1))
        case measure => have := HJQ.out; omega
        case rel => exact ⟨j + 1, ⟨rfl⟩, by omega, by simp, HO1, HB1⟩
      · have hje : j = As.length := by omega
        subst hje
        have HTj := Aside0.mk (HT.out.below HB.out)
        have HMR := Aside0.mk (show Kd.R (Kd.int .i64) 3 wr W0.heap.size (fun _ => True) u25 (mks As) from by have h_ := HO.out; rwa [List.take_of_length_le (by rw [List.length_map]; omega)] at h_)
        clear HT HB HO
        have hmL : (mks As).length = As.length := List.length_map ..
        obtain ⟨Am, cm, hv25⟩ := Kd.R_slice HMR.out
        subst hv25
        have hrr := Kd.R_reads' HMR.out
        have hH : ∃ kO, patchbayref12_Order.f kO (mks As) = some (ints H, true) := by
          have h := HTI.out.hist
          refine ord_eq (mks As) H (by rw [hmL]; omega) (fun i hi => ?_) (fun i hi => by rw [hmL]; exact h.lt i hi) h.so ?_
          · rw [hmL] at hi
            obtain ⟨C, hC⟩ : ∃ C, As[i]? = some C := ⟨_, List.getElem?_eq_getElem hi⟩
            rw [rd_mks hC, h.ov i C hC]
            have hm := h.mko i C hC
            constructor
            · intro ho; exact (hm.1 ho).1
            · intro hp
              cases e : C.over with
              | true => rfl
              | false => have := hm.2 e; omega
          · exact Hist.few h (by omega)
        obtain ⟨kO, hO⟩ := hH
        have HOC := Aside0.mk (fun (W : World) (hb : Below wr.heap.size wr W) => patchbayref12_Order.calls kO Am cm (mks As) (ints H) true W (Kd.C_below hrr.2.2 hb) (by omega) hO)
        rw [hmL] at HOC
        clear hrr HMR hO
        go_wp2_with (go_at_call 40; (with_reducible refine (HOC.out _ (Below.refl _ _)).mono ?_); rintro e w5 ⟨v0, rfl, ho, hb⟩; obtain ⟨Ao, co, hv0⟩ := Kd.R_slice ho; subst hv0; have HOR := Aside0.mk (Kd.R_reads' ho).2.2; have HT5 := Aside0.mk (HTj.out.below hb); clear HTj HOC ho hb)
        obtain ⟨B3, hB3⟩ : ∃ B3, w5.heap.size = B3 := ⟨_, rfl⟩
        have HQ0 := Aside0.mk (show QAt B3 (w5.alloc (.cells #[.int .i64 (1 + (q : Int)), .slice none 0 0] 65)) B3 (1 + (q : Int)) [] from ⟨.slice none 0 0, by rw [← hB3]; exact Blk.new w5 [.int .i64 (1 + (q : Int)), .slice none 0 0] 65, own_nil _ _ _ _⟩)
        have HB5 := Aside0.mk (show Below B3 w5 (w5.alloc (.cells #[.int .i64 (1 + (q : Int)), .slice none 0 0] 65)) from by rw [← hB3]; exact below_alloc (Below.refl _ _) _)
        have HSZ := Aside0.mk (show B3 ≤ (w5.alloc (.cells #[.int .i64 (1 + (q : Int)), .slice none 0 0] 65)).heap.size from by simp; omega)
        have HLS := Aside0.mk (show Ls 0 = [] from HTI.out.hist.h0)
        have HBW := Aside0.mk (fun (W : World) (hb : Below B3 w5 W) => HT5.out.below (hB3.symm ▸ hb))
        have HOW := Aside0.mk (fun (W : World) (hb : Below B3 w5 W) => Kd.C_below HOR.out (hB3.symm ▸ hb))
        have hiL : (ints H).length = H.length := List.length_map ..
        rw [hiL] at HOW
        have hn8 : 1 + (q : Int) ≤ 8 := by omega
        have hHf : H.length ≤ 2000 := Hist.few HTI.out.hist (by omega)
        rw [hB3]
        go_loopg [30] H.length (fun kq v30 w' => ∃ j : Nat, Aside0 (kq = H.length - j) ∧ j ≤ H.length ∧ v30 = .int .i64 (j : Int) ∧ Aside0 (QAt B3 w' B3 (1 + (q : Int)) (Ls j)) ∧ Aside0 (Below B3 w5 w') ∧ Aside0 (B3 ≤ w'.heap.size ∧ (((Ls j).length : Nat) : Int) ≤ 1 + (q : Int)))
        case atStart => exact ⟨0, ⟨by omega⟩, Nat.zero_le _, rfl, ⟨by rw [HLS.out]; exact HQ0.out⟩, HB5, ⟨HSZ.out, by rw [HLS.out]; simp; omega⟩⟩
        case round =>
          clear HQ0 HB5 HSZ HLS HT5 HOR hB3
          obtain ⟨j, HJQ, hj, rfl, HQ, HB, HS⟩ := hrel
          have HTj := Aside0.mk (HBW.out _ HB.out)
          have HOj := Aside0.mk (HOW.out _ HB.out)
          by_cases hjl : j < H.length
          · obtain ⟨d, hd⟩ : ∃ d, H[j]? = some d := ⟨_, List.getElem?_eq_getElem hjl⟩
            have hdl := HTI.out.hist.lt d (List.mem_of_getElem? hd)
            obtain ⟨A, hA⟩ : ∃ A, As[d]? = some A := ⟨_, List.getElem?_eq_getElem hdl⟩
            obtain ⟨x, hx_⟩ : ∃ x, xs[d]? = some x := ⟨_, List.getElem?_eq_getElem (by omega)⟩
            obtain ⟨r, hr⟩ : ∃ r, ps[d]? = some r := ⟨_, List.getElem?_eq_getElem (by omega)⟩
            have hrs := HTI.out.hist.hs j d A r hd hA hr
            have hov := (HTI.out.hist.ov d A hA).1 (List.mem_of_getElem? hd)
            obtain ⟨ado, eo, hco⟩ := int_get HOj.out hjl
            rw [show rd (ints H) (j : Int) = (d : Int) from by simp [rd, List.getD_eq_getElem?_getD, hd]] at hco
            have OW12 := HTj.out.o12
            rw [hle] at OW12
            obtain ⟨b12, e12, hc12⟩ := own_cell OW12 (i := d) (by omega)
            rw [show (xs.map pt)[d]? = some (pt x) from by rw [List.getElem?_map, hx_]; rfl] at hc12
            have OW13 := HTj.out.o13
            rw [hlp] at OW13
            obtain ⟨b13, e13, hc13⟩ := own_cell OW13 (i := d) (by omega)
            rw [show (nums .i64 ps)[d]? = some (.int .i64 r) from by unfold nums; rw [List.getElem?_map, hr]; rfl] at hc13
            clear OW12 OW13
            subst e12
            subst e13
            subst eo
            have hrb := hx.2 r (List.mem_of_getElem? hr)
            unfold RSt at hrs
            obtain ⟨Lj, hLj⟩ : ∃ Lj, Ls j = Lj := ⟨_, rfl⟩
            obtain ⟨Ln, hLn⟩ : ∃ Ln, Ls (j + 1) = Ln := ⟨_, rfl⟩
            rw [hLj] at HQ HS hrs
            rw [hLn] at hrs
            have hsz := HS.out
            by_cases hr0 : 0 ≤ r
            · rw [if_pos hr0] at hrs
              obtain ⟨kr, rfl⟩ := Int.eq_ofNat_of_zero_le hr0
              have hkr : kr < l1.length := by omega
              obtain ⟨ad1, e1, x1⟩ := HK1.out.one kr hkr
              cases e1
              have hz := (HTj.out.bel.cell (World.block_lt_of_cell? w _ x1)).trans x1
              have hrd : rd l1 (kr : Int) = l1[kr] := by simp [rd, List.getD_eq_getElem?_getD, List.getElem?_eq_getElem hkr]
              rw [← hrd] at hz
              obtain ⟨u, hu⟩ : ∃ u, rd l1 (kr : Int) = u := ⟨_, rfl⟩
              rw [hu] at hz hrs
              clear x1 hrd
              rcases hrs with ⟨hf, hok, hv, hL⟩ | ⟨hf, hok, hL⟩
              · have hvv : (if A.ok then A.value else 0) = u := by rw [hok, if_pos rfl]; exact hv
                as_aux_lemma =>
                  go_wp2_with (first | (go_at_call 41; (with_reducible refine (qpush_t B3 _ B3 (1 + (q : Int)) Lj u HQ.out hsz.1 (by omega) hf).mono ?_); rintro e w6 ⟨rfl, hq, hc⟩; have HBn := Aside0.mk (below_chg HB.out hc hsz.1 (qs_above (Nat.le_refl _))); have HSn := Aside0.mk (Nat.le_trans hsz.1 hc.size); have HQn := Aside0.mk hq; have HT6 := Aside0.mk (HBW.out _ HBn.out); clear HB HQ hq hc HS) | (go_at_call 38; (with_reducible refine (t_over _ HT6.out hx_ hA true hov).mono ?_); rintro e w7 ⟨rfl, rfl⟩) | (go_at_call 37; (with_reducible refine (t_ok _ HT6.out hx_ hA true hok).mono ?_); rintro e w7 ⟨rfl, rfl⟩) | (go_at_call 42; (with_reducible refine (t_value _ HT6.out hx_ hA u hvv).mono ?_); rintro e w7 ⟨rfl, rfl⟩))
                  go_roundg (H.length - (j + 1))
                  case measure => have := HJQ.out; omega
                  case rel => exact ⟨j + 1, ⟨rfl⟩, by omega, (by first | (simp; done) | (simp; unfold wrap64; omega)), ⟨by rw [hLn, hL]; exact HQn.out⟩, HBn, ⟨HSn.out, by rw [hLn, hL]; have := hsz.2; simp at this ⊢; omega⟩⟩
              · skip
                as_aux_lemma =>
                  go_wp2_with (first | (go_at_call 41; (with_reducible refine (qpush_f B3 _ B3 (1 + (q : Int)) Lj u HQ.out hsz.1 (by omega) hf).mono ?_); rintro e w6 ⟨rfl, hq, hc⟩; have HBn := Aside0.mk (below_chg HB.out hc hsz.1 (qs_above (Nat.le_refl _))); have HSn := Aside0.mk (Nat.le_trans hsz.1 hc.size); have HQn := Aside0.mk hq; have HT6 := Aside0.mk (HBW.out _ HBn.out); clear HB HQ hq hc HS) | (go_at_call 38; (with_reducible refine (t_over _ HT6.out hx_ hA true hov).mono ?_); rintro e w7 ⟨rfl, rfl⟩) | (go_at_call 37; (with_reducible refine (t_ok _ HT6.out hx_ hA false hok).mono ?_); rintro e w7 ⟨rfl, rfl⟩))
                  go_roundg (H.length - (j + 1))
                  case measure => have := HJQ.out; omega
                  case rel => exact ⟨j + 1, ⟨rfl⟩, by omega, (by first | (simp; done) | (simp; unfold wrap64; omega)), ⟨by rw [hLn, hL]; exact HQn.out⟩, HBn, ⟨HSn.out, by rw [hLn, hL]; have := hsz.2; simp at this ⊢; omega⟩⟩
            · rw [if_neg hr0] at hrs
              have hr1 : r = -1 := by omega
              subst hr1
              rcases hrs with ⟨hL, hok⟩ | ⟨hL, hok, hL2⟩
              · obtain ⟨u, hu⟩ : ∃ u, A.value = u := ⟨_, rfl⟩
                have hvv : (if A.ok then A.value else 0) = u := by rw [hok, if_pos rfl]; exact hu
                rw [hu] at hL
                subst hL
                have hln : Ln.length ≤ 1000 := by have := hsz.2; simp at this; omega
                as_aux_lemma =>
                  go_wp2_with (first | (go_at_call 43; (with_reducible refine (qpop_one B3 _ B3 (1 + (q : Int)) u Ln HQ.out hsz.1 hln).mono ?_); rintro e w6 ⟨rfl, hq, hc⟩; have HBn := Aside0.mk (below_chg HB.out hc hsz.1 (qs_above (Nat.le_refl _))); have HSn := Aside0.mk (Nat.le_trans hsz.1 hc.size); have HQn := Aside0.mk hq; have HT6 := Aside0.mk (HBW.out _ HBn.out); clear HB HQ hq hc HS) | (go_at_call 38; (with_reducible refine (t_over _ HT6.out hx_ hA true hov).mono ?_); rintro e w7 ⟨rfl, rfl⟩) | (go_at_call 37; (with_reducible refine (t_ok _ HT6.out hx_ hA true hok).mono ?_); rintro e w7 ⟨rfl, rfl⟩) | (go_at_call 42; (with_reducible refine (t_value _ HT6.out hx_ hA u hvv).mono ?_); rintro e w7 ⟨rfl, rfl⟩))
                  go_roundg (H.length - (j + 1))
                  case measure => have := HJQ.out; omega
                  case rel => exact ⟨j + 1, ⟨rfl⟩, by omega, (by first | (simp; done) | (simp; unfold wrap64; omega)), ⟨by rw [hLn]; exact HQn.out⟩, HBn, ⟨HSn.out, by rw [hLn]; have := hsz.2; simp at this ⊢; omega⟩⟩
              · subst hL
                have hvv : (if A.ok then A.value else 0) = 0 := by rw [hok]; rfl
                as_aux_lemma =>
                  go_wp2_with (first | (go_at_call 43; (with_reducible refine (qpop_none B3 _ B3 (1 + (q : Int)) HQ.out).mono ?_); rintro e w6 ⟨rfl, rfl⟩; have HBn := HB; have HSn := Aside0.mk hsz.1; have HQn := HQ; have HT6 := HTj) | (go_at_call 38; (with_reducible refine (t_over _ HT6.out hx_ hA true hov).mono ?_); rintro e w7 ⟨rfl, rfl⟩) | (go_at_call 37; (with_reducible refine (t_ok _ HT6.out hx_ hA false hok).mono ?_); rintro e w7 ⟨rfl, rfl⟩) | (go_at_call 42; (with_reducible refine (t_value _ HT6.out hx_ hA 0 hvv).mono ?_); rintro e w7 ⟨rfl, rfl⟩))
                  go_roundg (H.length - (j + 1))
                  case measure => have := HJQ.out; omega
                  case rel => exact ⟨j + 1, ⟨rfl⟩, by omega, (by first | (simp; done) | (simp; unfold wrap64; omega)), ⟨by rw [hLn, hL2]; exact HQn.out⟩, HBn, ⟨HSn.out, by rw [hLn, hL2]; have := hsz.2; simp at this ⊢; omega⟩⟩
          · have hje : j = H.length := by omega
            subst hje
            have hLe := HTI.out.hist.he
            rw [hLe] at HQ
            have HBF := Aside0.mk (show Below w.heap.size w wr from HTj.out.bel)
            have hc0 : wr.cell? ⟨B + 1, 0, none⟩ = some (.int .i64 n0) := (Blk.cell HTj.out.hn 0).trans rfl
            have hc1 : wr.cell? ⟨B + 1, 1, none⟩ = some (.int .i64 n1) := (Blk.cell HTj.out.hn 1).trans rfl
            obtain ⟨vq, hq1, hoq⟩ := HQ.out
            obtain ⟨Aq, cq, hvq⟩ := own_slice hoq
            subst hvq
            have hcl : wr.cell? ⟨B3, 1, none⟩ = some (.slice Aq s.L.length cq) := (Blk.cell hq1 1).trans rfl
            have HQB := Aside0.mk hq1
            have HQO := Aside0.mk (show OwnU B3 wr (.slice Aq s.L.length cq) s.L from hoq)
            clear hq1 hoq HQ HBW HOW HOj
            rcases HTI.out.e0 with ⟨e01, e02⟩ | ⟨d0, _, _, e01, _⟩
            · subst e01; subst e02
              rcases HTI.out.e1 with ⟨e11, e12⟩ | ⟨d1, _, e11, _⟩
              · subst e11; subst e12
                have HTS := Aside0.mk (show TS B3 p g B3 (1 + (q : Int)) M s Aq cq wr from ⟨HTj.out.m, HTj.out.r, HTj.out.i, HQB.out, HQO.out⟩)
                clear HTj HQB HQO
                as_aux_lemma =>
                  go_wp2_with fail
                  refine wp_region_held_drew (S := (fun w' => w'.cell? ⟨B + 1, 0, none⟩ = some (.int .i64 (-1)) ∧ w'.cell? ⟨B + 1, 1, none⟩ = some (.int .i64 (-1)) ∧ w'.cell? ⟨B3, 1, none⟩ = some (.slice Aq s.L.length cq))) (by kernel_rfl) ?_ (fun hHeld => ?_)
                  · exact ⟨hc0, hc1, hcl⟩
                  refine wpAnyH_take (i := 0) (v := ?va0) rfl (by kernel_rfl) (by kernel_rfl) (by kernel_rfl) (fun _ _ _ h => h) (Or.inl ⟨by kernel_rfl, ?hya0⟩) (by assumption) ?resta0
                  case hya0 => (intro w hSw; (try dsimp only at hSw); obtain ⟨hS1, hS2, hS3⟩ := hSw; go_simp; try with_reducible rfl)
                  try simp only [Act.put, List.getElem_toArray, List.getElem_cons_zero, List.getElem_cons_succ, List.setIfInBounds_toArray, List.set_cons_zero, List.set_cons_succ]
                  refine wpAnyH_take (i := 1) (v := ?va1) rfl (by kernel_rfl) (by kernel_rfl) (by kernel_rfl) (fun _ _ _ h => h) (Or.inl ⟨by kernel_rfl, ?hya1⟩) (by assumption) ?resta1
                  case hya1 => (intro w hSw; (try dsimp only at hSw); obtain ⟨hS1, hS2, hS3⟩ := hSw; go_simp; try with_reducible rfl)
                  try simp only [Act.put, List.getElem_toArray, List.getElem_cons_zero, List.getElem_cons_succ, List.setIfInBounds_toArray, List.set_cons_zero, List.set_cons_succ]
                  refine wpAnyH_take (i := 2) (v := (.bool false)) rfl (by kernel_rfl) (by kernel_rfl) (by kernel_rfl) (fun _ _ _ h => h) (Or.inl ⟨by kernel_rfl, ?hya2⟩) (by assumption) ?resta2
                  case hya2 => (intro w hSw; (try dsimp only at hSw); obtain ⟨hS1, hS2, hS3⟩ := hSw; go_simp; first | done | rfl | (simp; done) | (simp; omega))
                  try simp only [Act.put, List.getElem_toArray, List.getElem_cons_zero, List.getElem_cons_succ, List.setIfInBounds_toArray, List.set_cons_zero, List.set_cons_succ]
                  refine wpAnyH_take (i := 3) (v := ?va3) rfl (by kernel_rfl) (by kernel_rfl) (by kernel_rfl) (fun _ _ _ h => h) (Or.inl ⟨by kernel_rfl, ?hya3⟩) (by assumption) ?resta3
                  case hya3 => (intro w hSw; (try dsimp only at hSw); obtain ⟨hS1, hS2, hS3⟩ := hSw; go_simp; try with_reducible rfl)
                  try simp only [Act.put, List.getElem_toArray, List.getElem_cons_zero, List.getElem_cons_succ, List.setIfInBounds_toArray, List.set_cons_zero, List.set_cons_succ]
                  refine wpAnyH_take (i := 4) (v := ?va4) rfl (by kernel_rfl) (by kernel_rfl) (by kernel_rfl) (fun _ _ _ h => h) (Or.inl ⟨by kernel_rfl, ?hya4⟩) (by assumption) ?resta4
                  case hya4 => (intro w hSw; (try dsimp only at hSw); obtain ⟨hS1, hS2, hS3⟩ := hSw; go_simp; try with_reducible rfl)
                  try simp only [Act.put, List.getElem_toArray, List.getElem_cons_zero, List.getElem_cons_succ, List.setIfInBounds_toArray, List.set_cons_zero, List.set_cons_succ]
                  refine wpAnyH_take (i := 5) (v := ?va5) rfl (by kernel_rfl) (by kernel_rfl) (by kernel_rfl) (fun _ _ _ h => h) (Or.inl ⟨by kernel_rfl, ?hya5⟩) (by assumption) ?resta5
                  case hya5 => (intro w hSw; (try dsimp only at hSw); obtain ⟨hS1, hS2, hS3⟩ := hSw; go_simp; try with_reducible rfl)
                  try simp only [Act.put, List.getElem_toArray, List.getElem_cons_zero, List.getElem_cons_succ, List.setIfInBounds_toArray, List.set_cons_zero, List.set_cons_succ]
                  refine wpAnyH_take (i := 6) (v := (.bool false)) rfl (by kernel_rfl) (by kernel_rfl) (by kernel_rfl) (fun _ _ _ h => h) (Or.inl ⟨by kernel_rfl, ?hya6⟩) (by assumption) ?resta6
                  case hya6 => (intro w hSw; (try dsimp only at hSw); obtain ⟨hS1, hS2, hS3⟩ := hSw; go_simp; first | done | rfl | (simp; done) | (simp; omega))
                  try simp only [Act.put, List.getElem_toArray, List.getElem_cons_zero, List.getElem_cons_succ, List.setIfInBounds_toArray, List.set_cons_zero, List.set_cons_succ]
                  refine wpAnyH_take (i := 7) (v := ?va7) rfl (by kernel_rfl) (by kernel_rfl) (by kernel_rfl) (fun _ _ _ h => h) (Or.inl ⟨by kernel_rfl, ?hya7⟩) (by assumption) ?resta7
                  case hya7 => (intro w hSw; (try dsimp only at hSw); obtain ⟨hS1, hS2, hS3⟩ := hSw; go_simp; try with_reducible rfl)
                  try simp only [Act.put, List.getElem_toArray, List.getElem_cons_zero, List.getElem_cons_succ, List.setIfInBounds_toArray, List.set_cons_zero, List.set_cons_succ]
                  refine wpAnyH_take (i := 8) (v := ?va8) rfl (by kernel_rfl) (by kernel_rfl) (by kernel_rfl) (fun _ _ _ h => h) (Or.inl ⟨by kernel_rfl, ?hya8⟩) (by assumption) ?resta8
                  case hya8 => (intro w hSw; (try dsimp only at hSw); obtain ⟨hS1, hS2, hS3⟩ := hSw; go_simp; try with_reducible rfl)
                  try simp only [Act.put, List.getElem_toArray, List.getElem_cons_zero, List.getElem_cons_succ, List.setIfInBounds_toArray, List.set_cons_zero, List.set_cons_succ]
                  refine wpAnyH_take (i := 9) (v := ?va9) rfl (by kernel_rfl) (by kernel_rfl) (by kernel_rfl) (fun _ _ _ h => h) (Or.inl ⟨by kernel_rfl, ?hya9⟩) (by assumption) ?resta9
                  case hya9 => (intro w hSw; (try dsimp only at hSw); obtain ⟨hS1, hS2, hS3⟩ := hSw; go_simp; try with_reducible rfl)
                  try simp only [Act.put, List.getElem_toArray, List.getElem_cons_zero, List.getElem_cons_succ, List.setIfInBounds_toArray, List.set_cons_zero, List.set_cons_succ]
                  refine wpAnyH_take (i := 11) (v := ?va11) rfl (by kernel_rfl) (by kernel_rfl) (by kernel_rfl) (fun _ _ _ h => h) (Or.inl ⟨by kernel_rfl, ?hya11⟩) (by assumption) ?resta11
                  case hya11 => (intro w hSw; (try dsimp only at hSw); obtain ⟨hS1, hS2, hS3⟩ := hSw; go_simp; try with_reducible rfl)
                  try simp only [Act.put, List.getElem_toArray, List.getElem_cons_zero, List.getElem_cons_succ, List.setIfInBounds_toArray, List.set_cons_zero, List.set_cons_succ]
                  refine wpAnyH_take (i := 12) (v := ?va12) rfl (by kernel_rfl) (by kernel_rfl) (by kernel_rfl) (fun _ _ _ h => h) (Or.inl ⟨by kernel_rfl, ?hya12⟩) (by assumption) ?resta12
                  case hya12 => (intro w hSw; (try dsimp only at hSw); obtain ⟨hS1, hS2, hS3⟩ := hSw; go_simp; try with_reducible rfl)
                  try simp only [Act.put, List.getElem_toArray, List.getElem_cons_zero, List.getElem_cons_succ, List.setIfInBounds_toArray, List.set_cons_zero, List.set_cons_succ]
                  refine wpAnyH_take (i := 13) (v := ?va13) rfl (by kernel_rfl) (by kernel_rfl) (by kernel_rfl) (fun _ _ _ h => h) (Or.inl ⟨by kernel_rfl, ?hya13⟩) (by assumption) ?resta13
                  case hya13 => (intro w hSw; (try dsimp only at hSw); obtain ⟨hS1, hS2, hS3⟩ := hSw; go_simp; try with_reducible rfl)
                  try simp only [Act.put, List.getElem_toArray, List.getElem_cons_zero, List.getElem_cons_succ, List.setIfInBounds_toArray, List.set_cons_zero, List.set_cons_succ]
                  refine wpAnyH_take (i := 14) (v := ?va14) rfl (by kernel_rfl) (by kernel_rfl) (by kernel_rfl) (fun _ _ _ h => h) (Or.inl ⟨by kernel_rfl, ?hya14⟩) (by assumption) ?resta14
                  case hya14 => (intro w hSw; (try dsimp only at hSw); obtain ⟨hS1, hS2, hS3⟩ := hSw; go_simp; try with_reducible rfl)
                  try simp only [Act.put, List.getElem_toArray, List.getElem_cons_zero, List.getElem_cons_succ, List.setIfInBounds_toArray, List.set_cons_zero, List.set_cons_succ]
                  refine wpAnyH_take (i := 15) (v := ?va15) rfl (by kernel_rfl) (by kernel_rfl) (by kernel_rfl) (fun _ _ _ h => h) (Or.inl ⟨by kernel_rfl, ?hya15⟩) (by assumption) ?resta15
                  case hya15 => (intro w hSw; (try dsimp only at hSw); obtain ⟨hS1, hS2, hS3⟩ := hSw; go_simp; try with_reducible rfl)
                  try simp only [Act.put, List.getElem_toArray, List.getElem_cons_zero, List.getElem_cons_succ, List.setIfInBounds_toArray, List.set_cons_zero, List.set_cons_succ]
                  refine wpAnyH_ready (rs := [10]) (by kernel_rfl) (by simp) ?_
                  refine AllReadyH.cons rfl (fun K hK => ?_) AllReadyH.nil
                  go_simp
                  go_wp2_with (first | (go_at_call 34; (with_reducible refine (ts_len (B := B3) (p := p) (g := g) (qb := B3) (n := 1 + (q : Int)) (M := M) (s := s) (A := Aq) (c := cq) _ (by (with_reducible repeat (first | exact HTS.out | refine TS.drewN ?_ _ | refine TS.drew ?_)))).mono ?_); rintro e w2 ⟨rfl, ⟨nd, rfl⟩⟩) | (go_at_call 45; (with_reducible refine (ts_list (B := B3) (p := p) (g := g) (qb := B3) (n := 1 + (q : Int)) (M := M) (s := s) (A := Aq) (c := cq) _ (by (with_reducible repeat (first | exact HTS.out | refine TS.drewN ?_ _ | refine TS.drew ?_)))).mono ?_); rintro e w2 ⟨A3, c3, rfl, h3, hb⟩; have HT2 := Aside0.mk (TS.below (B := B3) (p := p) (g := g) (qb := B3) (n := 1 + (q : Int)) (M := M) (s := s) (A := Aq) (c := cq) (by (with_reducible repeat (first | exact HTS.out | refine TS.drewN ?_ _ | refine TS.drew ?_))) hb); have H3 := Aside0.mk h3; have HBn := Aside0.mk (below_step (by repeat (first | exact HBF.out | apply below_alloc | apply pw_below_drewN | apply below_drew1)) hb); have hcA := (hb.cell (p := ⟨B + 1, 0, none⟩) (World.block_lt_of_cell? _ _ hc0)).trans hc0; have hcB := (hb.cell (p := ⟨B + 1, 1, none⟩) (World.block_lt_of_cell? _ _ hc1)).trans hc1; clear HTS HBF h3 hb hcl hc0 hc1; have HTS := HT2; have HBF := HBn; clear HT2 HBn; have hc0 := hcA; have hc1 := hcB; clear hcA hcB; have hcl := HTS.out.cell) | (go_at_call 44; (with_reducible refine (ts_same (B := B3) (p := p) (g := g) (qb := B3) (n := 1 + (q : Int)) (M := M) (s := s) (A := Aq) (c := cq) _ A3 c3 (by (with_reducible repeat (first | exact HTS.out | refine TS.drewN ?_ _ | refine TS.drew ?_))) (by (with_reducible repeat (first | exact H3.out | refine ReadsInt.drewN ?_ _)))).mono ?_); rintro e w2 ⟨rfl, ⟨⟨nd2, rfl⟩⟩⟩))
                  refine hK.out _ _ ?_ (fun hHeld => ?_)
                  · exact ⟨hc0, hc1, hcl⟩
                  clear hK K
                  try simp only [Act.put, List.getElem_toArray, List.getElem_cons_zero, List.getElem_cons_succ, List.setIfInBounds_toArray, List.set_cons_zero, List.set_cons_succ]
                  refine wpAnyH_take (i := 16) (v := ?va16) rfl (by kernel_rfl) (by kernel_rfl) (by kernel_rfl) (fun _ _ _ h => h) (Or.inl ⟨by kernel_rfl, ?hya16⟩) (by assumption) ?resta16
                  case hya16 => (intro w hSw; (try dsimp only at hSw); obtain ⟨hS1, hS2, hS3⟩ := hSw; go_simp; try with_reducible rfl)
                  try simp only [Act.put, List.getElem_toArray, List.getElem_cons_zero, List.getElem_cons_succ, List.setIfInBounds_toArray, List.set_cons_zero, List.set_cons_succ]
                  refine wpAnyH_take (i := 17) (v := ?va17) rfl (by kernel_rfl) (by kernel_rfl) (by kernel_rfl) (fun _ _ _ h => h) (Or.inl ⟨by kernel_rfl, ?hya17⟩) (by assumption) ?resta17
                  case hya17 => (intro w hSw; (try dsimp only at hSw); obtain ⟨hS1, hS2, hS3⟩ := hSw; go_simp; try with_reducible rfl)
                  try simp only [Act.put, List.getElem_toArray, List.getElem_cons_zero, List.getElem_cons_succ, List.setIfInBounds_toArray, List.set_cons_zero, List.set_cons_succ]
                  refine wpAnyH_take (i := 18) (v := ?va18) rfl (by kernel_rfl) (by kernel_rfl) (by kernel_rfl) (fun _ _ _ h => h) (Or.inl ⟨by kernel_rfl, ?hya18⟩) (by assumption) ?resta18
                  case hya18 => (intro w hSw; (try dsimp only at hSw); obtain ⟨hS1, hS2, hS3⟩ := hSw; go_simp; try with_reducible rfl)
                  try simp only [Act.put, List.getElem_toArray, List.getElem_cons_zero, List.getElem_cons_succ, List.setIfInBounds_toArray, List.set_cons_zero, List.set_cons_succ]
                  refine wpAnyH_take (i := 20) (v := ?va20) rfl (by kernel_rfl) (by kernel_rfl) (by kernel_rfl) (fun _ _ _ h => h) (Or.inl ⟨by kernel_rfl, ?hya20⟩) (by assumption) ?resta20
                  case hya20 => (intro w hSw; (try dsimp only at hSw); obtain ⟨hS1, hS2, hS3⟩ := hSw; go_simp; try with_reducible rfl)
                  try simp only [Act.put, List.getElem_toArray, List.getElem_cons_zero, List.getElem_cons_succ, List.setIfInBounds_toArray, List.set_cons_zero, List.set_cons_succ]
                  refine wpAnyH_take (i := 21) (v := ?va21) rfl (by kernel_rfl) (by kernel_rfl) (by kernel_rfl) (fun _ _ _ h => h) (Or.inl ⟨by kernel_rfl, ?hya21⟩) (by assumption) ?resta21
                  case hya21 => (intro w hSw; (try dsimp only at hSw); obtain ⟨hS1, hS2, hS3⟩ := hSw; go_simp; try with_reducible rfl)
                  try simp only [Act.put, List.getElem_toArray, List.getElem_cons_zero, List.getElem_cons_succ, List.setIfInBounds_toArray, List.set_cons_zero, List.set_cons_succ]
                  refine wpAnyH_take (i := 22) (v := ?va22) rfl (by kernel_rfl) (by kernel_rfl) (by kernel_rfl) (fun _ _ _ h => h) (Or.inl ⟨by kernel_rfl, ?hya22⟩) (by assumption) ?resta22
                  case hya22 => (intro w hSw; (try dsimp only at hSw); obtain ⟨hS1, hS2, hS3⟩ := hSw; go_simp; try with_reducible rfl)
                  try simp only [Act.put, List.getElem_toArray, List.getElem_cons_zero, List.getElem_cons_succ, List.setIfInBounds_toArray, List.set_cons_zero, List.set_cons_succ]
                  refine wpAnyH_take (i := 23) (v := ?va23) rfl (by kernel_rfl) (by kernel_rfl) (by kernel_rfl) (fun _ _ _ h => h) (Or.inl ⟨by kernel_rfl, ?hya23⟩) (by assumption) ?resta23
                  case hya23 => (intro w hSw; (try dsimp only at hSw); obtain ⟨hS1, hS2, hS3⟩ := hSw; go_simp; try with_reducible rfl)
                  try simp only [Act.put, List.getElem_toArray, List.getElem_cons_zero, List.getElem_cons_succ, List.setIfInBounds_toArray, List.set_cons_zero, List.set_cons_succ]
                  refine wpAnyH_ready (rs := [19]) (by kernel_rfl) (by simp) ?_
                  refine AllReadyH.cons rfl (fun K hK => ?_) AllReadyH.nil
                  go_simp
                  go_wp2_with (first | (go_at_call 34; (with_reducible refine (ts_len (B := B3) (p := p) (g := g) (qb := B3) (n := 1 + (q : Int)) (M := M) (s := s) (A := Aq) (c := cq) _ (by (with_reducible repeat (first | exact HTS.out | refine TS.drewN ?_ _ | refine TS.drew ?_)))).mono ?_); rintro e w2 ⟨rfl, ⟨nd, rfl⟩⟩) | (go_at_call 45; (with_reducible refine (ts_list (B := B3) (p := p) (g := g) (qb := B3) (n := 1 + (q : Int)) (M := M) (s := s) (A := Aq) (c := cq) _ (by (with_reducible repeat (first | exact HTS.out | refine TS.drewN ?_ _ | refine TS.drew ?_)))).mono ?_); rintro e w2 ⟨A3, c3, rfl, h3, hb⟩; have HT2 := Aside0.mk (TS.below (B := B3) (p := p) (g := g) (qb := B3) (n := 1 + (q : Int)) (M := M) (s := s) (A := Aq) (c := cq) (by (with_reducible repeat (first | exact HTS.out | refine TS.drewN ?_ _ | refine TS.drew ?_))) hb); have H3 := Aside0.mk h3; have HBn := Aside0.mk (below_step (by repeat (first | exact HBF.out | apply below_alloc | apply pw_below_drewN | apply below_drew1)) hb); have hcA := (hb.cell (p := ⟨B + 1, 0, none⟩) (World.block_lt_of_cell? _ _ hc0)).trans hc0; have hcB := (hb.cell (p := ⟨B + 1, 1, none⟩) (World.block_lt_of_cell? _ _ hc1)).trans hc1; clear HTS HBF h3 hb hcl hc0 hc1; have HTS := HT2; have HBF := HBn; clear HT2 HBn; have hc0 := hcA; have hc1 := hcB; clear hcA hcB; have hcl := HTS.out.cell) | (go_at_call 44; (with_reducible refine (ts_same (B := B3) (p := p) (g := g) (qb := B3) (n := 1 + (q : Int)) (M := M) (s := s) (A := Aq) (c := cq) _ A3 c3 (by (with_reducible repeat (first | exact HTS.out | refine TS.drewN ?_ _ | refine TS.drew ?_))) (by (with_reducible repeat (first | exact H3.out | refine ReadsInt.drewN ?_ _)))).mono ?_); rintro e w2 ⟨rfl, ⟨⟨nd2, rfl⟩⟩⟩))
                  refine hK.out _ _ ?_ (fun hHeld => ?_)
                  · exact ⟨hc0, hc1, hcl⟩
                  clear hK K
                  try simp only [Act.put, List.getElem_toArray, List.getElem_cons_zero, List.getElem_cons_succ, List.setIfInBounds_toArray, List.set_cons_zero, List.set_cons_succ]
                  refine wpAnyH_ready (rs := [24]) (by kernel_rfl) (by simp) ?_
                  refine AllReadyH.cons rfl (fun K hK => ?_) AllReadyH.nil
                  go_simp
                  go_wp2_with (first | (go_at_call 34; (with_reducible refine (ts_len (B := B3) (p := p) (g := g) (qb := B3) (n := 1 + (q : Int)) (M := M) (s := s) (A := Aq) (c := cq) _ (by (with_reducible repeat (first | exact HTS.out | refine TS.drewN ?_ _ | refine TS.drew ?_)))).mono ?_); rintro e w2 ⟨rfl, ⟨nd, rfl⟩⟩) | (go_at_call 45; (with_reducible refine (ts_list (B := B3) (p := p) (g := g) (qb := B3) (n := 1 + (q : Int)) (M := M) (s := s) (A := Aq) (c := cq) _ (by (with_reducible repeat (first | exact HTS.out | refine TS.drewN ?_ _ | refine TS.drew ?_)))).mono ?_); rintro e w2 ⟨A3, c3, rfl, h3, hb⟩; have HT2 := Aside0.mk (TS.below (B := B3) (p := p) (g := g) (qb := B3) (n := 1 + (q : Int)) (M := M) (s := s) (A := Aq) (c := cq) (by (with_reducible repeat (first | exact HTS.out | refine TS.drewN ?_ _ | refine TS.drew ?_))) hb); have H3 := Aside0.mk h3; have HBn := Aside0.mk (below_step (by repeat (first | exact HBF.out | apply below_alloc | apply pw_below_drewN | apply below_drew1)) hb); have hcA := (hb.cell (p := ⟨B + 1, 0, none⟩) (World.block_lt_of_cell? _ _ hc0)).trans hc0; have hcB := (hb.cell (p := ⟨B + 1, 1, none⟩) (World.block_lt_of_cell? _ _ hc1)).trans hc1; clear HTS HBF h3 hb hcl hc0 hc1; have HTS := HT2; have HBF := HBn; clear HT2 HBn; have hc0 := hcA; have hc1 := hcB; clear hcA hcB; have hcl := HTS.out.cell) | (go_at_call 44; (with_reducible refine (ts_same (B := B3) (p := p) (g := g) (qb := B3) (n := 1 + (q : Int)) (M := M) (s := s) (A := Aq) (c := cq) _ A3 c3 (by (with_reducible repeat (first | exact HTS.out | refine TS.drewN ?_ _ | refine TS.drew ?_))) (by (with_reducible repeat (first | exact H3.out | refine ReadsInt.drewN ?_ _)))).mono ?_); rintro e w2 ⟨rfl, ⟨⟨nd2, rfl⟩⟩⟩))
                  refine hK.out _ _ ?_ (fun hHeld => ?_)
                  · exact ⟨hc0, hc1, hcl⟩
                  clear hK K
                  try simp only [Act.put, List.getElem_toArray, List.getElem_cons_zero, List.getElem_cons_succ, List.setIfInBounds_toArray, List.set_cons_zero, List.set_cons_succ]
                  refine wpAnyH_take (i := 25) (v := ?va25) rfl (by kernel_rfl) (by kernel_rfl) (by kernel_rfl) (fun _ _ _ h => h) (Or.inl ⟨by kernel_rfl, ?hya25⟩) (by assumption) ?resta25
                  case hya25 => (intro w hSw; (try dsimp only at hSw); obtain ⟨hS1, hS2, hS3⟩ := hSw; go_simp; try with_reducible rfl)
                  try simp only [Act.put, List.getElem_toArray, List.getElem_cons_zero, List.getElem_cons_succ, List.setIfInBounds_toArray, List.set_cons_zero, List.set_cons_succ]
                  refine wpAnyH_take (i := 26) (v := ?va26) rfl (by kernel_rfl) (by kernel_rfl) (by kernel_rfl) (fun _ _ _ h => h) (Or.inl ⟨by kernel_rfl, ?hya26⟩) (by assumption) ?resta26
                  case hya26 => (intro w hSw; (try dsimp only at hSw); obtain ⟨hS1, hS2, hS3⟩ := hSw; go_simp; try with_reducible rfl)
                  try simp only [Act.put, List.getElem_toArray, List.getElem_cons_zero, List.getElem_cons_succ, List.setIfInBounds_toArray, List.set_cons_zero, List.set_cons_succ]
                  refine wpAnyH_take (i := 27) (v := ?va27) rfl (by kernel_rfl) (by kernel_rfl) (by kernel_rfl) (fun _ _ _ h => h) (Or.inl ⟨by kernel_rfl, ?hya27⟩) (by assumption) ?resta27
                  case hya27 => (intro w hSw; (try dsimp only at hSw); obtain ⟨hS1, hS2, hS3⟩ := hSw; go_simp; try with_reducible rfl)
                  try simp only [Act.put, List.getElem_toArray, List.getElem_cons_zero, List.getElem_cons_succ, List.setIfInBounds_toArray, List.set_cons_zero, List.set_cons_succ]
                  refine wpAnyH_done (by kernel_rfl) ?_ _
                  go_wp2
                  go_ret
                  exact ⟨by first | rfl | (simp; done), by repeat (first | exact HBF.out | apply below_alloc | apply pw_below_drewN | apply below_drew1)⟩
              · subst e11
                as_aux_lemma =>
                  go_wp2_with fail
                  refine wp_region_held_drew (S := (fun w' => w'.cell? ⟨B + 1, 0, none⟩ = some (.int .i64 (-1)) ∧ w'.cell? ⟨B + 1, 1, none⟩ = some (.int .i64 (d1 : Int)) ∧ w'.cell? ⟨B3, 1, none⟩ = some (.slice Aq s.L.length cq))) (by kernel_rfl) ?_ (fun hHeld => ?_)
                  · exact ⟨hc0, hc1, hcl⟩
                  refine wpAnyH_take (i := 0) (v := ?vb0) rfl (by kernel_rfl) (by kernel_rfl) (by kernel_rfl) (fun _ _ _ h => h) (Or.inl ⟨by kernel_rfl, ?hyb0⟩) (by assumption) ?restb0
                  case hyb0 => (intro w hSw; (try dsimp only at hSw); obtain ⟨hS1, hS2, hS3⟩ := hSw; go_simp; try with_reducible rfl)
                  try simp only [Act.put, List.getElem_toArray, List.getElem_cons_zero, List.getElem_cons_succ, List.setIfInBounds_toArray, List.set_cons_zero, List.set_cons_succ]
                  refine wpAnyH_take (i := 1) (v := ?vb1) rfl (by kernel_rfl) (by kernel_rfl) (by kernel_rfl) (fun _ _ _ h => h) (Or.inl ⟨by kernel_rfl, ?hyb1⟩) (by assumption) ?restb1
                  case hyb1 => (intro w hSw; (try dsimp only at hSw); obtain ⟨hS1, hS2, hS3⟩ := hSw; go_simp; try with_reducible rfl)
                  try simp only [Act.put, List.getElem_toArray, List.getElem_cons_zero, List.getElem_cons_succ, List.setIfInBounds_toArray, List.set_cons_zero, List.set_cons_succ]
                  refine wpAnyH_take (i := 2) (v := (.bool false)) rfl (by kernel_rfl) (by kernel_rfl) (by kernel_rfl) (fun _ _ _ h => h) (Or.inl ⟨by kernel_rfl, ?hyb2⟩) (by assumption) ?restb2
                  case hyb2 => (intro w hSw; (try dsimp only at hSw); obtain ⟨hS1, hS2, hS3⟩ := hSw; go_simp; first | done | rfl | (simp; done) | (simp; omega))
                  try simp only [Act.put, List.getElem_toArray, List.getElem_cons_zero, List.getElem_cons_succ, List.setIfInBounds_toArray, List.set_cons_zero, List.set_cons_succ]
                  refine wpAnyH_take (i := 3) (v := ?vb3) rfl (by kernel_rfl) (by kernel_rfl) (by kernel_rfl) (fun _ _ _ h => h) (Or.inl ⟨by kernel_rfl, ?hyb3⟩) (by assumption) ?restb3
                  case hyb3 => (intro w hSw; (try dsimp only at hSw); obtain ⟨hS1, hS2, hS3⟩ := hSw; go_simp; try with_reducible rfl)
                  try simp only [Act.put, List.getElem_toArray, List.getElem_cons_zero, List.getElem_cons_succ, List.setIfInBounds_toArray, List.set_cons_zero, List.set_cons_succ]
                  refine wpAnyH_take (i := 4) (v := ?vb4) rfl (by kernel_rfl) (by kernel_rfl) (by kernel_rfl) (fun _ _ _ h => h) (Or.inl ⟨by kernel_rfl, ?hyb4⟩) (by assumption) ?restb4
                  case hyb4 => (intro w hSw; (try dsimp only at hSw); obtain ⟨hS1, hS2, hS3⟩ := hSw; go_simp; try with_reducible rfl)
                  try simp only [Act.put, List.getElem_toArray, List.getElem_cons_zero, List.getElem_cons_succ, List.setIfInBounds_toArray, List.set_cons_zero, List.set_cons_succ]
                  refine wpAnyH_take (i := 5) (v := ?vb5) rfl (by kernel_rfl) (by kernel_rfl) (by kernel_rfl) (fun _ _ _ h => h) (Or.inl ⟨by kernel_rfl, ?hyb5⟩) (by assumption) ?restb5
                  case hyb5 => (intro w hSw; (try dsimp only at hSw); obtain ⟨hS1, hS2, hS3⟩ := hSw; go_simp; try with_reducible rfl)
                  try simp only [Act.put, List.getElem_toArray, List.getElem_cons_zero, List.getElem_cons_succ, List.setIfInBounds_toArray, List.set_cons_zero, List.set_cons_succ]
                  refine wpAnyH_take (i := 6) (v := (.bool true)) rfl (by kernel_rfl) (by kernel_rfl) (by kernel_rfl) (fun _ _ _ h => h) (Or.inl ⟨by kernel_rfl, ?hyb6⟩) (by assumption) ?restb6
                  case hyb6 => (intro w hSw; (try dsimp only at hSw); obtain ⟨hS1, hS2, hS3⟩ := hSw; go_simp; first | done | rfl | (simp; done) | (simp; omega))
                  try simp only [Act.put, List.getElem_toArray, List.getElem_cons_zero, List.getElem_cons_succ, List.setIfInBounds_toArray, List.set_cons_zero, List.set_cons_succ]
                  refine wpAnyH_take (i := 7) (v := ?vb7) rfl (by kernel_rfl) (by kernel_rfl) (by kernel_rfl) (fun _ _ _ h => h) (Or.inl ⟨by kernel_rfl, ?hyb7⟩) (by assumption) ?restb7
                  case hyb7 => (intro w hSw; (try dsimp only at hSw); obtain ⟨hS1, hS2, hS3⟩ := hSw; go_simp; try with_reducible rfl)
                  try simp only [Act.put, List.getElem_toArray, List.getElem_cons_zero, List.getElem_cons_succ, List.setIfInBounds_toArray, List.set_cons_zero, List.set_cons_succ]
                  refine wpAnyH_take (i := 8) (v := ?vb8) rfl (by kernel_rfl) (by kernel_rfl) (by kernel_rfl) (fun _ _ _ h => h) (Or.inl ⟨by kernel_rfl, ?hyb8⟩) (by assumption) ?restb8
                  case hyb8 => (intro w hSw; (try dsimp only at hSw); obtain ⟨hS1, hS2, hS3⟩ := hSw; go_simp; try with_reducible rfl)
                  try simp only [Act.put, List.getElem_toArray, List.getElem_cons_zero, List.getElem_cons_succ, List.setIfInBounds_toArray, List.set_cons_zero, List.set_cons_succ]
                  refine wpAnyH_take (i := 9) (v := undef) rfl (by kernel_rfl) (by kernel_rfl) (by kernel_rfl) (fun _ _ _ h => h) (Or.inr ⟨by kernel_rfl, rfl⟩) (by assumption) ?_
                  try simp only [Act.put, List.getElem_toArray, List.getElem_cons_zero, List.getElem_cons_succ, List.setIfInBounds_toArray, List.set_cons_zero, List.set_cons_succ]
                  refine wpAnyH_take (i := 10) (v := undef) rfl (by kernel_rfl) (by kernel_rfl) (by kernel_rfl) (fun _ _ _ h => h) (Or.inr ⟨by kernel_rfl, rfl⟩) (by assumption) ?_
                  try simp only [Act.put, List.getElem_toArray, List.getElem_cons_zero, List.getElem_cons_succ, List.setIfInBounds_toArray, List.set_cons_zero, List.set_cons_succ]
                  refine wpAnyH_take (i := 11) (v := undef) rfl (by kernel_rfl) (by kernel_rfl) (by kernel_rfl) (fun _ _ _ h => h) (Or.inr ⟨by kernel_rfl, rfl⟩) (by assumption) ?_
                  try simp only [Act.put, List.getElem_toArray, List.getElem_cons_zero, List.getElem_cons_succ, List.setIfInBounds_toArray, List.set_cons_zero, List.set_cons_succ]
                  refine wpAnyH_take (i := 12) (v := undef) rfl (by kernel_rfl) (by kernel_rfl) (by kernel_rfl) (fun _ _ _ h => h) (Or.inr ⟨by kernel_rfl, rfl⟩) (by assumption) ?_
                  try simp only [Act.put, List.getElem_toArray, List.getElem_cons_zero, List.getElem_cons_succ, List.setIfInBounds_toArray, List.set_cons_zero, List.set_cons_succ]
                  refine wpAnyH_take (i := 13) (v := undef) rfl (by kernel_rfl) (by kernel_rfl) (by kernel_rfl) (fun _ _ _ h => h) (Or.inr ⟨by kernel_rfl, rfl⟩) (by assumption) ?_
                  try simp only [Act.put, List.getElem_toArray, List.getElem_cons_zero, List.getElem_cons_succ, List.setIfInBounds_toArray, List.set_cons_zero, List.set_cons_succ]
                  refine wpAnyH_take (i := 14) (v := undef) rfl (by kernel_rfl) (by kernel_rfl) (by kernel_rfl) (fun _ _ _ h => h) (Or.inr ⟨by kernel_rfl, rfl⟩) (by assumption) ?_
                  try simp only [Act.put, List.getElem_toArray, List.getElem_cons_zero, List.getElem_cons_succ, List.setIfInBounds_toArray, List.set_cons_zero, List.set_cons_succ]
                  refine wpAnyH_take (i := 15) (v := undef) rfl (by kernel_rfl) (by kernel_rfl) (by kernel_rfl) (fun _ _ _ h => h) (Or.inr ⟨by kernel_rfl, rfl⟩) (by assumption) ?_
                  try simp only [Act.put, List.getElem_toArray, List.getElem_cons_zero, List.getElem_cons_succ, List.setIfInBounds_toArray, List.set_cons_zero, List.set_cons_succ]
                  refine wpAnyH_take (i := 16) (v := undef) rfl (by kernel_rfl) (by kernel_rfl) (by kernel_rfl) (fun _ _ _ h => h) (Or.inr ⟨by kernel_rfl, rfl⟩) (by assumption) ?_
                  try simp only [Act.put, List.getElem_toArray, List.getElem_cons_zero, List.getElem_cons_succ, List.setIfInBounds_toArray, List.set_cons_zero, List.set_cons_succ]
                  refine wpAnyH_take (i := 17) (v := undef) rfl (by kernel_rfl) (by kernel_rfl) (by kernel_rfl) (fun _ _ _ h => h) (Or.inr ⟨by kernel_rfl, rfl⟩) (by assumption) ?_
                  try simp only [Act.put, List.getElem_toArray, List.getElem_cons_zero, List.getElem_cons_succ, List.setIfInBounds_toArray, List.set_cons_zero, List.set_cons_succ]
                  refine wpAnyH_take (i := 18) (v := undef) rfl (by kernel_rfl) (by kernel_rfl) (by kernel_rfl) (fun _ _ _ h => h) (Or.inr ⟨by kernel_rfl, rfl⟩) (by assumption) ?_
                  try simp only [Act.put, List.getElem_toArray, List.getElem_cons_zero, List.getElem_cons_succ, List.setIfInBounds_toArray, List.set_cons_zero, List.set_cons_succ]
                  refine wpAnyH_take (i := 19) (v := undef) rfl (by kernel_rfl) (by kernel_rfl) (by kernel_rfl) (fun _ _ _ h => h) (Or.inr ⟨by kernel_rfl, rfl⟩) (by assumption) ?_
                  try simp only [Act.put, List.getElem_toArray, List.getElem_cons_zero, List.getElem_cons_succ, List.setIfInBounds_toArray, List.set_cons_zero, List.set_cons_succ]
                  refine wpAnyH_take (i := 20) (v := undef) rfl (by kernel_rfl) (by kernel_rfl) (by kernel_rfl) (fun _ _ _ h => h) (Or.inr ⟨by kernel_rfl, rfl⟩) (by assumption) ?_
                  try simp only [Act.put, List.getElem_toArray, List.getElem_cons_zero, List.getElem_cons_succ, List.setIfInBounds_toArray, List.set_cons_zero, List.set_cons_succ]
                  refine wpAnyH_take (i := 21) (v := undef) rfl (by kernel_rfl) (by kernel_rfl) (by kernel_rfl) (fun _ _ _ h => h) (Or.inr ⟨by kernel_rfl, rfl⟩) (by assumption) ?_
                  try simp only [Act.put, List.getElem_toArray, List.getElem_cons_zero, List.getElem_cons_succ, List.setIfInBounds_toArray, List.set_cons_zero, List.set_cons_succ]
                  refine wpAnyH_take (i := 22) (v := undef) rfl (by kernel_rfl) (by kernel_rfl) (by kernel_rfl) (fun _ _ _ h => h) (Or.inr ⟨by kernel_rfl, rfl⟩) (by assumption) ?_
                  try simp only [Act.put, List.getElem_toArray, List.getElem_cons_zero, List.getElem_cons_succ, List.setIfInBounds_toArray, List.set_cons_zero, List.set_cons_succ]
                  refine wpAnyH_take (i := 23) (v := undef) rfl (by kernel_rfl) (by kernel_rfl) (by kernel_rfl) (fun _ _ _ h => h) (Or.inr ⟨by kernel_rfl, rfl⟩) (by assumption) ?_
                  try simp only [Act.put, List.getElem_toArray, List.getElem_cons_zero, List.getElem_cons_succ, List.setIfInBounds_toArray, List.set_cons_zero, List.set_cons_succ]
                  refine wpAnyH_take (i := 24) (v := undef) rfl (by kernel_rfl) (by kernel_rfl) (by kernel_rfl) (fun _ _ _ h => h) (Or.inr ⟨by kernel_rfl, rfl⟩) (by assumption) ?_
                  try simp only [Act.put, List.getElem_toArray, List.getElem_cons_zero, List.getElem_cons_succ, List.setIfInBounds_toArray, List.set_cons_zero, List.set_cons_succ]
                  refine wpAnyH_take (i := 25) (v := undef) rfl (by kernel_rfl) (by kernel_rfl) (by kernel_rfl) (fun _ _ _ h => h) (Or.inr ⟨by kernel_rfl, rfl⟩) (by assumption) ?_
                  try simp only [Act.put, List.getElem_toArray, List.getElem_cons_zero, List.getElem_cons_succ, List.setIfInBounds_toArray, List.set_cons_zero, List.set_cons_succ]
                  refine wpAnyH_take (i := 26) (v := ?vb26) rfl (by kernel_rfl) (by kernel_rfl) (by kernel_rfl) (fun _ _ _ h => h) (Or.inl ⟨by kernel_rfl, ?hyb26⟩) (by assumption) ?restb26
                  case hyb26 => (intro w hSw; (try dsimp only at hSw); obtain ⟨hS1, hS2, hS3⟩ := hSw; go_simp; try with_reducible rfl)
                  try simp only [Act.put, List.getElem_toArray, List.getElem_cons_zero, List.getElem_cons_succ, List.setIfInBounds_toArray, List.set_cons_zero, List.set_cons_succ]
                  refine wpAnyH_take (i := 27) (v := ?vb27) rfl (by kernel_rfl) (by kernel_rfl) (by kernel_rfl) (fun _ _ _ h => h) (Or.inl ⟨by kernel_rfl, ?hyb27⟩) (by assumption) ?restb27
                  case hyb27 => (intro w hSw; (try dsimp only at hSw); obtain ⟨hS1, hS2, hS3⟩ := hSw; go_simp; try with_reducible rfl)
                  try simp only [Act.put, List.getElem_toArray, List.getElem_cons_zero, List.getElem_cons_succ, List.setIfInBounds_toArray, List.set_cons_zero, List.set_cons_succ]
                  refine wpAnyH_done (by kernel_rfl) ?_ _
                  go_wp2
                  go_ret
                  exact ⟨by first | rfl | (simp; done), by repeat (first | exact HBF.out | apply below_alloc | apply pw_below_drewN | apply below_drew1)⟩
            · subst e01
              as_aux_lemma =>
                go_wp2_with fail
                refine wp_region_held_drew (S := (fun w' => w'.cell? ⟨B + 1, 0, none⟩ = some (.int .i64 (d0 : Int)) ∧ w'.cell? ⟨B + 1, 1, none⟩ = some (.int .i64 n1) ∧ w'.cell? ⟨B3, 1, none⟩ = some (.slice Aq s.L.length cq))) (by kernel_rfl) ?_ (fun hHeld => ?_)
                · exact ⟨hc0, hc1, hcl⟩
                refine wpAnyH_take (i := 0) (v := ?vc0) rfl (by kernel_rfl) (by kernel_rfl) (by kernel_rfl) (fun _ _ _ h => h) (Or.inl ⟨by kernel_rfl, ?hyc0⟩) (by assumption) ?restc0
                case hyc0 => (intro w hSw; (try dsimp only at hSw); obtain ⟨hS1, hS2, hS3⟩ := hSw; go_simp; try with_reducible rfl)
                try simp only [Act.put, List.getElem_toArray, List.getElem_cons_zero, List.getElem_cons_succ, List.setIfInBounds_toArray, List.set_cons_zero, List.set_cons_succ]
                refine wpAnyH_take (i := 1) (v := ?vc1) rfl (by kernel_rfl) (by kernel_rfl) (by kernel_rfl) (fun _ _ _ h => h) (Or.inl ⟨by kernel_rfl, ?hyc1⟩) (by assumption) ?restc1
                case hyc1 => (intro w hSw; (try dsimp only at hSw); obtain ⟨hS1, hS2, hS3⟩ := hSw; go_simp; try with_reducible rfl)
                try simp only [Act.put, List.getElem_toArray, List.getElem_cons_zero, List.getElem_cons_succ, List.setIfInBounds_toArray, List.set_cons_zero, List.set_cons_succ]
                refine wpAnyH_take (i := 2) (v := (.bool true)) rfl (by kernel_rfl) (by kernel_rfl) (by kernel_rfl) (fun _ _ _ h => h) (Or.inl ⟨by kernel_rfl, ?hyc2⟩) (by assumption) ?restc2
                case hyc2 => (intro w hSw; (try dsimp only at hSw); obtain ⟨hS1, hS2, hS3⟩ := hSw; go_simp; first | done | rfl | (simp; done) | (simp; omega))
                try simp only [Act.put, List.getElem_toArray, List.getElem_cons_zero, List.getElem_cons_succ, List.setIfInBounds_toArray, List.set_cons_zero, List.set_cons_succ]
                refine wpAnyH_take (i := 3) (v := ?vc3) rfl (by kernel_rfl) (by kernel_rfl) (by kernel_rfl) (fun _ _ _ h => h) (Or.inl ⟨by kernel_rfl, ?hyc3⟩) (by assumption) ?restc3
                case hyc3 => (intro w hSw; (try dsimp only at hSw); obtain ⟨hS1, hS2, hS3⟩ := hSw; go_simp; try with_reducible rfl)
                try simp only [Act.put, List.getElem_toArray, List.getElem_cons_zero, List.getElem_cons_succ, List.setIfInBounds_toArray, List.set_cons_zero, List.set_cons_succ]
                refine wpAnyH_take (i := 4) (v := undef) rfl (by kernel_rfl) (by kernel_rfl) (by kernel_rfl) (fun _ _ _ h => h) (Or.inr ⟨by kernel_rfl, rfl⟩) (by assumption) ?_
                try simp only [Act.put, List.getElem_toArray, List.getElem_cons_zero, List.getElem_cons_succ, List.setIfInBounds_toArray, List.set_cons_zero, List.set_cons_succ]
                refine wpAnyH_take (i := 5) (v := undef) rfl (by kernel_rfl) (by kernel_rfl) (by kernel_rfl) (fun _ _ _ h => h) (Or.inr ⟨by kernel_rfl, rfl⟩) (by assumption) ?_
                try simp only [Act.put, List.getElem_toArray, List.getElem_cons_zero, List.getElem_cons_succ, List.setIfInBounds_toArray, List.set_cons_zero, List.set_cons_succ]
                refine wpAnyH_take (i := 6) (v := undef) rfl (by kernel_rfl) (by kernel_rfl) (by kernel_rfl) (fun _ _ _ h => h) (Or.inr ⟨by kernel_rfl, rfl⟩) (by assumption) ?_
                try simp only [Act.put, List.getElem_toArray, List.getElem_cons_zero, List.getElem_cons_succ, List.setIfInBounds_toArray, List.set_cons_zero, List.set_cons_succ]
                refine wpAnyH_take (i := 7) (v := ?vc7) rfl (by kernel_rfl) (by kernel_rfl) (by kernel_rfl) (fun _ _ _ h => h) (Or.inl ⟨by kernel_rfl, ?hyc7⟩) (by assumption) ?restc7
                case hyc7 => (intro w hSw; (try dsimp only at hSw); obtain ⟨hS1, hS2, hS3⟩ := hSw; go_simp; try with_reducible rfl)
                try simp only [Act.put, List.getElem_toArray, List.getElem_cons_zero, List.getElem_cons_succ, List.setIfInBounds_toArray, List.set_cons_zero, List.set_cons_succ]
                refine wpAnyH_take (i := 8) (v := ?vc8) rfl (by kernel_rfl) (by kernel_rfl) (by kernel_rfl) (fun _ _ _ h => h) (Or.inl ⟨by kernel_rfl, ?hyc8⟩) (by assumption) ?restc8
                case hyc8 => (intro w hSw; (try dsimp only at hSw); obtain ⟨hS1, hS2, hS3⟩ := hSw; go_simp; try with_reducible rfl)
                try simp only [Act.put, List.getElem_toArray, List.getElem_cons_zero, List.getElem_cons_succ, List.setIfInBounds_toArray, List.set_cons_zero, List.set_cons_succ]
                refine wpAnyH_take (i := 9) (v := undef) rfl (by kernel_rfl) (by kernel_rfl) (by kernel_rfl) (fun _ _ _ h => h) (Or.inr ⟨by kernel_rfl, rfl⟩) (by assumption) ?_
                try simp only [Act.put, List.getElem_toArray, List.getElem_cons_zero, List.getElem_cons_succ, List.setIfInBounds_toArray, List.set_cons_zero, List.set_cons_succ]
                refine wpAnyH_take (i := 10) (v := undef) rfl (by kernel_rfl) (by kernel_rfl) (by kernel_rfl) (fun _ _ _ h => h) (Or.inr ⟨by kernel_rfl, rfl⟩) (by assumption) ?_
                try simp only [Act.put, List.getElem_toArray, List.getElem_cons_zero, List.getElem_cons_succ, List.setIfInBounds_toArray, List.set_cons_zero, List.set_cons_succ]
                refine wpAnyH_take (i := 11) (v := undef) rfl (by kernel_rfl) (by kernel_rfl) (by kernel_rfl) (fun _ _ _ h => h) (Or.inr ⟨by kernel_rfl, rfl⟩) (by assumption) ?_
                try simp only [Act.put, List.getElem_toArray, List.getElem_cons_zero, List.getElem_cons_succ, List.setIfInBounds_toArray, List.set_cons_zero, List.set_cons_succ]
                refine wpAnyH_take (i := 12) (v := undef) rfl (by kernel_rfl) (by kernel_rfl) (by kernel_rfl) (fun _ _ _ h => h) (Or.inr ⟨by kernel_rfl, rfl⟩) (by assumption) ?_
                try simp only [Act.put, List.getElem_toArray, List.getElem_cons_zero, List.getElem_cons_succ, List.setIfInBounds_toArray, List.set_cons_zero, List.set_cons_succ]
                refine wpAnyH_take (i := 13) (v := undef) rfl (by kernel_rfl) (by kernel_rfl) (by kernel_rfl) (fun _ _ _ h => h) (Or.inr ⟨by kernel_rfl, rfl⟩) (by assumption) ?_
                try simp only [Act.put, List.getElem_toArray, List.getElem_cons_zero, List.getElem_cons_succ, List.setIfInBounds_toArray, List.set_cons_zero, List.set_cons_succ]
                refine wpAnyH_take (i := 14) (v := undef) rfl (by kernel_rfl) (by kernel_rfl) (by kernel_rfl) (fun _ _ _ h => h) (Or.inr ⟨by kernel_rfl, rfl⟩) (by assumption) ?_
                try simp only [Act.put, List.getElem_toArray, List.getElem_cons_zero, List.getElem_cons_succ, List.setIfInBounds_toArray, List.set_cons_zero, List.set_cons_succ]
                refine wpAnyH_take (i := 15) (v := undef) rfl (by kernel_rfl) (by kernel_rfl) (by kernel_rfl) (fun _ _ _ h => h) (Or.inr ⟨by kernel_rfl, rfl⟩) (by assumption) ?_
                try simp only [Act.put, List.getElem_toArray, List.getElem_cons_zero, List.getElem_cons_succ, List.setIfInBounds_toArray, List.set_cons_zero, List.set_cons_succ]
                refine wpAnyH_take (i := 16) (v := undef) rfl (by kernel_rfl) (by kernel_rfl) (by kernel_rfl) (fun _ _ _ h => h) (Or.inr ⟨by kernel_rfl, rfl⟩) (by assumption) ?_
                try simp only [Act.put, List.getElem_toArray, List.getElem_cons_zero, List.getElem_cons_succ, List.setIfInBounds_toArray, List.set_cons_zero, List.set_cons_succ]
                refine wpAnyH_take (i := 17) (v := undef) rfl (by kernel_rfl) (by kernel_rfl) (by kernel_rfl) (fun _ _ _ h => h) (Or.inr ⟨by kernel_rfl, rfl⟩) (by assumption) ?_
                try simp only [Act.put, List.getElem_toArray, List.getElem_cons_zero, List.getElem_cons_succ, List.setIfInBounds_toArray, List.set_cons_zero, List.set_cons_succ]
                refine wpAnyH_take (i := 18) (v := undef) rfl (by kernel_rfl) (by kernel_rfl) (by kernel_rfl) (fun _ _ _ h => h) (Or.inr ⟨by kernel_rfl, rfl⟩) (by assumption) ?_
                try simp only [Act.put, List.getElem_toArray, List.getElem_cons_zero, List.getElem_cons_succ, List.setIfInBounds_toArray, List.set_cons_zero, List.set_cons_succ]
                refine wpAnyH_take (i := 19) (v := undef) rfl (by kernel_rfl) (by kernel_rfl) (by kernel_rfl) (fun _ _ _ h => h) (Or.inr ⟨by kernel_rfl, rfl⟩) (by assumption) ?_
                try simp only [Act.put, List.getElem_toArray, List.getElem_cons_zero, List.getElem_cons_succ, List.setIfInBounds_toArray, List.set_cons_zero, List.set_cons_succ]
                refine wpAnyH_take (i := 20) (v := undef) rfl (by kernel_rfl) (by kernel_rfl) (by kernel_rfl) (fun _ _ _ h => h) (Or.inr ⟨by kernel_rfl, rfl⟩) (by assumption) ?_
                try simp only [Act.put, List.getElem_toArray, List.getElem_cons_zero, List.getElem_cons_succ, List.setIfInBounds_toArray, List.set_cons_zero, List.set_cons_succ]
                refine wpAnyH_take (i := 21) (v := undef) rfl (by kernel_rfl) (by kernel_rfl) (by kernel_rfl) (fun _ _ _ h => h) (Or.inr ⟨by kernel_rfl, rfl⟩) (by assumption) ?_
                try simp only [Act.put, List.getElem_toArray, List.getElem_cons_zero, List.getElem_cons_succ, List.setIfInBounds_toArray, List.set_cons_zero, List.set_cons_succ]
                refine wpAnyH_take (i := 22) (v := undef) rfl (by kernel_rfl) (by kernel_rfl) (by kernel_rfl) (fun _ _ _ h => h) (Or.inr ⟨by kernel_rfl, rfl⟩) (by assumption) ?_
                try simp only [Act.put, List.getElem_toArray, List.getElem_cons_zero, List.getElem_cons_succ, List.setIfInBounds_toArray, List.set_cons_zero, List.set_cons_succ]
                refine wpAnyH_take (i := 23) (v := undef) rfl (by kernel_rfl) (by kernel_rfl) (by kernel_rfl) (fun _ _ _ h => h) (Or.inr ⟨by kernel_rfl, rfl⟩) (by assumption) ?_
                try simp only [Act.put, List.getElem_toArray, List.getElem_cons_zero, List.getElem_cons_succ, List.setIfInBounds_toArray, List.set_cons_zero, List.set_cons_succ]
                refine wpAnyH_take (i := 24) (v := undef) rfl (by kernel_rfl) (by kernel_rfl) (by kernel_rfl) (fun _ _ _ h => h) (Or.inr ⟨by kernel_rfl, rfl⟩) (by assumption) ?_
                try simp only [Act.put, List.getElem_toArray, List.getElem_cons_zero, List.getElem_cons_succ, List.setIfInBounds_toArray, List.set_cons_zero, List.set_cons_succ]
                refine wpAnyH_take (i := 25) (v := undef) rfl (by kernel_rfl) (by kernel_rfl) (by kernel_rfl) (fun _ _ _ h => h) (Or.inr ⟨by kernel_rfl, rfl⟩) (by assumption) ?_
                try simp only [Act.put, List.getElem_toArray, List.getElem_cons_zero, List.getElem_cons_succ, List.setIfInBounds_toArray, List.set_cons_zero, List.set_cons_succ]
                refine wpAnyH_take (i := 26) (v := ?vc26) rfl (by kernel_rfl) (by kernel_rfl) (by kernel_rfl) (fun _ _ _ h => h) (Or.inl ⟨by kernel_rfl, ?hyc26⟩) (by assumption) ?restc26
                case hyc26 => (intro w hSw; (try dsimp only at hSw); obtain ⟨hS1, hS2, hS3⟩ := hSw; go_simp; try with_reducible rfl)
                try simp only [Act.put, List.getElem_toArray, List.getElem_cons_zero, List.getElem_cons_succ, List.setIfInBounds_toArray, List.set_cons_zero, List.set_cons_succ]
                refine wpAnyH_take (i := 27) (v := ?vc27) rfl (by kernel_rfl) (by kernel_rfl) (by kernel_rfl) (fun _ _ _ h => h) (Or.inl ⟨by kernel_rfl, ?hyc27⟩) (by assumption) ?restc27
                case hyc27 => (intro w hSw; (try dsimp only at hSw); obtain ⟨hS1, hS2, hS3⟩ := hSw; go_simp; try with_reducible rfl)
                try simp only [Act.put, List.getElem_toArray, List.getElem_cons_zero, List.getElem_cons_succ, List.setIfInBounds_toArray, List.set_cons_zero, List.set_cons_succ]
                refine wpAnyH_done (by kernel_rfl) ?_ _
                go_wp2
                go_ret
                exact ⟨by first | rfl | (simp; done), by repeat (first | exact HBF.out | apply below_alloc | apply pw_below_drewN | apply below_drew1)⟩

end Go.Proofs.Ytejplbeddcpmeaa.Ring
