/- The law RingAlone: its walk; no condition. -/
import Derived.Test.YtejplbeddcpmeaaRing12
import Derived.Deep.RegionHeld
namespace Go.Proofs.Ytejplbeddcpmeaa.Ring
open Go.RowKit Go.Proofs.YtejplbeddcpmeaaW.PrintWords Go.Proofs.Ytejplbeddcpmeaa.Heap Go.Proofs.Ytejplbeddcpmeaa.Mem Go.Proofs.Ytejplbeddcpmeaa.Opens
set_option linter.unusedVariables false
set_option linter.unusedSimpArgs false


theorem qpush_t (base : Nat) (w : World) (qb : Nat) (n : Int) (L : List Int) (y : Int) (h : QAt base w qb n L) (hb : base ≤ w.heap.size) (hl : L.length ≤ 1000) (hf : (L.length : Int) < n) :
    Calls Try.prog 41 #[pt qb, .int .u64 y] w fun e w' => e = .returned (.bool true) ∧ QAt base w' qb n (L ++ [y]) ∧ Chg (QS base qb w) w w' := by
  have k := qpush base w qb n L y h hb hl
  rwa [if_pos hf, decide_eq_true hf] at k
theorem qpush_f (base : Nat) (w : World) (qb : Nat) (n : Int) (L : List Int) (y : Int) (h : QAt base w qb n L) (hb : base ≤ w.heap.size) (hl : L.length ≤ 1000) (hf : ¬ (L.length : Int) < n) :
    Calls Try.prog 41 #[pt qb, .int .u64 y] w fun e w' => e = .returned (.bool false) ∧ QAt base w' qb n L ∧ Chg (QS base qb w) w w' := by
  have k := qpush base w qb n L y h hb hl
  rwa [if_neg hf, decide_eq_false hf] at k
/-- What the end of a round looks at. -/
structure TS (B : Nat) (p : Mp) (g qb : Nat) (n : Int) (M : MemS) (s : LR) (A : Option Addr) (c : Nat) (w : World) : Prop where
  m : MemAt 97 w p M
  r : RingAt w g p (s.ring false false)
  i : s.Inv M
  q : Blk w qb [.int .i64 n, .slice A s.L.length c] 65
  o : OwnU B w (.slice A s.L.length c) s.L
theorem TS.drewN {B : Nat} {p : Mp} {g qb : Nat} {n : Int} {M : MemS} {s : LR} {A : Option Addr} {c : Nat} {w : World} (h : TS B p g qb n M s A c w) (k : Nat) : TS B p g qb n M s A c (w.drewN k) := ⟨h.m.drewN k, h.r, h.i, h.q, h.o⟩
theorem TS.drew {B : Nat} {p : Mp} {g qb : Nat} {n : Int} {M : MemS} {s : LR} {A : Option Addr} {c : Nat} {w : World} (h : TS B p g qb n M s A c w) : TS B p g qb n M s A c w.drew := ⟨h.m.drew, h.r, h.i, h.q, h.o⟩
theorem TS.below {B : Nat} {p : Mp} {g qb : Nat} {n : Int} {M : MemS} {s : LR} {A : Option Addr} {c : Nat} {w w' : World} (h : TS B p g qb n M s A c w) (hb : Below w.heap.size w w') : TS B p g qb n M s A c w' := ⟨MemAt.below h.m hb, RingAt.below h.r hb, h.i, Blk.below h.q hb, pw_own_below h.o hb⟩
theorem TS.cell {B : Nat} {p : Mp} {g qb : Nat} {n : Int} {M : MemS} {s : LR} {A : Option Addr} {c : Nat} {w : World} (h : TS B p g qb n M s A c w) : w.cell? ⟨qb, 1, none⟩ = some (.slice A s.L.length c) := (Blk.cell h.q 1).trans rfl
theorem ts_len {B : Nat} {p : Mp} {g qb : Nat} {n : Int} {M : MemS} {s : LR} {A : Option Addr} {c : Nat} (w : World) (h : TS B p g qb n M s A c w) : Calls Try.prog 34 #[pt g] w fun e w' => e = .returned (.int .i64 (s.L.length : Int)) ∧ ∃ m, w' = w.drewN m :=
  len_ w g p M (s.ring false false) h.m h.r (ring_ok h.i _ _) _ (by rw [show M.peek (s.ring false false).base = _ from h.i.put, show M.peek ((s.ring false false).base + 1) = _ from h.i.tak, waits h.i]; rfl) (by have := h.i.len; have := h.i.s1; unfold LR.len at *; omega)
theorem ts_list {B : Nat} {p : Mp} {g qb : Nat} {n : Int} {M : MemS} {s : LR} {A : Option Addr} {c : Nat} (w : World) (h : TS B p g qb n M s A c w) : Calls Try.prog 45 #[pt g] w fun e w' => ∃ A3 c3, e = .returned (.slice A3 s.L.length c3) ∧ ReadsInt w' .u64 A3 s.L.length s.L ∧ Below w.heap.size w w' :=
  (list_ w g p M s false false h.m h.r h.i).mono fun e w' ⟨v, he, hv, hb⟩ => by
    obtain ⟨A3, c3, rfl⟩ := own_slice hv
    exact ⟨A3, c3, he, own_reads' hv, hb⟩
theorem ts_same {B : Nat} {p : Mp} {g qb : Nat} {n : Int} {M : MemS} {s : LR} {A : Option Addr} {c : Nat} (w : World) (A3 : Option Addr) (c3 : Nat) (h : TS B p g qb n M s A c w) (h3 : ReadsInt w .u64 A3 s.L.length s.L) : Calls Try.prog 44 #[.slice A3 s.L.length c3, .slice A s.L.length c] w fun e w' => e = .returned (.bool true) ∧ Drawn0 w w' := same_yes w A3 A c3 c s.L h3 (own_reads' h.o)
theorem size_v (w : World) (g : Nat) (p : Mp) (R : RingS) (v : Int) (hv : R.size = v) (h : RingAt w g p R) : Calls Try.prog 46 #[pt g] w fun e w' => e = .returned (.int .i64 v) ∧ w = w' := hv ▸ size_ w g p R h
set_option maxHeartbeats 8000000 in
set_option maxRecDepth 100000 in
theorem RingAlone_calls (a0 a1 : Int) (A2 : Option Addr) (c2 : Nat) (l2 : List Int) (w : World) (h1 : 0 ≤ a1 ∧ a1 ≤ 18446744073709551615) (h2 : RowC (intK .u64) 1 w A2 l2.length l2) (g2 : l2.length ≤ 9223372036854775807) (hq2 : ∀ x ∈ l2, (Lit.int .u64 x).wf = true) :
    Calls Try.prog 9 #[.int .i64 a0, .int .u64 a1, .slice A2 l2.length c2] w fun e w' => e = .returned (.bool true) ∧ Below w.heap.size w w' := by
  have HB := Aside0.mk (Below.refl w.heap.size w)
  obtain ⟨q, hq⟩ : ∃ q : Nat, kin 64 a0 = (q : Int) := ⟨(kin 64 a0).toNat, by have := (kin_in 64 (by decide) (by decide) a0).1; omega⟩
  have hq8 : q < 64 := by have := (kin_in 64 (by decide) (by decide) a0).2; omega
  have hlen : (MemS.new ((6 + q : Nat) : Int) ((0 : Nat) : Int)).cells.length = 6 + q := by simp [MemS.new]; omega
  have htm : (MemS.new ((6 + q : Nat) : Int) ((0 : Nat) : Int)).time = 0 := rfl
  have HNEW := Aside0.mk (show ∀ W : World, Calls Try.prog 15 #[.int .i64 (1 + (q : Int) + 5), .int .i64 0] W (MadeMem 97 W (MemS.new ((6 + q : Nat) : Int) ((0 : Nat) : Int))) from fun W => by rw [show 1 + (q : Int) + 5 = ((6 + q : Nat) : Int) from by omega]; exact new_ok W (6 + q) 0 (by omega) (by omega) (by decide))
  generalize MemS.new ((6 + q : Nat) : Int) ((0 : Nat) : Int) = M0 at *
  have HRN := Aside0.mk (fun W (p : Mp) (hm : MemAt 97 W p M0) => ringNew_ok W p M0 3 (1 + (q : Int)) a1 hm (by omega) (by omega) (by decide) (by omega) h1)
  have HNR := Aside0.mk (new_ring 3 (1 + (q : Int)) a1 (by omega) h1)
  have HI := Aside0.mk (new_inv (M := M0) (base := 3) (size := 1 + (q : Int)) (start := a1) (by omega) (by decide) (by omega) (by omega) h1)
  have HT := Aside0.mk (show ((M0.store 3 a1).store (3 + 1) a1).time ≤ 2 from by have := store_time (M0.store 3 a1) (3 + 1) a1; have := store_time M0 3 a1; omega)
  have H2 := Aside0.mk h2
  have HW2 := Aside0.mk hq2
  clear hlen htm h1 h2 hq2
  unfold kin at hq
  go_enter Try.func9, Try.ntmps9
  go_wp2_with (first | (go_at_call 15; (with_reducible refine (HNEW.out _).mono ?_); rintro e w' ⟨p, rfl, hm, hb, hk⟩; have HBn := Aside0.mk (below_step (by repeat (first | exact HB.out | apply below_alloc | apply pw_below_drewN | apply below_drew1)) hb); have HK := Aside0.mk (fun k (hh : p.has k) => Nat.le_trans (below_size (by repeat (first | exact HB.out | apply below_alloc | apply pw_below_drewN | apply below_drew1))) (hk k hh)); have HM := Aside0.mk hm; clear HB hm hb hk; have HB := HBn; clear HBn) | (go_at_call 30; (with_reducible refine (HRN.out _ p HM.out).mono ?_); rintro e w' ⟨g, rfl, hm, hr, hc, hg⟩; have HBn := Aside0.mk (below_chg (by repeat (first | exact HB.out | apply below_alloc | apply pw_below_drewN | apply below_drew1)) hc (below_size (by repeat (first | exact HB.out | apply below_alloc | apply pw_below_drewN | apply below_drew1))) HK.out); have HG := Aside0.mk (Nat.le_trans (below_size HB.out) hg); have HM1 := Aside0.mk hm; rw [HNR.out] at hr; have HR := Aside0.mk hr; clear HB hm hr hc hg HM; have HB := HBn; have HM := HM1; clear HBn HM1) | (go_at_call 31; (with_reducible refine (told_ _).mono ?_); rintro e w' ⟨rfl, hb⟩; have HBn := Aside0.mk (below_step (by repeat (first | exact HB.out | apply below_alloc | apply pw_below_drewN | apply below_drew1)) hb); have HMn := Aside0.mk (MemAt.below HM.out hb); have HRn := Aside0.mk (RingAt.below HR.out hb); clear HB hb HM HR; have HB := HBn; have HM := HMn; have HR := HRn; clear HBn HMn HRn) | (go_at_call 46; (refine (size_v _ g p _ (1 + (q : Int)) rfl HR.out).mono ?_); rintro e w' ⟨rfl, rfl⟩))
  obtain ⟨B, hB⟩ : ∃ B, w'.heap.size = B := ⟨_, rfl⟩
  have HLOW := Aside0.mk (show Low p g B B from ⟨fun k hk => by rw [← hB]; rcases hk with e | e | e; exact e ▸ HM.out.top.lt; exact e ▸ HM.out.cells.lt; exact e ▸ HM.out.locks.lt, by rw [← hB]; exact Blk.lt HR.out, Nat.le_refl _⟩)
  have HQ0 := Aside0.mk (show QAt B (w'.alloc (.cells #[.int .i64 (1 + (q : Int)), .slice none 0 0] 65)) B (1 + (q : Int)) [] from ⟨.slice none 0 0, by rw [← hB]; exact Blk.new w' [.int .i64 (1 + (q : Int)), .slice none 0 0] 65, own_nil _ _ _ _⟩)
  have HBB := Aside0.mk (show w.heap.size ≤ B from by rw [← hB]; exact HB.out.size)
  have HSZ := Aside0.mk (show B ≤ (w'.alloc (.cells #[.int .i64 (1 + (q : Int)), .slice none 0 0] 65)).heap.size from by simp; omega)
  rw [hB]
  go_loopg [13] l2.length (fun kq v13 w' => ∃ (i : Nat) (M : MemS) (s : LR), Aside0 (kq = l2.length - i) ∧ i ≤ l2.length ∧ i ≤ 400 ∧ v13 = .int .i64 (i : Int) ∧ Aside0 (s.size = 1 + (q : Int) ∧ M.time ≤ 2 + 3 * i) ∧ Aside0 (MemAt 97 w' p M) ∧ Aside0 (RingAt w' g p (s.ring false false)) ∧ Aside0 (s.Inv M) ∧ Aside0 (QAt B w' B (1 + (q : Int)) s.L) ∧ Aside0 (Below w.heap.size w w') ∧ Aside0 (B ≤ w'.heap.size))
  case atStart => exact ⟨0, _, _, ⟨by omega⟩, Nat.zero_le _, Nat.zero_le _, rfl, ⟨⟨rfl, by have := HT.out; omega⟩⟩, ⟨HM.out.alloc _⟩, ⟨Blk.alloc HR.out _⟩, HI, HQ0, ⟨below_alloc HB.out _⟩, HSZ⟩
  case round =>
    clear HB HM HR HI HT HQ0 HSZ
    obtain ⟨i, M, s, HKQ, hi, hi4, rfl, HS, HM, HR, HI, HQ, HB, HSZ⟩ := hrel
    by_cases hlt : i < l2.length ∧ i < 400
    · obtain ⟨hl0, hl4⟩ := hlt
      obtain ⟨ad, e0, x0⟩ := H2.out.one i hl0
      cases e0
      have hy := (HB.out.cell (World.block_lt_of_cell? w _ x0)).trans x0
      have HV := Aside0.mk (wf_u64 (HW2.out _ (List.getElem_mem hl0)))
      have X0 := Aside0.mk x0
      clear x0
      generalize l2[i] = y at *
      by_cases h3 : y.tmod 3 = 0
      · have h3b : (y.tmod 3 == 0) = true := beq_iff_eq.mpr h3
        clear h3
        match hL : s.L with
        | [] =>
          have HL := Aside0.mk hL
          rw [hL] at HQ
          clear hL
          go_wp2_with (first | (go_at_call 35; (refine (pop_new _ g p M (s.ring false false) HM.out HR.out (ring_ok HI.out _ _) rfl).mono ?_); rintro e w' ⟨x, rfl, ha, hc, hx⟩; have HBn := Aside0.mk (below_chg (base := w.heap.size) HB.out hc HB.out.size (fun k e => e ▸ HG.out)); have HSZn := Aside0.mk (Nat.le_trans HSZ.out hc.size); have HXB := Aside0.mk (Nat.le_trans HB.out.size hx); have HQn := Aside0.mk (QAt.ring1 HQ.out HR.out hc); have HC := Aside0.mk ha; clear HM HR HQ ha hc hx; have HQ := HQn; clear HQn; clear HB HSZ; have HB := HBn; have HSZ := HSZn; clear HBn HSZn; have hy := (HB.out.cell (World.block_lt_of_cell? w _ X0.out)).trans X0.out) | (go_at_call 43; (refine (qpop_none B _ B (1 + (q : Int)) HQ.out).mono ?_); rintro e w' ⟨rfl, rfl⟩) | (go_at_call 32; (refine (finish_none _ p g x M s false HC.out HI.out (by have := HS.out; omega) HL.out).mono ?_); rintro e w' ⟨rfl, hat⟩; obtain ⟨M', hm, hr, ha, hI, hT, hc⟩ := At.finI hat; have HBn := Aside0.mk (below_chg (base := w.heap.size) HB.out hc HB.out.size (Mra.new HK.out HG.out HXB.out)); have HSZn := Aside0.mk (Nat.le_trans HSZ.out hc.size); have HQn := Aside0.mk (QAt.mra HQ.out HC.out HLOW.out.p hc); have HM := Aside0.mk hm; have HR := Aside0.mk hr; have HA := Aside0.mk ha; have HIn := Aside0.mk hI; have HTn := Aside0.mk hT; clear HQ HC HXB hat hm hr ha hI hT hc; have HQ := HQn; clear HQn; clear HB HSZ; have HB := HBn; have HSZ := HSZn; clear HBn HSZn; have hy := (HB.out.cell (World.block_lt_of_cell? w _ X0.out)).trans X0.out) | (go_at_call 37; (with_reducible refine (ok_ _ x g _ HA.out).mono ?_); rintro e w' ⟨rfl, rfl⟩) | (go_at_call 42; (with_reducible refine (value_ _ x g _ HA.out).mono ?_); rintro e w' ⟨rfl, rfl⟩))
          rw [← HL.out] at HQ
          obtain ⟨vq, hq1, ho1⟩ := HQ.out
          obtain ⟨Aq, cq, evq⟩ := own_slice ho1
          subst evq
          have HTS := Aside0.mk (show TS B p g B (1 + (q : Int)) M' (s) Aq cq w' from ⟨HM.out, HR.out, HIn.out, hq1, ho1⟩)
          clear hq1 ho1 HM HR HQ HA hy
          obtain ⟨s2, hs2⟩ : ∃ s2, (s) = s2 := ⟨_, rfl⟩
          have HS2 := Aside0.mk (show s2.size = 1 + (q : Int) ∧ M'.time ≤ 2 + 3 * ((i + 1 : Nat) : Int) from by rw [← hs2]; have h1 := HS.out; have h2 := HTn.out; exact ⟨h1.1, by omega⟩)
          rw [hs2] at HTS
          clear hs2 HIn HTn
          have hcl := HTS.out.cell
          go_wp2_with fail
          go_region_held3 (fun w' => w'.cell? ⟨B, 1, none⟩ = some (.slice Aq s2.L.length cq)) (first | go_keep | exact hcl)
            (first
              | (go_at_call 34; (with_reducible refine (ts_len (B := B) (p := p) (g := g) (qb := B) (n := 1 + (q : Int)) (M := M') (s := s2) (A := Aq) (c := cq) _ (by (with_reducible repeat (first | exact HTS.out | refine TS.drewN ?_ _ | refine TS.drew ?_)))).mono ?_); rintro e w2 ⟨rfl, ⟨nd, rfl⟩⟩)
              | (go_at_call 45; (with_reducible refine (ts_list (B := B) (p := p) (g := g) (qb := B) (n := 1 + (q : Int)) (M := M') (s := s2) (A := Aq) (c := cq) _ (by (with_reducible repeat (first | exact HTS.out | refine TS.drewN ?_ _ | refine TS.drew ?_)))).mono ?_); rintro e w2 ⟨A3, c3, rfl, h3, hb⟩; have HT2 := Aside0.mk (TS.below (B := B) (p := p) (g := g) (qb := B) (n := 1 + (q : Int)) (M := M') (s := s2) (A := Aq) (c := cq) (by (with_reducible repeat (first | exact HTS.out | refine TS.drewN ?_ _ | refine TS.drew ?_))) hb); have H3 := Aside0.mk h3; have HBn := Aside0.mk (below_step (by repeat (first | exact HB.out | apply below_alloc | apply pw_below_drewN | apply below_drew1)) hb); have HSZn := Aside0.mk (Nat.le_trans HSZ.out hb.size); clear HTS HB HSZ h3 hb hcl; have HTS := HT2; have HB := HBn; have HSZ := HSZn; clear HT2 HBn HSZn; have hcl := HTS.out.cell)
              | (go_at_call 44; (with_reducible refine (ts_same (B := B) (p := p) (g := g) (qb := B) (n := 1 + (q : Int)) (M := M') (s := s2) (A := Aq) (c := cq) _ A3 c3 (by (with_reducible repeat (first | exact HTS.out | refine TS.drewN ?_ _ | refine TS.drew ?_))) (by (with_reducible repeat (first | exact H3.out | refine ReadsInt.drewN ?_ _)))).mono ?_); rintro e w2 ⟨rfl, ⟨⟨nd2, rfl⟩⟩⟩))
          go_wp2
          go_roundg (l2.length - (i + 1))
          case measure => have := HKQ.out; omega
          case rel => exact ⟨i + 1, M', s2, ⟨rfl⟩, by omega, by omega, by simp, HS2, ⟨by have z := HTS.out.m; (with_reducible repeat (first | exact z | refine MemAt.drewN ?_ _ | refine MemAt.drew ?_))⟩, ⟨HTS.out.r⟩, ⟨HTS.out.i⟩, ⟨⟨_, HTS.out.q, HTS.out.o⟩⟩, ⟨(by repeat (first | exact HB.out | apply below_alloc | apply pw_below_drewN | apply below_drew1))⟩, ⟨HSZ.out⟩⟩
        | v :: L =>
          have HL := Aside0.mk hL
          have HLL := Aside0.mk (show L.length ≤ 1000 from by have h1 := HI.out.len; have h2 := HI.out.s1; unfold LR.len at h1; rw [hL] at h1; simp at h1; omega)
          rw [hL] at HQ
          clear hL
          go_wp2_with (first | (go_at_call 35; (refine (pop_new _ g p M (s.ring false false) HM.out HR.out (ring_ok HI.out _ _) rfl).mono ?_); rintro e w' ⟨x, rfl, ha, hc, hx⟩; have HBn := Aside0.mk (below_chg (base := w.heap.size) HB.out hc HB.out.size (fun k e => e ▸ HG.out)); have HSZn := Aside0.mk (Nat.le_trans HSZ.out hc.size); have HXB := Aside0.mk (Nat.le_trans HB.out.size hx); have HQn := Aside0.mk (QAt.ring1 HQ.out HR.out hc); have HC := Aside0.mk ha; clear HM HR HQ ha hc hx; have HQ := HQn; clear HQn; clear HB HSZ; have HB := HBn; have HSZ := HSZn; clear HBn HSZn; have hy := (HB.out.cell (World.block_lt_of_cell? w _ X0.out)).trans X0.out) | (go_at_call 43; (refine (qpop_one B _ B (1 + (q : Int)) v L HQ.out HSZ.out HLL.out).mono ?_); rintro e w' ⟨rfl, hqq, hc⟩; have HBn := Aside0.mk (below_chg (base := w.heap.size) HB.out hc HB.out.size (fun k z => Nat.le_trans HBB.out (qs_above (Nat.le_refl _) k z))); have HSZn := Aside0.mk (Nat.le_trans HSZ.out hc.size); have HCn := Aside0.mk (all_qs HC.out HLOW.out (QAt.nx HQ.out HC.out.a) hc); have HQn := Aside0.mk hqq; clear HQ HC hqq hc; have HQ := HQn; have HC := HCn; clear HQn HCn; clear HB HSZ; have HB := HBn; have HSZ := HSZn; clear HBn HSZn; have hy := (HB.out.cell (World.block_lt_of_cell? w _ X0.out)).trans X0.out) | (go_at_call 32; (refine (finish_one _ p g x M s false HC.out HI.out (by have := HS.out; omega) v L HL.out).mono ?_); rintro e w' ⟨rfl, hat⟩; obtain ⟨M', hm, hr, ha, hI, hT, hc⟩ := At.finI hat; have HBn := Aside0.mk (below_chg (base := w.heap.size) HB.out hc HB.out.size (Mra.new HK.out HG.out HXB.out)); have HSZn := Aside0.mk (Nat.le_trans HSZ.out hc.size); have HQn := Aside0.mk (QAt.mra HQ.out HC.out HLOW.out.p hc); have HM := Aside0.mk hm; have HR := Aside0.mk hr; have HA := Aside0.mk ha; have HIn := Aside0.mk hI; have HTn := Aside0.mk hT; clear HQ HC HXB hat hm hr ha hI hT hc; have HQ := HQn; clear HQn; clear HB HSZ; have HB := HBn; have HSZ := HSZn; clear HBn HSZn; have hy := (HB.out.cell (World.block_lt_of_cell? w _ X0.out)).trans X0.out) | (go_at_call 37; (with_reducible refine (ok_ _ x g _ HA.out).mono ?_); rintro e w' ⟨rfl, rfl⟩) | (go_at_call 42; (with_reducible refine (value_ _ x g _ HA.out).mono ?_); rintro e w' ⟨rfl, rfl⟩))
          obtain ⟨vq, hq1, ho1⟩ := HQ.out
          obtain ⟨Aq, cq, evq⟩ := own_slice ho1
          subst evq
          have HTS := Aside0.mk (show TS B p g B (1 + (q : Int)) M' ({ s with a := (s.a + 1) % s.size, cnt := IntKind.u64.wrap (s.cnt + 1), L := L }) Aq cq w' from ⟨HM.out, HR.out, HIn.out, hq1, ho1⟩)
          clear hq1 ho1 HM HR HQ HA hy
          obtain ⟨s2, hs2⟩ : ∃ s2, ({ s with a := (s.a + 1) % s.size, cnt := IntKind.u64.wrap (s.cnt + 1), L := L }) = s2 := ⟨_, rfl⟩
          have HS2 := Aside0.mk (show s2.size = 1 + (q : Int) ∧ M'.time ≤ 2 + 3 * ((i + 1 : Nat) : Int) from by rw [← hs2]; have h1 := HS.out; have h2 := HTn.out; exact ⟨h1.1, by omega⟩)
          rw [hs2] at HTS
          clear hs2 HIn HTn
          have hcl := HTS.out.cell
          go_wp2_with fail
          go_region_held3 (fun w' => w'.cell? ⟨B, 1, none⟩ = some (.slice Aq s2.L.length cq)) (first | go_keep | exact hcl)
            (first
              | (go_at_call 34; (with_reducible refine (ts_len (B := B) (p := p) (g := g) (qb := B) (n := 1 + (q : Int)) (M := M') (s := s2) (A := Aq) (c := cq) _ (by (with_reducible repeat (first | exact HTS.out | refine TS.drewN ?_ _ | refine TS.drew ?_)))).mono ?_); rintro e w2 ⟨rfl, ⟨nd, rfl⟩⟩)
              | (go_at_call 45; (with_reducible refine (ts_list (B := B) (p := p) (g := g) (qb := B) (n := 1 + (q : Int)) (M := M') (s := s2) (A := Aq) (c := cq) _ (by (with_reducible repeat (first | exact HTS.out | refine TS.drewN ?_ _ | refine TS.drew ?_)))).mono ?_); rintro e w2 ⟨A3, c3, rfl, h3, hb⟩; have HT2 := Aside0.mk (TS.below (B := B) (p := p) (g := g) (qb := B) (n := 1 + (q : Int)) (M := M') (s := s2) (A := Aq) (c := cq) (by (with_reducible repeat (first | exact HTS.out | refine TS.drewN ?_ _ | refine TS.drew ?_))) hb); have H3 := Aside0.mk h3; have HBn := Aside0.mk (below_step (by repeat (first | exact HB.out | apply below_alloc | apply pw_below_drewN | apply below_drew1)) hb); have HSZn := Aside0.mk (Nat.le_trans HSZ.out hb.size); clear HTS HB HSZ h3 hb hcl; have HTS := HT2; have HB := HBn; have HSZ := HSZn; clear HT2 HBn HSZn; have hcl := HTS.out.cell)
              | (go_at_call 44; (with_reducible refine (ts_same (B := B) (p := p) (g := g) (qb := B) (n := 1 + (q : Int)) (M := M') (s := s2) (A := Aq) (c := cq) _ A3 c3 (by (with_reducible repeat (first | exact HTS.out | refine TS.drewN ?_ _ | refine TS.drew ?_))) (by (with_reducible repeat (first | exact H3.out | refine ReadsInt.drewN ?_ _)))).mono ?_); rintro e w2 ⟨rfl, ⟨⟨nd2, rfl⟩⟩⟩))
          go_wp2
          go_roundg (l2.length - (i + 1))
          case measure => have := HKQ.out; omega
          case rel => exact ⟨i + 1, M', s2, ⟨rfl⟩, by omega, by omega, by simp, HS2, ⟨by have z := HTS.out.m; (with_reducible repeat (first | exact z | refine MemAt.drewN ?_ _ | refine MemAt.drew ?_))⟩, ⟨HTS.out.r⟩, ⟨HTS.out.i⟩, ⟨⟨_, HTS.out.q, HTS.out.o⟩⟩, ⟨(by repeat (first | exact HB.out | apply below_alloc | apply pw_below_drewN | apply below_drew1))⟩, ⟨HSZ.out⟩⟩
      · have h3b : (y.tmod 3 == 0) = false := beq_eq_false_iff_ne.mpr h3
        clear h3
        have HLL := Aside0.mk (show s.L.length ≤ 1000 from by have h1 := HI.out.len; have h2 := HI.out.s1; unfold LR.len at h1; omega)
        by_cases hf : s.len < s.size
        · have HF := Aside0.mk (show s.len < s.size ∧ (s.L.length : Int) < 1 + (q : Int) from ⟨hf, by have h1 := HS.out.1; unfold LR.len at hf; omega⟩)
          clear hf
          go_wp2_with (first | (go_at_call 33; (refine (push_new _ g p M (s.ring false false) HM.out HR.out (ring_ok HI.out _ _) rfl y HV.out).mono ?_); rintro e w' ⟨x, rfl, ha, hc, hx⟩; have HBn := Aside0.mk (below_chg (base := w.heap.size) HB.out hc HB.out.size (fun k e => e ▸ HG.out)); have HSZn := Aside0.mk (Nat.le_trans HSZ.out hc.size); have HXB := Aside0.mk (Nat.le_trans HB.out.size hx); have HQn := Aside0.mk (QAt.ring1 HQ.out HR.out hc); have HC := Aside0.mk ha; clear HM HR HQ ha hc hx; have HQ := HQn; clear HQn; clear HB HSZ; have HB := HBn; have HSZ := HSZn; clear HBn HSZn; have hy := (HB.out.cell (World.block_lt_of_cell? w _ X0.out)).trans X0.out) | (go_at_call 41; (refine (qpush_t B _ B (1 + (q : Int)) s.L y HQ.out HSZ.out HLL.out HF.out.2).mono ?_); rintro e w' ⟨rfl, hqq, hc⟩; have HBn := Aside0.mk (below_chg (base := w.heap.size) HB.out hc HB.out.size (fun k z => Nat.le_trans HBB.out (qs_above (Nat.le_refl _) k z))); have HSZn := Aside0.mk (Nat.le_trans HSZ.out hc.size); have HCn := Aside0.mk (all_qs HC.out HLOW.out (QAt.nx HQ.out HC.out.a) hc); have HQn := Aside0.mk hqq; clear HQ HC hqq hc; have HQ := HQn; have HC := HCn; clear HQn HCn; clear HB HSZ; have HB := HBn; have HSZ := HSZn; clear HBn HSZn; have hy := (HB.out.cell (World.block_lt_of_cell? w _ X0.out)).trans X0.out))
          have HC2 := Aside0.mk (All.drew HC.out)
          have HQ2 := Aside0.mk (show QAt B (World.drew w') B _ _ from HQ.out)
          have HB2 := Aside0.mk (below_drew HB.out)
          clear HC HQ
          first | (go_region_held (fun w' => w'.cell? (ad.add i) = some (.int .u64 y)) (first | go_keep | exact hy) (first | (go_at_call 32; (refine (finish_free _ p g x M s false y HC2.out HI.out (by have := HS.out; omega) HF.out.1).mono ?_); rintro e w' ⟨rfl, hat⟩; obtain ⟨M', hm, hr, ha, hI, hT, hc⟩ := At.finI hat; have HBn := Aside0.mk (below_chg (base := w.heap.size) HB2.out hc HB2.out.size (Mra.new HK.out HG.out HXB.out)); have HSZn := Aside0.mk (Nat.le_trans HSZ.out hc.size); have HQn := Aside0.mk (QAt.mra HQ2.out HC2.out HLOW.out.p hc); have HM := Aside0.mk hm; have HR := Aside0.mk hr; have HA := Aside0.mk ha; have HIn := Aside0.mk hI; have HTn := Aside0.mk hT; clear HQ2 HC2 HB2 HXB hat hm hr ha hI hT hc; have HQ := HQn; clear HQn; clear HB HSZ; have HB := HBn; have HSZ := HSZn; clear HBn HSZn; have hy := (HB.out.cell (World.block_lt_of_cell? w _ X0.out)).trans X0.out) | (go_at_call 37; (with_reducible refine (ok_ _ x g _ HA.out).mono ?_); rintro e w' ⟨rfl, rfl⟩) | (go_at_call 42; (with_reducible refine (value_ _ x g _ HA.out).mono ?_); rintro e w' ⟨rfl, rfl⟩))) | fail
          all_goals go_wp2
          obtain ⟨vq, hq1, ho1⟩ := HQ.out
          obtain ⟨Aq, cq, evq⟩ := own_slice ho1
          subst evq
          have HTS := Aside0.mk (show TS B p g B (1 + (q : Int)) M' ({ s with laid := none, L := s.L ++ [y] }) Aq cq w' from ⟨HM.out, HR.out, HIn.out, hq1, ho1⟩)
          clear hq1 ho1 HM HR HQ HA hy
          obtain ⟨s2, hs2⟩ : ∃ s2, ({ s with laid := none, L := s.L ++ [y] }) = s2 := ⟨_, rfl⟩
          have HS2 := Aside0.mk (show s2.size = 1 + (q : Int) ∧ M'.time ≤ 2 + 3 * ((i + 1 : Nat) : Int) from by rw [← hs2]; have h1 := HS.out; have h2 := HTn.out; exact ⟨h1.1, by omega⟩)
          rw [hs2] at HTS
          clear hs2 HIn HTn
          have hcl := HTS.out.cell
          go_wp2_with fail
          go_region_held3 (fun w' => w'.cell? ⟨B, 1, none⟩ = some (.slice Aq s2.L.length cq)) (first | go_keep | exact hcl)
            (first
              | (go_at_call 34; (with_reducible refine (ts_len (B := B) (p := p) (g := g) (qb := B) (n := 1 + (q : Int)) (M := M') (s := s2) (A := Aq) (c := cq) _ (by (with_reducible repeat (first | exact HTS.out | refine TS.drewN ?_ _ | refine TS.drew ?_)))).mono ?_); rintro e w2 ⟨rfl, ⟨nd, rfl⟩⟩)
              | (go_at_call 45; (with_reducible refine (ts_list (B := B) (p := p) (g := g) (qb := B) (n := 1 + (q : Int)) (M := M') (s := s2) (A := Aq) (c := cq) _ (by (with_reducible repeat (first | exact HTS.out | refine TS.drewN ?_ _ | refine TS.drew ?_)))).mono ?_); rintro e w2 ⟨A3, c3, rfl, h3, hb⟩; have HT2 := Aside0.mk (TS.below (B := B) (p := p) (g := g) (qb := B) (n := 1 + (q : Int)) (M := M') (s := s2) (A := Aq) (c := cq) (by (with_reducible repeat (first | exact HTS.out | refine TS.drewN ?_ _ | refine TS.drew ?_))) hb); have H3 := Aside0.mk h3; have HBn := Aside0.mk (below_step (by repeat (first | exact HB.out | apply below_alloc | apply pw_below_drewN | apply below_drew1)) hb); have HSZn := Aside0.mk (Nat.le_trans HSZ.out hb.size); clear HTS HB HSZ h3 hb hcl; have HTS := HT2; have HB := HBn; have HSZ := HSZn; clear HT2 HBn HSZn; have hcl := HTS.out.cell)
              | (go_at_call 44; (with_reducible refine (ts_same (B := B) (p := p) (g := g) (qb := B) (n := 1 + (q : Int)) (M := M') (s := s2) (A := Aq) (c := cq) _ A3 c3 (by (with_reducible repeat (first | exact HTS.out | refine TS.drewN ?_ _ | refine TS.drew ?_))) (by (with_reducible repeat (first | exact H3.out | refine ReadsInt.drewN ?_ _)))).mono ?_); rintro e w2 ⟨rfl, ⟨⟨nd2, rfl⟩⟩⟩))
          go_wp2
          go_roundg (l2.length - (i + 1))
          case measure => have := HKQ.out; omega
          case rel => exact ⟨i + 1, M', s2, ⟨rfl⟩, by omega, by omega, by simp, HS2, ⟨by have z := HTS.out.m; (with_reducible repeat (first | exact z | refine MemAt.drewN ?_ _ | refine MemAt.drew ?_))⟩, ⟨HTS.out.r⟩, ⟨HTS.out.i⟩, ⟨⟨_, HTS.out.q, HTS.out.o⟩⟩, ⟨(by repeat (first | exact HB.out | apply below_alloc | apply pw_below_drewN | apply below_drew1))⟩, ⟨HSZ.out⟩⟩
        · have HF := Aside0.mk (show s.len = s.size ∧ (1 + (q : Int)) ≤ (s.L.length : Int) from ⟨by have := HI.out.len; omega, by have h1 := HS.out.1; unfold LR.len at hf; omega⟩)
          clear hf
          go_wp2_with (first | (go_at_call 33; (refine (push_new _ g p M (s.ring false false) HM.out HR.out (ring_ok HI.out _ _) rfl y HV.out).mono ?_); rintro e w' ⟨x, rfl, ha, hc, hx⟩; have HBn := Aside0.mk (below_chg (base := w.heap.size) HB.out hc HB.out.size (fun k e => e ▸ HG.out)); have HSZn := Aside0.mk (Nat.le_trans HSZ.out hc.size); have HXB := Aside0.mk (Nat.le_trans HB.out.size hx); have HQn := Aside0.mk (QAt.ring1 HQ.out HR.out hc); have HC := Aside0.mk ha; clear HM HR HQ ha hc hx; have HQ := HQn; clear HQn; clear HB HSZ; have HB := HBn; have HSZ := HSZn; clear HBn HSZn; have hy := (HB.out.cell (World.block_lt_of_cell? w _ X0.out)).trans X0.out) | (go_at_call 41; (refine (qpush_f B _ B (1 + (q : Int)) s.L y HQ.out HSZ.out HLL.out (by have := HF.out.2; omega)).mono ?_); rintro e w' ⟨rfl, hqq, hc⟩; have HBn := Aside0.mk (below_chg (base := w.heap.size) HB.out hc HB.out.size (fun k z => Nat.le_trans HBB.out (qs_above (Nat.le_refl _) k z))); have HSZn := Aside0.mk (Nat.le_trans HSZ.out hc.size); have HCn := Aside0.mk (all_qs HC.out HLOW.out (QAt.nx HQ.out HC.out.a) hc); have HQn := Aside0.mk hqq; clear HQ HC hqq hc; have HQ := HQn; have HC := HCn; clear HQn HCn; clear HB HSZ; have HB := HBn; have HSZ := HSZn; clear HBn HSZn; have hy := (HB.out.cell (World.block_lt_of_cell? w _ X0.out)).trans X0.out))
          have HC2 := Aside0.mk (All.drew HC.out)
          have HQ2 := Aside0.mk (show QAt B (World.drew w') B _ _ from HQ.out)
          have HB2 := Aside0.mk (below_drew HB.out)
          clear HC HQ
          refine wp_region_held_drew (S := (fun w' => w'.cell? (ad.add i) = some (.int .u64 y))) (by kernel_rfl) ?_ (fun hHeld => ?_)
          · first | go_keep | exact hy
          refine wpAnyH_take (i := 0) (v := ?v0) rfl (by kernel_rfl) (by kernel_rfl) (by kernel_rfl) (fun _ _ _ h => h) (Or.inl ⟨by kernel_rfl, ?hy0⟩) (by assumption) ?rest0
          case hy0 => (intro w hSw; (try dsimp only at hSw); go_simp; try with_reducible rfl)
          try simp only [Act.put, List.getElem_toArray, List.getElem_cons_zero, List.getElem_cons_succ, List.setIfInBounds_toArray, List.set_cons_zero, List.set_cons_succ]
          refine wpAnyH_ready (rs := [1]) (by kernel_rfl) (by simp) ?_
          refine AllReadyH.cons rfl (fun K hK => ?_) AllReadyH.nil
          go_simp
          go_wp2_with (first | (go_at_call 32; (refine (finish_full _ p g x M s false y HC2.out HI.out (by have := HS.out; omega) HF.out.1).mono ?_); rintro e w' ⟨rfl, hat⟩; obtain ⟨M', hm, hr, ha, hI, hT, hc⟩ := At.finI hat; have HBn := Aside0.mk (below_chg (base := w.heap.size) HB2.out hc HB2.out.size (Mra.new HK.out HG.out HXB.out)); have HSZn := Aside0.mk (Nat.le_trans HSZ.out hc.size); have HQn := Aside0.mk (QAt.mra HQ2.out HC2.out HLOW.out.p hc); have HM := Aside0.mk hm; have HR := Aside0.mk hr; have HA := Aside0.mk ha; have HIn := Aside0.mk hI; have HTn := Aside0.mk hT; clear HQ2 HC2 HB2 HXB hat hm hr ha hI hT hc; have HQ := HQn; clear HQn; clear HB HSZ; have HB := HBn; have HSZ := HSZn; clear HBn HSZn; have hy := (HB.out.cell (World.block_lt_of_cell? w _ X0.out)).trans X0.out) | (go_at_call 37; (with_reducible refine (ok_ _ x g _ HA.out).mono ?_); rintro e w' ⟨rfl, rfl⟩) | (go_at_call 42; (with_reducible refine (value_ _ x g _ HA.out).mono ?_); rintro e w' ⟨rfl, rfl⟩))
          refine hK.out _ _ ?_ (fun hHeld => ?_)
          · first | go_keep | exact hy
          clear hK K
          try simp only [Act.put, List.getElem_toArray, List.getElem_cons_zero, List.getElem_cons_succ, List.setIfInBounds_toArray, List.set_cons_zero, List.set_cons_succ]
          refine wpAnyH_take (i := 2) (v := ?v2) rfl (by kernel_rfl) (by kernel_rfl) (by kernel_rfl) (fun _ _ _ h => h) (Or.inl ⟨by kernel_rfl, ?hy2⟩) (by assumption) ?rest2
          case hy2 => (intro w hSw; (try dsimp only at hSw); go_simp; try with_reducible rfl)
          try simp only [Act.put, List.getElem_toArray, List.getElem_cons_zero, List.getElem_cons_succ, List.setIfInBounds_toArray, List.set_cons_zero, List.set_cons_succ]
          refine wpAnyH_take (i := 3) (v := ?v3) rfl (by kernel_rfl) (by kernel_rfl) (by kernel_rfl) (fun _ _ _ h => h) (Or.inl ⟨by kernel_rfl, ?hy3⟩) (by assumption) ?rest3
          case hy3 => (intro w hSw; (try dsimp only at hSw); go_simp; try with_reducible rfl)
          try simp only [Act.put, List.getElem_toArray, List.getElem_cons_zero, List.getElem_cons_succ, List.setIfInBounds_toArray, List.set_cons_zero, List.set_cons_succ]
          refine wpAnyH_take (i := 4) (v := ?v4) rfl (by kernel_rfl) (by kernel_rfl) (by kernel_rfl) (fun _ _ _ h => h) (Or.inl ⟨by kernel_rfl, ?hy4⟩) (by assumption) ?rest4
          case hy4 => (intro w hSw; (try dsimp only at hSw); go_simp; try with_reducible rfl)
          try simp only [Act.put, List.getElem_toArray, List.getElem_cons_zero, List.getElem_cons_succ, List.setIfInBounds_toArray, List.set_cons_zero, List.set_cons_succ]
          refine wpAnyH_take (i := 6) (v := ?v6) rfl (by kernel_rfl) (by kernel_rfl) (by kernel_rfl) (fun _ _ _ h => h) (Or.inl ⟨by kernel_rfl, ?hy6⟩) (by assumption) ?rest6
          case hy6 => (intro w hSw; (try dsimp only at hSw); go_simp; try with_reducible rfl)
          try simp only [Act.put, List.getElem_toArray, List.getElem_cons_zero, List.getElem_cons_succ, List.setIfInBounds_toArray, List.set_cons_zero, List.set_cons_succ]
          refine wpAnyH_ready (rs := [5]) (by kernel_rfl) (by simp) ?_
          refine AllReadyH.cons rfl (fun K hK => ?_) AllReadyH.nil
          go_simp
          go_wp2_with (first | (go_at_call 32; (refine (finish_full _ p g x M s false y HC2.out HI.out (by have := HS.out; omega) HF.out.1).mono ?_); rintro e w' ⟨rfl, hat⟩; obtain ⟨M', hm, hr, ha, hI, hT, hc⟩ := At.finI hat; have HBn := Aside0.mk (below_chg (base := w.heap.size) HB2.out hc HB2.out.size (Mra.new HK.out HG.out HXB.out)); have HSZn := Aside0.mk (Nat.le_trans HSZ.out hc.size); have HQn := Aside0.mk (QAt.mra HQ2.out HC2.out HLOW.out.p hc); have HM := Aside0.mk hm; have HR := Aside0.mk hr; have HA := Aside0.mk ha; have HIn := Aside0.mk hI; have HTn := Aside0.mk hT; clear HQ2 HC2 HB2 HXB hat hm hr ha hI hT hc; have HQ := HQn; clear HQn; clear HB HSZ; have HB := HBn; have HSZ := HSZn; clear HBn HSZn; have hy := (HB.out.cell (World.block_lt_of_cell? w _ X0.out)).trans X0.out) | (go_at_call 37; (with_reducible refine (ok_ _ x g _ HA.out).mono ?_); rintro e w' ⟨rfl, rfl⟩) | (go_at_call 42; (with_reducible refine (value_ _ x g _ HA.out).mono ?_); rintro e w' ⟨rfl, rfl⟩))
          refine hK.out _ _ ?_ (fun hHeld => ?_)
          · first | go_keep | exact hy
          clear hK K
          try simp only [Act.put, List.getElem_toArray, List.getElem_cons_zero, List.getElem_cons_succ, List.setIfInBounds_toArray, List.set_cons_zero, List.set_cons_succ]
          refine wpAnyH_take (i := 7) (v := ?v7) rfl (by kernel_rfl) (by kernel_rfl) (by kernel_rfl) (fun _ _ _ h => h) (Or.inl ⟨by kernel_rfl, ?hy7⟩) (by assumption) ?rest7
          case hy7 => (intro w hSw; (try dsimp only at hSw); go_simp; try with_reducible rfl)
          try simp only [Act.put, List.getElem_toArray, List.getElem_cons_zero, List.getElem_cons_succ, List.setIfInBounds_toArray, List.set_cons_zero, List.set_cons_succ]
          refine wpAnyH_take (i := 8) (v := ?v8) rfl (by kernel_rfl) (by kernel_rfl) (by kernel_rfl) (fun _ _ _ h => h) (Or.inl ⟨by kernel_rfl, ?hy8⟩) (by assumption) ?rest8
          case hy8 => (intro w hSw; (try dsimp only at hSw); go_simp; try with_reducible rfl)
          try simp only [Act.put, List.getElem_toArray, List.getElem_cons_zero, List.getElem_cons_succ, List.setIfInBounds_toArray, List.set_cons_zero, List.set_cons_succ]
          refine wpAnyH_take (i := 9) (v := ?v9) rfl (by kernel_rfl) (by kernel_rfl) (by kernel_rfl) (fun _ _ _ h => h) (Or.inl ⟨by kernel_rfl, ?hy9⟩) (by assumption) ?rest9
          case hy9 => (intro w hSw; (try dsimp only at hSw); go_simp; try with_reducible rfl)
          try simp only [Act.put, List.getElem_toArray, List.getElem_cons_zero, List.getElem_cons_succ, List.setIfInBounds_toArray, List.set_cons_zero, List.set_cons_succ]
          refine wpAnyH_take (i := 10) (v := ?v10) rfl (by kernel_rfl) (by kernel_rfl) (by kernel_rfl) (fun _ _ _ h => h) (Or.inl ⟨by kernel_rfl, ?hy10⟩) (by assumption) ?rest10
          case hy10 => (intro w hSw; (try dsimp only at hSw); go_simp; try with_reducible rfl)
          try simp only [Act.put, List.getElem_toArray, List.getElem_cons_zero, List.getElem_cons_succ, List.setIfInBounds_toArray, List.set_cons_zero, List.set_cons_succ]
          refine wpAnyH_take (i := 11) (v := ?v11) rfl (by kernel_rfl) (by kernel_rfl) (by kernel_rfl) (fun _ _ _ h => h) (Or.inl ⟨by kernel_rfl, ?hy11⟩) (by assumption) ?rest11
          case hy11 => (intro w hSw; (try dsimp only at hSw); go_simp; try with_reducible rfl)
          try simp only [Act.put, List.getElem_toArray, List.getElem_cons_zero, List.getElem_cons_succ, List.setIfInBounds_toArray, List.set_cons_zero, List.set_cons_succ]
          refine wpAnyH_take (i := 12) (v := undef) rfl (by kernel_rfl) (by kernel_rfl) (by kernel_rfl) (fun _ _ _ h => h) (Or.inr ⟨by kernel_rfl, rfl⟩) (by assumption) ?_
          try simp only [Act.put, List.getElem_toArray, List.getElem_cons_zero, List.getElem_cons_succ, List.setIfInBounds_toArray, List.set_cons_zero, List.set_cons_succ]
          refine wpAnyH_take (i := 13) (v := undef) rfl (by kernel_rfl) (by kernel_rfl) (by kernel_rfl) (fun _ _ _ h => h) (Or.inr ⟨by kernel_rfl, rfl⟩) (by assumption) ?_
          try simp only [Act.put, List.getElem_toArray, List.getElem_cons_zero, List.getElem_cons_succ, List.setIfInBounds_toArray, List.set_cons_zero, List.set_cons_succ]
          refine wpAnyH_take (i := 14) (v := undef) rfl (by kernel_rfl) (by kernel_rfl) (by kernel_rfl) (fun _ _ _ h => h) (Or.inr ⟨by kernel_rfl, rfl⟩) (by assumption) ?_
          try simp only [Act.put, List.getElem_toArray, List.getElem_cons_zero, List.getElem_cons_succ, List.setIfInBounds_toArray, List.set_cons_zero, List.set_cons_succ]
          refine wpAnyH_take (i := 15) (v := undef) rfl (by kernel_rfl) (by kernel_rfl) (by kernel_rfl) (fun _ _ _ h => h) (Or.inr ⟨by kernel_rfl, rfl⟩) (by assumption) ?_
          try simp only [Act.put, List.getElem_toArray, List.getElem_cons_zero, List.getElem_cons_succ, List.setIfInBounds_toArray, List.set_cons_zero, List.set_cons_succ]
          refine wpAnyH_take (i := 16) (v := undef) rfl (by kernel_rfl) (by kernel_rfl) (by kernel_rfl) (fun _ _ _ h => h) (Or.inr ⟨by kernel_rfl, rfl⟩) (by assumption) ?_
          try simp only [Act.put, List.getElem_toArray, List.getElem_cons_zero, List.getElem_cons_succ, List.setIfInBounds_toArray, List.set_cons_zero, List.set_cons_succ]
          refine wpAnyH_take (i := 17) (v := undef) rfl (by kernel_rfl) (by kernel_rfl) (by kernel_rfl) (fun _ _ _ h => h) (Or.inr ⟨by kernel_rfl, rfl⟩) (by assumption) ?_
          try simp only [Act.put, List.getElem_toArray, List.getElem_cons_zero, List.getElem_cons_succ, List.setIfInBounds_toArray, List.set_cons_zero, List.set_cons_succ]
          refine wpAnyH_take (i := 18) (v := undef) rfl (by kernel_rfl) (by kernel_rfl) (by kernel_rfl) (fun _ _ _ h => h) (Or.inr ⟨by kernel_rfl, rfl⟩) (by assumption) ?_
          try simp only [Act.put, List.getElem_toArray, List.getElem_cons_zero, List.getElem_cons_succ, List.setIfInBounds_toArray, List.set_cons_zero, List.set_cons_succ]
          refine wpAnyH_take (i := 19) (v := ?v19) rfl (by kernel_rfl) (by kernel_rfl) (by kernel_rfl) (fun _ _ _ h => h) (Or.inl ⟨by kernel_rfl, ?hy19⟩) (by assumption) ?rest19
          case hy19 => (intro w hSw; (try dsimp only at hSw); go_simp; try with_reducible rfl)
          try simp only [Act.put, List.getElem_toArray, List.getElem_cons_zero, List.getElem_cons_succ, List.setIfInBounds_toArray, List.set_cons_zero, List.set_cons_succ]
          refine wpAnyH_take (i := 20) (v := ?v20) rfl (by kernel_rfl) (by kernel_rfl) (by kernel_rfl) (fun _ _ _ h => h) (Or.inl ⟨by kernel_rfl, ?hy20⟩) (by assumption) ?rest20
          case hy20 => (intro w hSw; (try dsimp only at hSw); go_simp; try with_reducible rfl)
          try simp only [Act.put, List.getElem_toArray, List.getElem_cons_zero, List.getElem_cons_succ, List.setIfInBounds_toArray, List.set_cons_zero, List.set_cons_succ]
          refine wpAnyH_take (i := 21) (v := ?v21) rfl (by kernel_rfl) (by kernel_rfl) (by kernel_rfl) (fun _ _ _ h => h) (Or.inl ⟨by kernel_rfl, ?hy21⟩) (by assumption) ?rest21
          case hy21 => (intro w hSw; (try dsimp only at hSw); go_simp; try with_reducible rfl)
          try simp only [Act.put, List.getElem_toArray, List.getElem_cons_zero, List.getElem_cons_succ, List.setIfInBounds_toArray, List.set_cons_zero, List.set_cons_succ]
          refine wpAnyH_take (i := 22) (v := ?v22) rfl (by kernel_rfl) (by kernel_rfl) (by kernel_rfl) (fun _ _ _ h => h) (Or.inl ⟨by kernel_rfl, ?hy22⟩) (by assumption) ?rest22
          case hy22 => (intro w hSw; (try dsimp only at hSw); go_simp; try with_reducible rfl)
          try simp only [Act.put, List.getElem_toArray, List.getElem_cons_zero, List.getElem_cons_succ, List.setIfInBounds_toArray, List.set_cons_zero, List.set_cons_succ]
          refine wpAnyH_take (i := 23) (v := ?v23) rfl (by kernel_rfl) (by kernel_rfl) (by kernel_rfl) (fun _ _ _ h => h) (Or.inl ⟨by kernel_rfl, ?hy23⟩) (by assumption) ?rest23
          case hy23 => (intro w hSw; (try dsimp only at hSw); go_simp; try with_reducible rfl)
          try simp only [Act.put, List.getElem_toArray, List.getElem_cons_zero, List.getElem_cons_succ, List.setIfInBounds_toArray, List.set_cons_zero, List.set_cons_succ]
          refine wpAnyH_take (i := 24) (v := ?v24) rfl (by kernel_rfl) (by kernel_rfl) (by kernel_rfl) (fun _ _ _ h => h) (Or.inl ⟨by kernel_rfl, ?hy24⟩) (by assumption) ?rest24
          case hy24 => (intro w hSw; (try dsimp only at hSw); go_simp; try with_reducible rfl)
          try simp only [Act.put, List.getElem_toArray, List.getElem_cons_zero, List.getElem_cons_succ, List.setIfInBounds_toArray, List.set_cons_zero, List.set_cons_succ]
          refine wpAnyH_take (i := 25) (v := ?v25) rfl (by kernel_rfl) (by kernel_rfl) (by kernel_rfl) (fun _ _ _ h => h) (Or.inl ⟨by kernel_rfl, ?hy25⟩) (by assumption) ?rest25
          case hy25 => (intro w hSw; (try dsimp only at hSw); go_simp; try with_reducible rfl)
          try simp only [Act.put, List.getElem_toArray, List.getElem_cons_zero, List.getElem_cons_succ, List.setIfInBounds_toArray, List.set_cons_zero, List.set_cons_succ]
          refine wpAnyH_ready (rs := [26]) (by kernel_rfl) (by simp) ?_
          refine AllReadyH.cons rfl (fun K hK => ?_) AllReadyH.nil
          go_simp
          go_wp2_with (first | (go_at_call 32; (refine (finish_full _ p g x M s false y HC2.out HI.out (by have := HS.out; omega) HF.out.1).mono ?_); rintro e w' ⟨rfl, hat⟩; obtain ⟨M', hm, hr, ha, hI, hT, hc⟩ := At.finI hat; have HBn := Aside0.mk (below_chg (base := w.heap.size) HB2.out hc HB2.out.size (Mra.new HK.out HG.out HXB.out)); have HSZn := Aside0.mk (Nat.le_trans HSZ.out hc.size); have HQn := Aside0.mk (QAt.mra HQ2.out HC2.out HLOW.out.p hc); have HM := Aside0.mk hm; have HR := Aside0.mk hr; have HA := Aside0.mk ha; have HIn := Aside0.mk hI; have HTn := Aside0.mk hT; clear HQ2 HC2 HB2 HXB hat hm hr ha hI hT hc; have HQ := HQn; clear HQn; clear HB HSZ; have HB := HBn; have HSZ := HSZn; clear HBn HSZn; have hy := (HB.out.cell (World.block_lt_of_cell? w _ X0.out)).trans X0.out) | (go_at_call 37; (with_reducible refine (ok_ _ x g _ HA.out).mono ?_); rintro e w' ⟨rfl, rfl⟩) | (go_at_call 42; (with_reducible refine (value_ _ x g _ HA.out).mono ?_); rintro e w' ⟨rfl, rfl⟩))
          refine hK.out _ _ ?_ (fun hHeld => ?_)
          · first | go_keep | exact hy
          clear hK K
          try simp only [Act.put, List.getElem_toArray, List.getElem_cons_zero, List.getElem_cons_succ, List.setIfInBounds_toArray, List.set_cons_zero, List.set_cons_succ]
          refine wpAnyH_take (i := 27) (v := ?v27) rfl (by kernel_rfl) (by kernel_rfl) (by kernel_rfl) (fun _ _ _ h => h) (Or.inl ⟨by kernel_rfl, ?hy27⟩) (by assumption) ?rest27
          case hy27 => (intro w hSw; (try dsimp only at hSw); go_simp; try with_reducible rfl)
          try simp only [Act.put, List.getElem_toArray, List.getElem_cons_zero, List.getElem_cons_succ, List.setIfInBounds_toArray, List.set_cons_zero, List.set_cons_succ]
          refine wpAnyH_take (i := 28) (v := ?v28) rfl (by kernel_rfl) (by kernel_rfl) (by kernel_rfl) (fun _ _ _ h => h) (Or.inl ⟨by kernel_rfl, ?hy28⟩) (by assumption) ?rest28
          case hy28 => (intro w hSw; (try dsimp only at hSw); go_simp; try with_reducible rfl)
          try simp only [Act.put, List.getElem_toArray, List.getElem_cons_zero, List.getElem_cons_succ, List.setIfInBounds_toArray, List.set_cons_zero, List.set_cons_succ]
          refine wpAnyH_take (i := 29) (v := ?v29) rfl (by kernel_rfl) (by kernel_rfl) (by kernel_rfl) (fun _ _ _ h => h) (Or.inl ⟨by kernel_rfl, ?hy29⟩) (by assumption) ?rest29
          case hy29 => (intro w hSw; (try dsimp only at hSw); go_simp; try with_reducible rfl)
          try simp only [Act.put, List.getElem_toArray, List.getElem_cons_zero, List.getElem_cons_succ, List.setIfInBounds_toArray, List.set_cons_zero, List.set_cons_succ]
          refine wpAnyH_done (by kernel_rfl) ?_ _
          all_goals go_wp2
          obtain ⟨vq, hq1, ho1⟩ := HQ.out
          obtain ⟨Aq, cq, evq⟩ := own_slice ho1
          subst evq
          have HTS := Aside0.mk (show TS B p g B (1 + (q : Int)) M' (s) Aq cq w' from ⟨HM.out, HR.out, HIn.out, hq1, ho1⟩)
          clear hq1 ho1 HM HR HQ HA hy
          obtain ⟨s2, hs2⟩ : ∃ s2, (s) = s2 := ⟨_, rfl⟩
          have HS2 := Aside0.mk (show s2.size = 1 + (q : Int) ∧ M'.time ≤ 2 + 3 * ((i + 1 : Nat) : Int) from by rw [← hs2]; have h1 := HS.out; have h2 := HTn.out; exact ⟨h1.1, by omega⟩)
          rw [hs2] at HTS
          clear hs2 HIn HTn
          have hcl := HTS.out.cell
          go_wp2_with fail
          go_region_held3 (fun w' => w'.cell? ⟨B, 1, none⟩ = some (.slice Aq s2.L.length cq)) (first | go_keep | exact hcl)
            (first
              | (go_at_call 34; (with_reducible refine (ts_len (B := B) (p := p) (g := g) (qb := B) (n := 1 + (q : Int)) (M := M') (s := s2) (A := Aq) (c := cq) _ (by (with_reducible repeat (first | exact HTS.out | refine TS.drewN ?_ _ | refine TS.drew ?_)))).mono ?_); rintro e w2 ⟨rfl, ⟨nd, rfl⟩⟩)
              | (go_at_call 45; (with_reducible refine (ts_list (B := B) (p := p) (g := g) (qb := B) (n := 1 + (q : Int)) (M := M') (s := s2) (A := Aq) (c := cq) _ (by (with_reducible repeat (first | exact HTS.out | refine TS.drewN ?_ _ | refine TS.drew ?_)))).mono ?_); rintro e w2 ⟨A3, c3, rfl, h3, hb⟩; have HT2 := Aside0.mk (TS.below (B := B) (p := p) (g := g) (qb := B) (n := 1 + (q : Int)) (M := M') (s := s2) (A := Aq) (c := cq) (by (with_reducible repeat (first | exact HTS.out | refine TS.drewN ?_ _ | refine TS.drew ?_))) hb); have H3 := Aside0.mk h3; have HBn := Aside0.mk (below_step (by repeat (first | exact HB.out | apply below_alloc | apply pw_below_drewN | apply below_drew1)) hb); have HSZn := Aside0.mk (Nat.le_trans HSZ.out hb.size); clear HTS HB HSZ h3 hb hcl; have HTS := HT2; have HB := HBn; have HSZ := HSZn; clear HT2 HBn HSZn; have hcl := HTS.out.cell)
              | (go_at_call 44; (with_reducible refine (ts_same (B := B) (p := p) (g := g) (qb := B) (n := 1 + (q : Int)) (M := M') (s := s2) (A := Aq) (c := cq) _ A3 c3 (by (with_reducible repeat (first | exact HTS.out | refine TS.drewN ?_ _ | refine TS.drew ?_))) (by (with_reducible repeat (first | exact H3.out | refine ReadsInt.drewN ?_ _)))).mono ?_); rintro e w2 ⟨rfl, ⟨⟨nd2, rfl⟩⟩⟩))
          go_wp2
          go_roundg (l2.length - (i + 1))
          case measure => have := HKQ.out; omega
          case rel => exact ⟨i + 1, M', s2, ⟨rfl⟩, by omega, by omega, by simp, HS2, ⟨by have z := HTS.out.m; (with_reducible repeat (first | exact z | refine MemAt.drewN ?_ _ | refine MemAt.drew ?_))⟩, ⟨HTS.out.r⟩, ⟨HTS.out.i⟩, ⟨⟨_, HTS.out.q, HTS.out.o⟩⟩, ⟨(by repeat (first | exact HB.out | apply below_alloc | apply pw_below_drewN | apply below_drew1))⟩, ⟨HSZ.out⟩⟩
    · have hge : l2.length ≤ i ∨ 400 ≤ i := by omega
      clear hlt
      rcases hge with hge | hge
      all_goals (by_cases a0 : i < l2.length <;> try omega)
      all_goals (first | (go_wp2; go_ret; exact ⟨rfl, HB.out⟩))

end Go.Proofs.Ytejplbeddcpmeaa.Ring
