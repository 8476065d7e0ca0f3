/- A taking's Step that goes on to the next ring; a lane's Next; no condition. -/
import Derived.Test.YtejplbeddcpmeaaLane2
namespace Go.Proofs.Ytejplbeddcpmeaa.Lane
open Go.RowKit Go.Proofs.YtejplbeddcpmeaaW.PrintWords Go.Proofs.Ytejplbeddcpmeaa.Heap Go.Proofs.Ytejplbeddcpmeaa.Mem Go.Proofs.Ytejplbeddcpmeaa.Ring
set_option linter.unusedVariables false
set_option linter.unusedSimpArgs false

def newAct : ActS := ⟨false, 75, 0, false, 0, false⟩
theorem RingAt.far {w : World} {g x : Nat} {p : Mp} {R : RingS} (h : RingAt w g p R) {i : Nat} (hx : g ≠ x) (v : Value) : RingAt (w.setCell ⟨x, i, none⟩ v) g p R := Blk.far h hx v

theorem Row.far {w : World} {b n x i : Nat} {gs : Nat → Nat} (h : Row w b n gs) (hx : b ≠ x) (v : Value) : Row (w.setCell ⟨x, i, none⟩ v) b n gs := by
  obtain ⟨cs, hb, hc⟩ := h
  exact ⟨cs, Blk.far hb hx v, hc⟩
theorem _root_.Go.Proofs.Ytejplbeddcpmeaa.Ring.All.other {w : World} {p : Mp} {g x y t : Nat} {M : MemS} {R : RingS} {A : ActS} {cs : List Value} (h : All w p g x M R A) (hb : Blk w y cs t) (h1 : t ≠ 97) (h2 : t ≠ 29) (h3 : t ≠ 3) (h4 : t ≠ 103) (h5 : t ≠ 107) (i : Nat) (v : Value) : All (w.setCell ⟨y, i, none⟩ v) p g x M R A :=
  ⟨h.m.chg (Chg.set (S := fun j => j = y) (Chg.refl _ _) (.inl rfl) _) (fun j hj e => ne_mem h.m hb h1 h2 h3 (e ▸ hj)), Blk.far h.r (fun e => Blk.ne hb h.r h4 e.symm) _, Blk.far h.a (fun e => Blk.ne hb h.a h5 e.symm) _, h.ok, h.av⟩
theorem RingAt.drewN {w : World} {g : Nat} {p : Mp} {R : RingS} (h : RingAt w g p R) (n : Nat) : RingAt (w.drewN n) g p R := h
theorem RingAt.drew {w : World} {g : Nat} {p : Mp} {R : RingS} (h : RingAt w g p R) : RingAt w.drew g p R := h

set_option maxHeartbeats 8000000 in
set_option maxRecDepth 100000 in
theorem step_next (w : World) (y x : Nat) (p : Mp) (gs : Nat → Nat) (g0 : Nat) (a : LAct) (s : LaneS) (Q : World → Prop) (E : World → MemS → RingS → Prop) (k : Nat) (hk : (s.at_ + (a.looked + 1)) % s.n = k) (h : LActAt w y x a) (ho : a.over = false) (hS : Calls Try.prog 36 #[pt a.pop] w fun e w' => e = .returned (.bool true) ∧ Q w')
    (hQ : ∀ w', Q w' → LActAt w' y x a ∧ LaneAt w' x s ∧ (∃ A, ActAt w' a.pop g0 A ∧ A.ok = false) ∧ Row w' s.b s.n gs ∧ ∃ M R, E w' M R ∧ MemAt 97 w' p M ∧ RingAt w' (gs k) p R ∧ RingOk R ∧ R.o.busy = false) (h0 : s.at_ < s.n) (hn : a.looked + 1 < s.n) (hn2 : s.n ≤ 1000) :
    Calls Try.prog 61 #[pt y] w fun e w'' => e = .returned (.bool false) ∧ ∃ w' M R px, Q w' ∧ E w' M R ∧ MemAt 97 w' p M ∧ RingAt w' (gs k) p R ∧ LActAt w'' y x { a with looked := a.looked + 1, pop := px } ∧ All w'' p (gs k) px M { R with o := { R.o with busy := true } } newAct ∧ Chg (fun j => j = y ∨ j = gs k) w' w'' ∧ w'.heap.size ≤ px := by
  have h1 : w.cell? ⟨y, 1, none⟩ = some (pt a.pop) := (Blk.cell h 1).trans rfl
  have H1 := Aside0.mk (over_ w y x a h)
  have HS := Aside0.mk hS
  have HQ := Aside0.mk hQ
  have HOV := Aside0.mk ho
  rw [ho] at H1
  have hkn : k < s.n := by rw [← hk]; exact Nat.mod_lt _ (by omega)
  have e1 : IntKind.i64.wrap ((s.n : Int) - 1) = (s.n : Int) - 1 := i64_id (by omega)
  have e2 : ((a.looked : Int) == (s.n : Int) - 1) = false := beq_eq_false_iff_ne.mpr (by omega)
  have e3 : IntKind.i64.wrap ((a.looked : Int) + 1) = ((a.looked + 1 : Nat) : Int) := by rw [i64_id (by omega)]; omega
  have HR := Aside0.mk (show ∀ W, Blk W y (lactCells x { a with looked := a.looked + 1 }) 109 → Blk W x (laneCells s) 111 → Calls Try.prog 79 #[pt y] W fun e w' => e = .returned (.int .i64 (k : Nat)) ∧ ∃ m, w' = W.drewN m from fun W q q2 => by rw [← hk]; exact ring_ W y x s.b s.n s.c s.at_ (a.looked + 1) ((Blk.cell q 0).trans rfl) ((Blk.cell q 2).trans rfl) ((Blk.cell q2 0).trans rfl) ((Blk.cell q2 1).trans rfl) h0 hn hn2)
  clear h hS hQ ho hk
  go_enter Try.func61, Try.ntmps61
  go_upto_region 8 with (first | (go_at_call 62; (with_reducible refine H1.out.mono ?_); rintro e w' ⟨rfl, rfl⟩) | (go_at_call 36; (with_reducible refine HS.out.mono ?_); rintro e wq ⟨rfl, hq⟩; have HQ1 := Aside0.mk hq; obtain ⟨hl, hs, ⟨A, hA, hok⟩, hrow, M, R, hE, hm, hr, hrk, hbusy⟩ := HQ.out wq hq; have HE := Aside0.mk hE; clear hE; have HL := Aside0.mk hl; have HLS := Aside0.mk hs; have HO := Aside0.mk (Ring.ok_ wq a.pop g0 A hA); rw [hok] at HO; have hyx := Blk.ne hl hs (by decide); have HROW := Aside0.mk hrow; have HM := Aside0.mk hm; have HRG := Aside0.mk hr; have HRK := Aside0.mk hrk; have HBU := Aside0.mk hbusy; have x0 : wq.cell? ⟨y, 0, none⟩ = some (pt x) := (Blk.cell hl 0).trans rfl; have x1 : wq.cell? ⟨y, 1, none⟩ = some (pt a.pop) := (Blk.cell hl 1).trans rfl; have x2 : wq.cell? ⟨y, 2, none⟩ = some (.int .i64 a.looked) := (Blk.cell hl 2).trans rfl; have f2 := Blk.frozen hl 2; have l0 : wq.cell? ⟨x, 0, none⟩ = some (.slice (some ⟨s.b, 0, none⟩) s.n s.c) := (Blk.cell hs 0).trans rfl; clear hq hl hs hA hok h1 hrow hm hr hrk hbusy) | (go_at_call 37; (with_reducible refine HO.out.mono ?_); rintro e w' ⟨rfl, rfl⟩))
  go_region_held3 (fun w' => w'.cell? ⟨y, 0, none⟩ = some (pt x) ∧ w'.cell? ⟨y, 2, none⟩ = some (.int .i64 a.looked) ∧ w'.cell? ⟨x, 0, none⟩ = some (.slice (some ⟨s.b, 0, none⟩) s.n s.c)) (go_keep) (fail)
  go_upto_region 4 with fail
  have HL2 : Blk ((wq.setCell ⟨y, 2, none⟩ (.int .i64 ((a.looked : Int) + 1))).drew) y (lactCells x { a with looked := a.looked + 1 }) 109 := Blk.eq (Blk.drew (Blk.set HL.out 2 _)) rfl
  have HS2 : Blk ((wq.setCell ⟨y, 2, none⟩ (.int .i64 ((a.looked : Int) + 1))).drew) x (laneCells s) 111 := Blk.drew (Blk.far HLS.out (fun e => hyx e.symm) _)
  have HC2 : Chg (fun j => j = y) wq ((wq.setCell ⟨y, 2, none⟩ (.int .i64 ((a.looked : Int) + 1))).drew) := Chg.drew (Chg.set (S := fun j => j = y) (Chg.refl _ _) (.inl rfl) _)
  have HM2 := Aside0.mk (HM.out.chg HC2 (fun j hj e => ne_mem HM.out HL.out (by decide) (by decide) (by decide) (e ▸ hj)))
  have hgy : gs k ≠ y := Blk.ne HRG.out HL.out (by decide)
  have HRG2 := Aside0.mk (show RingAt _ (gs k) p R from Blk.chg HRG.out HC2 hgy)
  have HROW2 := Aside0.mk (HROW.out.chg HC2 (by obtain ⟨cs, hb, _⟩ := HROW.out; exact Blk.ne hb HL.out (by decide)))
  have HCC := Aside0.mk HC2
  clear x0 x1 x2 f2 l0 HC2 HLS
  generalize ((wq.setCell ⟨y, 2, none⟩ (.int .i64 ((a.looked : Int) + 1))).drew) = w7 at *
  have HL := Aside0.mk HL2
  have HLS := Aside0.mk HS2
  have x0 : w7.cell? ⟨y, 0, none⟩ = some (pt x) := (Blk.cell HL2 0).trans rfl
  have x2 : w7.cell? ⟨y, 2, none⟩ = some (.int .i64 ((a.looked + 1 : Nat) : Int)) := (Blk.cell HL2 2).trans rfl
  have l0 : w7.cell? ⟨x, 0, none⟩ = some (.slice (some ⟨s.b, 0, none⟩) s.n s.c) := (Blk.cell HS2 0).trans rfl
  have l1 : w7.cell? ⟨x, 1, none⟩ = some (.int .i64 s.at_) := (Blk.cell HS2 1).trans rfl
  have r0 : w7.cell? ⟨s.b, k, none⟩ = some (pt (gs k)) := HROW2.out.cell hkn
  have hgx : gs k ≠ x := Blk.ne HRG2.out HS2 (by decide)
  have hby : s.b ≠ gs k := by obtain ⟨cs, hb, _⟩ := HROW2.out; exact Blk.ne hb HRG2.out (by decide)
  have HCG := Aside0.mk (Chg.refl (fun j => j = gs k) w7)
  have hxy : x ≠ y := fun e => hyx e.symm
  have hbyy : s.b ≠ y := by obtain ⟨cs, hb, _⟩ := HROW2.out; exact Blk.ne hb HL2 (by decide)
  clear HL2 HS2 x2 l1
  go_region_held3 (fun w' => w'.cell? ⟨y, 0, none⟩ = some (pt x) ∧ w'.cell? ⟨x, 0, none⟩ = some (.slice (some ⟨s.b, 0, none⟩) s.n s.c) ∧ w'.cell? ⟨s.b, k, none⟩ = some (pt (gs k))) (first | exact ⟨x0, l0, r0⟩ | exact ⟨(Blk.cell (Blk.set HL.out 1 _) 0).trans rfl, (Blk.cell (Blk.far HLS.out hxy _) 0).trans rfl, (HROW2.out.far hbyy _).cell hkn⟩ | go_keep)
    (first
      | (go_at_call 79; (with_reducible refine (HR.out _ (by (with_reducible repeat (first | exact HL.out | refine Blk.drewN ?_ _ | refine Blk.drew ?_))) (by (with_reducible repeat (first | exact HLS.out | refine Blk.drewN ?_ _ | refine Blk.drew ?_)))).mono ?_); rintro e w' ⟨rfl, m, rfl⟩)
      | (go_at_call 35; (with_reducible refine (pop_new _ (gs k) p M R (by (with_reducible repeat (first | exact HM2.out | refine MemAt.drewN ?_ _ | refine MemAt.drew ?_))) (by (with_reducible repeat (first | exact HRG2.out | refine RingAt.drewN ?_ _ | refine RingAt.drew ?_))) HRK.out HBU.out).mono ?_); rintro e w8 ⟨px, rfl, hall, hcg, hpx⟩; have HALL := Aside0.mk hall; have HC8 := Aside0.mk (Chg.step (S := fun j => j = gs k) (a := w7) (by (with_reducible repeat (first | exact HCG.out | refine Chg.drewN ?_ _ | refine Chg.drew ?_))) hcg (fun _ _ s => s)); have HPX := Aside0.mk hpx; clear hall hcg hpx; have HL8 := Aside0.mk (Blk.chg HL.out HC8.out (fun e => hgy e.symm)); have HLS8 := Aside0.mk (Blk.chg HLS.out HC8.out (fun e => hgx e.symm)); have HROW8 := Aside0.mk (HROW2.out.chg HC8.out hby); clear x0 l0 r0 HL HLS HROW2; have HL := HL8; have HLS := HLS8; have HROW2 := HROW8; clear HL8 HLS8 HROW8; have x0 : w8.cell? ⟨y, 0, none⟩ = some (pt x) := (Blk.cell HL.out 0).trans rfl; have f1 := Blk.frozen HL.out 1; have x4 : w8.cell? ⟨y, 4, none⟩ = some (.bool false) := (Blk.cell HL.out 4).trans (by simp [lactCells, HOV.out]); have y1 : w8.cell? ⟨y, 1, none⟩ = some (pt a.pop) := (Blk.cell HL.out 1).trans rfl; have l0 : w8.cell? ⟨x, 0, none⟩ = some (.slice (some ⟨s.b, 0, none⟩) s.n s.c) := (Blk.cell HLS.out 0).trans rfl; have r0 : w8.cell? ⟨s.b, k, none⟩ = some (pt (gs k)) := HROW2.out.cell hkn))
  go_wp2
  go_ret
  exact ⟨rfl, wq, M, R, px, HQ1.out, HE.out, HM.out, HRG.out, Blk.eq (Blk.set HL.out 1 _) rfl, HALL.out.other HL.out (by decide) (by decide) (by decide) (by decide) (by decide) 1 _, Chg.set (Chg.step (Chg.mono HCC.out (fun _ _ e => .inl e)) HC8.out (fun _ _ e => .inr e)) (.inl (.inl rfl)) _, Nat.le_trans HCC.out.size HPX.out⟩

set_option maxHeartbeats 8000000 in
set_option maxRecDepth 100000 in
theorem next_ (w : World) (x : Nat) (p : Mp) (gs : Nat → Nat) (s : LaneS) (k : Nat) (hk : s.at_ % s.n = k) (M : MemS) (R : RingS) (hs : LaneAt w x s) (hov : Calls Try.prog 62 #[s.act] w fun e w' => e = .returned (.bool true) ∧ w = w')
    (hrow : Row w s.b s.n gs) (hm : MemAt 97 w p M) (hr : RingAt w (gs k) p R) (hrk : RingOk R) (hbusy : R.o.busy = false) (h0 : s.at_ < s.n) (hn2 : s.n ≤ 1000) :
    Calls Try.prog 60 #[pt x] w fun e w' => ∃ y px, e = .returned (pt y) ∧ LActAt w' y x ⟨px, 0, 0, false⟩ ∧ LaneAt w' x { s with act := pt y } ∧ All w' p (gs k) px M { R with o := { R.o with busy := true } } newAct ∧ Chg (fun j => j = x ∨ j = gs k) w w' ∧ w.heap.size ≤ y ∧ w.heap.size ≤ px := by
  have hkn : k < s.n := by rw [← hk]; exact Nat.mod_lt _ (by omega)
  have HOV := Aside0.mk hov
  have HLS := Aside0.mk hs
  have HROW := Aside0.mk hrow
  have HM := Aside0.mk hm
  have HRG := Aside0.mk hr
  have HRK := Aside0.mk hrk
  have HBU := Aside0.mk hbusy
  have HB := Aside0.mk (Below.refl w.heap.size w)
  have l2 : w.cell? ⟨x, 2, none⟩ = some s.act := (Blk.cell hs 2).trans rfl
  have g2 := Blk.frozen hs 2
  clear hs hov hrow hm hr hrk hbusy
  go_enter Try.func60, Try.ntmps60
  go_upto_region 4 with (first | (go_at_call 62; (with_reducible refine HOV.out.mono ?_); rintro e w' ⟨rfl, rfl⟩) | ((with_reducible refine gate_dst (N := 16) rfl ?_); refine box_event ?hg (N := 16) ?hd (cs := #[pt x, .pointer none, .int .i64 0, .int .i64 0, .bool false]) (t := 109) ?hr ?_; (case hd => rfl); (case hg => rfl); (case hr => first | (go_simp; done) | (go_simp; rfl)); intro y hy wb hbb hb; have HY0 := Aside0.mk hbb; have HYW := Aside0.mk (show w.heap.size ≤ y from by rw [hy]; exact Nat.le_refl _); have HBB := Aside0.mk hb; have HLSb := Aside0.mk (Blk.below HLS.out hb); have l2 : wb.cell? ⟨x, 2, none⟩ = some s.act := (Blk.cell HLSb.out 2).trans rfl; have g2 := Blk.frozen HLSb.out 2; clear hbb hb hy))
  have hyx : y ≠ x := Nat.ne_of_gt (Nat.lt_of_lt_of_le HLS.out.lt HYW.out)
  have hxy : x ≠ y := fun e => hyx e.symm
  have HL2 : Blk (wb.setCell ⟨x, 2, none⟩ (pt y)) y [pt x, .pointer none, .int .i64 0, .int .i64 0, .bool false] 109 := Blk.far HY0.out hyx _
  have HS2 : Blk (wb.setCell ⟨x, 2, none⟩ (pt y)) x (laneCells { s with act := pt y }) 111 := Blk.eq (Blk.set HLSb.out 2 _) rfl
  have HC2 : Chg (fun j => j = x) w (wb.setCell ⟨x, 2, none⟩ (pt y)) := Chg.set (S := fun j => j = x) (Chg.of_below HBB.out) (.inl rfl) _
  have HM2 := Aside0.mk (HM.out.chg HC2 (fun j hj e => ne_mem HM.out HLS.out (by decide) (by decide) (by decide) (e ▸ hj)))
  have HRG2 := Aside0.mk (show RingAt _ (gs k) p R from Blk.chg HRG.out HC2 (Blk.ne HRG.out HLS.out (by decide)))
  have HROW2 := Aside0.mk (HROW.out.chg HC2 (by obtain ⟨cs, hb, _⟩ := HROW.out; exact Blk.ne hb HLS.out (by decide)))
  have HCC := Aside0.mk HC2
  have HR := Aside0.mk (show ∀ W, Blk W y [pt x, .pointer none, .int .i64 0, .int .i64 0, .bool false] 109 → Blk W x (laneCells { s with act := pt y }) 111 → Calls Try.prog 79 #[pt y] W fun e w' => e = .returned (.int .i64 (k : Nat)) ∧ ∃ m, w' = W.drewN m from fun W q q2 => by rw [show k = (s.at_ + 0) % s.n from hk.symm]; exact ring_ W y x s.b s.n s.c s.at_ 0 ((Blk.cell q 0).trans rfl) ((Blk.cell q 2).trans rfl) ((Blk.cell q2 0).trans rfl) ((Blk.cell q2 1).trans rfl) h0 (by omega) hn2)
  clear HC2 HLS HLSb l2 g2 HY0 HBB HM HRG HROW hk
  generalize wb.setCell ⟨x, 2, none⟩ (pt y) = w7 at *
  have HL := Aside0.mk HL2
  have HLS := Aside0.mk HS2
  have x2 : w7.cell? ⟨x, 2, none⟩ = some (pt y) := (Blk.cell HS2 2).trans rfl
  have l0 : w7.cell? ⟨x, 0, none⟩ = some (.slice (some ⟨s.b, 0, none⟩) s.n s.c) := (Blk.cell HS2 0).trans rfl
  have r0 : w7.cell? ⟨s.b, k, none⟩ = some (pt (gs k)) := HROW2.out.cell hkn
  have hgy : gs k ≠ y := Blk.ne HRG2.out HL2 (by decide)
  have hgx : gs k ≠ x := Blk.ne HRG2.out HS2 (by decide)
  have hby : s.b ≠ gs k := by obtain ⟨cs, hb, _⟩ := HROW2.out; exact Blk.ne hb HRG2.out (by decide)
  have hbyy : s.b ≠ y := by obtain ⟨cs, hb, _⟩ := HROW2.out; exact Blk.ne hb HL2 (by decide)
  have HCG := Aside0.mk (Chg.refl (fun j => j = gs k) w7)
  clear HL2 HS2
  go_region_held3 (fun w' => w'.cell? ⟨x, 2, none⟩ = some (pt y) ∧ w'.cell? ⟨x, 0, none⟩ = some (.slice (some ⟨s.b, 0, none⟩) s.n s.c) ∧ w'.cell? ⟨s.b, k, none⟩ = some (pt (gs k))) (first | exact ⟨x2, l0, r0⟩ | exact ⟨(Blk.cell (Blk.far HLS.out hxy _) 2).trans rfl, (Blk.cell (Blk.far HLS.out hxy _) 0).trans rfl, (HROW2.out.far hbyy _).cell hkn⟩ | go_keep)
    (first
      | (go_at_call 79; (with_reducible refine (HR.out _ (by (with_reducible repeat (first | exact HL.out | refine Blk.drewN ?_ _ | refine Blk.drew ?_))) (by (with_reducible repeat (first | exact HLS.out | refine Blk.drewN ?_ _ | refine Blk.drew ?_)))).mono ?_); rintro e w' ⟨rfl, m, rfl⟩)
      | (go_at_call 35; (with_reducible refine (pop_new _ (gs k) p M R (by (with_reducible repeat (first | exact HM2.out | refine MemAt.drewN ?_ _ | refine MemAt.drew ?_))) (by (with_reducible repeat (first | exact HRG2.out | refine RingAt.drewN ?_ _ | refine RingAt.drew ?_))) HRK.out HBU.out).mono ?_); rintro e w8 ⟨px, rfl, hall, hcg, hpx⟩; have HALL := Aside0.mk hall; have HC8 := Aside0.mk (Chg.step (S := fun j => j = gs k) (a := w7) (by (with_reducible repeat (first | exact HCG.out | refine Chg.drewN ?_ _ | refine Chg.drew ?_))) hcg (fun _ _ s => s)); have HPX := Aside0.mk hpx; clear hall hcg hpx; have HL8 := Aside0.mk (Blk.chg HL.out HC8.out (fun e => hgy e.symm)); have HLS8 := Aside0.mk (Blk.chg HLS.out HC8.out (fun e => hgx e.symm)); have HROW8 := Aside0.mk (HROW2.out.chg HC8.out hby); clear x2 l0 r0 HL HLS HROW2; have HL := HL8; have HLS := HLS8; have HROW2 := HROW8; clear HL8 HLS8 HROW8; have x2 : w8.cell? ⟨x, 2, none⟩ = some (pt y) := (Blk.cell HLS.out 2).trans rfl; have f1 := Blk.frozen HL.out 1; have y1 : w8.cell? ⟨y, 1, none⟩ = some (.pointer none) := (Blk.cell HL.out 1).trans rfl; have l0 : w8.cell? ⟨x, 0, none⟩ = some (.slice (some ⟨s.b, 0, none⟩) s.n s.c) := (Blk.cell HLS.out 0).trans rfl; have r0 : w8.cell? ⟨s.b, k, none⟩ = some (pt (gs k)) := HROW2.out.cell hkn))
  go_wp2
  go_ret
  exact ⟨y, px, rfl, Blk.eq (Blk.set HL.out 1 _) rfl, Blk.far HLS.out hxy _, HALL.out.other HL.out (by decide) (by decide) (by decide) (by decide) (by decide) 1 _, Chg.set (Chg.step (Chg.mono HCC.out (fun _ _ e => .inl e)) HC8.out (fun _ _ e => .inr e)) (.inr HYW.out) _, HYW.out, Nat.le_trans HCC.out.size HPX.out⟩
end Go.Proofs.Ytejplbeddcpmeaa.Lane
