/- The lane laws' told; no condition. -/
import Derived.Test.YtejplbeddcpmeaaLane10
namespace Go.Proofs.Ytejplbeddcpmeaa.Lane
open Go.RowKit Go.Proofs.YtejplbeddcpmeaaW.PrintWords Go.Proofs.Ytejplbeddcpmeaa.Heap Go.Proofs.Ytejplbeddcpmeaa.Mem Go.Proofs.Ytejplbeddcpmeaa.Ring
set_option linter.unusedVariables false
set_option linter.unusedSimpArgs false

/-- A world as the laws begin it, later on. -/
structure LB (w0 w : World) (u : Nat) (n k T : Nat) (at_ : Nat) (Ls : Nat → List Int) : Prop where
  ex : ∃ p b2 c2 x gs s, LL w u p b2 c2 x gs s k T Ls ∧ s.n = n ∧ s.at_ = at_ ∧ w0.heap.size ≤ u ∧ w0.heap.size ≤ x ∧ (∀ j, p.has j → w0.heap.size ≤ j) ∧ (∀ j, j < n → w0.heap.size ≤ gs j)
  below : Below w0.heap.size w0 w
theorem LB.begin_ (w : World) (n k : Nat) (hn0 : 1 ≤ n) (hn : n ≤ 60) (hk0 : 1 ≤ k) (hk : k ≤ 64) :
    Calls Try.prog 49 #[.int .i64 (n : Int), .int .i64 (k : Int)] w fun e w' => ∃ u, e = .returned (pt u) ∧ LB w w' u n k 1000 0 (fun _ => []) :=
  (Lane.begin_ w n k hn0 hn hk0 hk).mono fun e w' ⟨u, p, b2, c2, x, gs, s, M, he, hl, h1, h2, h3, h4, h5, h6, h7, h8⟩ => ⟨u, he, ⟨p, b2, c2, x, gs, s, ⟨_, M, hl, fun i hi => ⟨rfl, rfl⟩, h3⟩, h1, h2, h5, h6, h7, h8⟩, h4⟩
/-- What a step of the laws leaves as it was. -/
def Own (w0 : World) (k : Nat) : Prop := w0.heap.size ≤ k
theorem LT.own {w0 : World} {p : Mp} {x n : Nat} {gs : Nat → Nat} (h1 : ∀ j, p.has j → w0.heap.size ≤ j) (h2 : w0.heap.size ≤ x) (h3 : ∀ j, j < n → w0.heap.size ≤ gs j) {k : Nat} (h : LT p x n gs k) : w0.heap.size ≤ k := by
  rcases h with q | q | ⟨i, hi, q⟩
  · exact h1 k q
  · omega
  · rw [q]; exact h3 i hi
/-- Takings that are over stay so. -/
def Stay (w w' : World) : Prop := ∀ y ok v fr, ActSt w y ok v fr → ActSt w' y ok v fr
section
variable {w0 w : World} {u n k T at_ : Nat} {Ls : Nat → List Int}
theorem LB.put_ (h : LB w0 w u n k T at_ Ls) (ht : T ≤ 1000000000) (i : Nat) (hi : i < n) (v : Int) (hv : 0 ≤ v ∧ v ≤ 18446744073709551615) :
    Calls Try.prog 57 #[pt u, .int .i64 (i : Int), .int .u64 v] w fun e w' => e = .returned (.bool (decide ((Ls i).length < k))) ∧ LB w0 w' u n k (T + 3) at_ (putL Ls k i v) ∧ Stay w w' := by
  obtain ⟨p, b2, c2, x, gs, s, hl, h1, h2, h5, h6, h7, h8⟩ := h.ex
  refine (LL.put_ hl ht i (by omega) v hv).mono fun e w' ⟨he, hl', hc⟩ => ⟨he, ⟨⟨p, b2, c2, x, gs, s, hl', h1, h2, h5, h6, h7, h8⟩, below_chg h.below hc h.below.size (fun j q => LT.own h7 h6 (by rw [h1]; exact h8) q)⟩, fun y ok v fr ha => ha.chg hc (fun hb ht => hl.notLT hb ht)⟩
theorem LB.take_ (h : LB w0 w u n k T at_ Ls) (ht : T ≤ 1000000000) :
    Calls Try.prog 51 #[pt u] w fun e w' => ∃ y at2 Ls2, e = .returned (pt y) ∧ LB w0 w' u n k (T + 1002) at2 Ls2 ∧ TookL w' n at_ Ls y at2 Ls2 ∧ Stay w w' := by
  obtain ⟨p, b2, c2, x, gs, s, hl, h1, h2, h5, h6, h7, h8⟩ := h.ex
  refine (LL.take_ hl ht).mono fun e w' ⟨y, at2, Ls2, he, hl', ht, hc⟩ => ⟨y, at2, Ls2, he, ⟨⟨p, b2, c2, x, gs, _, hl', h1, rfl, h5, h6, h7, h8⟩, below_chg h.below hc h.below.size (fun j q => LT.own h7 h6 (by rw [h1]; exact h8) q)⟩, by rw [← h1, ← h2]; exact ht, fun y ok v fr ha => ha.chg hc (fun hb ht => hl.notLT hb ht)⟩
theorem LB.drewN (h : LB w0 w u n k T at_ Ls) (m : Nat) : LB w0 (w.drewN m) u n k T at_ Ls := by
  obtain ⟨p, b2, c2, x, gs, s, ⟨ss, M, hl, hL, hT⟩, h1, h2, h5, h6, h7, h8⟩ := h.ex
  refine ⟨⟨p, b2, c2, x, gs, s, ⟨ss, M, ⟨hl.wd, hl.row2, hl.lane, hl.row, ⟨hl.rings.m.drewN m, hl.rings.r, hl.rings.inv, hl.rings.ap, hl.rings.ne⟩, hl.act, hl.at0, hl.n2⟩, hL, hT⟩, h1, h2, h5, h6, h7, h8⟩, pw_below_drewN h.below m⟩
/-- The lane, where the world has it; its Len. -/
theorem LB.lane (h : LB w0 w u n k T at_ Ls) : ∃ x, w.cell? ⟨u, 2, none⟩ = some (pt x) ∧ Calls Try.prog 58 #[pt x] w fun e w' => e = .returned (.int .i64 (sumLs Ls n)) ∧ ∃ m, w' = w.drewN m := by
  obtain ⟨p, b2, c2, x, gs, s, hl, h1, h2, h5, h6, h7, h8⟩ := h.ex
  refine ⟨x, ?_, by rw [← h1]; exact LL.len_ hl⟩
  obtain ⟨ss, M, hlw, _⟩ := hl.ex
  exact (Blk.cell hlw.wd 2).trans rfl
end
theorem ActSt.drewN {w : World} {y : Nat} {ok : Bool} {v fr : Int} (h : ActSt w y ok v fr) (m : Nat) : ActSt (w.drewN m) y ok v fr := h.chg (S := fun _ => False) (Chg.drewN (Chg.refl _ _) m) (fun _ _ => id)

theorem ActSt.value1 {w : World} {y : Nat} {v fr : Int} (h : ActSt w y true v fr) : Calls Try.prog 54 #[pt y] w fun e w' => e = .returned (.int .u64 v) ∧ w = w' := h.value_
theorem ActSt.from1 {w : World} {y : Nat} {v fr : Int} (h : ActSt w y true v fr) : Calls Try.prog 55 #[pt y] w fun e w' => e = .returned (.int .i64 fr) ∧ w = w' := h.from_
theorem ActSt.from0 {w : World} {y : Nat} {v fr : Int} (h : ActSt w y false v fr) : Calls Try.prog 55 #[pt y] w fun e w' => e = .returned (.int .i64 (-1)) ∧ w = w' := h.from_
theorem ActSt.value0 {w : World} {y : Nat} {v fr : Int} (h : ActSt w y false v fr) : Calls Try.prog 54 #[pt y] w fun e w' => e = .returned (.int .u64 0) ∧ w = w' := h.value_
def L1 : Nat → List Int := putL (fun _ => []) 4 0 1
def L2 : Nat → List Int := putL L1 4 0 2
def L3 : Nat → List Int := putL L2 4 2 3
set_option maxHeartbeats 8000000 in
set_option maxRecDepth 100000 in
theorem told_ (w : World) : Calls Try.prog 50 #[] w fun e w' => e = .returned (.bool true) ∧ Below w.heap.size w w' := by
  have HBG := Aside0.mk (show Calls Try.prog 49 #[.int .i64 3, .int .i64 4] w fun e w' => ∃ u, e = .returned (pt u) ∧ LB w w' u 3 4 1000 0 (fun _ => []) from LB.begin_ w 3 4 (by decide) (by decide) (by decide) (by decide))
  have P1 := Aside0.mk (show ∀ u W, LB w W u 3 4 1000 0 (fun _ => []) → Calls Try.prog 57 #[pt u, .int .i64 0, .int .u64 1] W fun e w' => e = .returned (.bool true) ∧ LB w w' u 3 4 1003 0 L1 ∧ Stay W w' from fun u W h => LB.put_ h (by decide) 0 (by decide) 1 (by decide))
  have P2 := Aside0.mk (show ∀ u W, LB w W u 3 4 1003 0 L1 → Calls Try.prog 57 #[pt u, .int .i64 0, .int .u64 2] W fun e w' => e = .returned (.bool true) ∧ LB w w' u 3 4 1006 0 L2 ∧ Stay W w' from fun u W h => LB.put_ h (by decide) 0 (by decide) 2 (by decide))
  have P3 := Aside0.mk (show ∀ u W, LB w W u 3 4 1006 0 L2 → Calls Try.prog 57 #[pt u, .int .i64 2, .int .u64 3] W fun e w' => e = .returned (.bool true) ∧ LB w w' u 3 4 1009 0 L3 ∧ Stay W w' from fun u W h => LB.put_ h (by decide) 2 (by decide) 3 (by decide))
  have T1 := Aside0.mk (show ∀ u W, LB w W u 3 4 1009 0 L3 → Calls Try.prog 51 #[pt u] W fun e w' => ∃ y, e = .returned (pt y) ∧ LB w w' u 3 4 2011 1 (updL L3 0 [2]) ∧ ActSt w' y true 1 0 ∧ Stay W w' from fun u W h => (LB.take_ h (by decide)).mono fun e w' ⟨y, at2, Ls2, he, hb, ⟨v, l, q1, q2, q3, q4, _⟩, hs⟩ => by
    have e1 : (1 : Int) :: [2] = v :: l := q1
    injection e1 with e2 e3
    subst e2; subst e3; subst q3; subst q4
    exact ⟨y, he, hb, q2, hs⟩)
  have T2 := Aside0.mk (show ∀ u W, LB w W u 3 4 2011 1 (updL L3 0 [2]) → Calls Try.prog 51 #[pt u] W fun e w' => ∃ y, e = .returned (pt y) ∧ LB w w' u 3 4 3013 0 (updL (updL L3 0 [2]) 2 []) ∧ ActSt w' y true 3 2 ∧ Stay W w' from fun u W h => (LB.take_ h (by decide)).mono fun e w' ⟨y, at2, Ls2, he, hb, ⟨v, l, q1, q2, q3, q4, _⟩, hs⟩ => by
    have e1 : (3 : Int) :: [] = v :: l := q1
    injection e1 with e2 e3
    subst e2; subst e3; subst q3; subst q4
    exact ⟨y, he, hb, q2, hs⟩)
  have T3 := Aside0.mk (show ∀ u W, LB w W u 3 4 3013 0 (updL (updL L3 0 [2]) 2 []) → Calls Try.prog 51 #[pt u] W fun e w' => ∃ y, e = .returned (pt y) ∧ LB w w' u 3 4 4015 1 (updL (updL (updL L3 0 [2]) 2 []) 0 []) ∧ ActSt w' y true 2 0 ∧ Stay W w' from fun u W h => (LB.take_ h (by decide)).mono fun e w' ⟨y, at2, Ls2, he, hb, ⟨v, l, q1, q2, q3, q4, _⟩, hs⟩ => by
    have e1 : (2 : Int) :: [] = v :: l := q1
    injection e1 with e2 e3
    subst e2; subst e3; subst q3; subst q4
    exact ⟨y, he, hb, q2, hs⟩)
  have T4 := Aside0.mk (show ∀ u W, LB w W u 3 4 4015 1 (updL (updL (updL L3 0 [2]) 2 []) 0 []) → Calls Try.prog 51 #[pt u] W fun e w' => ∃ y, e = .returned (pt y) ∧ LB w w' u 3 4 5017 1 (updL (updL (updL L3 0 [2]) 2 []) 0 []) ∧ ActSt w' y false 0 0 ∧ Stay W w' from fun u W h => (LB.take_ h (by decide)).mono fun e w' ⟨y, at2, Ls2, he, hb, ⟨q2, q3, q4⟩, hs⟩ => by
    subst q3; subst q4
    exact ⟨y, he, hb, q2, hs⟩)
  go_enter Try.func50, Try.ntmps50
  go_wp2_with (first | (go_at_call 49; (with_reducible refine HBG.out.mono ?_); rintro e w' ⟨u, rfl, hl⟩; have HL := Aside0.mk hl; clear hl) | (go_at_call 57; (with_reducible refine (P1.out u _ HL.out).mono ?_); rintro e w' ⟨rfl, hl, hs⟩; have HLn := Aside0.mk hl; clear HL hl hs; have HL := HLn; clear HLn) | (go_at_call 57; (with_reducible refine (P2.out u _ HL.out).mono ?_); rintro e w' ⟨rfl, hl, hs⟩; have HLn := Aside0.mk hl; clear HL hl hs; have HL := HLn; clear HLn) | (go_at_call 57; (with_reducible refine (P3.out u _ HL.out).mono ?_); rintro e w' ⟨rfl, hl, hs⟩; have HLn := Aside0.mk hl; clear HL hl hs; have HL := HLn; clear HLn; obtain ⟨x, hx, hln⟩ := HL.out.lane; have HLEN := Aside0.mk (show Calls Try.prog 58 #[pt x] w' fun e w2 => e = .returned (.int .i64 3) ∧ ∃ m, w2 = w'.drewN m from hln); clear hln) | (go_at_call 58; (with_reducible refine HLEN.out.mono ?_); rintro e w2 ⟨rfl, m, rfl⟩; have HLn := Aside0.mk (HL.out.drewN m); clear HL HLEN; have HL := HLn; clear HLn) | (go_at_call 51; (with_reducible refine (T1.out u _ HL.out).mono ?_); rintro e w' ⟨ya, rfl, hl, ha, hs⟩; have HLn := Aside0.mk hl; have Aya := Aside0.mk ha; clear HL hl hs ha; have HL := HLn; clear HLn) | (go_at_call 51; (with_reducible refine (T2.out u _ HL.out).mono ?_); rintro e w' ⟨yb, rfl, hl, ha, hs⟩; have HLn := Aside0.mk hl; have Ayb := Aside0.mk ha; have Aya2 := Aside0.mk (hs _ _ _ _ Aya.out); clear Aya; have Aya := Aya2; clear Aya2; clear HL hl hs ha; have HL := HLn; clear HLn) | (go_at_call 51; (with_reducible refine (T3.out u _ HL.out).mono ?_); rintro e w' ⟨yc, rfl, hl, ha, hs⟩; have HLn := Aside0.mk hl; have Ayc := Aside0.mk ha; have Aya2 := Aside0.mk (hs _ _ _ _ Aya.out); clear Aya; have Aya := Aya2; clear Aya2; have Ayb2 := Aside0.mk (hs _ _ _ _ Ayb.out); clear Ayb; have Ayb := Ayb2; clear Ayb2; clear HL hl hs ha; have HL := HLn; clear HLn) | (go_at_call 51; (with_reducible refine (T4.out u _ HL.out).mono ?_); rintro e w' ⟨yd, rfl, hl, ha, hs⟩; have HLn := Aside0.mk hl; have Ayd := Aside0.mk ha; have Aya2 := Aside0.mk (hs _ _ _ _ Aya.out); clear Aya; have Aya := Aya2; clear Aya2; have Ayb2 := Aside0.mk (hs _ _ _ _ Ayb.out); clear Ayb; have Ayb := Ayb2; clear Ayb2; have Ayc2 := Aside0.mk (hs _ _ _ _ Ayc.out); clear Ayc; have Ayc := Ayc2; clear Ayc2; clear HL hl hs ha; have HL := HLn; clear HLn) | (go_at_call 54; (with_reducible refine Aya.out.value1.mono ?_); rintro e w' ⟨rfl, rfl⟩) | (go_at_call 54; (with_reducible refine Ayb.out.value1.mono ?_); rintro e w' ⟨rfl, rfl⟩) | (go_at_call 54; (with_reducible refine Ayc.out.value1.mono ?_); rintro e w' ⟨rfl, rfl⟩) | (go_at_call 55; (with_reducible refine Aya.out.from1.mono ?_); rintro e w' ⟨rfl, rfl⟩) | (go_at_call 55; (with_reducible refine Ayb.out.from1.mono ?_); rintro e w' ⟨rfl, rfl⟩) | (go_at_call 55; (with_reducible refine Ayd.out.from0.mono ?_); rintro e w' ⟨rfl, rfl⟩) | (go_at_call 53; (with_reducible refine Ayd.out.ok_.mono ?_); rintro e w' ⟨rfl, rfl⟩) | (go_at_call 56; (with_reducible refine Ayd.out.mark_.mono ?_); rintro e w' ⟨⟨mk, rfl, hmk⟩, rfl⟩; have hmk2 : decide (mk > 0) = true := decide_eq_true (by omega); have hmk3 : decide (0 < mk) = true := decide_eq_true (by omega)))
  go_ret
  exact ⟨by first | rfl | (simp [*]; done), HL.out.below⟩
end Go.Proofs.Ytejplbeddcpmeaa.Lane
