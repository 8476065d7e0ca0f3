/- The laws' putting to its end (world.put); a lane's Len; no condition beyond a bound of the time. -/
import Derived.Test.YtejplbeddcpmeaaLane5
namespace Go.Proofs.Ytejplbeddcpmeaa.Lane
open Go.RowKit Go.Proofs.YtejplbeddcpmeaaW.PrintWords Go.Proofs.Ytejplbeddcpmeaa.Heap Go.Proofs.Ytejplbeddcpmeaa.Mem Go.Proofs.Ytejplbeddcpmeaa.Ring
set_option linter.unusedVariables false
set_option linter.unusedSimpArgs false

set_option maxHeartbeats 4000000 in
set_option maxRecDepth 100000 in
theorem put_run (w : World) (u : Nat) (p : Mp) (b n c x N i g : Nat) (v : Int) (r : Bool) (gs : Nat → Nat) (St : Nat → Nat → World → Prop) (Fin : Nat → World → Prop) (hw : WdAt w u p b n c x) (hrow : Row w b n gs) (hi : i < n) (hg : gs i = g) (hN0 : 1 ≤ N) (hN1 : N ≤ 8) (hn : n ≤ 1000)
    (HN : Calls Try.prog 33 #[pt g, .int .u64 v] w fun e w' => ∃ y, e = .returned (pt y) ∧ St y 0 w')
    (HT : ∀ y i W, i + 1 < N → St y i W → Calls Try.prog 36 #[pt y] W fun e w' => e = .returned (.bool false) ∧ St y (i + 1) w')
    (HL : ∀ y W, St y (N - 1) W → Calls Try.prog 36 #[pt y] W fun e w' => e = .returned (.bool true) ∧ Fin y w')
    (HF : ∀ y W, Fin y W → Calls Try.prog 37 #[pt y] W fun e w' => e = .returned (.bool r) ∧ W = w') :
    Calls Try.prog 57 #[pt u, .int .i64 (i : Int), .int .u64 v] w fun e w' => ∃ y, e = .returned (.bool r) ∧ Fin y w' := by
  have x1 : w.cell? ⟨u, 1, none⟩ = some (.slice (some ⟨b, 0, none⟩) n c) := (Blk.cell hw 1).trans rfl
  have x2 : w.cell? ⟨b, i, none⟩ = some (pt g) := by rw [← hg]; exact hrow.cell hi
  have H1 := Aside0.mk HN
  have H3 := Aside0.mk HT
  have H4 := Aside0.mk HL
  have H5 := Aside0.mk HF
  have e1 : (0 : Int) ≤ (i : Int) := by omega
  have e2 : (i : Int) < (n : Int) := by omega
  clear HN HT HL HF hw hrow hg
  go_enter Try.func57, Try.ntmps57
  go_wp2_with (go_at_call 33; (with_reducible refine H1.out.mono ?_); rintro e w1 ⟨y, rfl, hst⟩; have HS := Aside0.mk hst; clear hst)
  go_loopg [8] N (fun kq v8 wr => ∃ j : Nat, Aside0 (kq = N - j) ∧ j < N ∧ v8 = .int .i64 (j : Int) ∧ Aside0 (St y j wr))
  case atStart => exact ⟨0, ⟨by omega⟩, by omega, rfl, HS⟩
  case round =>
    clear HS
    obtain ⟨j, HKQ, hj, rfl, HS⟩ := hrel
    have hlt : decide ((j : Int) < 8) = true := decide_eq_true (by omega)
    have hlt2 : (j : Int) < 8 := by omega
    by_cases hlast : j + 1 < N
    · go_wp2_with (go_at_call 36; (with_reducible refine (H3.out y j _ hlast HS.out).mono ?_); rintro e w2 ⟨rfl, hst⟩; have HS2 := Aside0.mk hst; clear hst)
      go_roundg (N - (j + 1))
      case measure => have := HKQ.out; omega
      case rel => exact ⟨j + 1, ⟨rfl⟩, hlast, by simp, HS2⟩
    · obtain rfl : j = N - 1 := by omega
      go_wp2_with (first | (go_at_call 36; (with_reducible refine (H4.out y _ HS.out).mono ?_); rintro e w2 ⟨rfl, hfin⟩; have HFN := Aside0.mk hfin; clear hfin) | (go_at_call 37; (with_reducible refine (H5.out y _ HFN.out).mono ?_); rintro e w3 ⟨rfl, rfl⟩))
      go_ret
      exact ⟨y, rfl, HFN.out⟩

def LR.pushed (t : LR) (v : Int) : LR := if t.len < t.size then { t with laid := none, L := t.L ++ [v] } else t
theorem pushed_base (t : LR) (v : Int) : (LR.pushed t v).base = t.base := by unfold LR.pushed; split <;> rfl
theorem pushed_size (t : LR) (v : Int) : (LR.pushed t v).size = t.size := by unfold LR.pushed; split <;> rfl
section
variable {w : World} {u : Nat} {p : Mp} {b2 c2 x : Nat} {gs : Nat → Nat} {ss : Nat → LR} {s : LaneS} {M : MemS}
/-- One ring is another one then: the rest stays. -/
theorem LW.one (h : LW w u p b2 c2 x gs ss s M) {w' : World} {M' : MemS} {t : LR} {i : Nat} (hi : i < s.n) (hc : Chg (fun k => p.has k ∨ k = gs i) w w') (hm : MemAt 97 w' p M') (hr : RingAt w' (gs i) p (t.ring false false)) (hI : t.Inv M') (hb : t.base = (ss i).base) (hs : t.size = (ss i).size) (hap : ∀ q : LR, Apart (ss i) q → q.Inv M → q.Inv M') : LW w' u p b2 c2 x gs (upd ss i t) s M' := by
  have hx : ∀ {k t : Nat} {cs : List Value}, Blk w k cs t → t ≠ 97 → t ≠ 29 → t ≠ 3 → t ≠ 103 → Blk w' k cs t := fun hb h1 h2 h3 h4 => Blk.chg hb hc (by rintro (q | q); exact ne_mem h.rings.m hb h1 h2 h3 q; exact Blk.ne hb (h.rings.r i hi) h4 q)
  refine ⟨hx h.wd (by decide) (by decide) (by decide) (by decide), ?_, hx h.lane (by decide) (by decide) (by decide) (by decide), ?_, ⟨hm, fun j hj => ?_, fun j hj => ?_, upd_ap h.rings.ap hb hs, h.rings.ne⟩, ?_, h.at0, h.n2⟩
  · obtain ⟨cs, hb, hr⟩ := h.row2
    exact ⟨cs, hx hb (by decide) (by decide) (by decide) (by decide), hr⟩
  · obtain ⟨cs, hb, hr⟩ := h.row
    exact ⟨cs, hx hb (by decide) (by decide) (by decide) (by decide), hr⟩
  · by_cases e : j = i
    · subst e
      rw [upd_same]; exact hr
    · rw [upd_far ss _ e]
      refine Blk.chg (h.rings.r j hj) hc ?_
      rintro (q | q)
      · exact ne_mem h.rings.m (h.rings.r j hj) (by decide) (by decide) (by decide) q
      · exact h.rings.ne _ _ hj hi e q
  · by_cases e : j = i
    · subst e
      rw [upd_same]; exact hI
    · rw [upd_far ss _ e]; exact hap _ (h.rings.ap _ _ hi hj (fun q => e q.symm)) (h.rings.inv j hj)
  · rcases h.act with q | ⟨y, x', a, q, ha, ho⟩
    · exact .inl q
    · exact .inr ⟨y, x', a, q, hx ha (by decide) (by decide) (by decide) (by decide), ho⟩
/-- Behind a putting. -/
structure Put (w0 : World) (u : Nat) (p : Mp) (b2 c2 x : Nat) (gs : Nat → Nat) (ss : Nat → LR) (s : LaneS) (M : MemS) (i : Nat) (v : Int) (w : World) : Prop where
  ex : ∃ M', LW w u p b2 c2 x gs (upd ss i (LR.pushed (ss i) v)) s M' ∧ M'.time ≤ M.time + 3
  chg : Chg (fun k => p.has k ∨ k = gs i) w0 w
set_option maxHeartbeats 1600000 in
theorem put_ (h : LW w u p b2 c2 x gs ss s M) (i : Nat) (hi : i < s.n) (v : Int) (hv : 0 ≤ v ∧ v ≤ 18446744073709551615) (ht : M.time < 4611686018427380000) :
    Calls Try.prog 57 #[pt u, .int .i64 (i : Int), .int .u64 v] w fun e w' => e = .returned (.bool (decide ((ss i).len < (ss i).size))) ∧ Put w u p b2 c2 x gs ss s M i v w' := by
  have hinv := h.rings.inv i hi
  have HP := push_new w (gs i) p M ((ss i).ring false false) h.rings.m (h.rings.r i hi) (ring_ok hinv false false) rfl v hv
  have mk : ∀ {w1 W : World} {px : Nat}, Chg (fun k => k = gs i) w w1 → w.heap.size ≤ px → Chg (Mra p (gs i) px) w1 W → Chg (fun k => p.has k ∨ k = gs i) w W := fun h1 h2 h3 => Chg.step (Chg.mono h1 (fun _ _ q => .inr q)) h3 (fun k hk q => by rcases q with q | q | q; exact .inl q; exact .inr q; exact absurd hk (by rw [q]; exact Nat.not_lt.2 h2))
  by_cases hf : (ss i).len < (ss i).size
  · rw [decide_eq_true hf]
    refine (put_run w u p b2 s.n c2 x 3 i (gs i) v true gs (fun px j W => ∃ w1, Chg (fun k => k = gs i) w w1 ∧ w.heap.size ≤ px ∧ stFree w1 p (gs i) px M (ss i) false v j W) (fun px W => ∃ w1, Chg (fun k => k = gs i) w w1 ∧ w.heap.size ≤ px ∧ stFree w1 p (gs i) px M (ss i) false v 3 W) h.wd h.row2 hi rfl (by decide) (by decide) h.n2 (HP.mono fun e w' ⟨px, he, ha, hc, hp⟩ => ⟨px, he, w', hc, hp, At.start ha hinv⟩) ?_ ?_ ?_).mono fun e w' ⟨px, he, w1, hc1, hp1, q⟩ => ⟨he, ?_⟩
    · rintro px j W hj ⟨w1, h1, h2, q⟩
      match j, hj with
      | 0, _ => exact (free0 w1 p (gs i) px M (ss i) false v hf (by omega) W q).mono fun e w' ⟨he, q⟩ => ⟨he, w1, h1, h2, q⟩
      | 1, _ => exact (free1 w1 p (gs i) px M (ss i) false v hf (by omega) W q).mono fun e w' ⟨he, q⟩ => ⟨he, w1, h1, h2, q⟩
    · rintro px W ⟨w1, h1, h2, q⟩
      exact (free2 w1 p (gs i) px M (ss i) false v hf (by omega) W q).mono fun e w' ⟨he, q⟩ => ⟨he, w1, h1, h2, q⟩
    · rintro px W ⟨w1, h1, h2, ⟨M', ha, _⟩, _⟩
      exact Ring.ok_ W px (gs i) _ ha.a
    · obtain ⟨⟨M', ha, hI, hT, hap⟩, hcm⟩ := q
      have hpu : LR.pushed (ss i) v = { ss i with laid := none, L := (ss i).L ++ [v] } := by unfold LR.pushed; rw [if_pos hf]
      refine ⟨⟨M', ?_, by omega⟩, mk hc1 hp1 hcm⟩
      rw [hpu]
      exact h.one hi (mk hc1 hp1 hcm) ha.m ha.r hI rfl rfl hap
  · rw [decide_eq_false hf]
    have hf2 : (ss i).len = (ss i).size := by have := hinv.len; omega
    refine (put_run w u p b2 s.n c2 x 1 i (gs i) v false gs (fun px j W => j = 0 ∧ ∃ w1, Chg (fun k => k = gs i) w w1 ∧ w.heap.size ≤ px ∧ stFull w1 p (gs i) px M (ss i) false v 0 W) (fun px W => ∃ w1, Chg (fun k => k = gs i) w w1 ∧ w.heap.size ≤ px ∧ stFull w1 p (gs i) px M (ss i) false v 1 W) h.wd h.row2 hi rfl (by decide) (by decide) h.n2 (HP.mono fun e w' ⟨px, he, ha, hc, hp⟩ => ⟨px, he, rfl, w', hc, hp, At.start ha hinv⟩) ?_ ?_ ?_).mono fun e w' ⟨px, he, w1, hc1, hp1, q⟩ => ⟨he, ?_⟩
    · rintro px j W hj ⟨w1, h1, h2, q⟩
      omega
    · rintro px W ⟨_, w1, h1, h2, q⟩
      exact (full0 w1 p (gs i) px M (ss i) false v hf2 (by omega) W q).mono fun e w' ⟨he, q⟩ => ⟨he, w1, h1, h2, q⟩
    · rintro px W ⟨w1, h1, h2, ⟨M', ha, _⟩, _⟩
      exact Ring.ok_ W px (gs i) _ ha.a
    · obtain ⟨⟨M', ha, hI, hT, hap⟩, hcm⟩ := q
      have hpu : LR.pushed (ss i) v = ss i := by unfold LR.pushed; rw [if_neg hf]
      refine ⟨⟨M', ?_, by omega⟩, mk hc1 hp1 hcm⟩
      rw [hpu]
      exact h.one hi (mk hc1 hp1 hcm) ha.m ha.r hI rfl rfl hap
end
end Go.Proofs.Ytejplbeddcpmeaa.Lane
