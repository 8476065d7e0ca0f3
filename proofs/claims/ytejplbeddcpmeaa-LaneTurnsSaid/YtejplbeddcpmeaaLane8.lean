/- lane.New, a lane's Len; no condition beyond bounds. -/
import Derived.Test.YtejplbeddcpmeaaLane7
namespace Go.Proofs.Ytejplbeddcpmeaa.Lane
open Go.RowKit Go.Proofs.YtejplbeddcpmeaaW.PrintWords Go.Proofs.Ytejplbeddcpmeaa.Heap Go.Proofs.Ytejplbeddcpmeaa.Mem Go.Proofs.Ytejplbeddcpmeaa.Ring
set_option linter.unusedVariables false
set_option linter.unusedSimpArgs false

/-- No lane: too few rings, too many, or one that isn't there. -/
theorem new_err (w : World) (A : Option Addr) (c : Nat) (L : List (Option Nat)) (h : RdP w A L) (hn : L.length ≤ 1000) (hbad : L.length < 1 ∨ 64 < L.length ∨ L.contains none = true) :
    Calls Try.prog 59 #[.slice A L.length c] w fun e w' => e = .returned (.tuple #[.pointer none, .int .i64 1]) ∧ w = w' := by
  have HC := Aside0.mk (contains_ w A c L h hn)
  clear h
  by_cases c1 : L.length < 1
  · have d1 : decide ((L.length : Int) < 1) = true := decide_eq_true (by omega)
    go_enter Try.func59, Try.ntmps59
    go_wp2
    go_ret2
    exact ⟨rfl, rfl⟩
  · have d1 : decide ((L.length : Int) < 1) = false := decide_eq_false (by omega)
    by_cases c2 : 64 < L.length
    · have d2 : decide ((64 : Int) < (L.length : Int)) = true := decide_eq_true (by omega)
      have d3 : decide ((L.length : Int) > 64) = true := decide_eq_true (by omega)
      go_enter Try.func59, Try.ntmps59
      go_wp2
      go_ret2
      exact ⟨rfl, rfl⟩
    · have d2 : decide ((64 : Int) < (L.length : Int)) = false := decide_eq_false (by omega)
      have d3 : decide ((L.length : Int) > 64) = false := decide_eq_false (by omega)
      have hc : L.contains none = true := by rcases hbad with q | q | q; omega; omega; exact q
      rw [hc] at HC
      clear hbad hc
      go_enter Try.func59, Try.ntmps59
      go_wp2_with (go_at_call 77; (with_reducible refine HC.out.mono ?_); rintro e w' ⟨rfl, rfl⟩)
      go_ret2
      exact ⟨rfl, rfl⟩
set_option maxHeartbeats 1600000 in
theorem new_ok (w : World) (A : Option Addr) (c : Nat) (L : List (Option Nat)) (h : RdP w A L) (h0 : 1 ≤ L.length) (hn : L.length ≤ 64) (hL : L.contains none = false) :
    Calls Try.prog 59 #[.slice A L.length c] w fun e w' => ∃ x v, e = .returned (.tuple #[pt x, .int .i64 0]) ∧ Blk w' x [v, .int .i64 0, .pointer none] 111 ∧ OwnP w.heap.size w' v L ∧ Below w.heap.size w w' ∧ w.heap.size ≤ x := by
  have HC := Aside0.mk (contains_ w A c L h (by omega))
  have HK := Aside0.mk (clone_ w A c L h (by omega) (by omega))
  rw [hL] at HC
  have d1 : decide ((L.length : Int) < 1) = false := decide_eq_false (by omega)
  have d2 : decide ((64 : Int) < (L.length : Int)) = false := decide_eq_false (by omega)
  have d3 : decide ((L.length : Int) > 64) = false := decide_eq_false (by omega)
  have HB := Aside0.mk (Below.refl w.heap.size w)
  clear h hL h0 hn
  go_enter Try.func59, Try.ntmps59
  go_wp2_with (first | (go_at_call 77; (with_reducible refine HC.out.mono ?_); rintro e w' ⟨rfl, rfl⟩) | (go_at_call 78; (with_reducible refine HK.out.mono ?_); rintro e w2 ⟨v, rfl, ho, hb⟩; obtain ⟨Av, cv, ev, _, _⟩ := OwnP.reads ho; subst ev; have HO := Aside0.mk ho; have HB2 := Aside0.mk hb; clear ho hb HB) | ((with_reducible refine gate_dst (N := 19) rfl ?_); refine box_event ?hg (N := 19) ?hd (cs := #[.slice Av L.length cv, .int .i64 0, .pointer none]) (t := 111) ?hr ?_; (case hd => rfl); (case hg => rfl); (case hr => first | (go_simp; done) | (go_simp; rfl)); intro x hx wb hbb hb; have HX := Aside0.mk hbb; have HXW := Aside0.mk (show w.heap.size ≤ x from by rw [hx]; exact HB2.out.size); have HOb := Aside0.mk (OwnP.chg HO.out (Chg.of_below (S := fun _ => False) hb) (fun _ _ _ => id)); have HBb := Aside0.mk (below_step HB2.out hb); clear hbb hb hx))
  go_ret2
  exact ⟨x, _, rfl, HX.out, HOb.out, HBb.out, HXW.out⟩

def suml (ss : Nat → LR) : Nat → Int
  | 0 => 0
  | k + 1 => suml ss k + (ss k).len
theorem suml_in {n : Nat} {ss : Nat → LR} {M : MemS} (h : ∀ i, i < n → (ss i).Inv M) (k : Nat) (hk : k ≤ n) : 0 ≤ suml ss k ∧ suml ss k ≤ 64 * k := by
  induction k with
  | zero => simp [suml]
  | succ k ih =>
    have := ih (by omega)
    have h1 := (h k (by omega)).len
    have h2 := (h k (by omega)).s1
    have h3 : 0 ≤ (ss k).len := by unfold LR.len; omega
    simp only [suml]
    push_cast
    omega
set_option maxHeartbeats 1600000 in
theorem len_ {w : World} {u : Nat} {p : Mp} {b2 c2 x : Nat} {gs : Nat → Nat} {ss : Nat → LR} {s : LaneS} {M : MemS} (h : LW w u p b2 c2 x gs ss s M) :
    Calls Try.prog 58 #[pt x] w fun e w' => e = .returned (.int .i64 (suml ss s.n)) ∧ ∃ m, w' = w.drewN m := by
  have x0 : w.cell? ⟨x, 0, none⟩ = some (.slice (some ⟨s.b, 0, none⟩) s.n s.c) := (Blk.cell h.lane 0).trans rfl
  have H := Aside0.mk h
  have hn2 := h.n2
  clear h
  go_enter Try.func58, Try.ntmps58
  go_wp2
  go_loopg [3, 13] s.n (fun kq v3 v13 wr => ∃ k m : Nat, Aside0 (kq = s.n - k) ∧ k ≤ s.n ∧ v3 = .int .i64 (suml ss k) ∧ v13 = .int .i64 (k : Int) ∧ wr = w.drewN m)
  case atStart => exact ⟨0, 0, ⟨by omega⟩, by omega, rfl, rfl, rfl⟩
  case round =>
    obtain ⟨k, m, HKQ, hk, rfl, rfl, rfl⟩ := hrel
    by_cases hlt : k < s.n
    · have r0 : w.cell? ⟨s.b, k, none⟩ = some (pt (gs k)) := H.out.row.cell hlt
      have hI := H.out.rings.inv k hlt
      have HRL := Aside0.mk (Ring.len_ (w.drewN m) (gs k) p M ((ss k).ring false false) (H.out.rings.m.drewN m) (RingAt.drewN (H.out.rings.r k hlt) m) (ring_ok hI _ _) (ss k).len (by rw [show M.peek ((ss k).ring false false).base = _ from hI.put, show M.peek (((ss k).ring false false).base + 1) = _ from hI.tak, waits hI]) (by have := hI.len; have := hI.s1; omega))
      have hs1 := suml_in H.out.rings.inv (k + 1) (by omega)
      have hw : IntKind.i64.wrap (suml ss k + (ss k).len) = suml ss (k + 1) := i64_id (by have : suml ss (k + 1) = suml ss k + (ss k).len := rfl; omega)
      clear hI hs1
      go_wp2_with (go_at_call 34; (with_reducible refine HRL.out.mono ?_); rintro e w' ⟨rfl, m2, rfl⟩)
      go_roundg (s.n - (k + 1))
      case measure => have := HKQ.out; omega
      case rel => exact ⟨k + 1, m + m2, ⟨rfl⟩, by omega, rfl, by simp, by simp [World.drewN, Nat.add_assoc]⟩
    · obtain rfl : k = s.n := by omega
      go_wp2
      go_ret
      exact ⟨rfl, m, rfl⟩
end Go.Proofs.Ytejplbeddcpmeaa.Lane
