/- Acts to their ends; no condition. -/
import Derived.Test.YtejplbeddcpmeaaRing4
namespace Go.Proofs.Ytejplbeddcpmeaa.Ring
open Go.RowKit Go.Proofs.YtejplbeddcpmeaaW.PrintWords Go.Proofs.Ytejplbeddcpmeaa.Heap Go.Proofs.Ytejplbeddcpmeaa.Mem
set_option linter.unusedVariables false
set_option linter.unusedSimpArgs false

set_option maxHeartbeats 1600000 in
/-- n steps, the last of which ends it: 'finish' does just these. -/
theorem finish_run (x : Nat) (St : Nat → World → Prop) (n : Nat) (h1 : 1 ≤ n) (h8 : n ≤ 8)
    (hF : ∀ k W, k + 1 < n → St k W → Calls Try.prog 36 #[pt x] W fun e w' => e = .returned (.bool false) ∧ St (k + 1) w')
    (hT : ∀ k W, k + 1 = n → St k W → Calls Try.prog 36 #[pt x] W fun e w' => e = .returned (.bool true) ∧ St n w')
    (hO : ∀ W, St n W → Calls Try.prog 38 #[pt x] W fun e w' => e = .returned (.bool true) ∧ W = w') (w : World) (h : St 0 w) :
    Calls Try.prog 32 #[pt x] w fun e w' => e = .returned (.bool true) ∧ St n w' := by
  have HF := Aside0.mk hF
  have HT := Aside0.mk hT
  have HO := Aside0.mk hO
  have H := Aside0.mk h
  clear hF hT hO h
  go_enter Try.func32, Try.ntmps32
  go_wp2
  go_loopg [3] n (fun kq v w' => ∃ k : Nat, Aside0 (kq = n - k) ∧ k < n ∧ v = .int .i64 (k : Int) ∧ Aside0 (St k w'))
  case atStart => exact ⟨0, ⟨by omega⟩, by omega, rfl, H⟩
  case round =>
    clear H
    obtain ⟨k, HKQ, hk, rfl, H⟩ := hrel
    have hk8 : k < 8 := by omega
    by_cases hl : k + 1 < n
    · go_wp2_with (go_at_call 36; (with_reducible refine (HF.out k _ hl H.out).mono ?_); rintro e w' ⟨rfl, hs⟩; have HS := Aside0.mk hs; clear hs)
      go_roundg (n - (k + 1))
      case measure => have := HKQ.out; omega
      case rel => exact ⟨k + 1, ⟨rfl⟩, hl, by simp, HS⟩
    · have he : k + 1 = n := by omega
      have HE := Aside0.mk he
      clear he hl
      go_wp2_with (first | (go_at_call 36; (with_reducible refine (HT.out k _ HE.out H.out).mono ?_); rintro e w' ⟨rfl, hs⟩; have HS := Aside0.mk hs; clear hs) | (go_at_call 38; (with_reducible refine (HO.out _ HS.out).mono ?_); rintro e w' ⟨rfl, rfl⟩))
      go_ret
      exact ⟨rfl, HS.out⟩

def Apart (s t : LR) : Prop := t.base + t.size + 2 ≤ s.base ∨ s.base + s.size + 2 ≤ t.base
/-- Where an act has come to, k steps behind its begin. -/
structure At (w0 : World) (p : Mp) (g x : Nat) (M0 : MemS) (s0 : LR) (s : LR) (ib ob : Bool) (A : ActS) (k : Nat) (w : World) : Prop where
  body : ∃ M, All w p g x M (s.ring ib ob) A ∧ s.Inv M ∧ M.time = M0.time + k ∧ (∀ t : LR, Apart s0 t → t.Inv M0 → t.Inv M)
  chg : Chg (Mra p g x) w0 w
theorem apart_store {M0 M : MemS} {s0 s : LR} (hI : s.Inv M) (hb : s.base = s0.base) (hs : s.size = s0.size) (h : ∀ t : LR, Apart s0 t → t.Inv M0 → t.Inv M) {i : Int} (hi : s.base ≤ i ∧ i < s.base + s.size + 2) (v : Int) : ∀ t : LR, Apart s0 t → t.Inv M0 → t.Inv (M.store i v) := by
  intro t ha ht
  have b0 := hI.b0; have b1 := hI.b1
  refine Inv.far (h t ha ht) ⟨by omega, by omega⟩ v ?_
  rcases ha with ha | ha
  · right; omega
  · left; omega
theorem apart_load {M0 M : MemS} {s0 : LR} (h : ∀ t : LR, Apart s0 t → t.Inv M0 → t.Inv M) (i : Int) : ∀ t : LR, Apart s0 t → t.Inv M0 → t.Inv (M.load i) := fun t ha ht => Inv.load (h t ha ht) i

/-- The states of a Push that finds no room; that finds room; of a Pop that finds none; that finds one. -/
def stFull (w : World) (p : Mp) (g x : Nat) (M : MemS) (s : LR) (ob : Bool) (v : Int) : Nat → World → Prop
  | 0 => At w p g x M s s true ob ⟨true, 74, v, false, 0, false⟩ 0
  | _ => At w p g x M s s false ob ⟨true, 74, v, false, M.time + 1, true⟩ 1
def stFree (w : World) (p : Mp) (g x : Nat) (M : MemS) (s : LR) (ob : Bool) (v : Int) : Nat → World → Prop
  | 0 => At w p g x M s s true ob ⟨true, 74, v, false, 0, false⟩ 0
  | 1 => At w p g x M s s true ob ⟨true, 81, v, false, 0, false⟩ 1
  | 2 => At w p g x M s { s with laid := some v } true ob ⟨true, 84, v, false, 0, false⟩ 2
  | _ => At w p g x M s { s with laid := none, L := s.L ++ [v] } false ob ⟨true, 84, v, true, M.time + 3, true⟩ 3
def stNone (w : World) (p : Mp) (g x : Nat) (M : MemS) (s : LR) (ib : Bool) : Nat → World → Prop
  | 0 => At w p g x M s s ib true ⟨false, 75, 0, false, 0, false⟩ 0
  | _ => At w p g x M s s ib false ⟨false, 75, 0, false, M.time + 1, true⟩ 1
def stOne (w : World) (p : Mp) (g x : Nat) (M : MemS) (s : LR) (ib : Bool) (v : Int) (L : List Int) : Nat → World → Prop
  | 0 => At w p g x M s s ib true ⟨false, 75, 0, false, 0, false⟩ 0
  | 1 => At w p g x M s s ib true ⟨false, 82, 0, false, 0, false⟩ 1
  | 2 => At w p g x M s s ib true ⟨false, 85, v, false, 0, false⟩ 2
  | _ => At w p g x M s { s with a := (s.a + 1) % s.size, cnt := IntKind.u64.wrap (s.cnt + 1), L := L } ib false ⟨false, 85, v, true, M.time + 3, true⟩ 3
theorem At.start {w : World} {p : Mp} {g x : Nat} {M : MemS} {s : LR} {ib ob : Bool} {A : ActS} (h : All w p g x M (s.ring ib ob) A) (hI : s.Inv M) : At w p g x M s s ib ob A 0 w :=
  ⟨⟨M, h, hI, by omega, fun _ _ h => h⟩, Chg.refl _ _⟩
theorem at_over {w0 w : World} {p : Mp} {g x : Nat} {M0 : MemS} {s0 s : LR} {ib ob : Bool} {A : ActS} {k : Nat} (h : At w0 p g x M0 s0 s ib ob A k w) (ho : A.over = true) : Calls Try.prog 38 #[pt x] w fun e w' => e = .returned (.bool true) ∧ w = w' := by
  obtain ⟨⟨M, ha, _⟩, _⟩ := h
  have := over_ w x g A ha.a
  rwa [ho] at this
theorem hd_has {M : MemS} {s : LR} (h : s.Inv M) : MemS.has M (s.base + 2 + s.a) := by have := h.b0; have := h.b1; have := h.a0; have := h.a1; exact ⟨by omega, by omega⟩
theorem in0 {M : MemS} {s : LR} (h : s.Inv M) : s.base ≤ s.base ∧ s.base < s.base + s.size + 2 := by have := h.s0; omega
theorem in1 {M : MemS} {s : LR} (h : s.Inv M) : s.base ≤ s.base + 1 ∧ s.base + 1 < s.base + s.size + 2 := by have := h.s0; omega
theorem inS {M : MemS} {s : LR} (h : s.Inv M) (j : Int) : s.base ≤ s.slot j ∧ s.slot j < s.base + s.size + 2 := by have := slot_in h j; omega
theorem full0 (w : World) (p : Mp) (g x : Nat) (M : MemS) (s : LR) (ob : Bool) (v : Int) (hf : s.len = s.size) (ht : M.time < 4611686018427387890) (W : World) (h : stFull w p g x M s ob v 0 W) : Calls Try.prog 36 #[pt x] W fun e w' => e = .returned (.bool true) ∧ stFull w p g x M s ob v 1 w' := by
  obtain ⟨⟨M1, ha, hI, hT, hap⟩, hc⟩ := h
  refine (lroom_full W p g x M1 s ob _ ha hI (by omega) rfl rfl rfl hf).mono fun e w' ⟨he, h2, h3⟩ => ⟨he, ⟨M1.load (s.base + 1), ?_, Inv.load hI _, ?_, apart_load hap _⟩, hc.trans h3⟩
  · have e1 : M1.time + 1 = M.time + 1 := by omega
    rw [e1] at h2
    exact h2
  · first | (refine (load_tick (by first | exact has0 hI | exact has1 hI | exact hd_has hI)).trans ?_; omega) | (refine (store_tick (has0 hI) _).trans ?_; omega) | (refine (store_tick (has1 hI) _).trans ?_; omega) | (refine (store_tick (slot_has hI _) _).trans ?_; omega)
theorem free0 (w : World) (p : Mp) (g x : Nat) (M : MemS) (s : LR) (ob : Bool) (v : Int) (hf : s.len < s.size) (ht : M.time < 4611686018427387890) (W : World) (h : stFree w p g x M s ob v 0 W) : Calls Try.prog 36 #[pt x] W fun e w' => e = .returned (.bool false) ∧ stFree w p g x M s ob v 1 w' := by
  obtain ⟨⟨M1, ha, hI, hT, hap⟩, hc⟩ := h
  refine (lroom_free W p g x M1 s ob _ ha hI (by omega) rfl rfl rfl hf).mono fun e w' ⟨he, h2, h3⟩ => ⟨he, ⟨M1.load (s.base + 1), ?_, Inv.load hI _, ?_, apart_load hap _⟩, hc.trans h3⟩
  · have e1 : M1.time + 1 = M.time + 1 := by omega
    clear e1
    exact h2
  · first | (refine (load_tick (by first | exact has0 hI | exact has1 hI | exact hd_has hI)).trans ?_; omega) | (refine (store_tick (has0 hI) _).trans ?_; omega) | (refine (store_tick (has1 hI) _).trans ?_; omega) | (refine (store_tick (slot_has hI _) _).trans ?_; omega)
theorem free1 (w : World) (p : Mp) (g x : Nat) (M : MemS) (s : LR) (ob : Bool) (v : Int) (hf : s.len < s.size) (ht : M.time < 4611686018427387890) (W : World) (h : stFree w p g x M s ob v 1 W) : Calls Try.prog 36 #[pt x] W fun e w' => e = .returned (.bool false) ∧ stFree w p g x M s ob v 2 w' := by
  obtain ⟨⟨M1, ha, hI, hT, hap⟩, hc⟩ := h
  refine (llay W p g x M1 s ob _ ha hI (by omega) rfl rfl rfl).mono fun e w' ⟨he, h2, h3⟩ => ⟨he, ⟨M1.store (s.slot s.len) v, ?_, Inv.lay hI hf v, ?_, apart_store hI rfl rfl hap (inS hI _) _⟩, hc.trans h3⟩
  · have e1 : M1.time + 1 = M.time + 2 := by omega
    clear e1
    exact h2
  · first | (refine (load_tick (by first | exact has0 hI | exact has1 hI | exact hd_has hI)).trans ?_; omega) | (refine (store_tick (has0 hI) _).trans ?_; omega) | (refine (store_tick (has1 hI) _).trans ?_; omega) | (refine (store_tick (slot_has hI _) _).trans ?_; omega)
theorem free2 (w : World) (p : Mp) (g x : Nat) (M : MemS) (s : LR) (ob : Bool) (v : Int) (hf : s.len < s.size) (ht : M.time < 4611686018427387890) (W : World) (h : stFree w p g x M s ob v 2 W) : Calls Try.prog 36 #[pt x] W fun e w' => e = .returned (.bool true) ∧ stFree w p g x M s ob v 3 w' := by
  obtain ⟨⟨M1, ha, hI, hT, hap⟩, hc⟩ := h
  refine (ltell W p g x M1 { s with laid := some v } ob _ ha hI (by omega) rfl rfl rfl v).mono fun e w' ⟨he, h2, h3⟩ => ⟨he, ⟨M1.store s.base (IntKind.u64.wrap (IntKind.u64.wrap (s.cnt + s.len) + 1)), ?_, Inv.tell hI rfl, ?_, apart_store hI rfl rfl hap (in0 hI) _⟩, hc.trans h3⟩
  · have e1 : M1.time + 1 = M.time + 3 := by omega
    rw [e1] at h2
    exact h2
  · first | (refine (load_tick (by first | exact has0 hI | exact has1 hI | exact hd_has hI)).trans ?_; omega) | (refine (store_tick (has0 hI) _).trans ?_; omega) | (refine (store_tick (has1 hI) _).trans ?_; omega) | (refine (store_tick (slot_has hI _) _).trans ?_; omega)
theorem none0 (w : World) (p : Mp) (g x : Nat) (M : MemS) (s : LR) (ib : Bool) (hf : s.L = []) (ht : M.time < 4611686018427387890) (W : World) (h : stNone w p g x M s ib 0 W) : Calls Try.prog 36 #[pt x] W fun e w' => e = .returned (.bool true) ∧ stNone w p g x M s ib 1 w' := by
  obtain ⟨⟨M1, ha, hI, hT, hap⟩, hc⟩ := h
  refine (lsome_none W p g x M1 s ib _ ha hI (by omega) rfl rfl rfl hf).mono fun e w' ⟨he, h2, h3⟩ => ⟨he, ⟨M1.load s.base, ?_, Inv.load hI _, ?_, apart_load hap _⟩, hc.trans h3⟩
  · have e1 : M1.time + 1 = M.time + 1 := by omega
    rw [e1] at h2
    exact h2
  · first | (refine (load_tick (by first | exact has0 hI | exact has1 hI | exact hd_has hI)).trans ?_; omega) | (refine (store_tick (has0 hI) _).trans ?_; omega) | (refine (store_tick (has1 hI) _).trans ?_; omega) | (refine (store_tick (slot_has hI _) _).trans ?_; omega)
theorem one0 (w : World) (p : Mp) (g x : Nat) (M : MemS) (s : LR) (ib : Bool) (v : Int) (L : List Int) (hf : s.L = v :: L) (ht : M.time < 4611686018427387890) (W : World) (h : stOne w p g x M s ib v L 0 W) : Calls Try.prog 36 #[pt x] W fun e w' => e = .returned (.bool false) ∧ stOne w p g x M s ib v L 1 w' := by
  obtain ⟨⟨M1, ha, hI, hT, hap⟩, hc⟩ := h
  refine (lsome_one W p g x M1 s ib _ ha hI (by omega) rfl rfl rfl (by rw [hf]; exact List.cons_ne_nil _ _)).mono fun e w' ⟨he, h2, h3⟩ => ⟨he, ⟨M1.load s.base, ?_, Inv.load hI _, ?_, apart_load hap _⟩, hc.trans h3⟩
  · have e1 : M1.time + 1 = M.time + 1 := by omega
    clear e1
    exact h2
  · first | (refine (load_tick (by first | exact has0 hI | exact has1 hI | exact hd_has hI)).trans ?_; omega) | (refine (store_tick (has0 hI) _).trans ?_; omega) | (refine (store_tick (has1 hI) _).trans ?_; omega) | (refine (store_tick (slot_has hI _) _).trans ?_; omega)
theorem one1 (w : World) (p : Mp) (g x : Nat) (M : MemS) (s : LR) (ib : Bool) (v : Int) (L : List Int) (hf : s.L = v :: L) (ht : M.time < 4611686018427387890) (W : World) (h : stOne w p g x M s ib v L 1 W) : Calls Try.prog 36 #[pt x] W fun e w' => e = .returned (.bool false) ∧ stOne w p g x M s ib v L 2 w' := by
  obtain ⟨⟨M1, ha, hI, hT, hap⟩, hc⟩ := h
  refine (lget W p g x M1 s ib _ ha hI (by omega) rfl rfl rfl v L hf).mono fun e w' ⟨he, h2, h3⟩ => ⟨he, ⟨M1.load (s.base + 2 + s.a), ?_, Inv.load hI _, ?_, apart_load hap _⟩, hc.trans h3⟩
  · have e1 : M1.time + 1 = M.time + 2 := by omega
    clear e1
    exact h2
  · first | (refine (load_tick (by first | exact has0 hI | exact has1 hI | exact hd_has hI)).trans ?_; omega) | (refine (store_tick (has0 hI) _).trans ?_; omega) | (refine (store_tick (has1 hI) _).trans ?_; omega) | (refine (store_tick (slot_has hI _) _).trans ?_; omega)
theorem one2 (w : World) (p : Mp) (g x : Nat) (M : MemS) (s : LR) (ib : Bool) (v : Int) (L : List Int) (hf : s.L = v :: L) (ht : M.time < 4611686018427387890) (W : World) (h : stOne w p g x M s ib v L 2 W) : Calls Try.prog 36 #[pt x] W fun e w' => e = .returned (.bool true) ∧ stOne w p g x M s ib v L 3 w' := by
  obtain ⟨⟨M1, ha, hI, hT, hap⟩, hc⟩ := h
  refine (lleave W p g x M1 s ib _ ha hI (by omega) rfl rfl rfl v L hf).mono fun e w' ⟨he, h2, h3⟩ => ⟨he, ⟨M1.store (s.base + 1) (IntKind.u64.wrap (s.cnt + 1)), ?_, Inv.leave hI hf, ?_, apart_store hI rfl rfl hap (in1 hI) _⟩, hc.trans h3⟩
  · have e1 : M1.time + 1 = M.time + 3 := by omega
    rw [e1] at h2
    exact h2
  · first | (refine (load_tick (by first | exact has0 hI | exact has1 hI | exact hd_has hI)).trans ?_; omega) | (refine (store_tick (has0 hI) _).trans ?_; omega) | (refine (store_tick (has1 hI) _).trans ?_; omega) | (refine (store_tick (slot_has hI _) _).trans ?_; omega)
theorem finish_full (w : World) (p : Mp) (g x : Nat) (M : MemS) (s : LR) (ob : Bool) (v : Int) (h : All w p g x M (s.ring true ob) ⟨true, 74, v, false, 0, false⟩) (hI : s.Inv M) (ht : M.time < 4611686018427387890) (hf : s.len = s.size) :
    Calls Try.prog 32 #[pt x] w fun e w' => e = .returned (.bool true) ∧ stFull w p g x M s ob v 1 w' := by
  refine finish_run x (stFull w p g x M s ob v) 1 (by decide) (by decide) ?_ ?_ ?_ w (At.start h hI)
  · intro k W hk hs
    match k, hk, hs with
    | k, hk, hs => omega
  · intro k W hk hs
    obtain rfl : k = 0 := by omega
    exact full0 w p g x M s ob v hf ht W hs
  · intro W hs
    exact at_over hs rfl
theorem finish_free (w : World) (p : Mp) (g x : Nat) (M : MemS) (s : LR) (ob : Bool) (v : Int) (h : All w p g x M (s.ring true ob) ⟨true, 74, v, false, 0, false⟩) (hI : s.Inv M) (ht : M.time < 4611686018427387890) (hf : s.len < s.size) :
    Calls Try.prog 32 #[pt x] w fun e w' => e = .returned (.bool true) ∧ stFree w p g x M s ob v 3 w' := by
  refine finish_run x (stFree w p g x M s ob v) 3 (by decide) (by decide) ?_ ?_ ?_ w (At.start h hI)
  · intro k W hk hs
    match k, hk, hs with
    | 0, hk, hs => exact free0 w p g x M s ob v hf ht W hs
    | 1, hk, hs => exact free1 w p g x M s ob v hf ht W hs
  · intro k W hk hs
    obtain rfl : k = 2 := by omega
    exact free2 w p g x M s ob v hf ht W hs
  · intro W hs
    exact at_over hs rfl
theorem finish_none (w : World) (p : Mp) (g x : Nat) (M : MemS) (s : LR) (ib : Bool) (h : All w p g x M (s.ring ib true) ⟨false, 75, 0, false, 0, false⟩) (hI : s.Inv M) (ht : M.time < 4611686018427387890) (hf : s.L = []) :
    Calls Try.prog 32 #[pt x] w fun e w' => e = .returned (.bool true) ∧ stNone w p g x M s ib 1 w' := by
  refine finish_run x (stNone w p g x M s ib) 1 (by decide) (by decide) ?_ ?_ ?_ w (At.start h hI)
  · intro k W hk hs
    match k, hk, hs with
    | k, hk, hs => omega
  · intro k W hk hs
    obtain rfl : k = 0 := by omega
    exact none0 w p g x M s ib hf ht W hs
  · intro W hs
    exact at_over hs rfl
theorem finish_one (w : World) (p : Mp) (g x : Nat) (M : MemS) (s : LR) (ib : Bool) (h : All w p g x M (s.ring ib true) ⟨false, 75, 0, false, 0, false⟩) (hI : s.Inv M) (ht : M.time < 4611686018427387890) (v : Int) (L : List Int) (hf : s.L = v :: L) :
    Calls Try.prog 32 #[pt x] w fun e w' => e = .returned (.bool true) ∧ stOne w p g x M s ib v L 3 w' := by
  refine finish_run x (stOne w p g x M s ib v L) 3 (by decide) (by decide) ?_ ?_ ?_ w (At.start h hI)
  · intro k W hk hs
    match k, hk, hs with
    | 0, hk, hs => exact one0 w p g x M s ib v L hf ht W hs
    | 1, hk, hs => exact one1 w p g x M s ib v L hf ht W hs
  · intro k W hk hs
    obtain rfl : k = 2 := by omega
    exact one2 w p g x M s ib v L hf ht W hs
  · intro W hs
    exact at_over hs rfl

end Go.Proofs.Ytejplbeddcpmeaa.Ring
