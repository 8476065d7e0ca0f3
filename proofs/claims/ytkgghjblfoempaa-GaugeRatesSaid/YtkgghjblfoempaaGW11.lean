/- The law GaugeRates: its walk; no condition. -/
import Derived.Test.YtkgghjblfoempaaGW10
import Derived.Test.YtkgghjblfoempaaWMore
import Derived.Test.YtkgghjblfoempaaOpenF
namespace Go.Proofs.Ytkgghjblfoempaa.GW
open Go.RowKit Go.Proofs.YtkgghjblfoempaaW.PrintWords Go.Proofs.Ytkgghjblfoempaa.Fl
set_option linter.unusedVariables false
set_option linter.unusedSimpArgs false
attribute [local go_sem] Go.Proofs.YtkgghjblfoempaaW.PrintMore.min2_int Go.Proofs.YtkgghjblfoempaaW.PrintMore.min_two

theorem wf_f64 {b : Nat} (h : (Lit.float .f64 b).wf = true) : b < 18446744073709551616 := by simpa [Lit.wf] using h
theorem FR_lt {op : BinOp} {x y r : Nat} (h : FR op x y r) : r < 18446744073709551616 := h.1

theorem rrate_ (a b : Int) (w : World) : Calls Try.prog 45 #[.int .u64 a, .int .u64 b] w fun e w' => ∃ r, e = .returned (.float .f64 r) ∧ FR .quo (floatOfInt .f64 a) (floatOfInt .f64 b) r ∧ Below w.heap.size w w' := by
  obtain ⟨r, w1, hq, hf, hw⟩ := arith_run (P := Try.prog) .quo 49 (floatOfInt .f64 a) (floatOfInt .f64 b) w (by simp)
  go_enter Try.func45, Try.ntmps45
  go_wp2
  go_ret
  exact ⟨r, rfl, hf, (drew01 hw).below⟩

theorem busiest_n (A : Option Addr) (c : Nat) (L : List Nat) (w : World) {n : Nat} (hL : L.length = n) (h : FlC w A L) (hn : n ≤ 1000) : Calls Try.prog 46 #[.slice A n c] w fun e w' => e = .returned (.int .i64 (bs L n)) ∧ w' = w := by
  subst hL
  exact busiest_ A c L w h hn
theorem rbusiest_n (A : Option Addr) (c : Nat) (L : List Nat) (w : World) {n : Nat} (hL : L.length = n) (h : FlC w A L) (hn : n ≤ 1000) (hw : ∀ i, L.getD i 0 < 18446744073709551616) : Calls Try.prog 47 #[.slice A n c] w fun e w' => e = .returned (.int .i64 (bs L n)) ∧ Below w.heap.size w w' := by
  subst hL
  exact rbusiest_ A c L w h hn hw

theorem FlC.take {w : World} {A : Option Addr} {l : List Nat} (h : FlC w A l) (n : Nat) : FlC w A (l.take n) := fun hp => by
  rw [List.length_take] at hp
  obtain ⟨ad, e, hc⟩ := h (by omega)
  refine ⟨ad, e, fun i hi => ?_⟩
  rw [List.length_take] at hi
  have q := hc i (by omega)
  rwa [List.getD_eq_getElem?_getD, List.getElem?_take_of_lt (by omega), ← List.getD_eq_getElem?_getD]

set_option maxHeartbeats 8000000 in
theorem GaugeRates_calls (fr ti : Int) (A : Option Addr) (c : Nat) (l : List Nat) (w : World) (h : FlC w A l) (hw : ∀ x ∈ l, x < 18446744073709551616) (hc : l.length ≤ c) (h63 : l.length ≤ 9223372036854775807) :
    Calls Try.prog 12 #[.int .u64 fr, .int .u64 ti, .slice A l.length c] w fun e w' => e = .returned (.bool true) ∧ Below w.heap.size w w' := by
  have HB := Aside0.mk (Below.refl w.heap.size w)
  have hw' : ∀ L : List Nat, (∀ x ∈ L, x < 18446744073709551616) → ∀ i, L.getD i 0 < 18446744073709551616 := by
    intro L hL i
    rw [List.getD_eq_getElem?_getD]
    by_cases q : i < L.length
    · rw [List.getElem?_eq_getElem q, Option.getD_some]; exact hL _ (List.getElem_mem q)
    · rw [List.getElem?_eq_none (by omega)]; decide
  by_cases hn2 : 200 < l.length
  · obtain ⟨L, hLd⟩ : ∃ L, l.take 200 = L := ⟨_, rfl⟩
    have hL : L.length = 200 := by rw [← hLd, List.length_take]; omega
    have HC := Aside0.mk (show FlC w A L from hLd ▸ h.take 200)
    have HW := Aside0.mk (hw' L (fun x hx => hw x (by rw [← hLd] at hx; exact List.mem_of_mem_take hx)))
    have hn : (200 : Nat) ≤ 1000 := by decide
    have q1 : (200 : Int) < (l.length : Int) := by omega
    have q2 : (200 : Int) ≤ (c : Int) := by omega
    clear hw hw' h hLd h63
    go_enter Try.func12, Try.ntmps12
    go_wp2_with (first | (go_at_call 29; with_reducible refine (told_ _).mono ?_; rintro e w' ⟨rfl, hb⟩; have HBn := Aside0.mk (below_step (by repeat (first | (with_reducible first | exact HB.out | apply below_alloc | apply pw_below_drewN | apply below_drew1 ) | exact HB.out)) hb); clear HB; have HB := HBn; clear HBn; clear hb) | (go_at_call 44; with_reducible refine (rate_ _ _ _).mono ?_; rintro e w' ⟨r1, rfl, hf1, hb⟩; have HBn := Aside0.mk (below_step (by repeat (first | (with_reducible first | exact HB.out | apply below_alloc | apply pw_below_drewN | apply below_drew1 ) | exact HB.out)) hb); clear HB; have HB := HBn; clear HBn; clear hb) | (go_at_call 45; with_reducible refine (rrate_ _ _ _).mono ?_; rintro e w' ⟨r2, rfl, hf2, hb⟩; have HBn := Aside0.mk (below_step (by repeat (first | (with_reducible first | exact HB.out | apply below_alloc | apply pw_below_drewN | apply below_drew1 ) | exact HB.out)) hb); clear HB; have HB := HBn; clear HBn; clear hb) | (go_at_call 39; have hE := E.cmp (FR.congr (E.refl _) (E.refl _) hf1 hf2); with_reducible refine (rsame_ _ _ (FR_lt hf1) (FR_lt hf2) _).mono ?_; rw [hE]; rintro e w' ⟨rfl, hb⟩; have HBn := Aside0.mk (below_step (by repeat (first | (with_reducible first | exact HB.out | apply below_alloc | apply pw_below_drewN | apply below_drew1 ) | exact HB.out)) hb); clear HB; have HB := HBn; clear HBn; clear hb) | (go_at_call 46; with_reducible refine (busiest_n A c L _ hL (HC.out.below (by repeat (first | (with_reducible first | exact HB.out | apply below_alloc | apply pw_below_drewN | apply below_drew1 ) | exact HB.out))) hn).mono ?_; rintro e w' ⟨rfl, rfl⟩) | (go_at_call 47; with_reducible refine (rbusiest_n A c L _ hL (HC.out.below (by repeat (first | (with_reducible first | exact HB.out | apply below_alloc | apply pw_below_drewN | apply below_drew1 ) | exact HB.out))) hn HW.out).mono ?_; rintro e w' ⟨rfl, hb⟩; have HBn := Aside0.mk (below_step (by repeat (first | (with_reducible first | exact HB.out | apply below_alloc | apply pw_below_drewN | apply below_drew1 ) | exact HB.out)) hb); clear HB; have HB := HBn; clear HBn; clear hb))
    go_ret
    exact ⟨rfl, (by repeat (first | (with_reducible first | exact HB.out | apply below_alloc | apply pw_below_drewN | apply below_drew1 ) | exact HB.out))⟩
  · obtain ⟨L, hLd⟩ : ∃ L, l = L := ⟨_, rfl⟩
    subst hLd
    obtain ⟨n, hL⟩ : ∃ n, l.length = n := ⟨_, rfl⟩
    have HC := Aside0.mk h
    have HW := Aside0.mk (hw' l hw)
    rw [hL] at hn2 hc h63 ⊢
    have hn : n ≤ 1000 := by omega
    have q1 : ¬ (200 : Int) < (n : Int) := by omega
    have q2 : (n : Int) ≤ (c : Int) := by omega
    have q3 : (0 : Int) ≤ (n : Int) := by omega
    clear hw hw' h h63
    go_enter Try.func12, Try.ntmps12
    go_wp2_with (first | (go_at_call 29; with_reducible refine (told_ _).mono ?_; rintro e w' ⟨rfl, hb⟩; have HBn := Aside0.mk (below_step (by repeat (first | (with_reducible first | exact HB.out | apply below_alloc | apply pw_below_drewN | apply below_drew1 ) | exact HB.out)) hb); clear HB; have HB := HBn; clear HBn; clear hb) | (go_at_call 44; with_reducible refine (rate_ _ _ _).mono ?_; rintro e w' ⟨r1, rfl, hf1, hb⟩; have HBn := Aside0.mk (below_step (by repeat (first | (with_reducible first | exact HB.out | apply below_alloc | apply pw_below_drewN | apply below_drew1 ) | exact HB.out)) hb); clear HB; have HB := HBn; clear HBn; clear hb) | (go_at_call 45; with_reducible refine (rrate_ _ _ _).mono ?_; rintro e w' ⟨r2, rfl, hf2, hb⟩; have HBn := Aside0.mk (below_step (by repeat (first | (with_reducible first | exact HB.out | apply below_alloc | apply pw_below_drewN | apply below_drew1 ) | exact HB.out)) hb); clear HB; have HB := HBn; clear HBn; clear hb) | (go_at_call 39; have hE := E.cmp (FR.congr (E.refl _) (E.refl _) hf1 hf2); with_reducible refine (rsame_ _ _ (FR_lt hf1) (FR_lt hf2) _).mono ?_; rw [hE]; rintro e w' ⟨rfl, hb⟩; have HBn := Aside0.mk (below_step (by repeat (first | (with_reducible first | exact HB.out | apply below_alloc | apply pw_below_drewN | apply below_drew1 ) | exact HB.out)) hb); clear HB; have HB := HBn; clear HBn; clear hb) | (go_at_call 46; with_reducible refine (busiest_n A c l _ hL (HC.out.below (by repeat (first | (with_reducible first | exact HB.out | apply below_alloc | apply pw_below_drewN | apply below_drew1 ) | exact HB.out))) hn).mono ?_; rintro e w' ⟨rfl, rfl⟩) | (go_at_call 47; with_reducible refine (rbusiest_n A c l _ hL (HC.out.below (by repeat (first | (with_reducible first | exact HB.out | apply below_alloc | apply pw_below_drewN | apply below_drew1 ) | exact HB.out))) hn HW.out).mono ?_; rintro e w' ⟨rfl, hb⟩; have HBn := Aside0.mk (below_step (by repeat (first | (with_reducible first | exact HB.out | apply below_alloc | apply pw_below_drewN | apply below_drew1 ) | exact HB.out)) hb); clear HB; have HB := HBn; clear HBn; clear hb))
    go_ret
    exact ⟨rfl, (by repeat (first | (with_reducible first | exact HB.out | apply below_alloc | apply pw_below_drewN | apply below_drew1 ) | exact HB.out))⟩
theorem flC_of {w : World} {A : Option Addr} {l : List Nat} (h : Opens.RowC Opens.floatK 1 w A l.length l) : FlC w A l := fun hp => by
  obtain ⟨ad, e, _⟩ := Opens.RowC.one (v := fun x => Value.float .f64 x) h 0 hp
  refine ⟨ad, e, fun i hi => ?_⟩
  obtain ⟨ad2, e2, x⟩ := Opens.RowC.one (v := fun x => Value.float .f64 x) h i hi
  cases e.symm.trans e2
  rw [x, List.getD_eq_getElem?_getD, List.getElem?_eq_getElem hi]
  rfl
end Go.Proofs.Ytkgghjblfoempaa.GW
