/- Ticks, gauge.New, Open: their walks; no condition. -/
import Derived.Test.YtkgghjblfoempaaGW3
namespace Go.Proofs.Ytkgghjblfoempaa.GW
open Go.RowKit Go.Proofs.YtkgghjblfoempaaW.PrintWords Go.Proofs.Ytkgghjblfoempaa.Fl
set_option linter.unusedVariables false
set_option linter.unusedSimpArgs false

def age (now last : Int) : Int := if 2147483648 ≤ (now - last) % 4294967296 then 0 else (now - last) % 4294967296
theorem run_store_float {P : Program} {w : World} {a : Addr} {m : Mode} (k : FloatKind) (b : Nat) : (store a (.float k b) m).run P w = stored P w a (.float k b) m := run_store P w a _ m rfl
attribute [local go_sem] run_store_float
theorem u32_w (n : Int) : IntKind.u32.wrap n = n % 4294967296 := by simp [IntKind.wrap, IntKind.bits, IntKind.signed]

theorem age_ (now last : Int) (w : World) : Calls Try.prog 60 #[.int .u32 now, .int .u32 last] w fun e w' => e = .returned (.int .u32 (age now last)) ∧ w' = w := by
  have hw := u32_w (now - last)
  obtain ⟨d, hd⟩ : ∃ d, (now - last) % 4294967296 = d := ⟨_, rfl⟩
  rw [hd] at hw
  unfold age
  rw [hd]
  by_cases c : 2147483648 ≤ d
  · rw [if_pos c]
    go_enter Try.func60, Try.ntmps60
    go_wp2
    go_ret
    exact ⟨rfl, rfl⟩
  · rw [if_neg c]
    go_enter Try.func60, Try.ntmps60
    go_wp2
    go_ret
    exact ⟨rfl, rfl⟩

def openw (lv : Nat) : Bool := decide (cls lv = 6) || decide (cls lv = 5)
abbrev agg (lv mo ro : Nat) (la : Int) : Value := .agg #[.float .f64 lv, .float .f64 mo, .float .f64 ro, .int .u32 la]

set_option maxHeartbeats 2000000 in
theorem open_ (lv mo ro : Nat) (la : Int) (w : World) : Calls Try.prog 33 #[agg lv mo ro la] w fun e w' => e = .returned (.bool (openw lv)) ∧ Below w.heap.size w w' := by
  have HB := Aside0.mk (Below.refl w.heap.size w)
  unfold openw
  by_cases c : cls lv = 6
  · have h6 : decide (cls lv = 6) = true := decide_eq_true c
    go_enter Try.func33, Try.ntmps33
    go_wp2_with (first | (go_at_call 58; with_reducible refine (isNaN_ _ _).mono ?_; rintro e w' ⟨rfl, rfl⟩) | (go_at_call 59; with_reducible refine (isInf_p _ _).mono ?_; rintro e w' ⟨rfl, rfl⟩))
    go_ret
    exact ⟨by simp [*], (by repeat (first | (with_reducible first | exact HB.out | apply below_alloc | apply pw_below_drewN | apply below_drew1) | exact HB.out))⟩
  · have h6 : decide (cls lv = 6) = false := decide_eq_false c
    go_enter Try.func33, Try.ntmps33
    go_wp2_with (first | (go_at_call 58; with_reducible refine (isNaN_ _ _).mono ?_; rintro e w' ⟨rfl, rfl⟩) | (go_at_call 59; with_reducible refine (isInf_p _ _).mono ?_; rintro e w' ⟨rfl, rfl⟩))
    go_ret
    exact ⟨by simp [*], (by repeat (first | (with_reducible first | exact HB.out | apply below_alloc | apply pw_below_drewN | apply below_drew1) | exact HB.out))⟩

set_option maxHeartbeats 2000000 in
theorem new_ (lv mo : Nat) (la : Int) (w : World) : Calls Try.prog 32 #[.float .f64 lv, .float .f64 mo, .int .u32 la] w fun e w' => e = .returned (agg lv mo mo la) ∧ Below w.heap.size w w' := by
  have HB := Aside0.mk (Below.refl w.heap.size w)
  go_enter Try.func32, Try.ntmps32
  go_wp2_with (first | ((with_reducible refine gate_dst (N := 6) rfl ?_); refine box_event ?hg (N := 6) ?hd (cs := #[.float .f64 0, .float .f64 0, .float .f64 0, .int .u32 0]) (t := 54) ?hr ?_; (case hd => rfl); (case hg => rfl); (case hr => first | (go_simp; done) | (go_simp; rfl)); intro gc hgc wc hbc0 hb; have gec := Aside0.mk (show w.heap.size ≤ gc from by rw [hgc]; exact below_size (by repeat (first | (with_reducible first | exact HB.out | apply below_alloc | apply pw_below_drewN | apply below_drew1 ) | exact HB.out))); have HBn := Aside0.mk (below_step (by repeat (first | (with_reducible first | exact HB.out | apply below_alloc | apply pw_below_drewN | apply below_drew1 ) | exact HB.out)) hb); clear HB; have HB := HBn; clear HBn; have hbc := Aside0.mk hbc0; clear hbc0 hgc; have xc0 : wc.cell? ⟨gc, 0, none⟩ = some (.float .f64 0) := (blk_cell hbc.out 0).trans rfl; have fc0 := blk_frozen hbc.out 0; have xc1 : wc.cell? ⟨gc, 1, none⟩ = some (.float .f64 0) := (blk_cell hbc.out 1).trans rfl; have fc1 := blk_frozen hbc.out 1; have xc2 : wc.cell? ⟨gc, 2, none⟩ = some (.float .f64 0) := (blk_cell hbc.out 2).trans rfl; have fc2 := blk_frozen hbc.out 2; have xc3 : wc.cell? ⟨gc, 3, none⟩ = some (.int .u32 0) := (blk_cell hbc.out 3).trans rfl; have fc3 := blk_frozen hbc.out 3; clear hb))
  refine bodyPost_ret (results_single rfl (.cell gc 54 _ (0, 0) _ rfl (blk_set (blk_set (blk_set (blk_set hbc.out 0 _) 1 _) 2 _) 3 _) Try.underlying54 rfl (by kernel_rfl) .nil)) rfl ?_
  exact ⟨rfl, (by repeat (first | (with_reducible first | exact HB.out | apply below_alloc | apply pw_below_drewN | apply below_drew1 | refine below_set ?_ gec.out ) | exact HB.out))⟩
end Go.Proofs.Ytkgghjblfoempaa.GW
