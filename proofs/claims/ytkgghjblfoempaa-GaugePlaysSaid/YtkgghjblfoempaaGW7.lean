/- gauge.Rate, the law's told: their walks; no condition. -/
import Derived.Test.YtkgghjblfoempaaGW6
namespace Go.Proofs.Ytkgghjblfoempaa.GW
open Go.RowKit Go.Proofs.YtkgghjblfoempaaW.PrintWords Go.Proofs.Ytkgghjblfoempaa.Fl
set_option linter.unusedVariables false
set_option linter.unusedSimpArgs false
attribute [local go_sem] run_store_float

theorem rate_ (a b : Int) (w : World) : Calls Try.prog 44 #[.int .u64 a, .int .u64 b] w fun e w' => ∃ r, e = .returned (.float .f64 r) ∧ FR .quo (floatOfInt .f64 a) (floatOfInt .f64 b) r ∧ Below w.heap.size w w' := by
  obtain ⟨r, w1, hq, hf, hw⟩ := arith_run (P := Try.prog) .quo 49 (floatOfInt .f64 a) (floatOfInt .f64 b) w (by simp)
  go_enter Try.func44, Try.ntmps44
  go_wp2
  go_ret
  exact ⟨r, rfl, hf, (drew01 hw).below⟩

theorem FR_det {op : BinOp} {x y r z : Nat} (h : FR op x y r) (e : floatBits op .f64 x y = some z) : r = z := by
  rcases h.2 with ⟨z', e', rfl⟩ | ⟨e', _⟩
  · rw [e] at e'; exact (Option.some.inj e').symm
  · rw [e] at e'; cases e'

theorem take_det {lv mo ro : Nat} {la now : Int} {r : Nat} {ok : Bool} (more room f : Nat) (h : TakeR lv mo ro la now r ok) (ho : openw lv = false) (hm : floatBits .mul .f64 lv (floatOfInt .f64 (age now la)) = some more) (ha : floatBits .add .f64 ro more = some room) (hc : clampw mo room = f) :
    ((FloatKind.f64.format.order f one == some .lt) = true ∧ r = f ∧ ok = false) ∨ ((FloatKind.f64.format.order f one == some .lt) = false ∧ FR .sub f one r ∧ ok = true) := by
  obtain ⟨g, hg, h⟩ := h
  have e : g = f := by
    rcases hg with ⟨h1, _⟩ | ⟨_, m, q, h1, h2, h3⟩
    · rw [ho] at h1; cases h1
    · obtain rfl := FR_det h1 hm
      obtain rfl := FR_det h2 ha
      rw [h3, hc]
  subst e
  rcases h with ⟨h1, _⟩ | ⟨_, h2, h3, h4⟩ | ⟨_, h2, h3, h4⟩
  · rw [ho] at h1; cases h1
  · exact .inl ⟨h2, h3, h4⟩
  · exact .inr ⟨h2, h3, h4⟩

theorem tk1 {r : Nat} {ok : Bool} (h : TakeR 4602678819172646912 4607182418800017408 4607182418800017408 0 0 r ok) : r = 0 ∧ ok = true := by
  have q : (FloatKind.f64.format.order one one == some .lt) = false := by kernel_rfl
  rcases take_det 0 one one h (by kernel_rfl) (by kernel_rfl) (by kernel_rfl) (by kernel_rfl) with ⟨a, _⟩ | ⟨_, b, c⟩
  · rw [q] at a; cases a
  · exact ⟨FR_det b (by kernel_rfl), c⟩
theorem tk2 {r : Nat} {ok : Bool} (h : TakeR 4602678819172646912 4607182418800017408 0 0 0 r ok) : r = 0 ∧ ok = false := by
  have q : (FloatKind.f64.format.order 0 one == some .lt) = true := by kernel_rfl
  rcases take_det 0 0 0 h (by kernel_rfl) (by kernel_rfl) (by kernel_rfl) (by kernel_rfl) with ⟨_, b, c⟩ | ⟨a, _⟩
  · exact ⟨b, c⟩
  · rw [q] at a; cases a
theorem tk3 {r : Nat} {ok : Bool} (h : TakeR 4602678819172646912 4607182418800017408 0 0 2 r ok) : r = 0 ∧ ok = true := by
  have q : (FloatKind.f64.format.order one one == some .lt) = false := by kernel_rfl
  rcases take_det one one one h (by kernel_rfl) (by kernel_rfl) (by kernel_rfl) (by kernel_rfl) with ⟨a, _⟩ | ⟨_, b, c⟩
  · rw [q] at a; cases a
  · exact ⟨FR_det b (by kernel_rfl), c⟩

set_option maxHeartbeats 8000000 in
theorem told_ (w : World) : Calls Try.prog 29 #[] w fun e w' => e = .returned (.bool true) ∧ Below w.heap.size w w' := by
  have HB := Aside0.mk (Below.refl w.heap.size w)
  go_enter Try.func29, Try.ntmps29
  go_wp2_with (first | (go_at_call 32; with_reducible refine (new_ _ _ _ _).mono ?_; rintro e w' ⟨rfl, hb⟩; have HBn := Aside0.mk (below_step (by repeat (first | (with_reducible first | exact HB.out | apply below_alloc | apply pw_below_drewN | apply below_drew1 ) | exact HB.out)) hb); clear HB; have HB := HBn; clear HBn; clear hb) | ((with_reducible refine gate_dst (N := 1) rfl ?_); refine box_event ?hg (N := 1) ?hd (cs := #[.float .f64 0, .float .f64 0, .float .f64 0, .int .u32 0]) (t := 54) ?hr ?_; (case hd => rfl); (case hg => rfl); (case hr => first | (go_simp; done) | (go_simp; rfl)); intro ga hga wa hba0 hb; have gea := Aside0.mk (show w.heap.size ≤ ga from by rw [hga]; exact below_size (by repeat (first | (with_reducible first | exact HB.out | apply below_alloc | apply pw_below_drewN | apply below_drew1 ) | exact HB.out))); have HBn := Aside0.mk (below_step (by repeat (first | (with_reducible first | exact HB.out | apply below_alloc | apply pw_below_drewN | apply below_drew1 ) | exact HB.out)) hb); clear HB; have HB := HBn; clear HBn; have hba := Aside0.mk hba0; clear hba0 hga; have xa0 : wa.cell? ⟨ga, 0, none⟩ = some (.float .f64 0) := (blk_cell hba.out 0).trans rfl; have fa0 := blk_frozen hba.out 0; have xa1 : wa.cell? ⟨ga, 1, none⟩ = some (.float .f64 0) := (blk_cell hba.out 1).trans rfl; have fa1 := blk_frozen hba.out 1; have xa2 : wa.cell? ⟨ga, 2, none⟩ = some (.float .f64 0) := (blk_cell hba.out 2).trans rfl; have fa2 := blk_frozen hba.out 2; have xa3 : wa.cell? ⟨ga, 3, none⟩ = some (.int .u32 0) := (blk_cell hba.out 3).trans rfl; have fa3 := blk_frozen hba.out 3; clear hb))
  refine (take_ _ _ _ _ _ _).mono ?_
  rintro e w1 ⟨r, ok, rfl, ht, hb⟩
  obtain ⟨rfl, rfl⟩ := tk1 ht
  clear ht
  have HBn := Aside0.mk (below_step (by repeat (first | (with_reducible first | exact HB.out | apply below_alloc | apply pw_below_drewN | apply below_drew1 | refine below_set ?_ gea.out ) | exact HB.out)) hb)
  clear HB
  have HB := HBn
  clear HBn
  have hban := Aside0.mk ((hb.block ga (by have q := blk_lt hba.out; simpa [World.setCell] using q)).trans (blk_set (blk_set (blk_set (blk_set hba.out 0 _) 1 _) 2 _) 3 _))
  clear hba xa0 fa0 xa1 fa1 xa2 fa2 xa3 fa3
  have hba := hban
  clear hban
  have xa0 : w1.cell? ⟨ga, 0, none⟩ = some (.float .f64 4602678819172646912) := (blk_cell hba.out 0).trans rfl
  have fa0 := blk_frozen hba.out 0
  have xa1 : w1.cell? ⟨ga, 1, none⟩ = some (.float .f64 4607182418800017408) := (blk_cell hba.out 1).trans rfl
  have fa1 := blk_frozen hba.out 1
  have xa2 : w1.cell? ⟨ga, 2, none⟩ = some (.float .f64 4607182418800017408) := (blk_cell hba.out 2).trans rfl
  have fa2 := blk_frozen hba.out 2
  have xa3 : w1.cell? ⟨ga, 3, none⟩ = some (.int .u32 0) := (blk_cell hba.out 3).trans rfl
  have fa3 := blk_frozen hba.out 3
  clear hb
  go_wp2_with fail
  refine (take_ _ _ _ _ _ _).mono ?_
  rintro e w2 ⟨r, ok, rfl, ht, hb⟩
  obtain ⟨rfl, rfl⟩ := tk2 ht
  clear ht
  have HBn := Aside0.mk (below_step (by repeat (first | (with_reducible first | exact HB.out | apply below_alloc | apply pw_below_drewN | apply below_drew1 | refine below_set ?_ gea.out ) | exact HB.out)) hb)
  clear HB
  have HB := HBn
  clear HBn
  have hban := Aside0.mk ((hb.block ga (by have q := blk_lt hba.out; simpa [World.setCell] using q)).trans (blk_set (blk_set (blk_set (blk_set hba.out 0 _) 1 _) 2 _) 3 _))
  clear hba xa0 fa0 xa1 fa1 xa2 fa2 xa3 fa3
  have hba := hban
  clear hban
  have xa0 : w2.cell? ⟨ga, 0, none⟩ = some (.float .f64 4602678819172646912) := (blk_cell hba.out 0).trans rfl
  have fa0 := blk_frozen hba.out 0
  have xa1 : w2.cell? ⟨ga, 1, none⟩ = some (.float .f64 4607182418800017408) := (blk_cell hba.out 1).trans rfl
  have fa1 := blk_frozen hba.out 1
  have xa2 : w2.cell? ⟨ga, 2, none⟩ = some (.float .f64 0) := (blk_cell hba.out 2).trans rfl
  have fa2 := blk_frozen hba.out 2
  have xa3 : w2.cell? ⟨ga, 3, none⟩ = some (.int .u32 0) := (blk_cell hba.out 3).trans rfl
  have fa3 := blk_frozen hba.out 3
  clear hb
  go_wp2_with fail
  refine (take_ _ _ _ _ _ _).mono ?_
  rintro e w3 ⟨r, ok, rfl, ht, hb⟩
  obtain ⟨rfl, rfl⟩ := tk3 ht
  clear ht
  have HBn := Aside0.mk (below_step (by repeat (first | (with_reducible first | exact HB.out | apply below_alloc | apply pw_below_drewN | apply below_drew1 | refine below_set ?_ gea.out ) | exact HB.out)) hb)
  clear HB
  have HB := HBn
  clear HBn
  have hban := Aside0.mk ((hb.block ga (by have q := blk_lt hba.out; simpa [World.setCell] using q)).trans (blk_set (blk_set (blk_set (blk_set hba.out 0 _) 1 _) 2 _) 3 _))
  clear hba xa0 fa0 xa1 fa1 xa2 fa2 xa3 fa3
  have hba := hban
  clear hban
  have xa0 : w3.cell? ⟨ga, 0, none⟩ = some (.float .f64 4602678819172646912) := (blk_cell hba.out 0).trans rfl
  have fa0 := blk_frozen hba.out 0
  have xa1 : w3.cell? ⟨ga, 1, none⟩ = some (.float .f64 4607182418800017408) := (blk_cell hba.out 1).trans rfl
  have fa1 := blk_frozen hba.out 1
  have xa2 : w3.cell? ⟨ga, 2, none⟩ = some (.float .f64 0) := (blk_cell hba.out 2).trans rfl
  have fa2 := blk_frozen hba.out 2
  have xa3 : w3.cell? ⟨ga, 3, none⟩ = some (.int .u32 0) := (blk_cell hba.out 3).trans rfl
  have fa3 := blk_frozen hba.out 3
  clear hb
  go_wp2_with fail
  refine (rate_ _ _ _).mono ?_
  rintro e w4 ⟨r, rfl, hf, hb⟩
  have HBn := Aside0.mk (below_step (by repeat (first | (with_reducible first | exact HB.out | apply below_alloc | apply pw_below_drewN | apply below_drew1 | refine below_set ?_ gea.out ) | exact HB.out)) hb)
  clear HB
  have HB := HBn
  clear HBn
  clear hb
  have hk0 := hf.1
  have hk : kindw r = 3 := by rw [FR_det hf (show floatBits .quo .f64 (floatOfInt .f64 1) (floatOfInt .f64 0) = some 9218868437227405312 by kernel_rfl)]; kernel_rfl
  clear hf
  go_wp2_with (go_at_call 41; with_reducible refine (kind_ _ hk0 _).mono ?_; rw [hk]; rintro e w' ⟨rfl, rfl⟩)
  clear hk hk0
  refine (rate_ _ _ _).mono ?_
  rintro e w5 ⟨r, rfl, hf, hb⟩
  have HBn := Aside0.mk (below_step (by repeat (first | (with_reducible first | exact HB.out | apply below_alloc | apply pw_below_drewN | apply below_drew1 | refine below_set ?_ gea.out ) | exact HB.out)) hb)
  clear HB
  have HB := HBn
  clear HBn
  clear hb
  have hk0 := hf.1
  have hk : kindw r = 5 := by
    rcases hf.2 with ⟨z, e, _⟩ | ⟨_, c⟩
    · rw [show floatBits .quo .f64 (floatOfInt .f64 0) (floatOfInt .f64 0) = none by kernel_rfl] at e; cases e
    · unfold kindw; rw [if_pos c]
  clear hf
  go_wp2_with (go_at_call 41; with_reducible refine (kind_ _ hk0 _).mono ?_; rw [hk]; rintro e w' ⟨rfl, rfl⟩)
  go_ret
  exact ⟨rfl, (by repeat (first | (with_reducible first | exact HB.out | apply below_alloc | apply pw_below_drewN | apply below_drew1 | refine below_set ?_ gea.out ) | exact HB.out))⟩
end Go.Proofs.Ytkgghjblfoempaa.GW
