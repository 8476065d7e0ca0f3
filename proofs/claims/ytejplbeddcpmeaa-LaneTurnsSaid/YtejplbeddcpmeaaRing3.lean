/- Steps, begins and readings of rings and their acts; no condition. -/
import Derived.Test.YtejplbeddcpmeaaRing2
namespace Go.Proofs.Ytejplbeddcpmeaa.Ring
open Go.RowKit Go.Proofs.YtejplbeddcpmeaaW.PrintWords Go.Proofs.Ytejplbeddcpmeaa.Heap Go.Proofs.Ytejplbeddcpmeaa.Mem
set_option linter.unusedVariables false
set_option linter.unusedSimpArgs false

theorem over_ (w : World) (x g : Nat) (A : ActS) (h : ActAt w x g A) : Calls Try.prog 38 #[pt x] w fun e w' => e = .returned (.bool A.over) ∧ w = w' := by
  have hx : w.cell? ⟨x, 6, none⟩ = some (.bool A.over) := (Blk.cell h 6).trans rfl
  clear h
  go_enter Try.func38, Try.ntmps38
  go_wp2
  go_ret
  exact ⟨by first | rfl | (simp; done), rfl⟩
theorem mark_ (w : World) (x g : Nat) (A : ActS) (h : ActAt w x g A) : Calls Try.prog 39 #[pt x] w fun e w' => e = .returned (.int .i64 A.mark) ∧ w = w' := by
  have hx : w.cell? ⟨x, 5, none⟩ = some (.int .i64 A.mark) := (Blk.cell h 5).trans rfl
  clear h
  go_enter Try.func39, Try.ntmps39
  go_wp2
  go_ret
  exact ⟨by first | rfl | (simp; done), rfl⟩
theorem ok_ (w : World) (x g : Nat) (A : ActS) (h : ActAt w x g A) : Calls Try.prog 37 #[pt x] w fun e w' => e = .returned (.bool A.ok) ∧ w = w' := by
  have hx : w.cell? ⟨x, 4, none⟩ = some (.bool A.ok) := (Blk.cell h 4).trans rfl
  clear h
  go_enter Try.func37, Try.ntmps37
  go_wp2
  go_ret
  exact ⟨by first | rfl | (simp; done), rfl⟩
theorem value_ (w : World) (x g : Nat) (A : ActS) (h : ActAt w x g A) : Calls Try.prog 42 #[pt x] w fun e w' => e = .returned (.int .u64 (if A.ok then A.value else 0)) ∧ w = w' := by
  have hx4 : w.cell? ⟨x, 4, none⟩ = some (.bool A.ok) := (Blk.cell h 4).trans rfl
  have hx3 : w.cell? ⟨x, 3, none⟩ = some (.int .u64 A.value) := (Blk.cell h 3).trans rfl
  clear h
  cases hk : A.ok with
  | true =>
    rw [hk] at hx4
    go_enter Try.func42, Try.ntmps42
    go_wp2
    go_ret
    exact ⟨by first | rfl | (simp; done), rfl⟩
  | false =>
    rw [hk] at hx4
    go_enter Try.func42, Try.ntmps42
    go_wp2
    go_ret
    exact ⟨by first | rfl | (simp; done), rfl⟩
theorem over_nil (w : World) : Calls Try.prog 38 #[.pointer none] w fun e w' => e = .returned (.bool true) ∧ w = w' := by
  go_enter Try.func38, Try.ntmps38
  go_wp2
  go_ret
  exact ⟨rfl, rfl⟩
theorem mark_nil (w : World) : Calls Try.prog 39 #[.pointer none] w fun e w' => e = .returned (.int .i64 0) ∧ w = w' := by
  go_enter Try.func39, Try.ntmps39
  go_wp2
  go_ret
  exact ⟨rfl, rfl⟩
theorem ok_nil (w : World) : Calls Try.prog 37 #[.pointer none] w fun e w' => e = .returned (.bool false) ∧ w = w' := by
  go_enter Try.func37, Try.ntmps37
  go_wp2
  go_ret
  exact ⟨rfl, rfl⟩
theorem value_nil (w : World) : Calls Try.prog 42 #[.pointer none] w fun e w' => e = .returned (.int .u64 0) ∧ w = w' := by
  go_enter Try.func42, Try.ntmps42
  go_wp2
  go_ret
  exact ⟨rfl, rfl⟩
theorem len_nil (w : World) : Calls Try.prog 34 #[.pointer none] w fun e w' => e = .returned (.int .i64 0) ∧ w = w' := by
  go_enter Try.func34, Try.ntmps34
  go_wp2
  go_ret
  exact ⟨rfl, rfl⟩
theorem size_nil (w : World) : Calls Try.prog 46 #[.pointer none] w fun e w' => e = .returned (.int .i64 0) ∧ w = w' := by
  go_enter Try.func46, Try.ntmps46
  go_wp2
  go_ret
  exact ⟨rfl, rfl⟩
theorem pop_nil (w : World) : Calls Try.prog 35 #[.pointer none] w fun e w' => e = .returned (.pointer none) ∧ w = w' := by
  go_enter Try.func35, Try.ntmps35
  go_wp2
  go_ret
  exact ⟨rfl, rfl⟩
theorem push_nil (w : World) (v : Int) : Calls Try.prog 33 #[.pointer none, .int .u64 v] w fun e w' => e = .returned (.pointer none) ∧ w = w' := by
  go_enter Try.func33, Try.ntmps33
  go_wp2
  go_ret
  exact ⟨rfl, rfl⟩
theorem step_nil (w : World) : Calls Try.prog 36 #[.pointer none] w fun e w' => e = .returned (.bool true) ∧ w = w' := by
  go_enter Try.func36, Try.ntmps36
  go_wp2_with (go_at_call 38; refine (over_nil _).mono ?_; rintro e w' ⟨rfl, rfl⟩)
  go_ret
  exact ⟨rfl, rfl⟩
theorem size_ (w : World) (g : Nat) (p : Mp) (R : RingS) (h : RingAt w g p R) : Calls Try.prog 46 #[pt g] w fun e w' => e = .returned (.int .i64 R.size) ∧ w = w' := by
  have hx : w.cell? ⟨g, 2, none⟩ = some (.int .i64 R.size) := (Blk.cell h 2).trans rfl
  clear h
  go_enter Try.func46, Try.ntmps46
  go_wp2
  go_ret
  exact ⟨rfl, rfl⟩
theorem first_ (w : World) (g : Nat) (p : Mp) (R : RingS) (h : RingAt w g p R) : Calls Try.prog 76 #[pt g] w fun e w' => e = .returned (.int .i64 R.o.at_) ∧ w = w' := by
  have hx : w.cell? ⟨g, 7, none⟩ = some (.int .i64 R.o.at_) := (Blk.cell h 7).trans rfl
  clear h
  go_enter Try.func76, Try.ntmps76
  go_wp2
  go_ret
  exact ⟨rfl, rfl⟩
theorem cellsN_in (w : World) (s : Int) (h0 : 1 ≤ s) (h1 : s ≤ 64) : Calls Try.prog 48 #[.int .i64 s] w fun e w' => e = .returned (.int .i64 (s + 2)) ∧ w = w' := by
  go_enter Try.func48, Try.ntmps48
  go_wp2
  go_ret
  exact ⟨rfl, rfl⟩
theorem cellsN_out (w : World) (s : Int) (h : ¬ (1 ≤ s ∧ s ≤ 64)) : Calls Try.prog 48 #[.int .i64 s] w fun e w' => e = .returned (.int .i64 0) ∧ w = w' := by
  by_cases h1 : s < 1
  · clear h
    go_enter Try.func48, Try.ntmps48
    go_wp2
    go_ret
    exact ⟨rfl, rfl⟩
  · have h2 : 64 < s := by omega
    clear h
    go_enter Try.func48, Try.ntmps48
    go_wp2
    go_ret
    exact ⟨rfl, rfl⟩
set_option maxHeartbeats 1600000 in
theorem len_ (w : World) (g : Nat) (p : Mp) (M : MemS) (R : RingS) (hm : MemAt 97 w p M) (hr : RingAt w g p R) (hk : RingOk R) (n : Int) (hn : IntKind.u64.wrap (M.peek R.base - M.peek (R.base + 1)) = n) (hn1 : n ≤ 1000000) :
    Calls Try.prog 34 #[pt g] w fun e w' => e = .returned (.int .i64 n) ∧ ∃ m, w' = w.drewN m := by
  have hn0 : 0 ≤ n := by rw [← hn]; exact (u64_in _).1
  have hxr0 : w.cell? ⟨g, 0, none⟩ = some (pa p) := (Blk.cell hr 0).trans rfl
  have hxr1 : w.cell? ⟨g, 1, none⟩ = some (.int .i64 R.base) := (Blk.cell hr 1).trans rfl
  have hb0 := hk.b0
  have hb1 := hk.b1
  have HM := Aside0.mk hm
  have HL0 := Aside0.mk (show ∀ W, MemAt 97 W p M → Calls Try.prog 22 #[pa p, .int .i64 R.base] W fun e w' => e = .returned (.int .u64 (M.peek R.base)) ∧ W = w' from fun W h => peek_ W p M _ h)
  have HL1 := Aside0.mk (show ∀ W, MemAt 97 W p M → Calls Try.prog 22 #[pa p, .int .i64 (R.base + 1)] W fun e w' => e = .returned (.int .u64 (M.peek (R.base + 1))) ∧ W = w' from fun W h => peek_ W p M _ h)
  generalize M.peek R.base = v0 at *
  generalize M.peek (R.base + 1) = v1 at *
  have hw1 : IntKind.i64.wrap (R.base + 1) = R.base + 1 := i64_id (by omega)
  have hw0 : IntKind.i64.wrap (R.base + 0) = R.base := by rw [Int.add_zero]; exact i64_id (by omega)
  have hw2 : IntKind.i64.wrap R.base = R.base := i64_id (by omega)
  have hw3 : IntKind.i64.wrap n = n := i64_id (by omega)
  clear hm hr hk
  go_enter Try.func34, Try.ntmps34
  go_wp2
  go_region_held3 (fun w' => w'.cell? ⟨g, 0, none⟩ = some (pa p) ∧ w'.cell? ⟨g, 1, none⟩ = some (.int .i64 R.base)) (go_keep) (first | (go_at_call 22; (with_reducible refine (HL0.out _ (by (with_reducible repeat (first | exact HM.out | refine MemAt.drewN ?_ _ | refine MemAt.drew ?_)))).mono ?_); rintro e w' ⟨rfl, rfl⟩) | (go_at_call 22; (with_reducible refine (HL1.out _ (by (with_reducible repeat (first | exact HM.out | refine MemAt.drewN ?_ _ | refine MemAt.drew ?_)))).mono ?_); rintro e w' ⟨rfl, rfl⟩))
  go_wp2
  go_ret
  exact ⟨rfl, ⟨1, rfl⟩⟩
theorem push_busy (w : World) (g : Nat) (p : Mp) (R : RingS) (h : RingAt w g p R) (hb : R.i.busy = true) (v : Int) : Calls Try.prog 33 #[pt g, .int .u64 v] w fun e w' => e = .returned (.pointer none) ∧ w = w' := by
  have hx : w.cell? ⟨g, 5, none⟩ = some (.bool true) := (Blk.cell h 5).trans (by simp [ringCells, hb])
  clear h hb
  go_enter Try.func33, Try.ntmps33
  go_wp2
  go_ret
  exact ⟨rfl, rfl⟩
/-- A new act at one end. -/
def Newpush (w : World) (g : Nat) (p : Mp) (M : MemS) (R : RingS) (v : Int) (e : Ending) (w' : World) : Prop :=
  ∃ x, e = .returned (pt x) ∧ All w' p g x M { R with i := { R.i with busy := true } } ⟨true, 74, v, false, 0, false⟩ ∧ Chg (fun k => k = g) w w' ∧ w.heap.size ≤ x
theorem push_new (w : World) (g : Nat) (p : Mp) (M : MemS) (R : RingS) (hm : MemAt 97 w p M) (h : RingAt w g p R) (hk : RingOk R) (hb : R.i.busy = false) (v : Int) (hv : 0 ≤ v ∧ v ≤ 18446744073709551615) : Calls Try.prog 33 #[pt g, .int .u64 v] w (Newpush w g p M R v) := by
  have hx : w.cell? ⟨g, 5, none⟩ = some (.bool false) := (Blk.cell h 5).trans (by simp [ringCells, hb])
  have hf := Blk.frozen h 5
  have hlt := Blk.lt h
  have HM := Aside0.mk hm
  have HR := Aside0.mk h
  have HK := Aside0.mk hk
  have HV := Aside0.mk (show (0 : Int) ≤ v ∧ (v : Int) ≤ 18446744073709551615 from hv)
  have HPG := Aside0.mk (ne_mem hm h (by decide) (by decide) (by decide))
  clear h hb hm hk
  go_enter Try.func33, Try.ntmps33
  go_wp2
  go_ret
  have hc : Chg (fun k => k = g) w (w.setCell ⟨g, 5, none⟩ (.bool true)) := (Chg.refl (fun k => k = g) w).set (.inl rfl) _
  have hr : RingAt (w.setCell ⟨g, 5, none⟩ (.bool true)) g p { R with i := { R.i with busy := true } } := (Blk.set HR.out 5 _).eq rfl
  have hs : (w.setCell ⟨g, 5, none⟩ (.bool true)).heap.size = w.heap.size := by simp [World.setCell]
  refine ⟨w.heap.size, by first | rfl | (simp; done), ⟨(HM.out.chg hc (fun k hk e => HPG.out (e ▸ hk))).alloc _, hr.alloc _, ?_, { HK.out with }, HV.out⟩, hc.alloc _, Nat.le_refl _⟩
  have := Blk.new (w.setCell ⟨g, 5, none⟩ (.bool true)) (actCells g ⟨true, 74, v, false, 0, false⟩) 107
  rw [hs] at this
  exact this
theorem pop_busy (w : World) (g : Nat) (p : Mp) (R : RingS) (h : RingAt w g p R) (hb : R.o.busy = true) : Calls Try.prog 35 #[pt g] w fun e w' => e = .returned (.pointer none) ∧ w = w' := by
  have hx : w.cell? ⟨g, 8, none⟩ = some (.bool true) := (Blk.cell h 8).trans (by simp [ringCells, hb])
  clear h hb
  go_enter Try.func35, Try.ntmps35
  go_wp2
  go_ret
  exact ⟨rfl, rfl⟩
/-- A new act at one end. -/
def Newpop (w : World) (g : Nat) (p : Mp) (M : MemS) (R : RingS) (v : Int) (e : Ending) (w' : World) : Prop :=
  ∃ x, e = .returned (pt x) ∧ All w' p g x M { R with o := { R.o with busy := true } } ⟨false, 75, v, false, 0, false⟩ ∧ Chg (fun k => k = g) w w' ∧ w.heap.size ≤ x
theorem pop_new (w : World) (g : Nat) (p : Mp) (M : MemS) (R : RingS) (hm : MemAt 97 w p M) (h : RingAt w g p R) (hk : RingOk R) (hb : R.o.busy = false) : Calls Try.prog 35 #[pt g] w (Newpop w g p M R 0) := by
  have hx : w.cell? ⟨g, 8, none⟩ = some (.bool false) := (Blk.cell h 8).trans (by simp [ringCells, hb])
  have hf := Blk.frozen h 8
  have hlt := Blk.lt h
  have HM := Aside0.mk hm
  have HR := Aside0.mk h
  have HK := Aside0.mk hk
  have HV := Aside0.mk (show (0 : Int) ≤ 0 ∧ (0 : Int) ≤ 18446744073709551615 from by omega)
  have HPG := Aside0.mk (ne_mem hm h (by decide) (by decide) (by decide))
  clear h hb hm hk
  go_enter Try.func35, Try.ntmps35
  go_wp2
  go_ret
  have hc : Chg (fun k => k = g) w (w.setCell ⟨g, 8, none⟩ (.bool true)) := (Chg.refl (fun k => k = g) w).set (.inl rfl) _
  have hr : RingAt (w.setCell ⟨g, 8, none⟩ (.bool true)) g p { R with o := { R.o with busy := true } } := (Blk.set HR.out 8 _).eq rfl
  have hs : (w.setCell ⟨g, 8, none⟩ (.bool true)).heap.size = w.heap.size := by simp [World.setCell]
  refine ⟨w.heap.size, by first | rfl | (simp; done), ⟨(HM.out.chg hc (fun k hk e => HPG.out (e ▸ hk))).alloc _, hr.alloc _, ?_, { HK.out with }, HV.out⟩, hc.alloc _, Nat.le_refl _⟩
  have := Blk.new (w.setCell ⟨g, 8, none⟩ (.bool true)) (actCells g ⟨false, 75, 0, false, 0, false⟩) 107
  rw [hs] at this
  exact this
def RingS.free (R : RingS) (push : Bool) : RingS := if push then { R with i := { R.i with busy := false } } else { R with o := { R.o with busy := false } }
theorem free_ok {R : RingS} (h : RingOk R) (b : Bool) : RingOk (R.free b) := by cases b <;> exact { h with }
set_option maxHeartbeats 1600000 in
theorem step_room_true (w : World) (p : Mp) (g x : Nat) (M M' : MemS) (R R' : RingS) (A A' : ActS) (h : All w p g x M R A) (ho : A.over = false) (hnext : A.next = 74)
    (hn : Calls Try.prog 74 #[pt x] w fun e w' => e = .returned (.bool true) ∧ All w' p g x M' R' A' ∧ Chg (Mra p g x) w w') (hp : A'.push = true) :
    Calls Try.prog 36 #[pt x] w fun e w' => e = .returned (.bool true) ∧ All w' p g x M' (R'.free true) { A' with over := true } ∧ Chg (Mra p g x) w w' := by
  have HA := Aside0.mk h.a
  have HC := Aside0.mk (Chg.refl (Mra p g x) w)
  have hxa2 : w.cell? ⟨x, 2, none⟩ = some (.func (.func 74) #[] #[]) := (Blk.cell h.a 2).trans (by simp [actCells, hnext])
  have HN := Aside0.mk hn
  have HO := Aside0.mk ho
  have HP := Aside0.mk hp
  clear h hn hnext ho hp
  go_enter Try.func36, Try.ntmps36
  go_wp2_with (first | (go_at_call 38; (with_reducible refine (over_ _ x g A HA.out).mono ?_); rintro e w' ⟨rfl, rfl⟩; rw [HO.out]) | (go_at_call 74; (with_reducible refine (HN.out).mono ?_); rintro e w' ⟨rfl, ha, hc⟩; have HA2 := Aside0.mk ha; have HCn := Aside0.mk hc; have hxa6 := Blk.cell ha.a 6; have hfa6 := Blk.frozen ha.a 6; replace hxa6 : w'.cell? ⟨x, 6, none⟩ = some (.bool A'.over) := hxa6.trans rfl; have hxa1 : w'.cell? ⟨x, 1, none⟩ = some (.pointer (some ⟨g, 3, none⟩)) := (Blk.cell ha.a 1).trans (by simp [actCells, endOff, HP.out]); have hxr : w'.cell? ⟨g, 5, none⟩ = some (.bool R'.i.busy) := (Blk.cell ha.r 5).trans rfl; have hfr := Blk.frozen ha.r 5; have hgx := ha.gx; clear HC ha hc; have HC := HCn; clear HCn))
  go_ret
  exact ⟨rfl, (HA2.out.setA 6 (.bool true) (A' := { A' with over := true }) rfl HA2.out.av).setR 5 (.bool false) (R' := R'.free true) rfl (free_ok HA2.out.ok _), Mra.setR (Mra.setA HC.out _ _) _ _⟩
set_option maxHeartbeats 1600000 in
theorem step_room_false (w : World) (p : Mp) (g x : Nat) (M M' : MemS) (R R' : RingS) (A A' : ActS) (h : All w p g x M R A) (ho : A.over = false) (hnext : A.next = 74)
    (hn : Calls Try.prog 74 #[pt x] w fun e w' => e = .returned (.bool false) ∧ All w' p g x M' R' A' ∧ Chg (Mra p g x) w w') (hp : A'.push = true) :
    Calls Try.prog 36 #[pt x] w fun e w' => e = .returned (.bool false) ∧ All w' p g x M' (R') { A' with over := false } ∧ Chg (Mra p g x) w w' := by
  have HA := Aside0.mk h.a
  have HC := Aside0.mk (Chg.refl (Mra p g x) w)
  have hxa2 : w.cell? ⟨x, 2, none⟩ = some (.func (.func 74) #[] #[]) := (Blk.cell h.a 2).trans (by simp [actCells, hnext])
  have HN := Aside0.mk hn
  have HO := Aside0.mk ho
  have HP := Aside0.mk hp
  clear h hn hnext ho hp
  go_enter Try.func36, Try.ntmps36
  go_wp2_with (first | (go_at_call 38; (with_reducible refine (over_ _ x g A HA.out).mono ?_); rintro e w' ⟨rfl, rfl⟩; rw [HO.out]) | (go_at_call 74; (with_reducible refine (HN.out).mono ?_); rintro e w' ⟨rfl, ha, hc⟩; have HA2 := Aside0.mk ha; have HCn := Aside0.mk hc; have hxa6 := Blk.cell ha.a 6; have hfa6 := Blk.frozen ha.a 6; replace hxa6 : w'.cell? ⟨x, 6, none⟩ = some (.bool A'.over) := hxa6.trans rfl; have hxa1 : w'.cell? ⟨x, 1, none⟩ = some (.pointer (some ⟨g, 3, none⟩)) := (Blk.cell ha.a 1).trans (by simp [actCells, endOff, HP.out]); have hxr : w'.cell? ⟨g, 5, none⟩ = some (.bool R'.i.busy) := (Blk.cell ha.r 5).trans rfl; have hfr := Blk.frozen ha.r 5; have hgx := ha.gx; clear HC ha hc; have HC := HCn; clear HCn))
  go_ret
  exact ⟨rfl, HA2.out.setA 6 (.bool false) (A' := { A' with over := false }) rfl HA2.out.av, Mra.setA HC.out _ _⟩
set_option maxHeartbeats 1600000 in
theorem step_lay_false (w : World) (p : Mp) (g x : Nat) (M M' : MemS) (R R' : RingS) (A A' : ActS) (h : All w p g x M R A) (ho : A.over = false) (hnext : A.next = 81)
    (hn : Calls Try.prog 81 #[pt x] w fun e w' => e = .returned (.bool false) ∧ All w' p g x M' R' A' ∧ Chg (Mra p g x) w w') (hp : A'.push = true) :
    Calls Try.prog 36 #[pt x] w fun e w' => e = .returned (.bool false) ∧ All w' p g x M' (R') { A' with over := false } ∧ Chg (Mra p g x) w w' := by
  have HA := Aside0.mk h.a
  have HC := Aside0.mk (Chg.refl (Mra p g x) w)
  have hxa2 : w.cell? ⟨x, 2, none⟩ = some (.func (.func 81) #[] #[]) := (Blk.cell h.a 2).trans (by simp [actCells, hnext])
  have HN := Aside0.mk hn
  have HO := Aside0.mk ho
  have HP := Aside0.mk hp
  clear h hn hnext ho hp
  go_enter Try.func36, Try.ntmps36
  go_wp2_with (first | (go_at_call 38; (with_reducible refine (over_ _ x g A HA.out).mono ?_); rintro e w' ⟨rfl, rfl⟩; rw [HO.out]) | (go_at_call 81; (with_reducible refine (HN.out).mono ?_); rintro e w' ⟨rfl, ha, hc⟩; have HA2 := Aside0.mk ha; have HCn := Aside0.mk hc; have hxa6 := Blk.cell ha.a 6; have hfa6 := Blk.frozen ha.a 6; replace hxa6 : w'.cell? ⟨x, 6, none⟩ = some (.bool A'.over) := hxa6.trans rfl; have hxa1 : w'.cell? ⟨x, 1, none⟩ = some (.pointer (some ⟨g, 3, none⟩)) := (Blk.cell ha.a 1).trans (by simp [actCells, endOff, HP.out]); have hxr : w'.cell? ⟨g, 5, none⟩ = some (.bool R'.i.busy) := (Blk.cell ha.r 5).trans rfl; have hfr := Blk.frozen ha.r 5; have hgx := ha.gx; clear HC ha hc; have HC := HCn; clear HCn))
  go_ret
  exact ⟨rfl, HA2.out.setA 6 (.bool false) (A' := { A' with over := false }) rfl HA2.out.av, Mra.setA HC.out _ _⟩
set_option maxHeartbeats 1600000 in
theorem step_tell_true (w : World) (p : Mp) (g x : Nat) (M M' : MemS) (R R' : RingS) (A A' : ActS) (h : All w p g x M R A) (ho : A.over = false) (hnext : A.next = 84)
    (hn : Calls Try.prog 84 #[pt x] w fun e w' => e = .returned (.bool true) ∧ All w' p g x M' R' A' ∧ Chg (Mra p g x) w w') (hp : A'.push = true) :
    Calls Try.prog 36 #[pt x] w fun e w' => e = .returned (.bool true) ∧ All w' p g x M' (R'.free true) { A' with over := true } ∧ Chg (Mra p g x) w w' := by
  have HA := Aside0.mk h.a
  have HC := Aside0.mk (Chg.refl (Mra p g x) w)
  have hxa2 : w.cell? ⟨x, 2, none⟩ = some (.func (.func 84) #[] #[]) := (Blk.cell h.a 2).trans (by simp [actCells, hnext])
  have HN := Aside0.mk hn
  have HO := Aside0.mk ho
  have HP := Aside0.mk hp
  clear h hn hnext ho hp
  go_enter Try.func36, Try.ntmps36
  go_wp2_with (first | (go_at_call 38; (with_reducible refine (over_ _ x g A HA.out).mono ?_); rintro e w' ⟨rfl, rfl⟩; rw [HO.out]) | (go_at_call 84; (with_reducible refine (HN.out).mono ?_); rintro e w' ⟨rfl, ha, hc⟩; have HA2 := Aside0.mk ha; have HCn := Aside0.mk hc; have hxa6 := Blk.cell ha.a 6; have hfa6 := Blk.frozen ha.a 6; replace hxa6 : w'.cell? ⟨x, 6, none⟩ = some (.bool A'.over) := hxa6.trans rfl; have hxa1 : w'.cell? ⟨x, 1, none⟩ = some (.pointer (some ⟨g, 3, none⟩)) := (Blk.cell ha.a 1).trans (by simp [actCells, endOff, HP.out]); have hxr : w'.cell? ⟨g, 5, none⟩ = some (.bool R'.i.busy) := (Blk.cell ha.r 5).trans rfl; have hfr := Blk.frozen ha.r 5; have hgx := ha.gx; clear HC ha hc; have HC := HCn; clear HCn))
  go_ret
  exact ⟨rfl, (HA2.out.setA 6 (.bool true) (A' := { A' with over := true }) rfl HA2.out.av).setR 5 (.bool false) (R' := R'.free true) rfl (free_ok HA2.out.ok _), Mra.setR (Mra.setA HC.out _ _) _ _⟩
set_option maxHeartbeats 1600000 in
theorem step_some_true (w : World) (p : Mp) (g x : Nat) (M M' : MemS) (R R' : RingS) (A A' : ActS) (h : All w p g x M R A) (ho : A.over = false) (hnext : A.next = 75)
    (hn : Calls Try.prog 75 #[pt x] w fun e w' => e = .returned (.bool true) ∧ All w' p g x M' R' A' ∧ Chg (Mra p g x) w w') (hp : A'.push = false) :
    Calls Try.prog 36 #[pt x] w fun e w' => e = .returned (.bool true) ∧ All w' p g x M' (R'.free false) { A' with over := true } ∧ Chg (Mra p g x) w w' := by
  have HA := Aside0.mk h.a
  have HC := Aside0.mk (Chg.refl (Mra p g x) w)
  have hxa2 : w.cell? ⟨x, 2, none⟩ = some (.func (.func 75) #[] #[]) := (Blk.cell h.a 2).trans (by simp [actCells, hnext])
  have HN := Aside0.mk hn
  have HO := Aside0.mk ho
  have HP := Aside0.mk hp
  clear h hn hnext ho hp
  go_enter Try.func36, Try.ntmps36
  go_wp2_with (first | (go_at_call 38; (with_reducible refine (over_ _ x g A HA.out).mono ?_); rintro e w' ⟨rfl, rfl⟩; rw [HO.out]) | (go_at_call 75; (with_reducible refine (HN.out).mono ?_); rintro e w' ⟨rfl, ha, hc⟩; have HA2 := Aside0.mk ha; have HCn := Aside0.mk hc; have hxa6 := Blk.cell ha.a 6; have hfa6 := Blk.frozen ha.a 6; replace hxa6 : w'.cell? ⟨x, 6, none⟩ = some (.bool A'.over) := hxa6.trans rfl; have hxa1 : w'.cell? ⟨x, 1, none⟩ = some (.pointer (some ⟨g, 6, none⟩)) := (Blk.cell ha.a 1).trans (by simp [actCells, endOff, HP.out]); have hxr : w'.cell? ⟨g, 8, none⟩ = some (.bool R'.o.busy) := (Blk.cell ha.r 8).trans rfl; have hfr := Blk.frozen ha.r 8; have hgx := ha.gx; clear HC ha hc; have HC := HCn; clear HCn))
  go_ret
  exact ⟨rfl, (HA2.out.setA 6 (.bool true) (A' := { A' with over := true }) rfl HA2.out.av).setR 8 (.bool false) (R' := R'.free false) rfl (free_ok HA2.out.ok _), Mra.setR (Mra.setA HC.out _ _) _ _⟩
set_option maxHeartbeats 1600000 in
theorem step_some_false (w : World) (p : Mp) (g x : Nat) (M M' : MemS) (R R' : RingS) (A A' : ActS) (h : All w p g x M R A) (ho : A.over = false) (hnext : A.next = 75)
    (hn : Calls Try.prog 75 #[pt x] w fun e w' => e = .returned (.bool false) ∧ All w' p g x M' R' A' ∧ Chg (Mra p g x) w w') (hp : A'.push = false) :
    Calls Try.prog 36 #[pt x] w fun e w' => e = .returned (.bool false) ∧ All w' p g x M' (R') { A' with over := false } ∧ Chg (Mra p g x) w w' := by
  have HA := Aside0.mk h.a
  have HC := Aside0.mk (Chg.refl (Mra p g x) w)
  have hxa2 : w.cell? ⟨x, 2, none⟩ = some (.func (.func 75) #[] #[]) := (Blk.cell h.a 2).trans (by simp [actCells, hnext])
  have HN := Aside0.mk hn
  have HO := Aside0.mk ho
  have HP := Aside0.mk hp
  clear h hn hnext ho hp
  go_enter Try.func36, Try.ntmps36
  go_wp2_with (first | (go_at_call 38; (with_reducible refine (over_ _ x g A HA.out).mono ?_); rintro e w' ⟨rfl, rfl⟩; rw [HO.out]) | (go_at_call 75; (with_reducible refine (HN.out).mono ?_); rintro e w' ⟨rfl, ha, hc⟩; have HA2 := Aside0.mk ha; have HCn := Aside0.mk hc; have hxa6 := Blk.cell ha.a 6; have hfa6 := Blk.frozen ha.a 6; replace hxa6 : w'.cell? ⟨x, 6, none⟩ = some (.bool A'.over) := hxa6.trans rfl; have hxa1 : w'.cell? ⟨x, 1, none⟩ = some (.pointer (some ⟨g, 6, none⟩)) := (Blk.cell ha.a 1).trans (by simp [actCells, endOff, HP.out]); have hxr : w'.cell? ⟨g, 8, none⟩ = some (.bool R'.o.busy) := (Blk.cell ha.r 8).trans rfl; have hfr := Blk.frozen ha.r 8; have hgx := ha.gx; clear HC ha hc; have HC := HCn; clear HCn))
  go_ret
  exact ⟨rfl, HA2.out.setA 6 (.bool false) (A' := { A' with over := false }) rfl HA2.out.av, Mra.setA HC.out _ _⟩
set_option maxHeartbeats 1600000 in
theorem step_get_false (w : World) (p : Mp) (g x : Nat) (M M' : MemS) (R R' : RingS) (A A' : ActS) (h : All w p g x M R A) (ho : A.over = false) (hnext : A.next = 82)
    (hn : Calls Try.prog 82 #[pt x] w fun e w' => e = .returned (.bool false) ∧ All w' p g x M' R' A' ∧ Chg (Mra p g x) w w') (hp : A'.push = false) :
    Calls Try.prog 36 #[pt x] w fun e w' => e = .returned (.bool false) ∧ All w' p g x M' (R') { A' with over := false } ∧ Chg (Mra p g x) w w' := by
  have HA := Aside0.mk h.a
  have HC := Aside0.mk (Chg.refl (Mra p g x) w)
  have hxa2 : w.cell? ⟨x, 2, none⟩ = some (.func (.func 82) #[] #[]) := (Blk.cell h.a 2).trans (by simp [actCells, hnext])
  have HN := Aside0.mk hn
  have HO := Aside0.mk ho
  have HP := Aside0.mk hp
  clear h hn hnext ho hp
  go_enter Try.func36, Try.ntmps36
  go_wp2_with (first | (go_at_call 38; (with_reducible refine (over_ _ x g A HA.out).mono ?_); rintro e w' ⟨rfl, rfl⟩; rw [HO.out]) | (go_at_call 82; (with_reducible refine (HN.out).mono ?_); rintro e w' ⟨rfl, ha, hc⟩; have HA2 := Aside0.mk ha; have HCn := Aside0.mk hc; have hxa6 := Blk.cell ha.a 6; have hfa6 := Blk.frozen ha.a 6; replace hxa6 : w'.cell? ⟨x, 6, none⟩ = some (.bool A'.over) := hxa6.trans rfl; have hxa1 : w'.cell? ⟨x, 1, none⟩ = some (.pointer (some ⟨g, 6, none⟩)) := (Blk.cell ha.a 1).trans (by simp [actCells, endOff, HP.out]); have hxr : w'.cell? ⟨g, 8, none⟩ = some (.bool R'.o.busy) := (Blk.cell ha.r 8).trans rfl; have hfr := Blk.frozen ha.r 8; have hgx := ha.gx; clear HC ha hc; have HC := HCn; clear HCn))
  go_ret
  exact ⟨rfl, HA2.out.setA 6 (.bool false) (A' := { A' with over := false }) rfl HA2.out.av, Mra.setA HC.out _ _⟩
set_option maxHeartbeats 1600000 in
theorem step_leave_true (w : World) (p : Mp) (g x : Nat) (M M' : MemS) (R R' : RingS) (A A' : ActS) (h : All w p g x M R A) (ho : A.over = false) (hnext : A.next = 85)
    (hn : Calls Try.prog 85 #[pt x] w fun e w' => e = .returned (.bool true) ∧ All w' p g x M' R' A' ∧ Chg (Mra p g x) w w') (hp : A'.push = false) :
    Calls Try.prog 36 #[pt x] w fun e w' => e = .returned (.bool true) ∧ All w' p g x M' (R'.free false) { A' with over := true } ∧ Chg (Mra p g x) w w' := by
  have HA := Aside0.mk h.a
  have HC := Aside0.mk (Chg.refl (Mra p g x) w)
  have hxa2 : w.cell? ⟨x, 2, none⟩ = some (.func (.func 85) #[] #[]) := (Blk.cell h.a 2).trans (by simp [actCells, hnext])
  have HN := Aside0.mk hn
  have HO := Aside0.mk ho
  have HP := Aside0.mk hp
  clear h hn hnext ho hp
  go_enter Try.func36, Try.ntmps36
  go_wp2_with (first | (go_at_call 38; (with_reducible refine (over_ _ x g A HA.out).mono ?_); rintro e w' ⟨rfl, rfl⟩; rw [HO.out]) | (go_at_call 85; (with_reducible refine (HN.out).mono ?_); rintro e w' ⟨rfl, ha, hc⟩; have HA2 := Aside0.mk ha; have HCn := Aside0.mk hc; have hxa6 := Blk.cell ha.a 6; have hfa6 := Blk.frozen ha.a 6; replace hxa6 : w'.cell? ⟨x, 6, none⟩ = some (.bool A'.over) := hxa6.trans rfl; have hxa1 : w'.cell? ⟨x, 1, none⟩ = some (.pointer (some ⟨g, 6, none⟩)) := (Blk.cell ha.a 1).trans (by simp [actCells, endOff, HP.out]); have hxr : w'.cell? ⟨g, 8, none⟩ = some (.bool R'.o.busy) := (Blk.cell ha.r 8).trans rfl; have hfr := Blk.frozen ha.r 8; have hgx := ha.gx; clear HC ha hc; have HC := HCn; clear HCn))
  go_ret
  exact ⟨rfl, (HA2.out.setA 6 (.bool true) (A' := { A' with over := true }) rfl HA2.out.av).setR 8 (.bool false) (R' := R'.free false) rfl (free_ok HA2.out.ok _), Mra.setR (Mra.setA HC.out _ _) _ _⟩

end Go.Proofs.Ytejplbeddcpmeaa.Ring
