/- A lane's Next, and a taking's Step, each way; no condition. -/
import Derived.Test.YtejplbeddcpmeaaLane
namespace Go.Proofs.Ytejplbeddcpmeaa.Lane
open Go.RowKit Go.Proofs.YtejplbeddcpmeaaW.PrintWords Go.Proofs.Ytejplbeddcpmeaa.Heap Go.Proofs.Ytejplbeddcpmeaa.Mem Go.Proofs.Ytejplbeddcpmeaa.Ring
set_option linter.unusedVariables false
set_option linter.unusedSimpArgs false

/-- A row of rings. -/
def Row (w : World) (b n : Nat) (gs : Nat → Nat) : Prop := ∃ cs, Blk w b cs 52 ∧ ∀ i, i < n → cs[i]? = some (pt (gs i))
theorem Row.cell {w : World} {b n : Nat} {gs : Nat → Nat} (h : Row w b n gs) {i : Nat} (hi : i < n) : w.cell? ⟨b, i, none⟩ = some (pt (gs i)) := by
  obtain ⟨cs, hb, hc⟩ := h
  exact (Blk.cell hb i).trans (hc i hi)
theorem Row.chg {S : Nat → Prop} {w w' : World} {b n : Nat} {gs : Nat → Nat} (h : Row w b n gs) (hc : Chg S w w') (hn : ¬ S b) : Row w' b n gs := by
  obtain ⟨cs, hb, hr⟩ := h
  exact ⟨cs, Blk.chg hb hc hn, hr⟩

theorem step_false (w : World) (y x : Nat) (a : LAct) (Q : World → Prop) (h : LActAt w y x a) (ho : a.over = false) (hS : Calls Try.prog 36 #[pt a.pop] w fun e w' => e = .returned (.bool false) ∧ Q w') (hQ : ∀ w', Q w' → LActAt w' y x a) :
    Calls Try.prog 61 #[pt y] w fun e w' => e = .returned (.bool false) ∧ Q w' := by
  have h1 : w.cell? ⟨y, 1, none⟩ = some (pt a.pop) := (Blk.cell h 1).trans rfl
  have H1 := Aside0.mk (over_ w y x a h)
  have HS := Aside0.mk hS
  have HQ := Aside0.mk hQ
  have HO := Aside0.mk ho
  rw [ho] at H1
  clear h hS hQ ho
  go_enter Try.func61, Try.ntmps61
  go_wp2_with (first | (go_at_call 62; (with_reducible refine H1.out.mono ?_); rintro e w' ⟨rfl, rfl⟩) | (go_at_call 36; (with_reducible refine HS.out.mono ?_); rintro e w' ⟨rfl, hq⟩; have HQ1 := Aside0.mk hq; clear hq) | (go_at_call 62; (with_reducible refine (over_ _ y x a (HQ.out _ HQ1.out)).mono ?_); rw [HO.out]; rintro e w' ⟨rfl, rfl⟩))
  go_ret
  exact ⟨rfl, HQ1.out⟩

set_option maxHeartbeats 4000000 in
theorem step_none (w : World) (y x g : Nat) (a : LAct) (s : LaneS) (Q : World → Prop) (h : LActAt w y x a) (ho : a.over = false) (hS : Calls Try.prog 36 #[pt a.pop] w fun e w' => e = .returned (.bool true) ∧ Q w') (hQ : ∀ w', Q w' → LActAt w' y x a ∧ LaneAt w' x s ∧ ∃ A, ActAt w' a.pop g A ∧ A.ok = false) (hn : a.looked + 1 = s.n) (hn2 : s.n ≤ 1000) :
    Calls Try.prog 61 #[pt y] w fun e w'' => e = .returned (.bool true) ∧ ∃ w', Q w' ∧ LActAt w'' y x { a with over := true } ∧ Chg (fun k => k = y) w' w'' := by
  have h1 : w.cell? ⟨y, 1, none⟩ = some (pt a.pop) := (Blk.cell h 1).trans rfl
  have H1 := Aside0.mk (over_ w y x a h)
  have HS := Aside0.mk hS
  have HQ := Aside0.mk hQ
  have HN := Aside0.mk hn
  rw [ho] at H1
  have e1 : IntKind.i64.wrap ((s.n : Int) - 1) = (a.looked : Int) := by rw [i64_id (by omega)]; omega
  have e2 : ((a.looked : Int) == (a.looked : Int)) = true := beq_self_eq_true _
  clear h hS hQ ho hn
  go_enter Try.func61, Try.ntmps61
  go_wp2_with (first | (go_at_call 62; (with_reducible refine H1.out.mono ?_); rintro e w' ⟨rfl, rfl⟩) | (go_at_call 36; (with_reducible refine HS.out.mono ?_); rintro e wq ⟨rfl, hq⟩; have HQ1 := Aside0.mk hq; obtain ⟨hl, hs, A, hA, hk⟩ := HQ.out wq hq; have HL := Aside0.mk hl; have HO := Aside0.mk (Ring.ok_ wq a.pop g A hA); rw [hk] at HO; have x0 : wq.cell? ⟨y, 0, none⟩ = some (pt x) := (Blk.cell hl 0).trans rfl; have x1 : wq.cell? ⟨y, 1, none⟩ = some (pt a.pop) := (Blk.cell hl 1).trans rfl; have x2 : wq.cell? ⟨y, 2, none⟩ = some (.int .i64 a.looked) := (Blk.cell hl 2).trans rfl; have f4 := Blk.frozen hl 4; have x4 : wq.cell? ⟨y, 4, none⟩ = some (.bool a.over) := (Blk.cell hl 4).trans rfl; have l0 : wq.cell? ⟨x, 0, none⟩ = some (.slice (some ⟨s.b, 0, none⟩) s.n s.c) := (Blk.cell hs 0).trans rfl; clear hq hl hs hA hk h1) | (go_at_call 37; (with_reducible refine HO.out.mono ?_); rintro e w' ⟨rfl, rfl⟩))
  go_region_held3 (fun w' => w'.cell? ⟨y, 0, none⟩ = some (pt x) ∧ w'.cell? ⟨y, 2, none⟩ = some (.int .i64 a.looked) ∧ w'.cell? ⟨x, 0, none⟩ = some (.slice (some ⟨s.b, 0, none⟩) s.n s.c)) (go_keep) (fail)
  go_wp2
  go_ret
  exact ⟨rfl, wq, HQ1.out, Blk.eq (Blk.drew (Blk.set HL.out 4 _)) rfl, Chg.drew (Chg.set (S := fun k => k = y) (Chg.refl _ _) (.inl rfl) _)⟩

set_option maxHeartbeats 4000000 in
set_option maxRecDepth 100000 in
theorem step_one (w : World) (y x g : Nat) (a : LAct) (s : LaneS) (Q : World → Prop) (h : LActAt w y x a) (ho : a.over = false) (hS : Calls Try.prog 36 #[pt a.pop] w fun e w' => e = .returned (.bool true) ∧ Q w') (hQ : ∀ w', Q w' → LActAt w' y x a ∧ LaneAt w' x s ∧ ∃ A, ActAt w' a.pop g A ∧ A.ok = true) (h0 : s.at_ < s.n) (hn : a.looked < s.n) (hn2 : s.n ≤ 1000) :
    Calls Try.prog 61 #[pt y] w fun e w'' => e = .returned (.bool true) ∧ ∃ w', Q w' ∧ LActAt w'' y x { a with over := true, from_ := ((s.at_ + a.looked) % s.n : Nat) } ∧ LaneAt w'' x { s with at_ := ((s.at_ + a.looked) % s.n + 1) % s.n } ∧ Chg (fun k => k = y ∨ k = x) w' w'' := by
  have h1 : w.cell? ⟨y, 1, none⟩ = some (pt a.pop) := (Blk.cell h 1).trans rfl
  have H1 := Aside0.mk (over_ w y x a h)
  have HS := Aside0.mk hS
  have HQ := Aside0.mk hQ
  rw [ho] at H1
  obtain ⟨k, hk⟩ : ∃ k, (s.at_ + a.looked) % s.n = k := ⟨_, rfl⟩
  have hkn : k < s.n := by rw [← hk]; exact Nat.mod_lt _ (by omega)
  have e1 : IntKind.i64.wrap ((k : Int) + 1) = ((k + 1 : Nat) : Int) := by rw [i64_id (by omega)]; omega
  have e2 : (((k + 1 : Nat) : Int)).tmod (s.n : Int) = (((k + 1) % s.n : Nat) : Int) := by rw [Int.tmod_eq_emod_of_nonneg (by omega)]; omega
  have e3 : ((s.n : Int) == 0) = false := beq_eq_false_iff_ne.mpr (by omega)
  have e4 : ¬ s.n = 0 := by omega
  have e5 : ¬ (s.n : Int) = 0 := by omega
  have HR := Aside0.mk (show ∀ W, W.cell? ⟨y, 0, none⟩ = some (pt x) → W.cell? ⟨y, 2, none⟩ = some (.int .i64 a.looked) → W.cell? ⟨x, 0, none⟩ = some (.slice (some ⟨s.b, 0, none⟩) s.n s.c) → W.cell? ⟨x, 1, none⟩ = some (.int .i64 s.at_) → Calls Try.prog 79 #[pt y] W fun e w' => e = .returned (.int .i64 (k : Nat)) ∧ ∃ m, w' = W.drewN m from fun W q0 q2 q3 q4 => by rw [← hk]; exact ring_ W y x s.b s.n s.c s.at_ a.looked q0 q2 q3 q4 h0 hn hn2)
  rw [hk]
  clear h hS hQ ho hk
  go_enter Try.func61, Try.ntmps61
  go_upto_region 7 with (first | (go_at_call 62; (with_reducible refine H1.out.mono ?_); rintro e w' ⟨rfl, rfl⟩) | (go_at_call 36; (with_reducible refine HS.out.mono ?_); rintro e wq ⟨rfl, hq⟩; have HQ1 := Aside0.mk hq; obtain ⟨hl, hs, A, hA, hk⟩ := HQ.out wq hq; have HL := Aside0.mk hl; have HLS := Aside0.mk hs; have HO := Aside0.mk (Ring.ok_ wq a.pop g A hA); rw [hk] at HO; have hyx := Blk.ne hl hs (by decide); have x0 : wq.cell? ⟨y, 0, none⟩ = some (pt x) := (Blk.cell hl 0).trans rfl; have x1 : wq.cell? ⟨y, 1, none⟩ = some (pt a.pop) := (Blk.cell hl 1).trans rfl; have x2 : wq.cell? ⟨y, 2, none⟩ = some (.int .i64 a.looked) := (Blk.cell hl 2).trans rfl; have x3 : wq.cell? ⟨y, 3, none⟩ = some (.int .i64 a.from_) := (Blk.cell hl 3).trans rfl; have x4 : wq.cell? ⟨y, 4, none⟩ = some (.bool a.over) := (Blk.cell hl 4).trans rfl; have f1 := Blk.frozen hl 1; have f2 := Blk.frozen hl 2; have f3 := Blk.frozen hl 3; have f4 := Blk.frozen hl 4; have l0 : wq.cell? ⟨x, 0, none⟩ = some (.slice (some ⟨s.b, 0, none⟩) s.n s.c) := (Blk.cell hs 0).trans rfl; have l1 : wq.cell? ⟨x, 1, none⟩ = some (.int .i64 s.at_) := (Blk.cell hs 1).trans rfl; have g1 := Blk.frozen hs 1; clear hq hl hs hA hk h1) | (go_at_call 37; (with_reducible refine HO.out.mono ?_); rintro e w' ⟨rfl, rfl⟩) | (go_at_call 79; (with_reducible refine (HR.out _ x0 x2 l0 l1).mono ?_); rintro e w' ⟨rfl, m, rfl⟩))
  have hxy : x ≠ y := fun e => hyx e.symm
  have HL2 : Blk (((wq.drewN m).setCell ⟨y, 4, none⟩ (.bool true)).setCell ⟨y, 3, none⟩ (.int .i64 (k : Nat))) y (lactCells x { a with over := true, from_ := (k : Nat) }) 109 := Blk.eq (Blk.set (Blk.set (Blk.drewN HL.out _) 4 _) 3 _) rfl
  have HS2 : Blk (((wq.drewN m).setCell ⟨y, 4, none⟩ (.bool true)).setCell ⟨y, 3, none⟩ (.int .i64 (k : Nat))) x (laneCells s) 111 := Blk.far (Blk.far (Blk.drewN HLS.out _) hxy _) hxy _
  have HC2 : Chg (fun k => k = y ∨ k = x) wq (((wq.drewN m).setCell ⟨y, 4, none⟩ (.bool true)).setCell ⟨y, 3, none⟩ (.int .i64 (k : Nat))) := Chg.set (Chg.set (Chg.drewN (Chg.refl _ _) _) (.inl (.inl rfl)) _) (.inl (.inl rfl)) _
  clear x0 x1 x2 x3 x4 f1 f2 f3 f4 l0 l1 g1 HL HLS HR
  generalize (((wq.drewN m).setCell ⟨y, 4, none⟩ (.bool true)).setCell ⟨y, 3, none⟩ (.int .i64 (k : Nat))) = w7 at *
  have HL := Aside0.mk HL2
  have HLS := Aside0.mk HS2
  have HC := Aside0.mk HC2
  clear HC2
  have x0 : w7.cell? ⟨y, 0, none⟩ = some (pt x) := (Blk.cell HL2 0).trans rfl
  have x3 : w7.cell? ⟨y, 3, none⟩ = some (.int .i64 (k : Nat)) := (Blk.cell HL2 3).trans rfl
  have x4 : w7.cell? ⟨y, 4, none⟩ = some (.bool true) := (Blk.cell HL2 4).trans rfl
  have l0 : w7.cell? ⟨x, 0, none⟩ = some (.slice (some ⟨s.b, 0, none⟩) s.n s.c) := (Blk.cell HS2 0).trans rfl
  have l1 : w7.cell? ⟨x, 1, none⟩ = some (.int .i64 s.at_) := (Blk.cell HS2 1).trans rfl
  have g1 := Blk.frozen HS2 1
  clear HL2 HS2
  go_region_held3 (fun w' => w'.cell? ⟨y, 0, none⟩ = some (pt x) ∧ w'.cell? ⟨y, 3, none⟩ = some (.int .i64 (k : Nat)) ∧ w'.cell? ⟨x, 0, none⟩ = some (.slice (some ⟨s.b, 0, none⟩) s.n s.c)) (first | exact ⟨(Blk.cell (Blk.drew (Blk.far HL.out hyx _)) 0).trans rfl, (Blk.cell (Blk.drew (Blk.far HL.out hyx _)) 3).trans rfl, (Blk.cell (Blk.drew (Blk.set HLS.out 1 _)) 0).trans rfl⟩ | exact ⟨(Blk.cell (Blk.far (Blk.drew HL.out) hyx _) 0).trans rfl, (Blk.cell (Blk.far (Blk.drew HL.out) hyx _) 3).trans rfl, (Blk.cell (Blk.set (Blk.drew HLS.out) 1 _) 0).trans rfl⟩ | go_keep) (fail)
  go_wp2
  go_ret
  exact ⟨rfl, wq, HQ1.out, Blk.eq (Blk.far (Blk.drew HL.out) hyx _) rfl, Blk.eq (Blk.set (Blk.drew HLS.out) 1 _) rfl, Chg.set (Chg.drew HC.out) (.inl (.inr rfl)) _⟩
end Go.Proofs.Ytejplbeddcpmeaa.Lane
