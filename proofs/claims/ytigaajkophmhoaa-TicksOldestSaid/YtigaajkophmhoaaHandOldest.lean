/- The walk by hand of TicksOldest; no condition beyond the stated ones. -/
import Derived.Test.YtigaajkophmhoaaPTicksOldestx1
import Derived.Deep.RegionHeld3
import Derived.Deep.QuietTactic
import Derived.BigQuiet
namespace Go.Proofs.Ytigaajkophmhoaa.PTicksOldest
open Go.RowKit Go.Proofs.YtigaajkophmhoaaW.PrintWords Go.Proofs.YtigaajkophmhoaaW.PrintLast Go.Proofs.YtigaajkophmhoaaW.PrintMore
attribute [local go_sem] max2_int min2_int max_two min_two max_three min_three max_four min_four
set_option linter.unusedVariables false
set_option linter.unusedSimpArgs false

theorem patchbayref04_Age.callsN (a0 : Int) (a1 : Int) (r : Int) (w : World) (h : patchbayref04_Age.f a0 a1 = some r) :
    Calls Try.prog 19 #[.int .u32 a0, .int .u32 a1] w fun e w' => e = .returned (.int .u32 r) ∧ ∃ n, w' = w.drewN n := (patchbayref04_Age.calls a0 a1 r w h).mono fun _ _ ⟨a, b⟩ => ⟨a, b.out⟩
set_option maxHeartbeats 8000000 in
set_option maxRecDepth 100000 in
theorem oldest3 (k : Nat) (now : Int) (A0 : Option Addr) (c0 : Nat) (l l1 : List Int) (r : Int) (w : World) (hr0 : Kd.C (Kd.int .u32) w A0 l.length l) (hc0 : l.length ≤ c0) (hl1 : l.take (min l.length 100) = l1)
    (hO : ticks_Oldest.f k now l1 = some r) (hT : patchbaylaw04_told.f k = some true) (hR : patchbayref04_Oldest.f k now l1 = some r)
    (hS : ∀ i : Nat, i < l1.length → 0 ≤ r ∧ r < (l1.length : Int) ∧ ∃ x y, patchbayref04_Age.f now (rd l1 (i : Int)) = some x ∧ patchbayref04_Age.f now (rd l1 r) = some y ∧ ¬ x > y ∧ ((i : Int) < r → x ≠ y))
    (hE : l1.length = 0 → r = -1) :
    Calls Try.prog 3 #[.int .u32 now, .slice A0 l.length c0] w fun e w' => e = .returned (.bool true) ∧ Below w.heap.size w w' := by
  obtain ⟨j, hj⟩ : ∃ j : Int, (if 100 < (l.length : Int) then 100 else (l.length : Int)) = j := ⟨_, rfl⟩
  have hj1 : 0 ≤ j := by rw [← hj]; split <;> omega
  have hj2 : j ≤ (l.length : Int) := by rw [← hj]; split <;> omega
  have hj3 : j.toNat = min l.length 100 := by rw [← hj]; split <;> omega
  obtain ⟨i0, hi0, _, hsz, _⟩ := info_parts info22
  obtain ⟨hcut, hA, hC⟩ := print_take_of (P := Try.prog) (Value.int .u32) 0 23 22 .i64 Try.underlying23 hi0 hsz A0 c0 l j hj1 hj2 hc0
  have hC1 := Kd.C_of_reads (h1 := fun _ => rfl) (hA _ (Kd.reads_of_C hr0))
  have hn : l1.length ≤ 100 := by rw [← hl1, List.length_take]; omega
  rw [hj3, hl1] at hcut hC hC1
  have HC := Aside0.mk hC1
  have HCc := Aside0.mk hC
  have FO := Aside0.mk hO; have FT := Aside0.mk hT; have FR := Aside0.mk hR; have FS := Aside0.mk hS; have FE := Aside0.mk hE; have FN := Aside0.mk hn
  clear hA hi0 hsz hj1 hj2 hj3 hC hC1 hO hT hR hS hE hr0 hc0 hl1 hn
  go_enter Try.func3, Try.ntmps3
  go_wp2_with (first
    | (go_at_call 16; refine (ticks_Oldest.calls k now _ _ l1 r _ (by (with_reducible repeat (first | refine Kd.C_drewN ?_ _ | refine Kd.C_drew ?_)); exact HC.out) HCc.out FO.out).mono ?_; rintro e w' ⟨rfl, nd, rfl⟩)
    | (go_at_call 17; refine (patchbaylaw04_told.calls k true _ FT.out).mono ?_; rintro e w' ⟨rfl, nd, rfl⟩)
    | (go_at_call 18; refine (patchbayref04_Oldest.calls k now _ _ l1 r _ (by (with_reducible repeat (first | refine Kd.C_drewN ?_ _ | refine Kd.C_drew ?_)); exact HC.out) HCc.out FR.out).mono ?_; rintro e w' ⟨rfl, nd, rfl⟩))
  go_loopg [6] l1.length (fun kq v6 w' => ∃ i : Nat, Aside0 (kq = l1.length - i) ∧ i ≤ l1.length ∧ v6 = .int .i64 (i : Int) ∧ Aside0 (Drawn0 w w'))
  case atStart => exact ⟨0, ⟨by omega⟩, Nat.zero_le _, rfl, ⟨by repeat (first | exact Drawn0.refl _ | apply Drawn0.step)⟩⟩
  case round =>
    obtain ⟨i, HKQ, hi, rfl, HW⟩ := hrel
    have HCr : Aside0 (Kd.C (Kd.int .u32) wr A0 l1.length l1) := ⟨by obtain ⟨n, hn⟩ := HW.out.out; rw [hn]; exact Kd.C_drewN HC.out n⟩
    by_cases hlt : i < l1.length
    · obtain ⟨r0, r1, x, y, hx, hy, hxy, hne⟩ := FS.out i hlt
      have AX := Aside0.mk hx
      have AY := Aside0.mk hy
      obtain ⟨ad, ea, c1⟩ := Kd.at_int HCr.out (i : Int) (by omega) (by omega)
      cases ea
      obtain ⟨ad', ea', c2⟩ := Kd.at_int HCr.out r r0 r1
      cases ea'
      rw [Int.toNat_natCast] at c1
      have g1 : decide (r < 0) = false := decide_eq_false (by omega)
      have g2 : decide ((l1.length : Int) ≤ r) = false := decide_eq_false (by omega)
      have g3 : decide (y < x) = false := decide_eq_false (by omega)
      have p1 := eq_true r0
      have q1 := eq_true r1
      have hn100 := FN.out
      clear hx hy
      by_cases hir : (i : Int) < r
      · have g4 : decide ((i : Int) < r) = true := decide_eq_true hir
        have g5 : (x == y) = false := beq_eq_false_iff_ne.mpr (hne hir)
        clear hxy hne
        go_wp2
        go_region_held3 (fun w' => w'.cell? (ad.add i) = some (.int .u32 (rd l1 (i : Int))) ∧ w'.cell? (ad.add r.toNat) = some (.int .u32 (rd l1 r))) (go_keep) (first | (go_at_call 19; (with_reducible refine (patchbayref04_Age.calls now (rd l1 (i : Int)) x _ AX.out).mono ?_); rintro e w' ⟨rfl, nd, rfl⟩) | (go_at_call 19; (with_reducible refine (patchbayref04_Age.calls now (rd l1 r) y _ AY.out).mono ?_); rintro e w' ⟨rfl, nd, rfl⟩))
        all_goals (go_wp2; go_roundg (l1.length - (i + 1)))
        all_goals (first
          | (case measure => have := HKQ.out; omega)
          | (case rel => exact ⟨i + 1, ⟨rfl⟩, by omega, by simp, ⟨by repeat (first | exact HW.out | apply Drawn0.step)⟩⟩))
      · have g4 : decide ((i : Int) < r) = false := decide_eq_false hir
        have g6 : ((i : Int) < r) = False := eq_false hir
        clear hxy hne hir
        go_wp2
        go_quiet ((go_at_call 19; (first | (with_reducible exact Calls.quiet_of (patchbayref04_Age.callsN now (rd l1 (i : Int)) x _ AX.out)) | (with_reducible exact Calls.quiet_of (patchbayref04_Age.callsN now (rd l1 r) y _ AY.out)))))
        all_goals (go_wp2; go_roundg (l1.length - (i + 1)))
        all_goals (first
          | (case measure => have := HKQ.out; omega)
          | (case rel => exact ⟨i + 1, ⟨rfl⟩, by omega, by simp, ⟨by repeat (first | exact HW.out | apply Drawn0.step)⟩⟩))
    · have hkm : i = l1.length := by omega
      subst hkm
      by_cases h0 : l1.length = 0
      · have hr1 := FE.out h0
        subst hr1
        have hb : (l1.length : Int) = 0 := by omega
        clear h0
        go_wp2
        go_ret
        exact ⟨by first | rfl | (simp; done) | (simp [*]; done), HW.out.below⟩
      · have hb : (0 : Int) < (l1.length : Int) := by omega
        go_wp2
        go_ret
        exact ⟨by first | rfl | (simp; done) | (simp [*]; done), HW.out.below⟩

end Go.Proofs.Ytigaajkophmhoaa.PTicksOldest
