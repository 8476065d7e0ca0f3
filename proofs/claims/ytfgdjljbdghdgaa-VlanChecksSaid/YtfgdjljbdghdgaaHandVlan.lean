/- Walks by hand of laws whose slice is cut by another function; no condition beyond the stated ones. -/
import Derived.Test.YtfgdjljbdghdgaaPVlanx16
import Derived.Test.YtfgdjljbdghdgaaPVlanx15
import Derived.Test.YtfgdjljbdghdgaaPVlanx13
import Derived.Test.YtfgdjljbdghdgaaPVlanx12
import Derived.Test.YtfgdjljbdghdgaaPVlanx11
import Derived.Test.YtfgdjljbdghdgaaPVlanx9
namespace Go.Proofs.Ytfgdjljbdghdgaa.PVlan
open Go.RowKit Go.Proofs.YtfgdjljbdghdgaaW.PrintWords Go.Proofs.YtfgdjljbdghdgaaW.PrintLast Go.Proofs.YtfgdjljbdghdgaaW.PrintMore
attribute [local go_sem] max2_int min2_int max_two min_two max_three min_three max_four min_four
set_option linter.unusedVariables false
set_option linter.unusedSimpArgs false

set_option maxHeartbeats 800000 in
theorem few30 (A0 : Option Addr) (c0 : Nat) (l0 : List S91) (w : World) (hc0 : l0.length ≤ c0) :
    Calls Try.prog 30 #[.slice A0 l0.length c0] w fun e w' => e = .returned (.slice A0 (l0.take 20).length c0) ∧ Drawn0 w w' := by
  obtain ⟨j, hj⟩ : ∃ j : Int, (if 20 < (l0.length : Int) then 20 else (l0.length : Int)) = j := ⟨_, rfl⟩
  have hj1 : 0 ≤ j := by rw [← hj]; split <;> omega
  have hj2 : j ≤ (l0.length : Int) := by rw [← hj]; split <;> omega
  obtain ⟨i06, hi06, _, hsz6, _⟩ := info_parts info91
  have hcut := cut_to (P := Try.prog) 48 91 .i64 Try.underlying48 hi06 A0 l0.length c0 j hj1 hj2 hc0
  rw [show j.toNat = (l0.take 20).length from by rw [List.length_take, ← hj]; split <;> omega] at hcut
  generalize (l0.take 20).length = n20 at *
  clear hi06 hsz6 hj1 hj2
  go_enter Try.func30, Try.ntmps30
  go_wp2
  go_ret
  exact ⟨by first | rfl | (simp; done) | (simp [*]; done), by repeat (first | exact Drawn0.refl _ | apply Drawn0.step)⟩

theorem take20 {w : World} {A0 : Option Addr} {l0 : List S91} (h : Kd.C k91 w A0 l0.length l0) : Kd.C k91 w A0 (l0.take 20).length (l0.take 20) := by
  rcases Nat.le_total 20 l0.length with c | c
  · exact Kd.C_take h c
  · rw [List.take_of_length_le c]; exact h

set_option maxHeartbeats 8000000 in
set_option maxRecDepth 100000 in
theorem ports9 (k : Nat) (A0 : Option Addr) (c0 : Nat) (l0 : List S91) (vid port : Int) (t : List S89) (ee s : Int) (w : World) (hr0 : Kd.C k91 w A0 l0.length l0) (hc0 : l0.length ≤ c0)
    (hTo : patchbaylaw03_To.f k (l0.take 20) = some t) (hL : vlan_Leave.f t vid port = some s) (hT : patchbaylaw03_told.f k = some true) (hE : vlan_Enter.f t vid port = some ee)
    (hRE : patchbayref03_Enter.f k (l0.take 20) vid port = some ee) (hRL : patchbayref03_Leave.f k (l0.take 20) vid port = some s) (hRH : patchbayref03_Has.f k s port = some false) :
    Calls Try.prog 9 #[.slice A0 l0.length c0, .int .i64 vid, .int .i64 port] w fun e w' => e = .returned (.bool true) ∧ Below w.heap.size w w' := by
  have H20 := Aside0.mk (take20 hr0)
  have HC20 := Aside0.mk (show (l0.take 20).length ≤ c0 from by rw [List.length_take]; omega)
  have HC0 := Aside0.mk hc0
  have HB := Aside0.mk (Below.refl w.heap.size w)
  have F1 := Aside0.mk hTo; have F2 := Aside0.mk hL; have F3 := Aside0.mk hT; have F4 := Aside0.mk hE; have F5 := Aside0.mk hRE; have F6 := Aside0.mk hRL; have F7 := Aside0.mk hRH
  clear hTo hL hT hE hRE hRL hRH hr0 hc0
  obtain ⟨l1, hl1⟩ : ∃ l1, l1 = l0.take 20 := ⟨_, rfl⟩
  go_enter Try.func9, Try.ntmps9
  go_wp2_with (first
    | (go_at_call 30; refine (few30 _ _ l0 _ HC0.out).mono ?_; rw [← hl1]; rw [← hl1] at H20 HC20 F1 F5 F6; clear hl1; rintro e w' ⟨rfl, nd, rfl⟩)
    | (go_at_call 32; refine (patchbaylaw03_To.calls k _ _ l1 t _ (Kd.C_below H20.out (by repeat (first | exact HB.out | apply below_alloc | apply pw_below_drewN | apply below_drew1))) HC20.out F1.out).mono ?_; rintro e w' ⟨v, rfl, ho, hb⟩; have HBn := Aside0.mk (below_step (by repeat (first | exact HB.out | apply below_alloc | apply pw_below_drewN | apply below_drew1)) hb); clear HB; have HB := HBn; clear HBn hb; obtain ⟨At, ct, et⟩ := Kd.R_slice ho; subst et; have HCt := Aside0.mk (Kd.R_reads' ho).2.2; have HCc := Aside0.mk (Kd.R_reads' ho).2.1; clear ho)
    | (go_at_call 31; refine (vlan_Leave.calls _ _ t vid port s _ (by (with_reducible repeat (first | refine Kd.C_drewN ?_ _ | refine Kd.C_drew ?_)); exact HCt.out) HCc.out F2.out).mono ?_; rintro e w' ⟨rfl, hb⟩; have HBn := Aside0.mk (below_step (by repeat (first | exact HB.out | apply below_alloc | apply pw_below_drewN | apply below_drew1)) hb); clear HB; have HB := HBn; clear HBn hb)
    | (go_at_call 33; refine (vlan_Enter.calls _ _ t vid port ee _ (by (with_reducible repeat (first | refine Kd.C_drewN ?_ _ | refine Kd.C_drew ?_)); exact HCt.out) HCc.out F4.out).mono ?_; rintro e w' ⟨rfl, hb⟩; have HBn := Aside0.mk (below_step (by repeat (first | exact HB.out | apply below_alloc | apply pw_below_drewN | apply below_drew1)) hb); clear HB; have HB := HBn; clear HBn hb)
    | (go_at_call 28; refine (patchbaylaw03_told.calls k true _ F3.out).mono ?_; rintro e w' ⟨rfl, hb⟩; have HBn := Aside0.mk (below_step (by repeat (first | exact HB.out | apply below_alloc | apply pw_below_drewN | apply below_drew1)) hb); clear HB; have HB := HBn; clear HBn hb)
    | (go_at_call 34; refine (patchbayref03_Enter.calls k _ _ l1 vid port ee _ (Kd.C_below H20.out (by repeat (first | exact HB.out | apply below_alloc | apply pw_below_drewN | apply below_drew1))) HC20.out F5.out).mono ?_; rintro e w' ⟨rfl, nd, rfl⟩)
    | (go_at_call 35; refine (patchbayref03_Leave.calls k _ _ l1 vid port s _ (Kd.C_below H20.out (by repeat (first | exact HB.out | apply below_alloc | apply pw_below_drewN | apply below_drew1))) HC20.out F6.out).mono ?_; rintro e w' ⟨rfl, nd, rfl⟩)
    | (go_at_call 36; refine (patchbayref03_Has.calls k s port false _ F7.out).mono ?_; rintro e w' ⟨rfl, nd, rfl⟩))
  go_ret
  exact ⟨by first | rfl | (simp; done) | (simp [*]; done), by repeat (first | exact HB.out | apply below_alloc | apply pw_below_drewN | apply below_drew1)⟩

end Go.Proofs.Ytfgdjljbdghdgaa.PVlan
