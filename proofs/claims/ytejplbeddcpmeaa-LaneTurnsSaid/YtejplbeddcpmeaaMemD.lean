/- What one op does to a memory, by the program and by the reference; no condition. -/
import Derived.Test.YtejplbeddcpmeaaMemN
import Derived.Test.YtejplbeddcpmeaaRMemW
namespace Go.Proofs.Ytejplbeddcpmeaa.Mem
open Go.RowKit Go.Proofs.YtejplbeddcpmeaaW.PrintWords Go.Proofs.Ytejplbeddcpmeaa.Heap
set_option linter.unusedVariables false
set_option linter.unusedSimpArgs false

def kin6 (kd : Int) : Int := wrap64 ((IntKind.u64.wrap kd).tmod 6)
theorem kin6_or (kd : Int) : kin6 kd = 0 ∨ kin6 kd = 1 ∨ kin6 kd = 2 ∨ kin6 kd = 3 ∨ kin6 kd = 4 ∨ kin6 kd = 5 := by
  have h : (IntKind.u64.wrap kd) = kd % 18446744073709551616 := by simp [IntKind.wrap, IntKind.bits, IntKind.signed]
  have h0 : 0 ≤ kd % 18446744073709551616 := Int.emod_nonneg _ (by omega)
  have h2 : (kd % 18446744073709551616).tmod 6 = (kd % 18446744073709551616) % 6 := Int.tmod_eq_emod_of_nonneg h0
  unfold kin6
  rw [h, h2]
  have a := Int.emod_nonneg (kd % 18446744073709551616) (show (6 : Int) ≠ 0 by omega)
  have b := Int.emod_lt_of_pos (kd % 18446744073709551616) (show (0 : Int) < 6 by omega)
  unfold wrap64
  omega
def MemS.ans (M : MemS) (k at_ who : Int) : Int :=
  if k = 0 then M.peek at_ else if k = 4 then M.peek at_ else if k = 5 then IntKind.u64.wrap (M.holder at_) else if k = 2 then (if M.takes at_ who then 1 else 0) else if k = 3 then (if M.frees at_ who then 1 else 0) else 0
def MemS.aft (M : MemS) (k at_ who v : Int) : MemS :=
  if k = 0 then M.load at_ else if k = 1 then M.store at_ v else if k = 2 then M.take at_ who else if k = 3 then M.free at_ who else M

set_option maxHeartbeats 1600000 in
theorem do_ (w : World) (p : Mp) (M : MemS) (kd at_ who v : Int) (h : MemAt 97 w p M) (ht : M.time < 4611686018427387904) (hw : who ≤ 9223372036854775807) (hv : 0 ≤ v ∧ v ≤ 18446744073709551615) :
    Calls Try.prog 21 #[pa p, .agg #[.int .i64 kd, .int .i64 at_, .int .i64 who, .int .u64 v]] w fun e w' => e = .returned (.int .u64 (M.ans (kin6 kd) at_ who)) ∧ MemAt 97 w' p (M.aft (kin6 kd) at_ who v) ∧ Chg p.has w w' := by
  have H := Aside0.mk h
  have HV := Aside0.mk hv
  have HC := Aside0.mk (Chg.refl p.has w)
  clear h hv
  rcases kin6_or kd with hk | hk | hk | hk | hk | hk
  · have e1 : M.ans (kin6 kd) at_ who = M.peek at_ := by rw [hk]; rfl
    have e2 : M.aft (kin6 kd) at_ who v = M.load at_ := by rw [hk]; rfl
    rw [e1, e2]
    clear e1 e2
    unfold kin6 at hk
    go_enter Try.func21, Try.ntmps21
    go_wp2_with (go_at_call 63; refine (load_ _ p M _ (H.out.alloc _) ht).mono ?_; rintro e w' ⟨rfl, hm, hc⟩; have HM := Aside0.mk hm; have HD := Aside0.mk ((HC.out.alloc _).trans hc); clear hm hc)
    go_ret
    exact ⟨rfl, HM.out, HD.out⟩
  · have e1 : M.ans (kin6 kd) at_ who = 0 := by rw [hk]; rfl
    have e2 : M.aft (kin6 kd) at_ who v = M.store at_ v := by rw [hk]; rfl
    rw [e1, e2]
    clear e1 e2
    unfold kin6 at hk
    go_enter Try.func21, Try.ntmps21
    go_wp2_with (go_at_call 20; refine (store_ _ p M _ _ (H.out.alloc _) ht HV.out).mono ?_; rintro e w' ⟨rfl, hm, hc⟩; have HM := Aside0.mk hm; have HD := Aside0.mk ((HC.out.alloc _).trans hc); clear hm hc)
    go_ret
    exact ⟨rfl, HM.out, HD.out⟩
  · have e1 : M.ans (kin6 kd) at_ who = (if M.takes at_ who then 1 else 0) := by rw [hk]; rfl
    have e2 : M.aft (kin6 kd) at_ who v = M.take at_ who := by rw [hk]; rfl
    rw [e1, e2]
    clear e1 e2
    unfold kin6 at hk
    cases hb : M.takes at_ who with
    | true =>
      go_enter Try.func21, Try.ntmps21
      go_wp2_with (go_at_call 18; refine (take_ _ p M _ _ (H.out.alloc _) ht hw).mono ?_; rintro e w' ⟨rfl, hm, hc⟩; have HM := Aside0.mk hm; have HD := Aside0.mk ((HC.out.alloc _).trans hc); clear hm hc)
      go_ret
      exact ⟨rfl, HM.out, HD.out⟩
    | false =>
      go_enter Try.func21, Try.ntmps21
      go_wp2_with (go_at_call 18; refine (take_ _ p M _ _ (H.out.alloc _) ht hw).mono ?_; rintro e w' ⟨rfl, hm, hc⟩; have HM := Aside0.mk hm; have HD := Aside0.mk ((HC.out.alloc _).trans hc); clear hm hc)
      go_ret
      exact ⟨rfl, HM.out, HD.out⟩
  · have e1 : M.ans (kin6 kd) at_ who = (if M.frees at_ who then 1 else 0) := by rw [hk]; rfl
    have e2 : M.aft (kin6 kd) at_ who v = M.free at_ who := by rw [hk]; rfl
    rw [e1, e2]
    clear e1 e2
    unfold kin6 at hk
    cases hb : M.frees at_ who with
    | true =>
      go_enter Try.func21, Try.ntmps21
      go_wp2_with (go_at_call 17; refine (free_ _ p M _ _ (H.out.alloc _) ht hw).mono ?_; rintro e w' ⟨rfl, hm, hc⟩; have HM := Aside0.mk hm; have HD := Aside0.mk ((HC.out.alloc _).trans hc); clear hm hc)
      go_ret
      exact ⟨rfl, HM.out, HD.out⟩
    | false =>
      go_enter Try.func21, Try.ntmps21
      go_wp2_with (go_at_call 17; refine (free_ _ p M _ _ (H.out.alloc _) ht hw).mono ?_; rintro e w' ⟨rfl, hm, hc⟩; have HM := Aside0.mk hm; have HD := Aside0.mk ((HC.out.alloc _).trans hc); clear hm hc)
      go_ret
      exact ⟨rfl, HM.out, HD.out⟩
  · have e1 : M.ans (kin6 kd) at_ who = M.peek at_ := by rw [hk]; rfl
    have e2 : M.aft (kin6 kd) at_ who v = M := by rw [hk]; rfl
    rw [e1, e2]
    clear e1 e2
    unfold kin6 at hk
    go_enter Try.func21, Try.ntmps21
    go_wp2_with (go_at_call 22; refine (peek_ _ p M _ (H.out.alloc _)).mono ?_; rintro e w' ⟨rfl, rfl⟩)
    go_ret
    exact ⟨rfl, H.out.alloc _, HC.out.alloc _⟩
  · have e1 : M.ans (kin6 kd) at_ who = IntKind.u64.wrap (M.holder at_) := by rw [hk]; rfl
    have e2 : M.aft (kin6 kd) at_ who v = M := by rw [hk]; rfl
    rw [e1, e2]
    clear e1 e2
    unfold kin6 at hk
    go_enter Try.func21, Try.ntmps21
    go_wp2_with (go_at_call 19; refine (holder_ _ p M _ (H.out.alloc _)).mono ?_; rintro e w' ⟨rfl, rfl⟩)
    go_ret
    exact ⟨rfl, H.out.alloc _, HC.out.alloc _⟩

set_option maxHeartbeats 1600000 in
theorem want_ (w : World) (p : Mp) (M : MemS) (kd at_ who v : Int) (h : MemAt 46 w p M) (ht : M.time < 4611686018427387904) (hw : who ≤ 9223372036854775807) (hv : 0 ≤ v ∧ v ≤ 18446744073709551615) :
    Calls Try.prog 26 #[pa p, .agg #[.int .i64 kd, .int .i64 at_, .int .i64 who, .int .u64 v]] w fun e w' => e = .returned (.int .u64 (M.ans (kin6 kd) at_ who)) ∧ MemAt 46 w' p (M.aft (kin6 kd) at_ who v) ∧ Chg p.has w w' := by
  have H := Aside0.mk h
  have HV := Aside0.mk hv
  have HC := Aside0.mk (Chg.refl p.has w)
  clear h hv
  rcases kin6_or kd with hk | hk | hk | hk | hk | hk
  · have e1 : M.ans (kin6 kd) at_ who = M.peek at_ := by rw [hk]; rfl
    have e2 : M.aft (kin6 kd) at_ who v = M.load at_ := by rw [hk]; rfl
    rw [e1, e2]
    clear e1 e2
    unfold kin6 at hk
    go_enter Try.func26, Try.ntmps26
    go_wp2_with (go_at_call 67; refine (RMem.load_ _ p M _ (H.out.alloc _) ht).mono ?_; rintro e w' ⟨rfl, hm, hc⟩; have HM := Aside0.mk hm; have HD := Aside0.mk ((HC.out.alloc _).trans hc); clear hm hc)
    go_ret
    exact ⟨rfl, HM.out, HD.out⟩
  · have e1 : M.ans (kin6 kd) at_ who = 0 := by rw [hk]; rfl
    have e2 : M.aft (kin6 kd) at_ who v = M.store at_ v := by rw [hk]; rfl
    rw [e1, e2]
    clear e1 e2
    unfold kin6 at hk
    go_enter Try.func26, Try.ntmps26
    go_wp2_with (go_at_call 68; refine (RMem.store_ _ p M _ _ (H.out.alloc _) ht HV.out).mono ?_; rintro e w' ⟨rfl, hm, hc⟩; have HM := Aside0.mk hm; have HD := Aside0.mk ((HC.out.alloc _).trans hc); clear hm hc)
    go_ret
    exact ⟨rfl, HM.out, HD.out⟩
  · have e1 : M.ans (kin6 kd) at_ who = (if M.takes at_ who then 1 else 0) := by rw [hk]; rfl
    have e2 : M.aft (kin6 kd) at_ who v = M.take at_ who := by rw [hk]; rfl
    rw [e1, e2]
    clear e1 e2
    unfold kin6 at hk
    cases hb : M.takes at_ who with
    | true =>
      go_enter Try.func26, Try.ntmps26
      go_wp2_with (go_at_call 69; refine (RMem.take_ _ p M _ _ (H.out.alloc _) ht hw).mono ?_; rintro e w' ⟨rfl, hm, hc⟩; have HM := Aside0.mk hm; have HD := Aside0.mk ((HC.out.alloc _).trans hc); clear hm hc)
      go_ret
      exact ⟨rfl, HM.out, HD.out⟩
    | false =>
      go_enter Try.func26, Try.ntmps26
      go_wp2_with (go_at_call 69; refine (RMem.take_ _ p M _ _ (H.out.alloc _) ht hw).mono ?_; rintro e w' ⟨rfl, hm, hc⟩; have HM := Aside0.mk hm; have HD := Aside0.mk ((HC.out.alloc _).trans hc); clear hm hc)
      go_ret
      exact ⟨rfl, HM.out, HD.out⟩
  · have e1 : M.ans (kin6 kd) at_ who = (if M.frees at_ who then 1 else 0) := by rw [hk]; rfl
    have e2 : M.aft (kin6 kd) at_ who v = M.free at_ who := by rw [hk]; rfl
    rw [e1, e2]
    clear e1 e2
    unfold kin6 at hk
    cases hb : M.frees at_ who with
    | true =>
      go_enter Try.func26, Try.ntmps26
      go_wp2_with (go_at_call 70; refine (RMem.free_ _ p M _ _ (H.out.alloc _) ht hw).mono ?_; rintro e w' ⟨rfl, hm, hc⟩; have HM := Aside0.mk hm; have HD := Aside0.mk ((HC.out.alloc _).trans hc); clear hm hc)
      go_ret
      exact ⟨rfl, HM.out, HD.out⟩
    | false =>
      go_enter Try.func26, Try.ntmps26
      go_wp2_with (go_at_call 70; refine (RMem.free_ _ p M _ _ (H.out.alloc _) ht hw).mono ?_; rintro e w' ⟨rfl, hm, hc⟩; have HM := Aside0.mk hm; have HD := Aside0.mk ((HC.out.alloc _).trans hc); clear hm hc)
      go_ret
      exact ⟨rfl, HM.out, HD.out⟩
  · have e1 : M.ans (kin6 kd) at_ who = M.peek at_ := by rw [hk]; rfl
    have e2 : M.aft (kin6 kd) at_ who v = M := by rw [hk]; rfl
    rw [e1, e2]
    clear e1 e2
    unfold kin6 at hk
    go_enter Try.func26, Try.ntmps26
    go_wp2_with (go_at_call 28; refine (RMem.peek_ _ p M _ (H.out.alloc _)).mono ?_; rintro e w' ⟨rfl, rfl⟩)
    go_ret
    exact ⟨rfl, H.out.alloc _, HC.out.alloc _⟩
  · have e1 : M.ans (kin6 kd) at_ who = IntKind.u64.wrap (M.holder at_) := by rw [hk]; rfl
    have e2 : M.aft (kin6 kd) at_ who v = M := by rw [hk]; rfl
    rw [e1, e2]
    clear e1 e2
    unfold kin6 at hk
    go_enter Try.func26, Try.ntmps26
    go_wp2_with (go_at_call 29; refine (RMem.holder_ _ p M _ (H.out.alloc _)).mono ?_; rintro e w' ⟨rfl, rfl⟩)
    go_ret
    exact ⟨rfl, H.out.alloc _, HC.out.alloc _⟩


end Go.Proofs.Ytejplbeddcpmeaa.Mem
