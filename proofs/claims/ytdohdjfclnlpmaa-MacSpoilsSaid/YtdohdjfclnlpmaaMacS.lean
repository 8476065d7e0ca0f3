/- The law MacSpoils: its walk; no condition. -/
import Derived.Test.YtdohdjfclnlpmaaPureMacParses
namespace Go.Proofs.Ytdohdjfclnlpmaa.MacW
open Go.RowKit Go.Proofs.Ytdohdjfclnlpmaa.PMac Go.Proofs.YtdohdjfclnlpmaaW.PrintWords Go.Proofs.YtdohdjfclnlpmaaW.PrintLast Go.Proofs.Ytdohdjfclnlpmaa.Pure
set_option linter.unusedVariables false
set_option linter.unusedSimpArgs false

theorem toList_inj {a b : ByteArray} : a.toList = b.toList ↔ a = b := by
  constructor
  · intro h
    rw [ByteArray.toList_eq, ByteArray.toList_eq] at h
    cases a; cases b
    simp only [ByteArray.mk.injEq]
    exact Array.toList_inj.1 h
  · intro h; rw [h]

set_option maxHeartbeats 4000000 in
set_option maxRecDepth 100000 in
theorem spoils_same (m a c v0 e0 : Int) (S T : ByteArray) (w : World) (k : Nat) (hk : k < 17) (hq : IntKind.i64.wrap (Int.tmod (IntKind.u64.wrap a) 17) = (k : Int)) (h17 : S.size = 17) (hS : patchbayref01_Text.f m = some S)
    (hT : S.extract 0 k ++ ⟨#[UInt8.ofNat c.toNat]⟩ ++ S.extract (k + 1) 17 = T) (hP : mac_Parse.f T = some (v0, e0)) (he : e0 = 0) (hE : T = S) (hL : patchbayref01_Low.f m = some v0) :
    Calls Try.prog 10 #[.int .u64 m, .int .i64 a, .int .u8 c] w fun e w' => e = .returned (.bool true) ∧ Below w.heap.size w w' := by
  rw [hE] at hP
  have HB := Aside0.mk (Below.refl w.heap.size w)
  go_enter Try.func10, Try.ntmps10
  go_wp2_with (go_at_call 28; refine (patchbayref01_Text.calls m S w hS).mono ?_; rintro e w' ⟨rfl, hb⟩; have HBn := Aside0.mk hb; clear HB hb; have HB := HBn; clear HBn)
  have k0 : (0 : Int) ≤ (k : Int) := by omega
  have k1 : (k : Int) ≤ 17 := by omega
  have k2 : IntKind.i64.wrap ((k : Int) + 1) = (k : Int) + 1 := IntWalk.i64_in _ (by omega)
  have k3 : (0 : Int) ≤ (k : Int) + 1 := by omega
  have k4 : (k : Int) + 1 ≤ 17 := by omega
  have hcv : ∀ W : World, (convert 22 9 (.slice (some ⟨W.heap.size, 0, none⟩) 1 1)).run Try.prog ((W.alloc (.cells #[.int .u8 c] 5)).drew) = .ok (.string ⟨#[UInt8.ofNat c.toNat]⟩) ((W.alloc (.cells #[.int .u8 c] 5)).drew) := fun W => own_string (e' := 5) u22 u5 u9 (show ((W.alloc (.cells #[.int .u8 c] 5)).drew).ownsRow W.heap.size 5 1 (.slice (some ⟨W.heap.size, 0, none⟩) 1 1) 1 (nums .u8 [c]) from own_lit W W.heap.size 5 .u8 [c] (Nat.le_refl _) (by simp))
  have hcw := hcv w'
  go_region
  all_goals (go_wp2_with fail)
  try rw [hT]
  clear hcv hcw
  subst he hE
  refine (mac_Parse.calls _ _ _ _ hP).mono ?_
  rintro e w' ⟨rfl, hb⟩
  have HBn := Aside0.mk (below_step (by repeat (first | (with_reducible first | exact HB.out | apply below_alloc | apply pw_below_drewN | apply below_drew1) | exact HB.out)) hb)
  clear HB hb
  have HB := HBn
  clear HBn
  go_wp2_with (first | (go_at_call 27; refine (patchbaylaw01_told.calls 30 true _ told30).mono ?_; rintro e w' ⟨rfl, hb⟩; have HBn := Aside0.mk (below_step (by repeat (first | (with_reducible first | exact HB.out | apply below_alloc | apply pw_below_drewN | apply below_drew1) | exact HB.out)) hb); clear HB hb; have HB := HBn; clear HBn) | (go_at_call 29; refine (patchbayref01_Low.calls m _ _ hL).mono ?_; rintro e w' ⟨rfl, hb⟩; obtain ⟨nd, rfl⟩ := hb.out))
  go_ret
  exact ⟨by first | rfl | (simp [*]; done), (by repeat (first | (with_reducible first | exact HB.out | apply below_alloc | apply pw_below_drewN | apply below_drew1) | exact HB.out))⟩
set_option maxHeartbeats 4000000 in
set_option maxRecDepth 100000 in
theorem spoils_none (m a c v0 e0 : Int) (S T : ByteArray) (w : World) (k : Nat) (hk : k < 17) (hq : IntKind.i64.wrap (Int.tmod (IntKind.u64.wrap a) 17) = (k : Int)) (h17 : S.size = 17) (hS : patchbayref01_Text.f m = some S)
    (hT : S.extract 0 k ++ ⟨#[UInt8.ofNat c.toNat]⟩ ++ S.extract (k + 1) 17 = T) (hP : mac_Parse.f T = some (v0, e0)) (he : e0 = 4) (hv : v0 = 0) (hE : T ≠ S) :
    Calls Try.prog 10 #[.int .u64 m, .int .i64 a, .int .u8 c] w fun e w' => e = .returned (.bool true) ∧ Below w.heap.size w w' := by
  have HB := Aside0.mk (Below.refl w.heap.size w)
  go_enter Try.func10, Try.ntmps10
  go_wp2_with (go_at_call 28; refine (patchbayref01_Text.calls m S w hS).mono ?_; rintro e w' ⟨rfl, hb⟩; have HBn := Aside0.mk hb; clear HB hb; have HB := HBn; clear HBn)
  have k0 : (0 : Int) ≤ (k : Int) := by omega
  have k1 : (k : Int) ≤ 17 := by omega
  have k2 : IntKind.i64.wrap ((k : Int) + 1) = (k : Int) + 1 := IntWalk.i64_in _ (by omega)
  have k3 : (0 : Int) ≤ (k : Int) + 1 := by omega
  have k4 : (k : Int) + 1 ≤ 17 := by omega
  have hcv : ∀ W : World, (convert 22 9 (.slice (some ⟨W.heap.size, 0, none⟩) 1 1)).run Try.prog ((W.alloc (.cells #[.int .u8 c] 5)).drew) = .ok (.string ⟨#[UInt8.ofNat c.toNat]⟩) ((W.alloc (.cells #[.int .u8 c] 5)).drew) := fun W => own_string (e' := 5) u22 u5 u9 (show ((W.alloc (.cells #[.int .u8 c] 5)).drew).ownsRow W.heap.size 5 1 (.slice (some ⟨W.heap.size, 0, none⟩) 1 1) 1 (nums .u8 [c]) from own_lit W W.heap.size 5 .u8 [c] (Nat.le_refl _) (by simp))
  have hcw := hcv w'
  go_region
  all_goals (go_wp2_with fail)
  try rw [hT]
  clear hcv hcw
  subst he hv
  have hE' : (T.toList == S.toList) = false := beq_eq_false_iff_ne.mpr (fun e => hE (toList_inj.mp e))
  refine (mac_Parse.calls T _ _ _ hP).mono ?_
  rintro e w' ⟨rfl, hb⟩
  have HBn := Aside0.mk (below_step (by repeat (first | (with_reducible first | exact HB.out | apply below_alloc | apply pw_below_drewN | apply below_drew1) | exact HB.out)) hb)
  clear HB hb
  have HB := HBn
  clear HBn
  go_wp2_with (first | (go_at_call 27; refine (patchbaylaw01_told.calls 30 true _ told30).mono ?_; rintro e w' ⟨rfl, hb⟩; have HBn := Aside0.mk (below_step (by repeat (first | (with_reducible first | exact HB.out | apply below_alloc | apply pw_below_drewN | apply below_drew1) | exact HB.out)) hb); clear HB hb; have HB := HBn; clear HBn))
  go_ret
  exact ⟨by first | rfl | (simp [*]; done), (by repeat (first | (with_reducible first | exact HB.out | apply below_alloc | apply pw_below_drewN | apply below_drew1) | exact HB.out))⟩
set_option maxHeartbeats 4000000 in
set_option maxRecDepth 100000 in
theorem spoils_other (m a c v0 e0 : Int) (S T : ByteArray) (w : World) (k : Nat) (hk : k < 17) (hq : IntKind.i64.wrap (Int.tmod (IntKind.u64.wrap a) 17) = (k : Int)) (h17 : S.size = 17) (hS : patchbayref01_Text.f m = some S)
    (hT : S.extract 0 k ++ ⟨#[UInt8.ofNat c.toNat]⟩ ++ S.extract (k + 1) 17 = T) (hP : mac_Parse.f T = some (v0, e0)) (lo : Int) (he : e0 = 0) (hE : T ≠ S) (hL : patchbayref01_Low.f m = some lo) (hl : v0 ≠ lo) (hX : mac_Text.f v0 = some T) :
    Calls Try.prog 10 #[.int .u64 m, .int .i64 a, .int .u8 c] w fun e w' => e = .returned (.bool true) ∧ Below w.heap.size w w' := by
  have HB := Aside0.mk (Below.refl w.heap.size w)
  go_enter Try.func10, Try.ntmps10
  go_wp2_with (go_at_call 28; refine (patchbayref01_Text.calls m S w hS).mono ?_; rintro e w' ⟨rfl, hb⟩; have HBn := Aside0.mk hb; clear HB hb; have HB := HBn; clear HBn)
  have k0 : (0 : Int) ≤ (k : Int) := by omega
  have k1 : (k : Int) ≤ 17 := by omega
  have k2 : IntKind.i64.wrap ((k : Int) + 1) = (k : Int) + 1 := IntWalk.i64_in _ (by omega)
  have k3 : (0 : Int) ≤ (k : Int) + 1 := by omega
  have k4 : (k : Int) + 1 ≤ 17 := by omega
  have hcv : ∀ W : World, (convert 22 9 (.slice (some ⟨W.heap.size, 0, none⟩) 1 1)).run Try.prog ((W.alloc (.cells #[.int .u8 c] 5)).drew) = .ok (.string ⟨#[UInt8.ofNat c.toNat]⟩) ((W.alloc (.cells #[.int .u8 c] 5)).drew) := fun W => own_string (e' := 5) u22 u5 u9 (show ((W.alloc (.cells #[.int .u8 c] 5)).drew).ownsRow W.heap.size 5 1 (.slice (some ⟨W.heap.size, 0, none⟩) 1 1) 1 (nums .u8 [c]) from own_lit W W.heap.size 5 .u8 [c] (Nat.le_refl _) (by simp))
  have hcw := hcv w'
  go_region
  all_goals (go_wp2_with fail)
  try rw [hT]
  clear hcv hcw
  subst he
  have hE' : (T.toList == S.toList) = false := beq_eq_false_iff_ne.mpr (fun e => hE (toList_inj.mp e))
  have hl' : (v0 != lo) = true := bne_iff_ne.mpr hl
  refine (mac_Parse.calls T _ _ _ hP).mono ?_
  rintro e w' ⟨rfl, hb⟩
  have HBn := Aside0.mk (below_step (by repeat (first | (with_reducible first | exact HB.out | apply below_alloc | apply pw_below_drewN | apply below_drew1) | exact HB.out)) hb)
  clear HB hb
  have HB := HBn
  clear HBn
  go_wp2_with (first | (go_at_call 27; refine (patchbaylaw01_told.calls 30 true _ told30).mono ?_; rintro e w' ⟨rfl, hb⟩; have HBn := Aside0.mk (below_step (by repeat (first | (with_reducible first | exact HB.out | apply below_alloc | apply pw_below_drewN | apply below_drew1) | exact HB.out)) hb); clear HB hb; have HB := HBn; clear HBn) | (go_at_call 29; refine (patchbayref01_Low.calls m _ _ hL).mono ?_; rintro e w' ⟨rfl, hb⟩; obtain ⟨nd, rfl⟩ := hb.out) | (go_at_call 25; refine (mac_Text.calls v0 T _ hX).mono ?_; rintro e w' ⟨rfl, hb⟩; have HBn := Aside0.mk (below_step (by repeat (first | (with_reducible first | exact HB.out | apply below_alloc | apply pw_below_drewN | apply below_drew1) | exact HB.out)) hb); clear HB hb; have HB := HBn; clear HBn))
  go_ret
  exact ⟨by first | rfl | (simp [*]; done), (by repeat (first | (with_reducible first | exact HB.out | apply below_alloc | apply pw_below_drewN | apply below_drew1) | exact HB.out))⟩
end Go.Proofs.Ytdohdjfclnlpmaa.MacW
