/- Lanes and takings (package lane): what stands in the heap, what the small functions tell; no condition. -/
import Derived.Test.YtejplbeddcpmeaaRing8
import Derived.Test.YtejplbeddcpmeaaRing10
import Derived.Deep.RegionHeld3
namespace Go.Proofs.Ytejplbeddcpmeaa.Lane
open Go.RowKit Go.Proofs.YtejplbeddcpmeaaW.PrintWords Go.Proofs.Ytejplbeddcpmeaa.Heap Go.Proofs.Ytejplbeddcpmeaa.Mem Go.Proofs.Ytejplbeddcpmeaa.Ring
set_option linter.unusedVariables false
set_option linter.unusedSimpArgs false

/-- A taking: the Pop under way, how many rings were looked at, where it is from, whether it is over. -/
structure LAct where
  pop : Nat
  looked : Nat
  from_ : Int
  over : Bool
/-- A lane: where its row of rings stands, how many, the row's room, the cursor, the taking. -/
structure LaneS where
  b : Nat
  n : Nat
  c : Nat
  at_ : Nat
  act : Value
def lactCells (x : Nat) (a : LAct) : List Value := [pt x, pt a.pop, .int .i64 a.looked, .int .i64 a.from_, .bool a.over]
def laneCells (s : LaneS) : List Value := [.slice (some ⟨s.b, 0, none⟩) s.n s.c, .int .i64 s.at_, s.act]
def LActAt (w : World) (y x : Nat) (a : LAct) : Prop := Blk w y (lactCells x a) 109
def LaneAt (w : World) (x : Nat) (s : LaneS) : Prop := Blk w x (laneCells s) 111

theorem over_ (w : World) (y x : Nat) (a : LAct) (h : LActAt w y x a) : Calls Try.prog 62 #[pt y] w fun e w' => e = .returned (.bool a.over) ∧ w = w' := by
  have h4 : w.cell? ⟨y, 4, none⟩ = some (.bool a.over) := (Blk.cell h 4).trans rfl
  go_enter Try.func62, Try.ntmps62
  go_wp2
  go_ret
  exact ⟨rfl, rfl⟩
theorem over_nil (w : World) : Calls Try.prog 62 #[.pointer none] w fun e w' => e = .returned (.bool true) ∧ w = w' := by
  go_enter Try.func62, Try.ntmps62
  go_wp2
  go_ret
  exact ⟨rfl, rfl⟩
theorem mark_ (w : World) (y x g : Nat) (a : LAct) (A : ActS) (h : LActAt w y x a) (ho : a.over = true) (hA : ActAt w a.pop g A) : Calls Try.prog 56 #[pt y] w fun e w' => e = .returned (.int .i64 A.mark) ∧ w = w' := by
  have h4 : w.cell? ⟨y, 4, none⟩ = some (.bool true) := (Blk.cell h 4).trans (by simp [lactCells, ho])
  have h1 : w.cell? ⟨y, 1, none⟩ = some (pt a.pop) := (Blk.cell h 1).trans rfl
  have HA := Aside0.mk hA
  clear hA ho
  go_enter Try.func56, Try.ntmps56
  go_wp2_with (go_at_call 39; (with_reducible refine (Ring.mark_ _ a.pop g A HA.out).mono ?_); rintro e w' ⟨rfl, rfl⟩)
  go_ret
  exact ⟨rfl, rfl⟩
theorem mark_nil (w : World) : Calls Try.prog 56 #[.pointer none] w fun e w' => e = .returned (.int .i64 0) ∧ w = w' := by
  go_enter Try.func56, Try.ntmps56
  go_wp2
  go_ret
  exact ⟨rfl, rfl⟩
theorem ok_ (w : World) (y x g : Nat) (a : LAct) (A : ActS) (h : LActAt w y x a) (ho : a.over = true) (hA : ActAt w a.pop g A) : Calls Try.prog 53 #[pt y] w fun e w' => e = .returned (.bool A.ok) ∧ w = w' := by
  have h4 : w.cell? ⟨y, 4, none⟩ = some (.bool true) := (Blk.cell h 4).trans (by simp [lactCells, ho])
  have h1 : w.cell? ⟨y, 1, none⟩ = some (pt a.pop) := (Blk.cell h 1).trans rfl
  have HA := Aside0.mk hA
  clear hA ho
  go_enter Try.func53, Try.ntmps53
  go_wp2_with (go_at_call 37; (with_reducible refine (Ring.ok_ _ a.pop g A HA.out).mono ?_); rintro e w' ⟨rfl, rfl⟩)
  go_ret
  exact ⟨rfl, rfl⟩
theorem ok_nil (w : World) : Calls Try.prog 53 #[.pointer none] w fun e w' => e = .returned (.bool false) ∧ w = w' := by
  go_enter Try.func53, Try.ntmps53
  go_wp2
  go_ret
  exact ⟨rfl, rfl⟩
theorem from_ (w : World) (y x g : Nat) (a : LAct) (A : ActS) (h : LActAt w y x a) (ho : a.over = true) (hA : ActAt w a.pop g A) : Calls Try.prog 55 #[pt y] w fun e w' => e = .returned (.int .i64 (if A.ok = true then a.from_ else -1)) ∧ w = w' := by
  have h3 : w.cell? ⟨y, 3, none⟩ = some (.int .i64 a.from_) := (Blk.cell h 3).trans rfl
  have H := Aside0.mk (ok_ w y x g a A h ho hA)
  clear h ho hA
  cases hk : A.ok
  · rw [hk] at H
    go_enter Try.func55, Try.ntmps55
    go_wp2_with (go_at_call 53; (with_reducible refine H.out.mono ?_); rintro e w' ⟨rfl, rfl⟩)
    go_ret
    exact ⟨rfl, rfl⟩
  · rw [hk] at H
    go_enter Try.func55, Try.ntmps55
    go_wp2_with (go_at_call 53; (with_reducible refine H.out.mono ?_); rintro e w' ⟨rfl, rfl⟩)
    go_ret
    exact ⟨rfl, rfl⟩
theorem from_nil (w : World) : Calls Try.prog 55 #[.pointer none] w fun e w' => e = .returned (.int .i64 (-1)) ∧ w = w' := by
  go_enter Try.func55, Try.ntmps55
  go_wp2_with (go_at_call 53; (with_reducible refine (ok_nil _).mono ?_); rintro e w' ⟨rfl, rfl⟩)
  go_ret
  exact ⟨rfl, rfl⟩
theorem value_ (w : World) (y x g : Nat) (a : LAct) (A : ActS) (h : LActAt w y x a) (ho : a.over = true) (hA : ActAt w a.pop g A) : Calls Try.prog 54 #[pt y] w fun e w' => e = .returned (.int .u64 (if A.ok then A.value else 0)) ∧ w = w' := by
  have h1 : w.cell? ⟨y, 1, none⟩ = some (pt a.pop) := (Blk.cell h 1).trans rfl
  have H := Aside0.mk (ok_ w y x g a A h ho hA)
  have HV := Aside0.mk (Ring.value_ w a.pop g A hA)
  clear h ho hA
  cases hk : A.ok
  · rw [hk] at H
    go_enter Try.func54, Try.ntmps54
    go_wp2_with (go_at_call 53; (with_reducible refine H.out.mono ?_); rintro e w' ⟨rfl, rfl⟩)
    go_ret
    exact ⟨rfl, rfl⟩
  · rw [hk] at H HV
    go_enter Try.func54, Try.ntmps54
    go_wp2_with (first | (go_at_call 53; (with_reducible refine H.out.mono ?_); rintro e w' ⟨rfl, rfl⟩) | (go_at_call 42; (with_reducible refine HV.out.mono ?_); rintro e w' ⟨rfl, rfl⟩))
    go_ret
    exact ⟨rfl, rfl⟩
theorem value_nil (w : World) : Calls Try.prog 54 #[.pointer none] w fun e w' => e = .returned (.int .u64 0) ∧ w = w' := by
  go_enter Try.func54, Try.ntmps54
  go_wp2_with (go_at_call 53; (with_reducible refine (ok_nil _).mono ?_); rintro e w' ⟨rfl, rfl⟩)
  go_ret
  exact ⟨rfl, rfl⟩
theorem next_nil (w : World) : Calls Try.prog 60 #[.pointer none] w fun e w' => e = .returned (.pointer none) ∧ w = w' := by
  go_enter Try.func60, Try.ntmps60
  go_wp2
  go_ret
  exact ⟨rfl, rfl⟩
theorem len_nil (w : World) : Calls Try.prog 58 #[.pointer none] w fun e w' => e = .returned (.int .i64 0) ∧ w = w' := by
  go_enter Try.func58, Try.ntmps58
  go_wp2
  go_ret
  exact ⟨rfl, rfl⟩
theorem step_nil (w : World) : Calls Try.prog 61 #[.pointer none] w fun e w' => e = .returned (.bool true) ∧ w = w' := by
  go_enter Try.func61, Try.ntmps61
  go_wp2_with (go_at_call 62; (with_reducible refine (over_nil _).mono ?_); rintro e w' ⟨rfl, rfl⟩)
  go_ret
  exact ⟨rfl, rfl⟩
set_option maxHeartbeats 1600000 in
theorem ring_ (w : World) (y x b n c at_ looked : Nat) (hx0 : w.cell? ⟨y, 0, none⟩ = some (pt x)) (hx2 : w.cell? ⟨y, 2, none⟩ = some (.int .i64 looked)) (hl0 : w.cell? ⟨x, 0, none⟩ = some (.slice (some ⟨b, 0, none⟩) n c)) (hl1 : w.cell? ⟨x, 1, none⟩ = some (.int .i64 at_)) (h0 : at_ < n) (h1 : looked < n) (h2 : n ≤ 1000) : Calls Try.prog 79 #[pt y] w fun e w' => e = .returned (.int .i64 ((at_ + looked) % n : Nat)) ∧ ∃ m, w' = w.drewN m := by
  have e1 : IntKind.i64.wrap ((at_ : Int) + (looked : Int)) = ((at_ + looked : Nat) : Int) := by rw [i64_id (by omega)]; omega
  have e2 : (((at_ + looked : Nat) : Int)).tmod (n : Int) = (((at_ + looked) % n : Nat) : Int) := by rw [Int.tmod_eq_emod_of_nonneg (by omega)]; omega
  have e3 : ((n : Int) == 0) = false := beq_eq_false_iff_ne.mpr (by omega)
  have e4 : ¬ n = 0 := by omega
  have e5 : ¬ (n : Int) = 0 := by omega
  go_enter Try.func79, Try.ntmps79
  go_wp2
  go_region_held3 (fun w' => w'.cell? ⟨y, 0, none⟩ = some (pt x) ∧ w'.cell? ⟨y, 2, none⟩ = some (.int .i64 looked) ∧ w'.cell? ⟨x, 0, none⟩ = some (.slice (some ⟨b, 0, none⟩) n c) ∧ w'.cell? ⟨x, 1, none⟩ = some (.int .i64 at_)) (go_keep) (fail)
  go_wp2
  go_ret
  exact ⟨rfl, ⟨1, rfl⟩⟩
end Go.Proofs.Ytejplbeddcpmeaa.Lane
