/- gauge.Busiest and the reference's: their walks; no condition. -/
import Derived.Test.YtkgghjblfoempaaGW7
import Derived.Deep.RegionHeld
namespace Go.Proofs.Ytkgghjblfoempaa.GW
open Go.RowKit Go.Proofs.YtkgghjblfoempaaW.PrintWords Go.Proofs.Ytkgghjblfoempaa.Fl
set_option linter.unusedVariables false
set_option linter.unusedSimpArgs false
attribute [local go_sem] run_store_float

/-- A row of floats. -/
def FlC (w : World) (A : Option Addr) (l : List Nat) : Prop := 0 < l.length → ∃ ad, A = some ad ∧ ∀ i, i < l.length → w.cell? (ad.add i) = some (.float .f64 (l.getD i 0))
theorem FlC.below {w w' : World} {A : Option Addr} {l : List Nat} (h : FlC w A l) (hb : Below w.heap.size w w') : FlC w' A l := fun hp => by
  obtain ⟨ad, e, hc⟩ := h hp
  exact ⟨ad, e, fun i hi => pw_cell_below hb (hc i hi)⟩
/-- The place of the greatest of the first k. -/
def bs (l : List Nat) : Nat → Int
  | 0 => -1
  | k + 1 => if cls (l.getD k 0) = 6 then bs l k else if bs l k < 0 then (k : Int) else if 0 < cmpw (l.getD k 0) (l.getD (bs l k).toNat 0) then (k : Int) else bs l k
theorem bs_range (l : List Nat) : ∀ k, -1 ≤ bs l k ∧ bs l k < k
  | 0 => by simp [bs]
  | k + 1 => by
    have h := bs_range l k
    unfold bs
    split
    · omega
    · split
      · omega
      · split <;> omega

set_option maxHeartbeats 4000000 in
theorem busiest_ (A : Option Addr) (c : Nat) (l : List Nat) (w : World) (h : FlC w A l) (hn : l.length ≤ 1000) : Calls Try.prog 46 #[.slice A l.length c] w fun e w' => e = .returned (.int .i64 (bs l l.length)) ∧ w' = w := by
  have HC := Aside0.mk h
  clear h
  go_enter Try.func46, Try.ntmps46
  go_wp2
  go_loopg [3, 8] l.length (fun kq v3 v8 w' => ∃ k : Nat, Aside0 (kq = l.length - k) ∧ k ≤ l.length ∧ v3 = .int .i64 (bs l k) ∧ v8 = .int .i64 (k : Int) ∧ w' = w)
  case atStart => exact ⟨0, ⟨by omega⟩, Nat.zero_le _, rfl, rfl, rfl⟩
  case round =>
    obtain ⟨k, HKQ, hk, rfl, rfl, rfl⟩ := hrel
    by_cases hlt : k < l.length
    · obtain ⟨ad, ea, xa⟩ := HC.out (by omega)
      cases ea
      have xb := xa k hlt
      have hr := bs_range l k
      have HN := Aside0.mk (show bs l (k + 1) = if cls (l.getD k 0) = 6 then bs l k else if bs l k < 0 then (k : Int) else if 0 < cmpw (l.getD k 0) (l.getD (bs l k).toNat 0) then (k : Int) else bs l k from rfl)
      have HX := Aside0.mk xa
      clear xa
      generalize bs l k = best at *
      generalize l.getD k 0 = x at *
      by_cases c1 : cls x = 6
      · have d1 : decide (cls x = 6) = true := decide_eq_true c1
        have hnx : bs l (k + 1) = best := by rw [HN.out, if_pos c1]
        clear HN HX
        go_wp2_with (first | (go_at_call 58; with_reducible refine (isNaN_ _ _).mono ?_; rintro e w' ⟨rfl, rfl⟩) | (go_at_call 40; with_reducible refine (compare_ _ _ _).mono ?_; rintro e w' ⟨rfl, rfl⟩))
        go_roundg (l.length - (k + 1))
        case measure => have := HKQ.out; omega
        case rel => exact ⟨k + 1, ⟨rfl⟩, by omega, by rw [hnx], by simp, rfl⟩
      · have d1 : decide (cls x = 6) = false := decide_eq_false c1
        by_cases c2 : best < 0
        · have hnx : bs l (k + 1) = (k : Int) := by rw [HN.out, if_neg c1, if_pos c2]
          clear HN HX
          go_wp2_with (first | (go_at_call 58; with_reducible refine (isNaN_ _ _).mono ?_; rintro e w' ⟨rfl, rfl⟩) | (go_at_call 40; with_reducible refine (compare_ _ _ _).mono ?_; rintro e w' ⟨rfl, rfl⟩))
          go_roundg (l.length - (k + 1))
          case measure => have := HKQ.out; omega
          case rel => exact ⟨k + 1, ⟨rfl⟩, by omega, by rw [hnx], by simp, rfl⟩
        · have y0 : (0 : Int) ≤ best := by omega
          have y1 : best < (l.length : Int) := by omega
          have xc := HX.out best.toNat (by omega)
          generalize l.getD best.toNat 0 = y at *
          by_cases c3 : 0 < cmpw x y
          · have hnx : bs l (k + 1) = (k : Int) := by rw [HN.out, if_neg c1, if_neg c2, if_pos c3]
            clear HN HX
            go_wp2_with (first | (go_at_call 58; with_reducible refine (isNaN_ _ _).mono ?_; rintro e w' ⟨rfl, rfl⟩) | (go_at_call 40; with_reducible refine (compare_ _ _ _).mono ?_; rintro e w' ⟨rfl, rfl⟩))
            go_roundg (l.length - (k + 1))
            case measure => have := HKQ.out; omega
            case rel => exact ⟨k + 1, ⟨rfl⟩, by omega, by rw [hnx], by simp, rfl⟩
          · have hnx : bs l (k + 1) = best := by rw [HN.out, if_neg c1, if_neg c2, if_neg c3]
            clear HN HX
            go_wp2_with (first | (go_at_call 58; with_reducible refine (isNaN_ _ _).mono ?_; rintro e w' ⟨rfl, rfl⟩) | (go_at_call 40; with_reducible refine (compare_ _ _ _).mono ?_; rintro e w' ⟨rfl, rfl⟩))
            go_roundg (l.length - (k + 1))
            case measure => have := HKQ.out; omega
            case rel => exact ⟨k + 1, ⟨rfl⟩, by omega, by rw [hnx], by simp, rfl⟩
    · obtain rfl : k = l.length := by omega
      go_wp2
      go_ret
      exact ⟨rfl, rfl⟩
end Go.Proofs.Ytkgghjblfoempaa.GW
