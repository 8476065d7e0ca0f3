/- Floats' words: classes, values, the order, what the arithmetic gives; plain Lean. -/
import Derived.Laws.FloatArith
import Derived.Laws.NewFold
import Derived.KernelRfl
namespace Go.Proofs.Ytkgghjblfoempaa.Fl
open Ieee

abbrev D (x : Nat) : Datum := double.read x
def cls (x : Nat) : Nat := match D x with | .nan _ _ => 6 | .infinity s => if s then 0 else 5 | .number _ _ _ => 1
def val (x : Nat) : Int := match D x with | .number s m p => signed s m (p + 1074).toNat | _ => 0

theorem read_cases (x : Nat) : (∃ s m p, D x = .number s m p ∧ -1074 ≤ p ∧ p ≤ 971 ∧ m < 9007199254740992) ∨ (∃ s, D x = .infinity s) ∨ (∃ s t, D x = .nan s t) := by
  unfold D Format.read
  have hb : double.binade = 4503599627370496 := by decide
  have hi : double.infRung = 9218868437227405312 := by decide
  have hl : double.leastPlace = -1074 := by decide
  rw [hb, hi, hl]
  generalize (x / double.signWeight % 2 == 1) = s
  generalize x % double.signWeight = r
  simp only
  split
  · exact .inl ⟨_, _, _, rfl, by omega, by omega, by omega⟩
  · split
    · exact .inl ⟨_, _, _, rfl, by omega, by omega, by omega⟩
    · split
      · exact .inr (.inl ⟨_, rfl⟩)
      · exact .inr (.inr ⟨_, _, rfl⟩)

theorem signed_add (s : Bool) (m a k : Nat) : signed s m (a + k) = signed s m a * (2 ^ k : Nat) := by
  unfold signed
  rw [Nat.shiftLeft_eq, Nat.shiftLeft_eq, Nat.pow_add, ← Nat.mul_assoc]
  cases s
  · simp
  · simp [Int.neg_mul]

theorem compare_scale (a b : Int) (k : Nat) : compare (a * (2 ^ k : Nat)) (b * (2 ^ k : Nat)) = compare a b := by
  have hp : (0 : Int) < ((2 ^ k : Nat) : Int) := by exact_mod_cast Nat.two_pow_pos k
  have h1 : a * ((2 ^ k : Nat) : Int) < b * ((2 ^ k : Nat) : Int) ↔ a < b := Int.mul_lt_mul_right hp
  have h2 : a * ((2 ^ k : Nat) : Int) = b * ((2 ^ k : Nat) : Int) ↔ a = b := ⟨fun h => Int.eq_of_mul_eq_mul_right (by omega) h, fun h => by rw [h]⟩
  simp only [compare, compareOfLessAndEq, h1, h2]

theorem order_num (s t : Bool) (m n : Nat) (i j : Int) (hi : -1074 ≤ i) (hj : -1074 ≤ j) : Datum.order (.number s m i) (.number t n j) = some (compare (signed s m (i + 1074).toNat) (signed t n (j + 1074).toNat)) := by
  have e1 : (i + 1074).toNat = (i - min i j).toNat + (min i j + 1074).toNat := by omega
  have e2 : (j + 1074).toNat = (j - min i j).toNat + (min i j + 1074).toNat := by omega
  rw [e1, e2, signed_add, signed_add, compare_scale]
  rfl

theorem cls_le (x : Nat) : cls x = 0 ∨ cls x = 1 ∨ cls x = 5 ∨ cls x = 6 := by
  unfold cls
  split
  · simp
  · split <;> simp
  · simp

theorem val_of (x : Nat) (h : cls x ≠ 1) : val x = 0 := by
  unfold cls at h
  unfold val
  split at h <;> simp_all

theorem order_eq (x y : Nat) : double.order x y = if cls x = 6 ∨ cls y = 6 then none else if cls x < cls y then some .lt else if cls y < cls x then some .gt else some (compare (val x) (val y)) := by
  unfold Format.order
  show (D x).order (D y) = _
  rcases read_cases x with ⟨s, m, p, hx, p0, _, _⟩ | ⟨s, hx⟩ | ⟨s, t, hx⟩
  · have c : cls x = 1 := by unfold cls; rw [hx]
    have v : val x = signed s m (p + 1074).toNat := by unfold val; rw [hx]
    rcases read_cases y with ⟨s', m', p', hy, q0, _, _⟩ | ⟨s', hy⟩ | ⟨s', t', hy⟩
    · have c' : cls y = 1 := by unfold cls; rw [hy]
      have v' : val y = signed s' m' (p' + 1074).toNat := by unfold val; rw [hy]
      rw [hx, hy, order_num _ _ _ _ _ _ p0 q0, c, c', v, v']
      rfl
    · have c' : cls y = if s' then 0 else 5 := by unfold cls; rw [hy]
      rw [hx, hy, c, c']
      cases s' <;> rfl
    · have c' : cls y = 6 := by unfold cls; rw [hy]
      rw [hx, hy, if_pos (.inr c')]
      rfl
  · have c : cls x = if s then 0 else 5 := by unfold cls; rw [hx]
    have v : val x = 0 := by unfold val; rw [hx]
    rcases read_cases y with ⟨s', m', p', hy, q0, _, _⟩ | ⟨s', hy⟩ | ⟨s', t', hy⟩
    · have c' : cls y = 1 := by unfold cls; rw [hy]
      rw [hx, hy, c, c']
      cases s <;> rfl
    · have c' : cls y = if s' then 0 else 5 := by unfold cls; rw [hy]
      have v' : val y = 0 := by unfold val; rw [hy]
      rw [hx, hy, c, c', v, v']
      cases s <;> cases s' <;> rfl
    · have c' : cls y = 6 := by unfold cls; rw [hy]
      rw [hx, hy, if_pos (.inr c')]
      rfl
  · have c : cls x = 6 := by unfold cls; rw [hx]
    rw [hx, if_pos (.inl c)]
    rfl

theorem cmp_lt (a b : Int) : (compare a b == .lt) = decide (a < b) := by
  simp only [compare, compareOfLessAndEq]; split <;> (try split) <;> simp_all
theorem cmp_gt (a b : Int) : (compare a b == .gt) = decide (b < a) := by
  simp only [compare, compareOfLessAndEq]; split <;> (try split) <;> simp_all <;> omega
theorem cmp_eq (a b : Int) : (compare a b == .eq) = decide (a = b) := by
  simp only [compare, compareOfLessAndEq]; split <;> (try split) <;> simp_all <;> omega

/-- less, greater, equal -/
theorem lt_iff (x y : Nat) : (double.order x y == some .lt) = true ↔ cls x ≠ 6 ∧ cls y ≠ 6 ∧ (cls x < cls y ∨ cls x = cls y ∧ val x < val y) := by
  rw [order_eq]
  have h := cmp_lt (val x) (val y)
  by_cases c : cls x = 6 ∨ cls y = 6
  · rw [if_pos c]; constructor
    · intro h; cases h
    · intro h; omega
  · rw [if_neg c]
    by_cases c1 : cls x < cls y
    · rw [if_pos c1]; simp; omega
    · rw [if_neg c1]
      by_cases c2 : cls y < cls x
      · rw [if_pos c2]; constructor
        · intro h; cases h
        · intro h; omega
      · rw [if_neg c2, show (some (compare (val x) (val y)) == some Ordering.lt) = (compare (val x) (val y) == .lt) from rfl, h, decide_eq_true_iff]
        omega
theorem gt_iff (x y : Nat) : (double.order x y == some .gt) = true ↔ cls x ≠ 6 ∧ cls y ≠ 6 ∧ (cls y < cls x ∨ cls x = cls y ∧ val y < val x) := by
  rw [order_eq]
  have h := cmp_gt (val x) (val y)
  by_cases c : cls x = 6 ∨ cls y = 6
  · rw [if_pos c]; constructor
    · intro h; cases h
    · intro h; omega
  · rw [if_neg c]
    by_cases c1 : cls x < cls y
    · rw [if_pos c1]; constructor
      · intro h; cases h
      · intro h; omega
    · rw [if_neg c1]
      by_cases c2 : cls y < cls x
      · rw [if_pos c2]; simp; omega
      · rw [if_neg c2, show (some (compare (val x) (val y)) == some Ordering.gt) = (compare (val x) (val y) == .gt) from rfl, h, decide_eq_true_iff]
        omega
theorem eq_iff (x y : Nat) : (double.order x y == some .eq) = true ↔ cls x ≠ 6 ∧ cls x = cls y ∧ val x = val y := by
  rw [order_eq]
  have h := cmp_eq (val x) (val y)
  by_cases c : cls x = 6 ∨ cls y = 6
  · rw [if_pos c]; constructor
    · intro h; cases h
    · intro h; omega
  · rw [if_neg c]
    by_cases c1 : cls x < cls y
    · rw [if_pos c1]; constructor
      · intro h; cases h
      · intro h; omega
    · rw [if_neg c1]
      by_cases c2 : cls y < cls x
      · rw [if_pos c2]; constructor
        · intro h; cases h
        · intro h; omega
      · rw [if_neg c2, show (some (compare (val x) (val y)) == some Ordering.eq) = (compare (val x) (val y) == .eq) from rfl, h, decide_eq_true_iff]
        omega
end Go.Proofs.Ytkgghjblfoempaa.Fl
