/- Kinds of floats' words, their comparison; plain Lean. -/
import Derived.Test.YtkgghjblfoempaaGFloat
namespace Go.Proofs.Ytkgghjblfoempaa.Fl
open Ieee

def M : Nat := 9218868437227405311
def one : Nat := 4607182418800017408

theorem cls_M : cls M = 1 := by kernel_rfl
theorem cls_one : cls one = 1 := by kernel_rfl
theorem cls_0 : cls 0 = 1 := by kernel_rfl
theorem val_0 : val 0 = 0 := by kernel_rfl
theorem D_M : D M = .number false 9007199254740991 971 := by kernel_rfl
theorem D_one : D one = .number false 4503599627370496 (-52) := by kernel_rfl
theorem D_0 : D 0 = .number false 0 (-1074) := by kernel_rfl

theorem shl_mono (m c k K : Nat) (hm : m ≤ c) (hk : k ≤ K) : m <<< k ≤ c <<< K := by
  rw [Nat.shiftLeft_eq, Nat.shiftLeft_eq]
  exact Nat.mul_le_mul hm (Nat.pow_le_pow_right (by decide) hk)

theorem val_le_M (x : Nat) : val x ≤ val M ∧ -(val M) ≤ val x := by
  have hM : val M = ((9007199254740991 <<< 2045 : Nat) : Int) := by unfold val; rw [D_M]; rfl
  rcases read_cases x with ⟨s, m, p, hx, p0, p1, hm⟩ | ⟨s, hx⟩ | ⟨s, t, hx⟩
  · have v : val x = signed s m (p + 1074).toNat := by unfold val; rw [hx]
    have h := shl_mono m 9007199254740991 (p + 1074).toNat 2045 (by omega) (by omega)
    rw [v, hM]
    unfold signed
    have h' : ((m <<< (p + 1074).toNat : Nat) : Int) ≤ ((9007199254740991 <<< 2045 : Nat) : Int) := Int.ofNat_le.mpr h
    generalize ((9007199254740991 <<< 2045 : Nat) : Int) = c at *
    have h0 : (0 : Int) ≤ ((m <<< (p + 1074).toNat : Nat) : Int) := Int.natCast_nonneg _
    generalize ((m <<< (p + 1074).toNat : Nat) : Int) = d at *
    split <;> omega
  · have v : val x = 0 := by unfold val; rw [hx]
    rw [v, hM]
    have h0 : (0 : Int) ≤ ((9007199254740991 <<< 2045 : Nat) : Int) := Int.natCast_nonneg _
    omega
  · have v : val x = 0 := by unfold val; rw [hx]
    rw [v, hM]
    have h0 : (0 : Int) ≤ ((9007199254740991 <<< 2045 : Nat) : Int) := Int.natCast_nonneg _
    omega

theorem nan_iff (x : Nat) : (double.order x x != some .eq) = decide (cls x = 6) := by
  by_cases c : cls x = 6
  · rw [order_eq, if_pos (.inl c), decide_eq_true c]; rfl
  · have := (eq_iff x x).mpr ⟨c, rfl, rfl⟩
    rw [decide_eq_false c]
    rw [beq_iff_eq] at this
    rw [this]; rfl

theorem inf_iff (x : Nat) : (double.order x M == some .gt) = decide (cls x = 5) := by
  have h := gt_iff x M
  rw [cls_M] at h
  have hv := (val_le_M x).1
  have hc := cls_le x
  by_cases c : cls x = 5
  · rw [decide_eq_true c, h]; omega
  · rw [decide_eq_false c]
    cases hb : (double.order x M == some .gt)
    · rfl
    · have := h.mp hb; omega

theorem neg_word (x : Nat) (hx : x < 18446744073709551616) : D (Go.Op.negFloat .f64 x) = (D x).opposite := by
  have e : Go.Op.negFloat .f64 x = x ^^^ 2 ^ 63 := rfl
  have e1 : (x ^^^ 2 ^ 63) % 9223372036854775808 = x % 9223372036854775808 := by
    have := Nat.xor_mod_two_pow (a := x) (b := 2 ^ 63) (n := 63)
    rw [show (2 : Nat) ^ 63 = 9223372036854775808 from rfl] at this ⊢
    rw [this]; simp
  have e2 : (x ^^^ 2 ^ 63) / 9223372036854775808 = x / 9223372036854775808 ^^^ 1 := by
    have := Nat.shiftRight_xor_distrib (a := x) (b := 2 ^ 63) (i := 63)
    rw [Nat.shiftRight_eq_div_pow, Nat.shiftRight_eq_div_pow, Nat.shiftRight_eq_div_pow] at this
    simpa using this
  have hs : double.signWeight = 9223372036854775808 := by decide
  have hq : x / 9223372036854775808 = 0 ∨ x / 9223372036854775808 = 1 := by omega
  rw [e]
  unfold D Format.read
  rw [hs, e1, e2]
  rcases hq with h | h <;> rw [h]
  · show (if _ then _ else if _ then _ else if _ then _ else _) = Datum.opposite (if _ then _ else if _ then _ else if _ then _ else _)
    split
    · rfl
    · split
      · rfl
      · split <;> rfl
  · show (if _ then _ else if _ then _ else if _ then _ else _) = Datum.opposite (if _ then _ else if _ then _ else if _ then _ else _)
    split
    · rfl
    · split
      · rfl
      · split <;> rfl

theorem less_iff (x : Nat) (hx : x < 18446744073709551616) : (double.order (Go.Op.negFloat .f64 x) M == some .gt) = decide (cls x = 0) := by
  rw [inf_iff]
  have h := neg_word x hx
  have e : cls (Go.Op.negFloat .f64 x) = 5 ↔ cls x = 0 := by
    unfold cls
    rw [h]
    rcases read_cases x with ⟨s, m, p, hx, _⟩ | ⟨s, hx⟩ | ⟨s, t, hx⟩
    · rw [hx]; simp [Datum.opposite]
    · rw [hx]; cases s <;> simp [Datum.opposite]
    · rw [hx]; simp [Datum.opposite]
  by_cases c : cls x = 0
  · rw [decide_eq_true c, decide_eq_true (e.mpr c)]
  · rw [decide_eq_false c, decide_eq_false (fun h => c (e.mp h))]

theorem zero_iff (x : Nat) : (double.order x 0 == some .eq) = decide (cls x = 1 ∧ val x = 0) := by
  have h := eq_iff x 0
  rw [cls_0, val_0] at h
  by_cases c : cls x = 1 ∧ val x = 0
  · rw [decide_eq_true c, h]; omega
  · rw [decide_eq_false c]
    cases hb : (double.order x 0 == some .eq)
    · rfl
    · have := h.mp hb; omega

theorem pos_iff (x : Nat) : (double.order x 0 == some .gt) = decide (cls x = 5 ∨ cls x = 1 ∧ 0 < val x) := by
  have h := gt_iff x 0
  have hc := cls_le x
  rw [cls_0, val_0] at h
  by_cases c : cls x = 5 ∨ cls x = 1 ∧ 0 < val x
  · rw [decide_eq_true c, h]; omega
  · rw [decide_eq_false c]
    cases hb : (double.order x 0 == some .gt)
    · rfl
    · have := h.mp hb; omega

theorem neg_iff (x : Nat) : (double.order x 0 == some .lt) = decide (cls x = 0 ∨ cls x = 1 ∧ val x < 0) := by
  have h := lt_iff x 0
  have hc := cls_le x
  rw [cls_0, val_0] at h
  by_cases c : cls x = 0 ∨ cls x = 1 ∧ val x < 0
  · rw [decide_eq_true c, h]; omega
  · rw [decide_eq_false c]
    cases hb : (double.order x 0 == some .lt)
    · rfl
    · have := h.mp hb; omega

def sgn (x : Nat) : Bool := decide (IntKind.i64.wrap (x : Int) < 0)

/-- A zero: one of two words. -/
theorem zero_words (x : Nat) (hx : x < 18446744073709551616) (h : cls x = 1 ∧ val x = 0) : x = 0 ∨ x = 9223372036854775808 := by
  have hs : double.signWeight = 9223372036854775808 := by decide
  have hb : double.binade = 4503599627370496 := by decide
  have hi : double.infRung = 9218868437227405312 := by decide
  have hl : double.leastPlace = -1074 := by decide
  have hr : D x = (if x % 9223372036854775808 < 4503599627370496 then .number (x / 9223372036854775808 % 2 == 1) (x % 9223372036854775808) (-1074) else if x % 9223372036854775808 < 9218868437227405312 then .number (x / 9223372036854775808 % 2 == 1) (4503599627370496 + x % 9223372036854775808 % 4503599627370496) (-1074 + (x % 9223372036854775808 / 4503599627370496 - 1 : Nat)) else if x % 9223372036854775808 = 9218868437227405312 then .infinity (x / 9223372036854775808 % 2 == 1) else .nan (x / 9223372036854775808 % 2 == 1) (x % 9223372036854775808 - 9218868437227405312)) := by
    unfold D Format.read
    rw [hs, hb, hi, hl]
  have hv := h.2
  have hc := h.1
  have nz : ∀ (s : Bool) (m k : Nat), signed s m k = 0 → m = 0 := by
    intro s m k e
    unfold signed at e
    have : m <<< k = 0 := by split at e <;> omega
    rw [Nat.shiftLeft_eq] at this
    rcases Nat.mul_eq_zero.mp this with h | h
    · exact h
    · exact absurd h (Nat.ne_of_gt (Nat.two_pow_pos k))
  by_cases h1 : x % 9223372036854775808 < 4503599627370496
  · rw [if_pos h1] at hr
    unfold val at hv
    rw [hr] at hv
    have := nz _ _ _ hv
    omega
  · rw [if_neg h1] at hr
    by_cases h2 : x % 9223372036854775808 < 9218868437227405312
    · rw [if_pos h2] at hr
      unfold val at hv
      rw [hr] at hv
      have := nz _ _ _ hv
      omega
    · rw [if_neg h2] at hr
      unfold cls at hc
      by_cases h3 : x % 9223372036854775808 = 9218868437227405312
      · rw [if_pos h3] at hr
        rw [hr] at hc
        generalize (x / 9223372036854775808 % 2 == 1) = s at hc
        cases s <;> simp at hc
      · rw [if_neg h3] at hr
        rw [hr] at hc
        simp at hc

theorem D_nzero : D 9223372036854775808 = .number true 0 (-1074) := by kernel_rfl
theorem sgn_0 : sgn 0 = false := by decide
theorem sgn_n : sgn 9223372036854775808 = true := by decide

def zs (x : Nat) : Int := if (cls x = 1 ∧ val x = 0) ∧ sgn x = true then -1 else 0
theorem zs_range (x : Nat) : zs x = 0 ∨ zs x = -1 := by unfold zs; split <;> simp
/-- A number's kind. -/
def kindw (x : Nat) : Int := if cls x = 6 then 5 else if cls x = 5 then 3 else if cls x = 0 then 4 else if val x = 0 then (if sgn x then 2 else 1) else 0
/-- The order. -/
def cmpw (a b : Nat) : Int := if cls a < cls b then -1 else if cls b < cls a then 1 else if val a < val b then -1 else if val b < val a then 1 else zs a - zs b

theorem cmpw_self (a : Nat) : cmpw a a = 0 := by unfold cmpw; simp
theorem cmpw_anti (a b : Nat) : cmpw a b = -cmpw b a := by
  unfold cmpw
  have := zs_range a; have := zs_range b
  split <;> (try split) <;> (try split) <;> (try split) <;> (try split) <;> omega
theorem cmpw_range (a b : Nat) : cmpw a b = -1 ∨ cmpw a b = 0 ∨ cmpw a b = 1 := by
  unfold cmpw
  have := zs_range a; have := zs_range b
  split <;> (try split) <;> (try split) <;> (try split) <;> omega
theorem cmpw_trans (a b c : Nat) (h1 : cmpw a b ≤ 0) (h2 : cmpw b c ≤ 0) : cmpw a c ≤ 0 ∧ (cmpw a c < 0 ∨ cmpw a b = 0 ∧ cmpw b c = 0) := by
  unfold cmpw at *
  have := zs_range a; have := zs_range b; have := zs_range c
  generalize cls a = ca at *; generalize cls b = cb at *; generalize cls c = cc at *
  generalize val a = va at *; generalize val b = vb at *; generalize val c = vc at *
  generalize zs a = za at *; generalize zs b = zb at *; generalize zs c = zc at *
  split at h1 <;> (try split at h1) <;> (try split at h1) <;> (try split at h1) <;> split at h2 <;> (try split at h2) <;> (try split at h2) <;> (try split at h2) <;> (first | omega | (simp_all <;> omega) | skip) <;> (constructor <;> (repeat' split) <;> omega)

/-- What may stand for what: the same word, or both no number. -/
def E (x y : Nat) : Prop := x = y ∨ (cls x = 6 ∧ cls y = 6)
theorem E.refl (x : Nat) : E x x := .inl rfl
theorem E.symm {x y : Nat} (h : E x y) : E y x := h.elim (fun e => .inl e.symm) (fun e => .inr ⟨e.2, e.1⟩)
theorem E.cls {x y : Nat} (h : E x y) : cls x = cls y := h.elim (fun e => by rw [e]) (fun e => by rw [e.1, e.2])
theorem E.val {x y : Nat} (h : E x y) : val x = val y := h.elim (fun e => by rw [e]) (fun e => by rw [val_of x (by omega), val_of y (by omega)])
theorem E.cmp {x y : Nat} (h : E x y) : cmpw x y = 0 := by
  rcases h with rfl | ⟨a, b⟩
  · exact cmpw_self x
  · unfold cmpw zs
    rw [a, b, val_of x (by omega), val_of y (by omega)]
    simp
theorem E.order {x x' y y' : Nat} (h : E x x') (g : E y y') : double.order x y = double.order x' y' := by
  rw [order_eq, order_eq, h.cls, h.val, g.cls, g.val]

/-- What an operation gives. -/
def FR (op : BinOp) (x y r : Nat) : Prop := r < 18446744073709551616 ∧ ((∃ z, floatBits op .f64 x y = some z ∧ r = z) ∨ (floatBits op .f64 x y = none ∧ cls r = 6))

theorem fb_nan (op : BinOp) (x y : Nat) (h : cls x = 6 ∨ cls y = 6) : floatBits op .f64 x y = none := by
  have hd : ∀ z, cls z = 6 → ∃ s t, double.read z = .nan s t := by
    intro z hz
    rcases read_cases z with ⟨s, m, p, hx, _⟩ | ⟨s, hx⟩ | ⟨s, t, hx⟩
    · unfold cls at hz; rw [hx] at hz; simp at hz
    · unfold cls at hz; rw [hx] at hz; cases s <;> simp at hz
    · exact ⟨s, t, hx⟩
  have hf : FloatKind.f64.format = double := rfl
  unfold floatBits
  rcases h with h | h
  · obtain ⟨s, t, e⟩ := hd _ h
    cases op <;> simp only [hf, Format.add, Format.sub, Format.mul, Format.div, e, Datum.sum, Datum.product, Datum.quotient, Option.map_none]
  · obtain ⟨s, t, e⟩ := hd _ h
    cases op <;> simp only [hf, Format.add, Format.sub, Format.mul, Format.div, e, Datum.opposite] <;> (cases double.read x <;> simp [Datum.sum, Datum.product, Datum.quotient])

theorem FR.congr {op : BinOp} {x x' y y' r r' : Nat} (hx : E x x') (hy : E y y') (h : FR op x y r) (h' : FR op x' y' r') : E r r' := by
  by_cases c : cls x = 6 ∨ cls y = 6
  · have n := fb_nan op x y c
    have n' := fb_nan op x' y' (by rw [← hx.cls, ← hy.cls]; exact c)
    rcases h.2 with ⟨z, e, _⟩ | ⟨_, a⟩
    · rw [n] at e; cases e
    · rcases h'.2 with ⟨z, e, _⟩ | ⟨_, b⟩
      · rw [n'] at e; cases e
      · exact .inr ⟨a, b⟩
  · obtain rfl : x = x' := hx.elim id (fun e => absurd (.inl e.1) c)
    obtain rfl : y = y' := hy.elim id (fun e => absurd (.inr e.1) c)
    rcases h.2 with ⟨z, e, rfl⟩ | ⟨e, a⟩
    · rcases h'.2 with ⟨z', e', rfl⟩ | ⟨e', _⟩
      · rw [e] at e'; cases e'; exact .inl rfl
      · rw [e] at e'; cases e'
    · rcases h'.2 with ⟨z', e', rfl⟩ | ⟨_, b⟩
      · rw [e] at e'; cases e'
      · exact .inr ⟨a, b⟩

/-- x - x -/
theorem sub_self_fin {x r : Nat} (h : FR .sub x x r) (hc : cls x = 1) : r = 0 := by
  rcases read_cases x with ⟨s, m, p, hx, _⟩ | ⟨s, hx⟩ | ⟨s, t, hx⟩
  · have e : floatBits .sub .f64 x x = some 0 := by
      show Option.map double.write ((D x).sum (D x).opposite) = some 0
      rw [hx]
      have hz : signed s m (p - min p p).toNat + signed (!s) m (p - min p p).toNat = 0 := by unfold signed; cases s <;> simp <;> omega
      simp only [Datum.opposite, Datum.sum, hz, if_true, Int.natAbs_zero, Option.map_some]
      cases s <;> rfl
    rcases h.2 with ⟨z, e', rfl⟩ | ⟨e', _⟩
    · rw [e] at e'; exact (Option.some.inj e').symm
    · rw [e] at e'; cases e'
  · unfold cls at hc; rw [hx] at hc; cases s <;> simp at hc
  · unfold cls at hc; rw [hx] at hc; simp at hc
theorem sub_self_inf {x r : Nat} (h : FR .sub x x r) (hc : cls x = 0 ∨ cls x = 5) : cls r = 6 := by
  rcases read_cases x with ⟨s, m, p, hx, _⟩ | ⟨s, hx⟩ | ⟨s, t, hx⟩
  · unfold cls at hc; rw [hx] at hc; simp at hc
  · have e : floatBits .sub .f64 x x = none := by
      show Option.map double.write ((D x).sum (D x).opposite) = none
      rw [hx]
      cases s <;> rfl
    rcases h.2 with ⟨z, e', rfl⟩ | ⟨_, a⟩
    · rw [e] at e'; cases e'
    · exact a
  · unfold cls at hc; rw [hx] at hc; simp at hc
/-- 1 / 0 -/
theorem div_zero {x r : Nat} (h : FR .quo one x r) (hx : x = 0 ∨ x = 9223372036854775808) : (double.order r 0 == some .gt) = !sgn x := by
  rcases hx with rfl | rfl
  · have e : floatBits .quo .f64 one 0 = some 9218868437227405312 := by kernel_rfl
    have q : (double.order 9218868437227405312 0 == some .gt) = !sgn 0 := by kernel_rfl
    rcases h.2 with ⟨z, e', rfl⟩ | ⟨e', _⟩
    · rw [e] at e'; cases e'; exact q
    · rw [e] at e'; cases e'
  · have e : floatBits .quo .f64 one 9223372036854775808 = some 18442240474082181120 := by kernel_rfl
    have q : (double.order 18442240474082181120 0 == some .gt) = !sgn 9223372036854775808 := by kernel_rfl
    rcases h.2 with ⟨z, e', rfl⟩ | ⟨e', _⟩
    · rw [e] at e'; cases e'; exact q
    · rw [e] at e'; cases e'

theorem nan_word (x : Nat) (h : 9218868437227405312 < x % 9223372036854775808) : cls x = 6 := by
  have hs : double.signWeight = 9223372036854775808 := by decide
  have hb : double.binade = 4503599627370496 := by decide
  have hi : double.infRung = 9218868437227405312 := by decide
  have hr : ∃ s f, D x = .nan s f := by
    unfold D Format.read
    rw [hs, hb, hi]
    generalize x % 9223372036854775808 = r at h ⊢
    generalize (x / 9223372036854775808 % 2 == 1) = s
    simp only
    rw [if_neg (by omega), if_neg (by omega), if_neg (by omega)]
    exact ⟨_, _, rfl⟩
  obtain ⟨s, f, hr⟩ := hr
  unfold cls
  rw [hr]

theorem nan_arith (a b : Nat) (hb : b < 4503599627370495) : 9218868437227405312 < ((a % 2) * 9223372036854775808 + 9218868437227405312 + 1 + b) % 9223372036854775808 ∧ (a % 2) * 9223372036854775808 + 9218868437227405312 + 1 + b < 18446744073709551616 := by omega

/-- The tape's answer is no number. -/
theorem cut_nan (x y t : Nat) : cls ((Question.nanBits .f64 x y).cut t) = 6 ∧ (Question.nanBits .f64 x y).cut t < 18446744073709551616 := by
  have h := nan_arith t (t / 2 % 4503599627370495) (Nat.mod_lt _ (by decide))
  unfold Question.cut
  exact ⟨nan_word _ h.1, h.2⟩
end Go.Proofs.Ytkgghjblfoempaa.Fl
