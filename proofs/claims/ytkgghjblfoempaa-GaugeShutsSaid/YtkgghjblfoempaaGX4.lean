/- What a gauge with a level not above nought does to its room; plain Lean. -/
import Derived.Test.YtkgghjblfoempaaGX3
namespace Go.Proofs.Ytkgghjblfoempaa.Fl
open Ieee

/-- Not above nought. -/
def Low (x : Nat) : Prop := cls x = 6 ∨ cls x = 0 ∨ (cls x = 1 ∧ val x ≤ 0)

theorem low_word (r : Nat) (h : r ≤ 9218868437227405312) : Low (9223372036854775808 + r) := by
  have hb : double.binade = 4503599627370496 := by decide
  have hi2 : double.infRung = 9218868437227405312 := by decide
  have hs : double.signWeight = 9223372036854775808 := by decide
  have e1 : (9223372036854775808 + r) / 9223372036854775808 = 1 := by omega
  have e2 : (9223372036854775808 + r) % 9223372036854775808 = r := by omega
  have m3 : ((1 : Nat) % 2 == 1) = true := rfl
  have hD : (∃ m p, D (9223372036854775808 + r) = .number true m p) ∨ D (9223372036854775808 + r) = .infinity true := by
    unfold D Format.read
    rw [hb, hi2, hs, e1, e2, m3]
    simp only
    by_cases c : r < 4503599627370496
    · rw [if_pos c]; exact .inl ⟨_, _, rfl⟩
    · rw [if_neg c]
      by_cases d : r < 9218868437227405312
      · rw [if_pos d]; exact .inl ⟨_, _, rfl⟩
      · rw [if_neg d, if_pos (by omega)]; exact .inr rfl
  rcases hD with ⟨m, p, hD⟩ | hD
  · refine .inr (.inr ⟨by unfold cls; rw [hD], ?_⟩)
    unfold val
    rw [hD]
    show signed true m _ ≤ 0
    unfold signed
    simp only [if_true]
    have := Int.natCast_nonneg (m <<< (p + 1074).toNat)
    omega
  · exact .inr (.inl (by unfold cls; rw [hD]; rfl))

theorem low_near (m : Nat) (p : Int) : Low (double.nearest true m p) := by
  have hi2 : double.infRung = 9218868437227405312 := by decide
  have hs : double.signWeight = 9223372036854775808 := by decide
  have hw : ∃ r, double.nearest true m p = 9223372036854775808 + r ∧ r ≤ 9218868437227405312 := by
    unfold Format.nearest Format.word
    simp only [if_true, hs, hi2]
    split
    · exact ⟨0, rfl, by decide⟩
    · exact ⟨_, rfl, Nat.min_le_right _ _⟩
  obtain ⟨r, e, h⟩ := hw
  rw [e]
  exact low_word r h

theorem near_zero (s : Bool) (p : Int) : double.nearest s 0 p = 0 ∨ double.nearest s 0 p = 9223372036854775808 := by
  have hs : double.signWeight = 9223372036854775808 := by decide
  unfold Format.nearest Format.word
  rw [if_pos rfl, hs]
  cases s
  · exact .inl rfl
  · exact .inr rfl
theorem zero_low (x : Nat) (h : x = 0 ∨ x = 9223372036854775808) : cls x = 1 ∧ val x = 0 := by
  rcases h with rfl | rfl
  · exact ⟨cls_0, val_0⟩
  · exact ⟨by kernel_rfl, by kernel_rfl⟩

theorem signed_zero (s : Bool) (m k : Nat) (h : signed s m k = 0) : m = 0 := by
  unfold signed at h
  have : m <<< k = 0 := by split at h <;> omega
  rw [Nat.shiftLeft_eq] at this
  rcases Nat.mul_eq_zero.mp this with h | h
  · exact h
  · exact absurd h (Nat.ne_of_gt (Nat.two_pow_pos k))

/-- A product with a whole number is not above nought. -/
theorem mul_low {lv a r : Nat} (ha : a < 4503599627370496) (hl : cls lv = 0 ∨ (cls lv = 1 ∧ val lv ≤ 0)) (h : FR .mul lv (Wn a) r) : Low r := by
  rcases h.2 with ⟨z, e, rfl⟩ | ⟨_, c⟩
  · obtain ⟨i, ei⟩ := D_any a ha
    have e' : Option.map double.write ((D lv).product (D (Wn a))) = some r := e
    rw [ei] at e'
    rcases read_cases lv with ⟨s, m, p, hx, p0, p1, hm⟩ | ⟨s, hx⟩ | ⟨s, t, hx⟩
    · rw [hx] at e'
      have e2 : double.nearest (s ^^ false) (m * (a * 2 ^ i)) (p + -(i : Int)) = r := Option.some.inj e'
      rw [← e2]
      rcases hl with c | ⟨_, v⟩
      · unfold cls at c; rw [hx] at c; cases c
      · cases s
        · have hm0 : m = 0 := by
            unfold val at v
            rw [hx] at v
            have v' : signed false m (p + 1074).toNat ≤ 0 := v
            refine signed_zero false m (p + 1074).toNat ?_
            unfold signed at v' ⊢
            simp only [Bool.false_eq_true, if_false] at v' ⊢
            have := Int.natCast_nonneg (m <<< (p + 1074).toNat)
            clear v
            generalize ((m <<< (p + 1074).toNat : Nat) : Int) = X at *
            omega
          rw [hm0, Nat.zero_mul]
          have z := zero_low _ (near_zero (false ^^ false) (p + -(i : Int)))
          exact .inr (.inr ⟨z.1, by omega⟩)
        · exact low_near _ _
    · rw [hx] at e'
      have hs : s = true := by
        rcases hl with c | ⟨c, _⟩
        · unfold cls at c; rw [hx] at c; cases s
          · simp at c
          · rfl
        · unfold cls at c; rw [hx] at c; cases s <;> simp at c
      subst hs
      by_cases hz : a * 2 ^ i = 0
      · simp [Datum.product, hz] at e'
      · have e2 : double.write (.infinity (true ^^ false)) = r := by simpa [Datum.product, hz] using e'
        rw [← e2]
        exact .inr (.inl (by kernel_rfl))
    · rcases hl with c | ⟨c, _⟩ <;> (unfold cls at c; rw [hx] at c; simp at c)
  · exact .inl c

/-- A sum with what is not above nought: not above, or not more than it was. -/
theorem add_low {R more room : Nat} (hR : cls R = 1) (hm : Low more) (h : FR .add R more room) : Low room ∨ (cls room = 1 ∧ val room ≤ val R ∧ 0 ≤ val room) := by
  rcases h.2 with ⟨z, e, rfl⟩ | ⟨_, c⟩
  · have e' : Option.map double.write ((D R).sum (D more)) = some room := e
    rcases read_cases R with ⟨s, m, i, hx, i0, i1, _⟩ | ⟨s, hx⟩ | ⟨s, t, hx⟩
    · rcases read_cases more with ⟨t, n, j, hy, j0, j1, _⟩ | ⟨t, hy⟩ | ⟨t, u, hy⟩
      · rw [hx, hy] at e'
        have vR : val R = signed s m (i + 1074).toNat := by unfold val; rw [hx]
        have vm : val more = signed t n (j + 1074).toNat := by unfold val; rw [hy]
        have vm0 : val more ≤ 0 := by
          rcases hm with q | q | q
          · unfold cls at q; rw [hy] at q; cases q
          · unfold cls at q; rw [hy] at q; cases q
          · exact q.2
        obtain ⟨b, hb⟩ : ∃ b : Nat, min i j = (b : Int) - 1074 := ⟨(min i j + 1074).toNat, by omega⟩
        have e1 : (i + 1074).toNat = (i - min i j).toNat + b := by omega
        have e2 : (j + 1074).toNat = (j - min i j).toNat + b := by omega
        rw [e1, signed_add] at vR
        rw [e2, signed_add] at vm
        obtain ⟨T, hT⟩ : ∃ T, signed s m (i - min i j).toNat + signed t n (j - min i j).toNat = T := ⟨_, rfl⟩
        have hTv : T * (big b : Int) = val R + val more := by rw [vR, vm, ← hT, Int.add_mul]; rfl
        have e3 : double.write (.number (if signed s m (i - min i j).toNat + signed t n (j - min i j).toNat = 0 then s && t else decide (signed s m (i - min i j).toNat + signed t n (j - min i j).toNat < 0)) (signed s m (i - min i j).toNat + signed t n (j - min i j).toNat).natAbs (min i j)) = room := Option.some.inj e'
        rw [hT, hb] at e3
        rcases Int.lt_trichotomy T 0 with c | c | c
        · rw [if_neg (by omega), decide_eq_true c] at e3
          have e4 : double.nearest true T.natAbs ((b : Int) - 1074) = room := e3
          rw [← e4]
          exact .inl (low_near _ _)
        · rw [if_pos c, c] at e3
          have e4 : double.nearest (s && t) 0 ((b : Int) - 1074) = room := e3
          have z := zero_low room (by rw [← e4]; exact near_zero _ _)
          exact .inl (.inr (.inr ⟨z.1, by omega⟩))
        · rw [if_neg (by omega), decide_eq_false (by omega)] at e3
          have e4 : double.nearest false T.natAbs ((b : Int) - 1074) = room := e3
          have q := near_le T.natAbs b R (by omega) hR (by rw [show ((T.natAbs : Nat) : Int) = T from by omega, hTv]; omega)
          rw [e4] at q
          exact .inr q
      · rw [hx, hy] at e'
        have e3 : double.write (.infinity t) = room := Option.some.inj e'
        have ht : t = true := by
          rcases hm with q | q | q
          · unfold cls at q; rw [hy] at q; cases t <;> simp at q
          · unfold cls at q; rw [hy] at q; cases t
            · simp at q
            · rfl
          · have q := q.1; unfold cls at q; rw [hy] at q; cases t <;> simp at q
        subst ht
        rw [← e3]
        exact .inl (.inr (.inl (by kernel_rfl)))
      · rw [hx, hy] at e'
        cases e'
    · unfold cls at hR; rw [hx] at hR; cases s <;> simp at hR
    · unfold cls at hR; rw [hx] at hR; simp at hR
  · exact .inl (.inl c)

theorem val_Wn_le (a b : Nat) (ha : a < 4503599627370496) (hb : b < 4503599627370496) (h : a ≤ b) : val (Wn a) ≤ val (Wn b) := by
  rw [val_Wn a ha, val_Wn b hb]
  exact Int.mul_le_mul_of_nonneg_right (by omega) (by have := big_pos 1074; omega)
theorem val_Wn_nonneg (a : Nat) (ha : a < 4503599627370496) : 0 ≤ val (Wn a) := by
  rw [val_Wn a ha]
  exact Int.mul_nonneg (by omega) (by have := big_pos 1074; omega)

/-- One less. -/
theorem sub_one {f r q : Nat} (hf : cls f = 1) (h1 : val (Wn 1) ≤ val f) (hq : val f ≤ val (Wn q)) (q1 : 1 ≤ q) (q2 : q ≤ 255) (h : FR .sub f (Wn 1) r) : cls r = 1 ∧ 0 ≤ val r ∧ val r ≤ val (Wn (q - 1)) := by
  have hv1 := val_Wn 1 (by decide)
  have hvq := val_Wn q (by omega)
  have hvp := val_Wn (q - 1) (by omega)
  have hpp := val_Wn_nonneg (q - 1) (by omega)
  have hgap : val (Wn q) = val (Wn (q - 1)) + val (Wn 1) := by
    rw [hv1, hvq, hvp, ← Int.add_mul, show ((q - 1 : Nat) : Int) + ((1 : Nat) : Int) = (q : Int) from by omega]
  obtain ⟨k, ek⟩ := D_any 1 (by decide)
  rcases h.2 with ⟨z, e, rfl⟩ | ⟨e, _⟩
  · have e' : Option.map double.write ((D f).sum (D (Wn 1)).opposite) = some r := e
    rcases read_cases f with ⟨s, m, i, hx, i0, i1, _⟩ | ⟨s, hx⟩ | ⟨s, t, hx⟩
    · have v1 : val (Wn 1) = signed false (1 * 2 ^ k) (-(k : Int) + 1074).toNat := by unfold val; rw [ek]
      have hk : k ≤ 1074 := by
        rcases read_cases (Wn 1) with ⟨s', m', p', hy, p0, _, _⟩ | ⟨s', hy⟩ | ⟨s', t', hy⟩
        · rw [ek] at hy; cases hy; omega
        · rw [ek] at hy; cases hy
        · rw [ek] at hy; cases hy
      rw [hx, ek] at e'
      have vR : val f = signed s m (i + 1074).toNat := by unfold val; rw [hx]
      obtain ⟨j, hj⟩ : ∃ j : Int, -(k : Int) = j := ⟨_, rfl⟩
      rw [hj] at e' v1
      generalize 1 * 2 ^ k = n at *
      have vm : -val (Wn 1) = signed true n (j + 1074).toNat := by rw [v1]; unfold signed; simp
      obtain ⟨b, hb⟩ : ∃ b : Nat, min i j = (b : Int) - 1074 := ⟨(min i j + 1074).toNat, by omega⟩
      have e1 : (i + 1074).toNat = (i - min i j).toNat + b := by omega
      have e2 : (j + 1074).toNat = (j - min i j).toNat + b := by omega
      rw [e1, signed_add] at vR
      rw [e2, signed_add] at vm
      obtain ⟨T, hT⟩ : ∃ T, signed s m (i - min i j).toNat + signed true n (j - min i j).toNat = T := ⟨_, rfl⟩
      have hTv : T * (big b : Int) = val f + -val (Wn 1) := by rw [vR, vm, ← hT, Int.add_mul]; rfl
      have e3 : double.write (.number (if signed s m (i - min i j).toNat + signed true n (j - min i j).toNat = 0 then s && true else decide (signed s m (i - min i j).toNat + signed true n (j - min i j).toNat < 0)) (signed s m (i - min i j).toNat + signed true n (j - min i j).toNat).natAbs (min i j)) = r := Option.some.inj e'
      rw [hT, hb] at e3
      have hbp := big_pos b
      rcases Int.lt_trichotomy T 0 with c | c | c
      · exfalso
        have := Int.mul_neg_of_neg_of_pos c hbp
        omega
      · rw [if_pos c, c] at e3
        have e4 : double.nearest (s && true) 0 ((b : Int) - 1074) = r := e3
        have z := zero_low r (by rw [← e4]; exact near_zero _ _)
        exact ⟨z.1, by omega, by omega⟩
      · rw [if_neg (by omega), decide_eq_false (by omega)] at e3
        have e4 : double.nearest false T.natAbs ((b : Int) - 1074) = r := e3
        have q := near_le T.natAbs b (Wn (q - 1)) (by omega) (cls_Wn _ (by omega)) (by rw [show ((T.natAbs : Nat) : Int) = T from by omega, hTv]; omega)
        rw [e4] at q
        exact ⟨q.1, q.2.2, q.2.1⟩
    · unfold cls at hf; rw [hx] at hf; cases s <;> simp at hf
    · unfold cls at hf; rw [hx] at hf; simp at hf
  · exfalso
    have e' : Option.map double.write ((D f).sum (D (Wn 1)).opposite) = none := e
    rcases read_cases f with ⟨s, m, i, hx, i0, i1, _⟩ | ⟨s, hx⟩ | ⟨s, t, hx⟩
    · rw [hx, ek] at e'; cases e'
    · unfold cls at hf; rw [hx] at hf; cases s <;> simp at hf
    · unfold cls at hf; rw [hx] at hf; simp at hf
end Go.Proofs.Ytkgghjblfoempaa.Fl
