/- A gauge with a level not above nought: a frame that may come or not; no condition. -/
import Derived.Test.YtkgghjblfoempaaGW13
import Derived.Test.YtkgghjblfoempaaGX4
namespace Go.Proofs.Ytkgghjblfoempaa.GW
open Go.RowKit Go.Proofs.YtkgghjblfoempaaW.PrintWords Go.Proofs.Ytkgghjblfoempaa.Fl
set_option linter.unusedVariables false
set_option linter.unusedSimpArgs false
attribute [local go_sem] run_store_float

theorem age_range (now la : Int) : ∃ a : Nat, age now la = (a : Int) ∧ a < 2147483648 := by
  unfold age
  split
  · exact ⟨0, rfl, by decide⟩
  · exact ⟨((now - la) % 4294967296).toNat, by omega, by omega⟩

theorem low_not_gt {x : Nat} (h : Low x) (k : Nat) (hk : k < 4503599627370496) : (Ieee.double.order x (Wn k) == some .gt) = false := by
  rw [Bool.eq_false_iff]
  intro q
  have g := (gt_iff x (Wn k)).mp q
  rw [cls_Wn k hk] at g
  have := val_Wn_nonneg k hk
  rcases h with h | h | h <;> omega

/-- What may come of a Take, below nought. -/
theorem take_low {lv k R q : Nat} {la now : Int} {r : Nat} {ok : Bool} (hl : cls lv = 0 ∨ (cls lv = 1 ∧ val lv ≤ 0)) (hk : k ≤ 255) (hq : q ≤ k) (hR : cls R = 1) (hR0 : 0 ≤ val R) (hR1 : val R ≤ val (Wn q)) (h : TakeR lv (Wn k) R la now r ok) :
    ∃ p : Nat, ((ok = false ∧ p = q) ∨ (ok = true ∧ p + 1 = q)) ∧ cls r = 1 ∧ 0 ≤ val r ∧ val r ≤ val (Wn p) := by
  have ho : openw lv = false := by
    unfold openw
    rcases hl with c | ⟨c, _⟩ <;> rw [c] <;> rfl
  have hqk := val_Wn_le q k (by omega) (by omega) hq
  obtain ⟨f, hf, h⟩ := h
  have hfr : cls f = 1 ∧ 0 ≤ val f ∧ val f ≤ val (Wn q) := by
    rcases hf with ⟨h1, _⟩ | ⟨_, more, room, h1, h2, h3⟩
    · rw [ho] at h1; cases h1
    · obtain ⟨a, ea, ha⟩ := age_range now la
      rw [ea] at h1
      have hm := mul_low (a := a) (by omega) hl h1
      rcases add_low hR hm h2 with hlow | ⟨c1, c2, c3⟩
      · have g1 := low_not_gt hlow k (by omega)
        have g2 := low_not_gt hlow 0 (by decide)
        rw [Wn_0] at g2
        have e : f = 0 := by rw [h3]; unfold clampw; rw [g1]; simp only [Bool.false_eq_true, if_false]; rw [g2]; rfl
        rw [e]
        exact ⟨cls_0, by rw [val_0]; omega, by rw [val_0]; omega⟩
      · have g1 : (Ieee.double.order room (Wn k) == some .gt) = false := by
          rw [Bool.eq_false_iff]
          intro z
          have g := (gt_iff room (Wn k)).mp z
          rw [cls_Wn k (by omega)] at g
          omega
        have e : f = room ∨ f = 0 := by
          rw [h3]
          unfold clampw
          rw [g1]
          simp only [Bool.false_eq_true, if_false]
          cases hz : (Ieee.double.order room 0 == some .gt)
          · exact .inr rfl
          · exact .inl rfl
        rcases e with e | e
        · rw [e]; exact ⟨c1, c3, by omega⟩
        · rw [e]; exact ⟨cls_0, by rw [val_0]; omega, by rw [val_0]; omega⟩
  obtain ⟨f1, f2, f3⟩ := hfr
  rcases h with ⟨h1, _⟩ | ⟨_, _, h2, h3⟩ | ⟨_, h1, h2, h3⟩
  · rw [ho] at h1; cases h1
  · exact ⟨q, .inl ⟨h3, rfl⟩, by rw [h2]; exact f1, by rw [h2]; exact f2, by rw [h2]; exact f3⟩
  · rw [← Wn_1] at h1 h2
    have g : val (Wn 1) ≤ val f := by
      by_cases c : val (Wn 1) ≤ val f
      · exact c
      · exfalso
        have z := (lt_iff f (Wn 1)).mpr ⟨by omega, by rw [cls_Wn 1 (by decide)]; decide, .inr ⟨by rw [f1, cls_Wn 1 (by decide)], by omega⟩⟩
        have h1' : (Ieee.double.order f (Wn 1) == some .lt) = false := h1
        rw [h1'] at z
        cases z
    have q1 : 1 ≤ q := by
      rcases Nat.eq_zero_or_pos q with rfl | h
      · exfalso
        rw [Wn_0, val_0] at f3
        have hv1 := val_Wn 1 (by decide)
        have := big_pos 1074
        generalize (big 1074 : Int) = B at *
        omega
      · exact h
    have z := sub_one f1 g f3 q1 (by omega) h2
    exact ⟨q - 1, .inr ⟨h3, by omega⟩, z⟩
end Go.Proofs.Ytkgghjblfoempaa.GW
