/- Gauges that may stand for one another go on so; plain Lean. -/
import Derived.Test.YtkgghjblfoempaaGW6
namespace Go.Proofs.Ytkgghjblfoempaa.GW
open Go.RowKit Go.Proofs.Ytkgghjblfoempaa.Fl

theorem clampw_E {mo a b : Nat} (h : E a b) : E (clampw mo a) (clampw mo b) := by
  unfold clampw
  rw [E.order h (E.refl mo)]
  cases c : (Ieee.double.order b mo == some .gt)
  · simp only [Bool.false_eq_true, if_false]
    rw [E.order h (E.refl 0)]
    cases d : (Ieee.double.order b 0 == some .gt)
    · simp only [Bool.false_eq_true, if_false]; exact E.refl 0
    · simp only [if_true]; exact h
  · simp only [if_true]; exact E.refl _
theorem fill_E {lv mo ro ro' : Nat} {la now : Int} {r r' : Nat} (hE : E ro ro') (h : FillR lv mo ro la now r) (g : FillR lv mo ro' la now r') : E r r' := by
  rcases h with ⟨a, e⟩ | ⟨a, m, q, h1, h2, h3⟩
  · rcases g with ⟨_, e'⟩ | ⟨b, _⟩
    · rw [e, e']; exact hE
    · rw [a] at b; cases b
  · rcases g with ⟨b, _⟩ | ⟨_, m', q', g1, g2, g3⟩
    · rw [a] at b; cases b
    · rw [h3, g3]
      exact clampw_E (FR.congr hE (FR.congr (E.refl _) (E.refl _) h1 g1) h2 g2)
theorem take_E {lv mo ro ro' : Nat} {la now : Int} {r r' : Nat} {ok ok' : Bool} (hE : E ro ro') (h : TakeR lv mo ro la now r ok) (g : TakeR lv mo ro' la now r' ok') : E r r' ∧ ok = ok' := by
  obtain ⟨f, hf, h⟩ := h
  obtain ⟨f', gf, g⟩ := g
  have hF := fill_E hE hf gf
  have hO := E.order hF (E.refl one)
  rcases h with ⟨a, e1, e2⟩ | ⟨a, b, e1, e2⟩ | ⟨a, b, e1, e2⟩ <;> rcases g with ⟨a', e1', e2'⟩ | ⟨a', b', e1', e2'⟩ | ⟨a', b', e1', e2'⟩
  · rw [e1, e1', e2, e2']; exact ⟨hF, rfl⟩
  · rw [a] at a'; cases a'
  · rw [a] at a'; cases a'
  · rw [a] at a'; cases a'
  · rw [e1, e1', e2, e2']; exact ⟨hF, rfl⟩
  · rw [show FloatKind.f64.format.order f one = FloatKind.f64.format.order f' one from hO, b'] at b; cases b
  · rw [a] at a'; cases a'
  · rw [show FloatKind.f64.format.order f one = FloatKind.f64.format.order f' one from hO, b'] at b; cases b
  · rw [e2, e2']; exact ⟨FR.congr hF (E.refl _) e1 e1', rfl⟩
end Go.Proofs.Ytkgghjblfoempaa.GW
