/- A slice of structs among the arguments, opened as one list; no condition beyond the stated ones. -/
import Derived.OpenShut
import Derived.ChangeSlices
import Derived.DataElems
import Derived.Test.YtfgdjljbdghdgaaWWords
namespace Go.Proofs.Ytfgdjljbdghdgaa.Opens
open Go.ChangeShapes Go.WideShapes Go.RowKit
open Go.Proofs.YtfgdjljbdghdgaaW.PrintWords

theorem pick {α : Type} {Q : Nat → α → Prop} : ∀ n : Nat, (∀ i, i < n → ∃ x, Q i x) → ∃ xs : List α, xs.length = n ∧ ∀ i x, xs[i]? = some x → Q i x := by
  intro n
  induction n with
  | zero => intro _; exact ⟨[], rfl, fun i x h => by simp at h⟩
  | succ n ih =>
    intro h
    obtain ⟨xs, hl, hq⟩ := ih (fun i hi => h i (by omega))
    obtain ⟨y, hy⟩ := h n (by omega)
    refine ⟨xs ++ [y], by simp [hl], fun i x hx => ?_⟩
    by_cases c : i < n
    · rw [List.getElem?_append_left (by omega)] at hx
      exact hq i x hx
    · rw [List.getElem?_append_right (by omega)] at hx
      have hi : i = n := by
        have := (List.getElem?_eq_some_iff.1 hx).1
        simp at this
        omega
      subst hi
      rw [hl, Nat.sub_self] at hx
      have : y = x := by simpa using hx
      rw [← this]; exact hy

theorem open_rows {H : Type} {enc : TypeId × Value → H} {P : Program} {w : World} {base : Nat} {spare : Nat → Bool} {held : Bool} {α : Type} (K : Kd α) (Q : α → Prop) {t e : TypeId} (ht : P.underlying t = some (.slice e)) (hc : P.cellsOf e = K.sz)
    (each : ∀ n cs y, cs.length = K.sz → DataW.trod enc P w base spare held n e cs = some y → ∃ x : α, K.K w x cs ∧ Q x) {fuel : Nat} {cs : List Value} {x : DataW H × List MemPlace} (h : DataW.trod enc P w base spare held fuel t cs = some x) :
    ∃ A len cap, ∃ xs : List α, cs = [.slice A len cap] ∧ xs.length = len ∧ len ≤ cap ∧ len ≤ maxLen ∧ Kd.C K w A len xs ∧ ∀ x ∈ xs, Q x := by
  rcases DataW.trod_slice ht h with ⟨rfl, _⟩ | ⟨a, len, cap, elems, rest, n, _, rfl, rfl, hb, hl, hm, hlen, hel, hsp, hns⟩
  · exact ⟨none, 0, 0, [], rfl, rfl, Nat.le_refl _, by decide, ⟨rfl, by decide, fun h => absurd h (by decide)⟩, fun x hx => by simp at hx⟩
  · obtain ⟨xs, hxl, hxq⟩ := pick (Q := fun i x => Q x ∧ ∃ c, c.length = K.sz ∧ K.K w x c ∧ ∀ j u, c[j]? = some u → w.cell? (a.add (i * K.sz + j)) = some u) len (fun i hi => by
      have h1 := hel i hi
      rw [hc] at h1
      have h2 : elems[i]? = some (elems[i]'(by omega)) := List.getElem?_eq_getElem (by omega)
      rw [h2, Option.bind_eq_some_iff] at h1
      obtain ⟨c, hcs, hy⟩ := h1
      obtain ⟨_, hcl, hcell⟩ := World.cells?_some hcs
      obtain ⟨x, hK, hQ⟩ := each _ _ _ hcl hy
      refine ⟨x, hQ, c, hcl, hK, fun j u hj => ?_⟩
      have := (List.getElem?_eq_some_iff.1 hj).1
      rw [← hj, ← hcell j (by omega), Addr.add_add])
    have hmx : maxLen ≤ 9223372036854775807 := by decide
    have hlm : len ≤ maxLen := by omega
    have hlb : len ≤ 9223372036854775807 := by omega
    refine ⟨some a, len, cap, xs, rfl, hxl, hl, hlm, ⟨hxl, hlb, fun _ => ⟨a, rfl, fun j p hj => (hxq j p hj).2⟩⟩, fun x hx => ?_⟩
    obtain ⟨i, hi⟩ := List.getElem?_of_mem hx
    exact (hxq i x hi).1

end Go.Proofs.Ytfgdjljbdghdgaa.Opens
