/- Slices among the arguments, opened as lists, of whatever elements; no condition. -/
import Derived.OpenShut
import Derived.ChangeSlices
import Derived.DataElems
import Derived.RowKit
import Derived.Test.YtejplbeddcpmeaaWWords
namespace Go.Proofs.Ytejplbeddcpmeaa.Opens
open Go.ChangeShapes Go.WideShapes Go.RowKit
open Go.Proofs.YtejplbeddcpmeaaW.PrintWords (add_field)

/-- A row of n elements of sz cells each; what its elements read as. -/
def RowC {α : Type} (K : World → α → List Value → Prop) (sz : Nat) (w : World) (A : Option Addr) (n : Nat) (xs : List α) : Prop :=
  xs.length = n ∧ (0 < n → ∃ ad, A = some ad ∧ ∀ j x, xs[j]? = some x → ∃ c, c.length = sz ∧ K w x c ∧ ∀ i u, c[i]? = some u → w.cell? (ad.add (j * sz + i)) = some u)
def flatK {α : Type} (enc : α → List Value) : World → α → List Value → Prop := fun _ x c => c = enc x
def rowK {α : Type} (K : World → α → List Value → Prop) (sz : Nat) : World → List α → List Value → Prop := fun w xs c => ∃ A len cap, c = [.slice A len cap] ∧ len ≤ cap ∧ len ≤ 9223372036854775807 ∧ RowC K sz w A len xs
abbrev intK (k : IntKind) : World → Int → List Value → Prop := flatK fun x => [.int k x]
abbrev boolK : World → Bool → List Value → Prop := flatK fun x => [.bool x]

theorem RowC.below {α : Type} {K : World → α → List Value → Prop} {sz : Nat} {w w' : World} {A : Option Addr} {n : Nat} {xs : List α} (hK : ∀ x c, K w x c → K w' x c) (h : RowC K sz w A n xs) (hb : Below w.heap.size w w') : RowC K sz w' A n xs :=
  ⟨h.1, fun hn => by
    obtain ⟨ad, e, f⟩ := h.2 hn
    refine ⟨ad, e, fun j x hj => ?_⟩
    obtain ⟨c, hc, hk, g⟩ := f j x hj
    exact ⟨c, hc, hK _ _ hk, fun i u hu => (hb.cell (World.block_lt_of_cell? w _ (g i u hu))).trans (g i u hu)⟩⟩
theorem RowC.belowF {α : Type} {enc : α → List Value} {sz : Nat} {w w' : World} {A : Option Addr} {n : Nat} {xs : List α} (h : RowC (flatK enc) sz w A n xs) (hb : Below w.heap.size w w') : RowC (flatK enc) sz w' A n xs := RowC.below (K := flatK enc) (w := w) (w' := w') (fun x c k => (k : c = enc x)) h hb
theorem rowK_below {α : Type} {K : World → α → List Value → Prop} {sz : Nat} {w w' : World} (hK : ∀ x c, K w x c → K w' x c) (hb : Below w.heap.size w w') (x : List α) (c : List Value) (h : rowK K sz w x c) : rowK K sz w' x c := by
  obtain ⟨A, l, cap, e, h1, h2, h3⟩ := h
  exact ⟨A, l, cap, e, h1, h2, h3.below hK hb⟩
theorem RowC.nil {α : Type} (K : World → α → List Value → Prop) (sz : Nat) (w : World) (A : Option Addr) : RowC K sz w A 0 [] := ⟨rfl, fun h => absurd h (Nat.lt_irrefl 0)⟩
theorem RowC.take {α : Type} {K : World → α → List Value → Prop} {sz : Nat} {w : World} {A : Option Addr} {n : Nat} {xs : List α} (h : RowC K sz w A n xs) (m : Nat) (hm : m ≤ n) : RowC K sz w A m (xs.take m) :=
  ⟨by rw [List.length_take, h.1]; omega, fun hn => by
    obtain ⟨ad, e, f⟩ := h.2 (by omega)
    exact ⟨ad, e, fun j x hj => f j x (by rw [List.getElem?_take] at hj; split at hj; exact hj; cases hj)⟩⟩
/-- Element j's cells. -/
theorem RowC.at_ {α : Type} {K : World → α → List Value → Prop} {sz : Nat} {w : World} {A : Option Addr} {n : Nat} {xs : List α} (h : RowC K sz w A n xs) (j : Nat) (hj : j < n) :
    ∃ ad c, A = some ad ∧ c.length = sz ∧ K w (xs[j]'(by rw [h.1]; exact hj)) c ∧ ∀ i u, c[i]? = some u → w.cell? (ad.add (j * sz + i)) = some u := by
  obtain ⟨ad, e, f⟩ := h.2 (by omega)
  obtain ⟨c, a, b, d⟩ := f j _ (List.getElem?_eq_getElem (by rw [h.1]; exact hj))
  exact ⟨ad, c, e, a, b, d⟩
/-- One-celled elements. -/
theorem RowC.one {α : Type} {v : α → Value} {w : World} {A : Option Addr} {n : Nat} {xs : List α} (h : RowC (flatK fun x => [v x]) 1 w A n xs) (j : Nat) (hj : j < n) :
    ∃ ad, A = some ad ∧ w.cell? (ad.add j) = some (v (xs[j]'(by rw [h.1]; exact hj))) := by
  obtain ⟨ad, c, e, _, k, f⟩ := h.at_ j hj
  refine ⟨ad, e, ?_⟩
  have := f 0 _ (by rw [show c = _ from k]; rfl)
  simpa using this
/-- The i-th cell of element j, i above 0, as the walk spells it. -/
theorem RowC.field {α : Type} {enc : α → List Value} {sz : Nat} {w : World} {A : Option Addr} {n : Nat} {xs : List α} (h : RowC (flatK enc) sz w A n xs) (j : Nat) (hj : j < n) :
    ∃ ad, A = some ad ∧ (∀ u, (enc (xs[j]'(by rw [h.1]; exact hj)))[0]? = some u → w.cell? (ad.add (j * sz)) = some u) ∧ ∀ i u, 0 < i → (enc (xs[j]'(by rw [h.1]; exact hj)))[i]? = some u → w.cell? ⟨(ad.add (j * sz)).block, (ad.add (j * sz)).off + i, none⟩ = some u := by
  obtain ⟨ad, c, e, _, k, f⟩ := h.at_ j hj
  cases (show c = _ from k)
  exact ⟨ad, e, fun u hu => f 0 u hu, fun i u hi hu => by rw [← add_field _ _ _ hi]; exact f i u hu⟩

theorem pick {α : Type} {Q : Nat → α → Prop} : ∀ n : Nat, (∀ i, i < n → ∃ x, Q i x) → ∃ xs : List α, xs.length = n ∧ ∀ i x, xs[i]? = some x → Q i x := by
  intro n
  induction n with
  | zero => intro _; exact ⟨[], rfl, fun i x h => by simp at h⟩
  | succ n ih =>
    intro h
    obtain ⟨xs, hl, hq⟩ := ih (fun i hi => h i (by omega))
    obtain ⟨y, hy⟩ := h n (by omega)
    refine ⟨xs ++ [y], by simp [hl], fun i x hx => ?_⟩
    by_cases c : i < n
    · rw [List.getElem?_append_left (by omega)] at hx
      exact hq i x hx
    · rw [List.getElem?_append_right (by omega)] at hx
      have hi : i = n := by
        have := (List.getElem?_eq_some_iff.1 hx).1
        simp at this
        omega
      subst hi
      rw [hl, Nat.sub_self] at hx
      have : y = x := by simpa using hx
      rw [← this]; exact hy

theorem open_row {H : Type} {enc : TypeId × Value → H} {P : Program} {w : World} {base : Nat} {spare : Nat → Bool} {held : Bool} {α : Type} (K : World → α → List Value → Prop) (sz : Nat) (Q : α → Prop) {t e : TypeId} (ht : P.underlying t = some (.slice e)) (hc : P.cellsOf e = sz)
    (each : ∀ n cs y, cs.length = sz → DataW.trod enc P w base spare held n e cs = some y → ∃ x : α, K w x cs ∧ Q x) {fuel : Nat} {cs : List Value} {x : DataW H × List MemPlace} (h : DataW.trod enc P w base spare held fuel t cs = some x) :
    ∃ A len cap, ∃ xs : List α, cs = [.slice A len cap] ∧ xs.length = len ∧ len ≤ cap ∧ len ≤ 9223372036854775807 ∧ RowC K sz w A len xs ∧ ∀ x ∈ xs, Q x := by
  rcases DataW.trod_slice ht h with ⟨rfl, _⟩ | ⟨a, len, cap, elems, rest, n, _, rfl, rfl, hb, hl, hm, hlen, hel, hsp, hns⟩
  · exact ⟨none, 0, 0, [], rfl, rfl, Nat.le_refl _, by decide, RowC.nil _ _ _ _, fun x hx => by simp at hx⟩
  · obtain ⟨xs, hxl, hxq⟩ := pick (Q := fun i x => Q x ∧ ∃ c, c.length = sz ∧ K w x c ∧ ∀ j u, c[j]? = some u → w.cell? (a.add (i * sz + j)) = some u) len (fun i hi => by
      have h1 := hel i hi
      rw [hc] at h1
      have h2 : elems[i]? = some (elems[i]'(by omega)) := List.getElem?_eq_getElem (by omega)
      rw [h2, Option.bind_eq_some_iff] at h1
      obtain ⟨c, hcs, hy⟩ := h1
      obtain ⟨_, hcl, hcell⟩ := World.cells?_some hcs
      obtain ⟨x, hK, hQ⟩ := each _ _ _ hcl hy
      refine ⟨x, hQ, c, hcl, hK, fun j u hj => ?_⟩
      have := (List.getElem?_eq_some_iff.1 hj).1
      rw [← hj, ← hcell j (by omega), Addr.add_add])
    have hmx : maxLen ≤ 9223372036854775807 := by decide
    refine ⟨some a, len, cap, xs, rfl, hxl, hl, by omega, ⟨hxl, fun _ => ⟨a, rfl, fun j p hj => (hxq j p hj).2⟩⟩, fun x hx => ?_⟩
    obtain ⟨i, hi⟩ := List.getElem?_of_mem hx
    exact (hxq i x hi).1

theorem each_int {H : Type} {enc : TypeId × Value → H} {P : Program} {w : World} {base : Nat} {spare : Nat → Bool} {held : Bool} {t : TypeId} {k : IntKind} (ht : P.underlying t = some (.int k)) (n : Nat) (cs : List Value) (y : DataW H × List MemPlace) (h : DataW.trod enc P w base spare held n t cs = some y) : ∃ x : Int, intK k w x cs ∧ (Lit.int k x).wf = true := by
  obtain ⟨u, E, _, hw⟩ := DataW.trod_int ht h
  exact ⟨u, E, hw⟩
theorem each_bool {H : Type} {enc : TypeId × Value → H} {P : Program} {w : World} {base : Nat} {spare : Nat → Bool} {held : Bool} {t : TypeId} (ht : P.underlying t = some .bool) (n : Nat) (cs : List Value) (y : DataW H × List MemPlace) (h : DataW.trod enc P w base spare held n t cs = some y) : ∃ x : Bool, boolK w x cs ∧ True := by
  obtain ⟨u, E, _⟩ := DataW.trod_bool ht h
  exact ⟨u, E, trivial⟩
theorem each_row {H : Type} {enc : TypeId × Value → H} {P : Program} {w : World} {base : Nat} {spare : Nat → Bool} {held : Bool} {α : Type} (K : World → α → List Value → Prop) (sz : Nat) (Q : α → Prop) {t e : TypeId} (ht : P.underlying t = some (.slice e)) (hc : P.cellsOf e = sz)
    (each : ∀ n cs y, cs.length = sz → DataW.trod enc P w base spare held n e cs = some y → ∃ x : α, K w x cs ∧ Q x) (n : Nat) (cs : List Value) (y : DataW H × List MemPlace) (h : DataW.trod enc P w base spare held n t cs = some y) : ∃ xs : List α, rowK K sz w xs cs ∧ ∀ x ∈ xs, Q x := by
  obtain ⟨A, len, cap, xs, e, hx, h1, h2, h3, h4⟩ := open_row K sz Q ht hc each h
  exact ⟨xs, ⟨A, len, cap, e, h1, h2, h3⟩, h4⟩

end Go.Proofs.Ytejplbeddcpmeaa.Opens
