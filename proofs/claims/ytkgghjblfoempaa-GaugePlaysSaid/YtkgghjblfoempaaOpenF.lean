/- Floats in rows and structs; no condition. -/
import Derived.Laws.Cover2
import Derived.ChangeArms
import Derived.Test.YtkgghjblfoempaaOpen
namespace Go.Proofs.Ytkgghjblfoempaa.Opens
open Go.ChangeShapes Go.WideShapes Go.RowKit

def floatK : World → Nat → List Value → Prop := flatK (fun x => [.float .f64 x])
theorem trod_float {H : Type} {enc : TypeId × Value → H} {P : Program} {w : World} {base fuel : Nat} {spare : Nat → Bool} {held : Bool} {t : TypeId} {k : FloatKind} {cs : List Value} {x : DataW H × List MemPlace} (ht : P.underlying t = some (.float k)) (h : DataW.trod enc P w base spare held fuel t cs = some x) : ∃ b, cs = [.float k b] ∧ x = (.lit (.float k b), []) ∧ (Lit.float k b).wf = true := by
  cases fuel with
  | zero => simp [DataW.trod] at h
  | succ n =>
    unfold DataW.trod at h
    rw [ht] at h
    split at h <;> simp_all
theorem each_float {H : Type} {enc : TypeId × Value → H} {P : Program} {w : World} {base : Nat} {spare : Nat → Bool} {held : Bool} {t : TypeId}  (ht : P.underlying t = some (.float .f64)) (n : Nat) (cs : List Value) (y : DataW H × List MemPlace) (h : DataW.trod enc P w base spare held n t cs = some y) : ∃ x : Nat, floatK w x cs ∧ (Lit.float .f64 x).wf = true := by
  obtain ⟨u, E, _, hw⟩ := trod_float ht h
  exact ⟨u, E, hw⟩
end Go.Proofs.Ytkgghjblfoempaa.Opens
