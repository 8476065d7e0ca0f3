/- The law RingAlone: its walk; no condition. -/
import Derived.Test.YtejplbeddcpmeaaRing11
import Derived.Test.YtejplbeddcpmeaaOpen
import Derived.Deep.RegionWith
namespace Go.Proofs.Ytejplbeddcpmeaa.Ring
open Go.RowKit Go.Proofs.YtejplbeddcpmeaaW.PrintWords Go.Proofs.Ytejplbeddcpmeaa.Heap Go.Proofs.Ytejplbeddcpmeaa.Mem Go.Proofs.Ytejplbeddcpmeaa.Opens
set_option linter.unusedVariables false
set_option linter.unusedSimpArgs false

/-- What stays as it is about the law's blocks: the memory and the ring lie below B, the queue's block at B or above. -/
structure Low (p : Mp) (g qb B : Nat) : Prop where
  p : ∀ k, p.has k → k < B
  g : g < B
  q : B ≤ qb
theorem own_any {base : Nat} {w w' : World} {v : Value} {L : List Int} {S : Nat → Prop} (h : OwnU base w v L) (hc : Chg S w w') (hs : ∀ k, base ≤ k → (∃ cs, w.heap[k]? = some (.cells cs 29 (0, 0))) → ¬ S k) : OwnU base w' v L :=
  own_move h (fun k hk => hc.block k (own_lt h k hk) (hs k (own_base h k hk) (own_typed h k hk)))
theorem not_typed {w : World} {b t : Nat} {cs : List Value} (h : Blk w b cs t) (ht : t ≠ 29) : ¬ ∃ cs', w.heap[b]? = some (.cells cs' 29 (0, 0)) := by
  rintro ⟨cs', e⟩
  have h' : w.heap[b]? = some (.cells cs.toArray t (0, 0)) := h
  rw [h'] at e
  injection e with e
  injection e with _ e
  exact ht e
theorem QAt.ring1 {B : Nat} {w w' : World} {qb g : Nat} {p : Mp} {R : RingS} {n : Int} {L : List Int} (h : QAt B w qb n L) (hr : RingAt w g p R) (hc : Chg (fun k => k = g) w w') : QAt B w' qb n L := by
  obtain ⟨v, hq, ho⟩ := h
  exact ⟨v, Blk.ring1 hq hr hc (by decide), own_any ho hc (fun k _ ht e => not_typed hr (by decide) (e ▸ ht))⟩
theorem QAt.mra {B : Nat} {w w' : World} {qb g x : Nat} {p : Mp} {M : MemS} {R : RingS} {A : ActS} {n : Int} {L : List Int} (h : QAt B w qb n L) (ha : All w p g x M R A) (hl : ∀ k, p.has k → k < B) (hc : Chg (Mra p g x) w w') : QAt B w' qb n L := by
  obtain ⟨v, hq, ho⟩ := h
  refine ⟨v, Blk.mra hq ha hc (by decide) (by decide) (by decide) (by decide) (by decide), own_any ho hc (fun k hk ht => ?_)⟩
  rintro (e | rfl | rfl)
  · have := hl k e; omega
  · exact not_typed ha.r (by decide) ht
  · exact not_typed ha.a (by decide) ht
theorem QAt.below {B : Nat} {w w' : World} {qb : Nat} {n : Int} {L : List Int} (h : QAt B w qb n L) (hb : Below w.heap.size w w') : QAt B w' qb n L := by
  obtain ⟨v, hq, ho⟩ := h
  exact ⟨v, Blk.below hq hb, pw_own_below ho hb⟩
theorem mem_qs {T : TypeId} {w w' : World} {p : Mp} {M : MemS} {B g qb : Nat} (h : MemAt T w p M) (hl : Low p g qb B) (hc : Chg (QS B qb w) w w') : MemAt T w' p M :=
  h.chg hc (fun k hk => by
    have h1 := hl.p k hk
    have h2 := hl.q
    rintro (e | ⟨e, _⟩) <;> omega)
theorem all_qs {w w' : World} {p : Mp} {g x : Nat} {M : MemS} {R : RingS} {A : ActS} {B qb : Nat} (h : All w p g x M R A) (hl : Low p g qb B) (hx : x ≠ qb) (hc : Chg (QS B qb w) w w') : All w' p g x M R A :=
  ⟨mem_qs h.m hl hc, qs_low h.r hc (by have := hl.g; have := hl.q; omega) hl.g, qs_blk h.a hc hx (by decide), h.ok, h.av⟩
theorem qs_above {B qb : Nat} {w : World} (h : B ≤ qb) : ∀ k, QS B qb w k → B ≤ k := by
  rintro k (e | ⟨e, _⟩)
  · omega
  · exact e
theorem QAt.nx {B : Nat} {w : World} {qb x g : Nat} {n : Int} {L : List Int} {A : ActS} (h : QAt B w qb n L) (ha : ActAt w x g A) : x ≠ qb := by
  obtain ⟨v, hq, _⟩ := h
  exact Blk.ne ha hq (by decide)

end Go.Proofs.Ytejplbeddcpmeaa.Ring
