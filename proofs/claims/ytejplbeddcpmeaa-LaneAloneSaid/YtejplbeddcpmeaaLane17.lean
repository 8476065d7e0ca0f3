/- The reference's lane: made, and a number appended. -/
import Derived.Test.YtejplbeddcpmeaaLane16
namespace Go.Proofs.Ytejplbeddcpmeaa.Lane
open Go.RowKit Go.Proofs.YtejplbeddcpmeaaW.PrintWords Go.Proofs.Ytejplbeddcpmeaa.Heap Go.Proofs.Ytejplbeddcpmeaa.Mem Go.Proofs.Ytejplbeddcpmeaa.Ring
set_option linter.unusedVariables false
set_option linter.unusedSimpArgs false

theorem made_get (z : Value) (n i : Nat) (h : i < n) : (madeCells #[z] n).toList[i]? = some z := by
  have hs : (madeCells #[z] n).size = n := by simp [size_madeCells]
  rw [List.getElem?_eq_getElem (by simp; omega)]
  simp [madeCells, Nat.mod_one]
theorem refNew (W wb : World) (n z : Nat) (h : Below (W.alloc (.cells (madeCells #[.slice none 0 0] n) 44)).heap.size (W.alloc (.cells (madeCells #[.slice none 0 0] n) 44)) wb) (hz : z = (W.alloc (.cells (madeCells #[.slice none 0 0] n) 44)).heap.size)
    (hb : Blk wb z [.slice (some ⟨W.heap.size, 0, none⟩) n n, .int .i64 0] 80) : RefAt wb W.heap.size z W.heap.size n 0 (fun _ => .slice none 0 0) (fun _ => []) := by
  have hsz : (W.alloc (.cells (madeCells #[.slice none 0 0] n) 44)).heap.size = W.heap.size + 1 := by simp
  have hnew : Blk (W.alloc (.cells (madeCells #[.slice none 0 0] n) 44)) W.heap.size (madeCells #[.slice none 0 0] n).toList 44 := by
    have := Blk.new W (madeCells #[.slice none 0 0] n).toList 44
    rwa [Array.toArray_toList] at this
  exact ⟨hb, ⟨_, Blk.below hnew h, fun i hi => made_get _ n i hi⟩, fun i hi => own_nil _ _ _ _, fun i j _ _ _ _ => rfl, by omega, Nat.le_refl _⟩
theorem RefAt.gblk {W w1 : World} {B z b n at_ k : Nat} {vs : Nat → Value} {Ls : Nat → List Int} (h : RefAt W B z b n at_ vs Ls) (hk : k < n) (hg : W.grownBy w1 (vs k).ownBlock) {g t : Nat} {cs : List Value} (hb : Blk W g cs t) (ht : t ≠ 29) : Blk w1 g cs t := by
  refine blk_grown hb hg (fun e => ?_)
  obtain ⟨_, cs', hc⟩ := own_some (h.own k hk) e.symm
  exact ht (Blk.ty hb hc)
theorem RefAt.grown {W w1 : World} {B z b n at_ k : Nat} {vs : Nat → Value} {Ls : Nat → List Int} (h : RefAt W B z b n at_ vs Ls) (hk : k < n) {v1 : Value} {L : List Int} (ho : w1.ownsRow B 29 1 v1 L.length (nums .u64 L)) (hg : W.grownBy w1 (vs k).ownBlock) (hat : v1.ownBlock = (vs k).ownBlock ∨ ∃ g, v1.ownBlock = some g ∧ W.heap.size ≤ g) :
    RefAt (w1.setCell ⟨b, k, none⟩ v1) B z b n at_ (updV vs k v1) (updL Ls k L) ∧ Chg (RS B W) W (w1.setCell ⟨b, k, none⟩ v1) := by
  obtain ⟨cs, hbk, hcs⟩ := h.out
  have hb1 := h.gblk hk hg hbk (by decide)
  have hz1 := h.gblk hk hg h.top (by decide)
  have hzb : z ≠ b := h.top.ne hbk (by decide)
  have hkl : k < cs.length := by
    rcases Nat.lt_or_ge k cs.length with q | q
    · exact q
    · have := hcs k hk; rw [List.getElem?_eq_none q] at this; cases this
  constructor
  · refine ⟨Blk.far hz1 hzb _, ⟨cs.set k v1, Blk.set hb1 k _, fun i hi => ?_⟩, fun i hi => ?_, fun i j hi hj hij e => ?_, h.zb, h.bb⟩
    · unfold updV
      by_cases c : i = k
      · rw [if_pos c, c]; simp [hkl]
      · rw [if_neg c, List.getElem?_set_ne (fun e => c e.symm)]; exact hcs i hi
    · unfold updV updL
      by_cases c : i = k
      · rw [if_pos c, if_pos c]
        exact own_fr ho (fun g gs hgb _ _ => Blk.far hgb (hgb.ne hb1 (by decide)) _)
      · rw [if_neg c, if_neg c]
        have h1 : w1.ownsRow B 29 1 (vs i) (Ls i).length (nums .u64 (Ls i)) := own_fr (h.own i hi) (fun g gs hgb _ e => blk_grown hgb hg (fun e2 => by
          have := h.ap i k hi hk c (by rw [e, e2])
          rw [e] at this; cases this))
        exact own_fr h1 (fun g gs hgb _ _ => Blk.far hgb (hgb.ne hb1 (by decide)) _)
    · have key : ∀ i, i < n → i ≠ k → (vs i).ownBlock = v1.ownBlock → (vs i).ownBlock = none := by
        intro i hi c e
        rcases hat with q | ⟨g, q, hgs⟩
        · exact h.ap i k hi hk c (by rw [e, q])
        · rcases q2 : (vs i).ownBlock with _ | g2
          · rfl
          · have h2 := (own_some (h.own i hi) q2).1
            rw [q2, q] at e
            injection e with e
            omega
      unfold updV at e ⊢
      by_cases c : i = k
      · by_cases d : j = k
        · omega
        · rw [if_pos c] at e ⊢; rw [if_neg d] at e; rw [e]; exact key j hj d e.symm
      · rw [if_neg c] at e ⊢
        by_cases d : j = k
        · rw [if_pos d] at e; exact key i hi c e
        · rw [if_neg d] at e; exact h.ap i j hi hj hij e
  · refine Chg.set ?_ (.inl ⟨h.bb, cs, _, hbk, .inr (.inl rfl)⟩) _
    refine ⟨hg.os, hg.tape, hg.output, hg.size, fun j hj hn => hg.block j hj (fun e => hn ?_)⟩
    obtain ⟨_, cs', hc⟩ := own_some (h.own k hk) e.symm
    exact ⟨own_base (h.own k hk) j e.symm, cs', _, hc, .inr (.inr rfl)⟩
end Go.Proofs.Ytejplbeddcpmeaa.Lane
