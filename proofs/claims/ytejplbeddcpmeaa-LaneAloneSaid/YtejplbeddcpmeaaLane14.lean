/- The reference's lane ([][]uint64): what stands in the heap, its Next; no condition beyond bounds. -/
import Derived.Test.YtejplbeddcpmeaaLane13
import Derived.Test.YtejplbeddcpmeaaRing11
namespace Go.Proofs.Ytejplbeddcpmeaa.Lane
open Go.RowKit Go.Proofs.YtejplbeddcpmeaaW.PrintWords Go.Proofs.Ytejplbeddcpmeaa.Heap Go.Proofs.Ytejplbeddcpmeaa.Mem Go.Proofs.Ytejplbeddcpmeaa.Ring
set_option linter.unusedVariables false
set_option linter.unusedSimpArgs false

/-- The reference's lane: the queues' rows are the call's own, each in a block of its own. -/
structure RefAt (w : World) (B z b n at_ : Nat) (vs : Nat → Value) (Ls : Nat → List Int) : Prop where
  top : Blk w z [.slice (some ⟨b, 0, none⟩) n n, .int .i64 at_] 80
  out : ∃ cs, Blk w b cs 44 ∧ ∀ i, i < n → cs[i]? = some (vs i)
  own : ∀ i, i < n → w.ownsRow B 29 1 (vs i) (Ls i).length (nums .u64 (Ls i))
  ap : ∀ i j, i < n → j < n → i ≠ j → (vs i).ownBlock = (vs j).ownBlock → (vs i).ownBlock = none
  zb : B ≤ z
  bb : B ≤ b
/-- What a step of the program's lane leaves: blocks from B on that are no ring and no lane. -/
def Fr (B : Nat) (w w' : World) : Prop := ∀ (k t : Nat) (cs : List Value), Blk w k cs t → B ≤ k → t ≠ 103 → t ≠ 111 → Blk w' k cs t
theorem own_fr {B : Nat} {w w' : World} {v : Value} {n : Nat} {xs : List Value} (h : w.ownsRow B 29 1 v n xs) (hf : ∀ k cs, Blk w k cs 29 → B ≤ k → v.ownBlock = some k → Blk w' k cs 29) : w'.ownsRow B 29 1 v n xs := by
  refine ⟨h.1, ?_⟩
  rcases h.2 with q | ⟨g, cap, cur, e, hb, hg, h1, h2, h3, h4⟩
  · exact .inl q
  · refine .inr ⟨g, cap, cur, e, hb, ?_, h1, h2, h3, h4⟩
    have hB : Blk w g cur.toList 29 := by unfold Blk; simpa using hg
    have := hf g _ hB hb (by rw [e]; rfl)
    unfold Blk at this
    simpa using this
theorem RefAt.fr {w w' : World} {B z b n at_ : Nat} {vs : Nat → Value} {Ls : Nat → List Int} (h : RefAt w B z b n at_ vs Ls) (hf : Fr B w w') : RefAt w' B z b n at_ vs Ls := by
  refine ⟨hf z _ _ h.top h.zb (by decide) (by decide), ?_, fun i hi => own_fr (h.own i hi) (fun k cs hb hk _ => hf k _ cs hb hk (by decide) (by decide)), h.ap, h.zb, h.bb⟩
  obtain ⟨cs, hb, hc⟩ := h.out
  exact ⟨cs, hf b _ _ hb h.bb (by decide) (by decide), hc⟩
theorem RefAt.below {w w' : World} {B z b n at_ : Nat} {vs : Nat → Value} {Ls : Nat → List Int} (h : RefAt w B z b n at_ vs Ls) (hb : Below w.heap.size w w') : RefAt w' B z b n at_ vs Ls := h.fr (fun k t cs hk _ _ _ => Blk.below hk hb)
/-- What the reference's steps may change. -/
def RS (B : Nat) (w : World) (k : Nat) : Prop := B ≤ k ∧ ∃ cs t, Blk w k cs t ∧ (t = 80 ∨ t = 44 ∨ t = 29)
theorem RefAt.at_ {w : World} {B z b n at_ i : Nat} {vs : Nat → Value} {Ls : Nat → List Int} (h : RefAt w B z b n at_ vs Ls) (hi : i < n) : ∃ A c, vs i = .slice A (Ls i).length c ∧ ReadsInt w .u64 A (Ls i).length (Ls i) := own_reads (h.own i hi)

set_option maxHeartbeats 8000000 in
set_option maxRecDepth 100000 in
/-- None has a number. -/
theorem rnext_none (w : World) (B z b n at_ : Nat) (vs : Nat → Value) (Ls : Nat → List Int) (h : RefAt w B z b n at_ vs Ls) (hn : 0 < n) (hn2 : n ≤ 1000) (hat : at_ < n) (hE : ∀ j, j < n → Ls ((at_ + j) % n) = []) :
    Calls Try.prog 52 #[pt z] w fun e w' => e = .returned (.tuple #[.int .u64 0, .int .i64 (-1)]) ∧ Below w.heap.size w w' := by
  have HR := Aside0.mk h
  have HE := Aside0.mk hE
  clear h hE
  have e3 : ((n : Int) == 0) = false := beq_eq_false_iff_ne.mpr (by omega)
  have e4 : ¬ n = 0 := by omega
  have e5 : ¬ (n : Int) = 0 := by omega
  go_enter Try.func52, Try.ntmps52
  go_wp2
  go_loopg [4] n (fun kq v4 wr => ∃ i : Nat, Aside0 (kq = n - i) ∧ i ≤ n ∧ v4 = .int .i64 (i : Int) ∧ Aside0 (Below w.heap.size w wr))
  case atStart => exact ⟨0, ⟨by omega⟩, by omega, rfl, ⟨Below.refl _ _⟩⟩
  case round =>
    obtain ⟨i, HKQ, hi, rfl, HB⟩ := hrel
    have HRr := Aside0.mk (HR.out.below HB.out)
    have z0 : wr.cell? ⟨z, 0, none⟩ = some (.slice (some ⟨b, 0, none⟩) n n) := (Blk.cell HRr.out.top 0).trans rfl
    have z1 : wr.cell? ⟨z, 1, none⟩ = some (.int .i64 at_) := (Blk.cell HRr.out.top 1).trans rfl
    by_cases hlt : i < n
    · obtain ⟨k, hk⟩ : ∃ k, (at_ + i) % n = k := ⟨_, rfl⟩
      have hkn : k < n := by rw [← hk]; exact Nat.mod_lt _ hn
      have hL : Ls k = [] := by rw [← hk]; exact HE.out i hlt
      obtain ⟨A, c, hv, hrd⟩ := HRr.out.at_ hkn
      rw [hL] at hv
      have bk : wr.cell? ⟨b, k, none⟩ = some (.slice A 0 c) := by
        obtain ⟨cs, hb, hc⟩ := HRr.out.out
        rw [Blk.cell hb k, hc k hkn, hv]; rfl
      have e1 : IntKind.i64.wrap ((at_ : Int) + (i : Int)) = ((at_ : Int) + (i : Int)) := i64_id (by omega)
      have e2 : ((at_ : Int) + (i : Int)).tmod (n : Int) = (k : Int) := by rw [Int.tmod_eq_emod_of_nonneg (by omega), ← hk]; norm_cast
      have e2b : ((at_ : Int) + (i : Int)) % (n : Int) = (k : Int) := by rw [← hk]; norm_cast
      have e2c : (at_ + i) % n = k := hk
      have d1 : decide ((i : Int) < (n : Int)) = true := decide_eq_true (by omega)
      clear hrd hv hL
      go_upto_region 4 with fail
      go_region_held3 (fun w' => w'.cell? ⟨z, 0, none⟩ = some (.slice (some ⟨b, 0, none⟩) n n) ∧ w'.cell? ⟨z, 1, none⟩ = some (.int .i64 at_)) (go_keep) (fail)
      go_wp2
      go_roundg (n - (i + 1))
      case measure => have := HKQ.out; omega
      case rel => exact ⟨i + 1, ⟨rfl⟩, by omega, by simp, ⟨below_drew1 HB.out⟩⟩
    · obtain rfl : i = n := by omega
      have d1 : decide ((i : Int) < (i : Int)) = false := decide_eq_false (by omega)
      go_wp2
      go_ret2
      exact ⟨rfl, HB.out⟩
end Go.Proofs.Ytejplbeddcpmeaa.Lane
