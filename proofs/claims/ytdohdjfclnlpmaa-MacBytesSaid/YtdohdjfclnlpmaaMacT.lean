/- mac.Text's walk; no condition. -/
import Derived.Test.YtdohdjfclnlpmaaMacW
namespace Go.Proofs.Ytdohdjfclnlpmaa.MacW
open Go.RowKit Go.Proofs.YtdohdjfclnlpmaaW.PrintWords Go.Proofs.YtdohdjfclnlpmaaW.PrintLast
set_option linter.unusedVariables false
set_option linter.unusedSimpArgs false

def hexL : List UInt8 := [48, 49, 50, 51, 52, 53, 54, 55, 56, 57, 97, 98, 99, 100, 101, 102]
def hx (n : Nat) : UInt8 := hexL.getD n 0
/-- The text of i bytes. -/
def txt (r : List Int) : Nat → List UInt8
  | 0 => []
  | i + 1 => (if 0 < i then txt r i ++ [45] else txt r i) ++ [hx ((rd r i).toNat / 16)] ++ [hx ((rd r i).toNat % 16)]

theorem txt_len (r : List Int) : ∀ i, (txt r i).length ≤ 3 * i
  | 0 => by simp [txt]
  | i + 1 => by
    have := txt_len r i
    unfold txt
    split <;> simp <;> omega

theorem cells_app (l : List UInt8) (x : UInt8) : Lib.byteCells l ++ [.int .u8 (x.toNat : Int)] = Lib.byteCells (l ++ [x]) := by simp [Lib.byteCells]

theorem ix (k : Nat) (h : k < 16) : (({ data := #[48, 49, 50, 51, 52, 53, 54, 55, 56, 57, 97, 98, 99, 100, 101, 102] } : ByteArray)[k]'h).toNat = (hx k).toNat := by
  have : ∀ k : Fin 16, (({ data := #[48, 49, 50, 51, 52, 53, 54, 55, 56, 57, 97, 98, 99, 100, 101, 102] } : ByteArray)[k.val]'k.isLt).toNat = (hx k.val).toNat := by decide
  exact this ⟨k, h⟩

theorem below_kp {B b : Nat} {w w1 w2 w3 : World} (h : Below b w w1) (k : Kp B b w1 w2) (hB : b ≤ B) (g : Below b w2 w3) : Below b w w3 :=
  ⟨(g.os.trans k.os).trans h.os, (g.tape.trans k.tape).trans h.tape, (g.output.trans k.output).trans h.output, by have := h.size; have := k.size; have := g.size; omega, fun j hj => ((g.block j hj).trans (k.block j (by omega) (by omega))).trans (h.block j hj)⟩

theorem add_g (g i : Nat) : (⟨g, 0, none⟩ : Addr).add i = ⟨g, i, none⟩ := by
  unfold Addr.add
  split <;> simp_all

theorem Kp.cell {B b : Nat} {w w' : World} (h : Kp B b w w') {a : Addr} (ha : a.block < B) (hb : a.block ≠ b) : w'.cell? a = w.cell? a := by
  unfold World.cell?
  rw [h.block _ ha hb]

set_option maxHeartbeats 2000000 in
set_option maxRecDepth 100000 in
theorem text_walk (m : Int) (r : List Int) (w : World) (h6 : r.length = 6) (hb : ∀ i : Int, 0 ≤ rd r i ∧ rd r i ≤ 255)
    (hB : ∀ W : World, Calls Try.prog 37 #[.int .u64 m] W fun e w' => ∃ v0_ : Value, e = .returned (v0_) ∧ Kd.R (Kd.int .u8) 5 w' W.heap.size (fun _ => True) v0_ r ∧ Below W.heap.size W w') :
    Calls Try.prog 25 #[.int .u64 m] w fun e w' => e = .returned (.string ⟨(txt r 6).toArray⟩) ∧ Below w.heap.size w w' := by
  have HBY := Aside0.mk hb
  clear hb
  go_enter Try.func25, Try.ntmps25
  go_wp2_with (go_at_call 37; refine (hB _).mono ?_)
  rintro e w1 ⟨v0, rfl, hR, hbl⟩
  obtain ⟨g, c, rfl, hg1, hg2, _⟩ := Kd.R_form hR (by omega)
  have hI : ReadsInt w1 .u8 (some ⟨g, 0, none⟩) 6 r := by
    obtain ⟨A, c', e, k⟩ := own_reads (Kd.own_of_R hR)
    cases e
    rw [h6] at k
    exact k
  rw [h6]
  have HI := Aside0.mk hI
  have HG := Aside0.mk (show w.heap.size + 1 ≤ g ∧ g < w1.heap.size from ⟨by simpa using hg1, hg2⟩)
  have HB1 := Aside0.mk (below_step (below_alloc (Below.refl w.heap.size w) (.cells #[.pointer none, .slice none 0 0] 82)) hbl)
  have HBU := Aside0.mk (show Bu w1.heap.size w.heap.size [] w1 from .inl ⟨by have := hbl.size; simp at this; omega, Nat.le_refl _, .slice none 0 0, (hbl.block w.heap.size (by simp)).trans (Array.getElem?_push_size ..), World.ownsRowF_nil _ _ _ _⟩)
  clear hI hR hbl hB hg1 hg2
  generalize hbb : w.heap.size = b at HB1 HBU HG ⊢
  go_wp2
  go_loopg [9] 6 (fun kq v9 w' => ∃ i : Nat, Aside0 (kq = 6 - i) ∧ i ≤ 6 ∧ v9 = .int .i64 (i : Int) ∧ Aside0 (Bu w1.heap.size b (Lib.byteCells (txt r i)) w') ∧ Aside0 (Kp w1.heap.size b w1 w'))
  case atStart => exact ⟨0, ⟨by omega⟩, by omega, rfl, HBU, ⟨Kp.refl _ _ _⟩⟩
  case round =>
    obtain ⟨i, HKQ, hi, rfl, HU, HK⟩ := hrel
    by_cases hlt : i < 6
    · obtain ⟨ad, ea, xa⟩ := HI.out.at_ (i : Int) (by omega) (by omega)
      cases ea
      rw [Int.toNat_natCast] at xa
      rw [add_g] at xa
      have xb := (HK.out.cell (a := (⟨g, i, none⟩ : Addr)) HG.out.2 (by have := HG.out.1; simp; omega)).trans xa
      clear xa
      have HY := Aside0.mk (HBY.out (i : Int))
      obtain ⟨y, hy⟩ : ∃ y, rd r (i : Int) = y := ⟨_, rfl⟩
      rw [hy] at xb HY
      have p0 : (0 : Int) ≤ y / 16 := by have := HY.out; omega
      have p1 : y / 16 < 16 := by have := HY.out; omega
      have q0 : (0 : Int) ≤ y % 16 := by omega
      have q1 : y % 16 < 16 := by omega
      have hL := txt_len r i
      have hL' : (Lib.byteCells (txt r i)).length ≤ 990 := by rw [Lib.byteCells_length]; omega
      by_cases h0 : 0 < i
      · go_wp2_with (go_at_call 55; refine (WriteByte _ b _ 45 _ HU.out (by omega)).mono ?_)
        rintro e w2 ⟨rfl, hu2, hk2⟩
        rw [show (45 : Int) = (((45 : UInt8).toNat : Nat) : Int) from rfl, cells_app] at hu2
        go_wp2_with (go_at_call 55; refine (WriteByte _ b _ _ _ hu2 (by rw [Lib.byteCells_length]; simp; omega)).mono ?_)
        rintro e w3 ⟨rfl, hu3, hk3⟩
        rw [ix _ (by omega), cells_app] at hu3
        go_wp2_with (go_at_call 55; refine (WriteByte _ b _ _ _ hu3 (by rw [Lib.byteCells_length]; simp; omega)).mono ?_)
        rintro e w4 ⟨rfl, hu4, hk4⟩
        rw [ix _ (by omega), cells_app] at hu4
        go_wp2
        go_roundg (6 - (i + 1))
        case measure => have := HKQ.out; omega
        case rel => exact ⟨i + 1, ⟨rfl⟩, by omega, by simp, ⟨by unfold txt; rw [if_pos h0, hy, show y.toNat / 16 = (y / 16).toNat from by omega, show y.toNat % 16 = (y % 16).toNat from by omega]; exact hu4⟩, ⟨((HK.out.trans hk2).trans hk3).trans hk4⟩⟩
      · have hU := HU.out
        go_wp2_with (go_at_call 55; refine (WriteByte _ b _ _ _ hU (by rw [Lib.byteCells_length]; omega)).mono ?_)
        rintro e w3 ⟨rfl, hu3, hk3⟩
        rw [ix _ (by omega), cells_app] at hu3
        go_wp2_with (go_at_call 55; refine (WriteByte _ b _ _ _ hu3 (by rw [Lib.byteCells_length]; simp; omega)).mono ?_)
        rintro e w4 ⟨rfl, hu4, hk4⟩
        rw [ix _ (by omega), cells_app] at hu4
        go_wp2
        go_roundg (6 - (i + 1))
        case measure => have := HKQ.out; omega
        case rel => exact ⟨i + 1, ⟨rfl⟩, by omega, by simp, ⟨by unfold txt; rw [if_neg h0, hy, show y.toNat / 16 = (y / 16).toNat from by omega, show y.toNat % 16 = (y % 16).toNat from by omega]; exact hu4⟩, ⟨(HK.out.trans hk3).trans hk4⟩⟩
    · obtain rfl : i = 6 := by omega
      go_wp2_with (go_at_call 56; refine (String_ _ b (txt r 6) _ HU.out (by simp [txt])).mono ?_)
      rintro e w2 ⟨rfl, hb2⟩
      go_wp2
      go_ret
      refine ⟨rfl, ?_⟩
      rw [hbb]
      exact below_kp HB1.out HK.out (by have := HG.out; omega) hb2
end Go.Proofs.Ytdohdjfclnlpmaa.MacW
