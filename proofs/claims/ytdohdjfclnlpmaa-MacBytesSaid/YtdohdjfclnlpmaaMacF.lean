/- The reference's Text: its walk; no condition. -/
import Derived.Test.YtdohdjfclnlpmaaMacR
namespace Go.Proofs.Ytdohdjfclnlpmaa.MacW
open Go.RowKit Go.Proofs.YtdohdjfclnlpmaaW.PrintWords Go.Proofs.YtdohdjfclnlpmaaW.PrintLast
set_option linter.unusedVariables false
set_option linter.unusedSimpArgs false

theorem ext1 (k : Nat) (h : k < 16) : ({ data := #[48, 49, 50, 51, 52, 53, 54, 55, 56, 57, 97, 98, 99, 100, 101, 102] } : ByteArray).extract k (k + 1) = ⟨#[hx k]⟩ := by
  have : ∀ k : Fin 16, ({ data := #[48, 49, 50, 51, 52, 53, 54, 55, 56, 57, 97, 98, 99, 100, 101, 102] } : ByteArray).extract k.val (k.val + 1) = ⟨#[hx k.val]⟩ := by decide
  exact this ⟨k, h⟩

theorem cat1 (l : List UInt8) (x : UInt8) : (⟨l.toArray⟩ : ByteArray) ++ ⟨#[x]⟩ = ⟨(l ++ [x]).toArray⟩ := by
  apply ByteArray.ext
  simp [ByteArray.data_append]

set_option maxHeartbeats 4000000 in
set_option maxRecDepth 100000 in
theorem rtext_walk (m : Int) (r : List Int) (w : World) (h6 : r.length = 6) (hb : ∀ i : Int, 0 ≤ rd r i ∧ rd r i ≤ 255)
    (hB : ∀ W : World, Calls Try.prog 32 #[.int .u64 m] W fun e w' => ∃ v0_ : Value, e = .returned (v0_) ∧ Kd.R (Kd.int .u8) 5 w' W.heap.size (fun _ => True) v0_ r ∧ Below W.heap.size W w') :
    Calls Try.prog 28 #[.int .u64 m] w fun e w' => e = .returned (.string ⟨(txt r 6).toArray⟩) ∧ Below w.heap.size w w' := by
  have HBY := Aside0.mk hb
  clear hb
  go_enter Try.func28, Try.ntmps28
  go_wp2_with (go_at_call 32; refine (hB _).mono ?_)
  rintro e w1 ⟨v0, rfl, hR, hbl⟩
  obtain ⟨g, c, rfl, hg1, hg2, _⟩ := Kd.R_form hR (by omega)
  have hI : ReadsInt w1 .u8 (some ⟨g, 0, none⟩) 6 r := by
    obtain ⟨A, c', e, k⟩ := own_reads (Kd.own_of_R hR)
    cases e
    rw [h6] at k
    exact k
  rw [h6]
  have HI := Aside0.mk hI
  have HB1 := Aside0.mk hbl
  clear hI hR hbl hB hg1 hg2
  go_wp2
  go_loopg [5, 6] 6 (fun kq v5 v6 w' => ∃ i : Nat, Aside0 (kq = 6 - i) ∧ i ≤ 6 ∧ v5 = .string ⟨(txt r i).toArray⟩ ∧ v6 = .int .i64 (i : Int) ∧ Aside0 (Drawn0 w1 w'))
  case atStart => exact ⟨0, ⟨by omega⟩, by omega, rfl, rfl, ⟨Drawn0.refl _⟩⟩
  case round =>
    obtain ⟨i, HKQ, hi, rfl, rfl, HD⟩ := hrel
    by_cases hlt : i < 6
    · have HIr : Aside0 (ReadsInt wr .u8 (some ⟨g, 0, none⟩) 6 r) := ⟨by obtain ⟨n, hn⟩ := HD.out.out; rw [hn]; exact HI.out.drewN n⟩
      obtain ⟨ad, ea, xa⟩ := HIr.out.at_ (i : Int) (by omega) (by omega)
      cases ea
      rw [Int.toNat_natCast, add_g] at xa
      have HY := Aside0.mk (HBY.out (i : Int))
      obtain ⟨y, hy⟩ : ∃ y, rd r (i : Int) = y := ⟨_, rfl⟩
      rw [hy] at xa HY
      obtain ⟨p, hp⟩ : ∃ p : Nat, y / 16 = (p : Int) := ⟨(y / 16).toNat, by have := HY.out; omega⟩
      obtain ⟨q, hq⟩ : ∃ q : Nat, y % 16 = (q : Int) := ⟨(y % 16).toNat, by have := HY.out; omega⟩
      have p1 : p < 16 := by have := HY.out; omega
      have q1 : q < 16 := by omega
      have hp' : y.tdiv 16 = (p : Int) := by rw [Int.tdiv_eq_ediv_of_nonneg HY.out.1]; exact hp
      have hq' : y.tmod 16 = (q : Int) := by rw [Int.tmod_eq_emod_of_nonneg HY.out.1]; exact hq
      have hL := txt_len r i
      have HT : txt r (i + 1) = (if 0 < i then txt r i ++ [45] else txt r i) ++ [hx p] ++ [hx q] := by
        show (if 0 < i then txt r i ++ [45] else txt r i) ++ [hx ((rd r i).toNat / 16)] ++ [hx ((rd r i).toNat % 16)] = _
        rw [hy, show y.toNat / 16 = p from by omega, show y.toNat % 16 = q from by omega]
      have f0 : (0 : Int) ≤ (p : Int) := by omega
      have f1 : (p : Int) ≤ (p : Int) + 1 := by omega
      have f2 : (p : Int) + 1 ≤ 16 := by omega
      have f3 : IntKind.i64.wrap ((p : Int) + 1) = (p : Int) + 1 := IntWalk.i64_in _ (by omega)
      have f4 : (0 : Int) ≤ (q : Int) := by omega
      have f5 : (q : Int) ≤ (q : Int) + 1 := by omega
      have f6 : (q : Int) + 1 ≤ 16 := by omega
      have f7 : IntKind.i64.wrap ((q : Int) + 1) = (q : Int) + 1 := IntWalk.i64_in _ (by omega)
      by_cases h0 : 0 < i
      · go_wp2
        go_region
        all_goals go_wp2
        go_region
        all_goals go_wp2
        go_roundg (6 - (i + 1))
        case measure => have := HKQ.out; omega
        case rel => exact ⟨i + 1, ⟨rfl⟩, by omega, by rw [HT, if_pos h0, ext1 p p1, ext1 q q1, cat1, cat1, cat1], by simp, ⟨by repeat (first | exact HD.out | apply Drawn0.step)⟩⟩
      · have h0' : i = 0 := by omega
        have g0 : ¬ 9223372036854775807 < (txt r 0).length + (min (p + 1) 16 - p) := by show ¬ 9223372036854775807 < 0 + _; omega
        have g1 : ¬ 9223372036854775807 < (txt r 0).length + (min (p + 1) 16 - p) + (min (q + 1) 16 - q) := by show ¬ 9223372036854775807 < 0 + _ + _; omega
        have xa0 : wr.cell? ⟨g, 0, none⟩ = some (.int .u8 y) := by rw [h0'] at xa; exact xa
        go_wp2
        go_region
        all_goals go_wp2
        go_region
        all_goals go_wp2
        go_roundg (6 - (i + 1))
        case measure => have := HKQ.out; omega
        case rel => exact ⟨i + 1, ⟨rfl⟩, by omega, by rw [HT, if_neg h0, ext1 p p1, ext1 q q1, cat1, cat1, h0'], by simp [h0'], ⟨by repeat (first | exact HD.out | apply Drawn0.step)⟩⟩
    · obtain rfl : i = 6 := by omega
      go_wp2
      go_ret
      refine ⟨rfl, ?_⟩
      obtain ⟨n, hn⟩ := HD.out.out
      rw [hn]
      exact pw_below_drewN HB1.out n
end Go.Proofs.Ytdohdjfclnlpmaa.MacW
