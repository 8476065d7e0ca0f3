/- Addresses' texts: plain laws. -/
import Derived.OpenShut
import Derived.IntWalk
import Derived.Test.YtdohdjfclnlpmaaBits
import Derived.Test.YtdohdjfclnlpmaaPMacx5
import Derived.Test.YtdohdjfclnlpmaaPMacx3
import Derived.Test.YtdohdjfclnlpmaaPMacx2
namespace Go.Proofs.Ytdohdjfclnlpmaa.Pure
open Go.RowKit Go.Proofs.Ytdohdjfclnlpmaa.PMac Go.Proofs.YtdohdjfclnlpmaaW.PrintWords Go.Proofs.YtdohdjfclnlpmaaW.PrintLast Go.Proofs.Ytdohdjfclnlpmaa.MacW Go.Proofs.Ytdohdjfclnlpmaa
set_option linter.unusedVariables false
set_option linter.unusedSimpArgs false

theorem st_or {n d : Int} (h0 : 0 ≤ n) (h1 : n < 17592186044416) (d0 : 0 ≤ d) (d1 : d < 16) : Go.bits .or .u64 (IntKind.u64.wrap (n * 16)) (IntKind.u64.wrap d) = n * 16 + d := by
  rw [IntWalk.u64_in _ (by omega), IntWalk.u64_in _ (by omega), Bits.or64 4 _ d (by omega) (by omega) (by omega) (by omega) (by omega) (by omega)]

theorem idx_hx (d : Nat) (h : d < 16) : Lib.indexByte hexL (hx d) = (d : Int) := by
  have : ∀ d : Fin 16, Lib.indexByte hexL (hx d.val) = (d.val : Int) := by decide
  exact this ⟨d, h⟩

theorem getD_idx (c : UInt8) : ∀ l : List UInt8, 0 ≤ Lib.indexByte l c → l.getD (Lib.indexByte l c).toNat 0 = c
  | [], h => by simp [Lib.indexByte] at h
  | b :: l, h => by
    have ih := getD_idx c l
    have hr := idx_range c l
    unfold Lib.indexByte at h ⊢
    split
    · rename_i hb
      simpa using (beq_iff_eq.mp hb)
    · rename_i hb
      rw [if_neg hb] at h
      split
      · rename_i h1
        rw [if_pos h1] at h
        omega
      · rename_i h1
        have h2 : Lib.indexByte l c ≠ -1 := fun e => h1 (by rw [e]; rfl)
        have h3 : 0 ≤ Lib.indexByte l c := by omega
        rw [show (Lib.indexByte l c + 1).toNat = (Lib.indexByte l c).toNat + 1 from by omega, List.getD_cons_succ]
        exact ih h3

theorem hx_idx {c : UInt8} (h : 0 ≤ Lib.indexByte hexL c) : hx (Lib.indexByte hexL c).toNat = c := getD_idx c hexL h

theorem pr_hex {c : UInt8} {l : List UInt8} {i : Nat} {n d : Int} (hi : i % 3 ≠ 2) (hd : Lib.indexByte hexL c = d) (d0 : 0 ≤ d) (d1 : d < 16) (n0 : 0 ≤ n) (n1 : n < 17592186044416) : pr (c :: l) i n = pr l (i + 1) (n * 16 + d) := by
  rw [pr, if_neg hi, hd, if_neg (by omega), st_or n0 n1 d0 d1]

theorem pr_dash {l : List UInt8} {i : Nat} {n : Int} (hi : i % 3 = 2) : pr (45 :: l) i n = pr l (i + 1) n := by
  rw [pr, if_pos hi, if_pos rfl]

theorem inv_hex {c : UInt8} {l : List UInt8} {i : Nat} {n v : Int} (h : pr (c :: l) i n = some v) (hi : i % 3 ≠ 2) (n0 : 0 ≤ n) (n1 : n < 17592186044416) : ∃ d : Nat, d < 16 ∧ c = hx d ∧ pr l (i + 1) (n * 16 + (d : Int)) = some v := by
  have hr := idx_range c hexL
  rw [pr, if_neg hi] at h
  split at h
  · cases h
  · rename_i h0
    refine ⟨(Lib.indexByte hexL c).toNat, ?_, (hx_idx (by omega)).symm, ?_⟩
    · have : (hexL.length : Int) = 16 := rfl
      omega
    · rw [show (((Lib.indexByte hexL c).toNat : Nat) : Int) = Lib.indexByte hexL c from by omega, ← h, st_or n0 n1 (by omega) (by have : (hexL.length : Int) = 16 := rfl; omega)]

theorem inv_dash {c : UInt8} {l : List UInt8} {i : Nat} {n v : Int} (h : pr (c :: l) i n = some v) (hi : i % 3 = 2) : c = 45 ∧ pr l (i + 1) n = some v := by
  rw [pr, if_pos hi] at h
  split at h
  · rename_i hc; exact ⟨hc, h⟩
  · cases h

/-- The text of twelve digits. -/
def T12 (a b c d e f g h i j k l : Nat) : List UInt8 := [hx a, hx b, 45, hx c, hx d, 45, hx e, hx f, 45, hx g, hx h, 45, hx i, hx j, 45, hx k, hx l]

theorem txt_T12 (m : Int) : txt (mac_Text.b6 m) 6 = T12 ((m / 1099511627776 % 256).toNat / 16) ((m / 1099511627776 % 256).toNat % 16) ((m / 4294967296 % 256).toNat / 16) ((m / 4294967296 % 256).toNat % 16) ((m / 16777216 % 256).toNat / 16) ((m / 16777216 % 256).toNat % 16) ((m / 65536 % 256).toNat / 16) ((m / 65536 % 256).toNat % 16) ((m / 256 % 256).toNat / 16) ((m / 256 % 256).toNat % 16) ((m % 256).toNat / 16) ((m % 256).toNat % 16) := by
  have g : rd (mac_Text.b6 m) ((0 : Nat) : Int) = m / 1099511627776 % 256 ∧ rd (mac_Text.b6 m) ((1 : Nat) : Int) = m / 4294967296 % 256 ∧ rd (mac_Text.b6 m) ((2 : Nat) : Int) = m / 16777216 % 256 ∧ rd (mac_Text.b6 m) ((3 : Nat) : Int) = m / 65536 % 256 ∧ rd (mac_Text.b6 m) ((4 : Nat) : Int) = m / 256 % 256 ∧ rd (mac_Text.b6 m) ((5 : Nat) : Int) = m % 256 := ⟨rfl, rfl, rfl, rfl, rfl, rfl⟩
  obtain ⟨g0, g1, g2, g3, g4, g5⟩ := g
  simp only [txt, g0, g1, g2, g3, g4, g5]
  simp [T12]

theorem pr_T12 (a b c d e f g h i j k l : Nat) (ha : a < 16) (hb : b < 16) (hc : c < 16) (hd : d < 16) (he : e < 16) (hf : f < 16) (hg : g < 16) (hh : h < 16) (hi : i < 16) (hj : j < 16) (hk : k < 16) (hl : l < 16) :
    pr (T12 a b c d e f g h i j k l) 0 0 = some ((((((((((((0 * 16 + (a : Int)) * 16 + b) * 16 + c) * 16 + d) * 16 + e) * 16 + f) * 16 + g) * 16 + h) * 16 + i) * 16 + j) * 16 + k) * 16 + l) := by
  unfold T12
  rw [pr_hex (by decide) (idx_hx a ha) (by omega) (by omega) (by omega) (by omega), pr_hex (by decide) (idx_hx b hb) (by omega) (by omega) (by omega) (by omega), pr_dash (by decide)]
  rw [pr_hex (by decide) (idx_hx c hc) (by omega) (by omega) (by omega) (by omega), pr_hex (by decide) (idx_hx d hd) (by omega) (by omega) (by omega) (by omega), pr_dash (by decide)]
  rw [pr_hex (by decide) (idx_hx e he) (by omega) (by omega) (by omega) (by omega), pr_hex (by decide) (idx_hx f hf) (by omega) (by omega) (by omega) (by omega), pr_dash (by decide)]
  rw [pr_hex (by decide) (idx_hx g hg) (by omega) (by omega) (by omega) (by omega), pr_hex (by decide) (idx_hx h hh) (by omega) (by omega) (by omega) (by omega), pr_dash (by decide)]
  rw [pr_hex (by decide) (idx_hx i hi) (by omega) (by omega) (by omega) (by omega), pr_hex (by decide) (idx_hx j hj) (by omega) (by omega) (by omega) (by omega), pr_dash (by decide)]
  rw [pr_hex (by decide) (idx_hx k hk) (by omega) (by omega) (by omega) (by omega), pr_hex (by decide) (idx_hx l hl) (by omega) (by omega) (by omega) (by omega)]
  rfl

theorem pr_txt {m : Int} (h0 : 0 ≤ m) : pr (txt (mac_Text.b6 m) 6) 0 0 = some (m % 281474976710656) := by
  rw [txt_T12, pr_T12 _ _ _ _ _ _ _ _ _ _ _ _ (by omega) (by omega) (by omega) (by omega) (by omega) (by omega) (by omega) (by omega) (by omega) (by omega) (by omega) (by omega)]
  congr 1
  obtain ⟨a, ha⟩ : ∃ a, m / 1099511627776 % 256 = a := ⟨_, rfl⟩
  obtain ⟨b, hb⟩ : ∃ a, m / 4294967296 % 256 = a := ⟨_, rfl⟩
  obtain ⟨c, hc⟩ : ∃ a, m / 16777216 % 256 = a := ⟨_, rfl⟩
  obtain ⟨d, hd⟩ : ∃ a, m / 65536 % 256 = a := ⟨_, rfl⟩
  obtain ⟨e, he⟩ : ∃ a, m / 256 % 256 = a := ⟨_, rfl⟩
  obtain ⟨f, hf⟩ : ∃ a, m % 256 = a := ⟨_, rfl⟩
  rw [ha, hb, hc, hd, he, hf]
  have X : ∀ x : Int, 0 ≤ x → x < 256 → ∀ n : Int, (n * 16 + ((x.toNat / 16 : Nat) : Int)) * 16 + ((x.toNat % 16 : Nat) : Int) = n * 256 + x := by
    intro x a b n; omega
  rw [X a (by omega) (by omega), X b (by omega) (by omega), X c (by omega) (by omega), X d (by omega) (by omega), X e (by omega) (by omega), X f (by omega) (by omega)]
  omega

theorem prs_txt {m : Int} (h0 : 0 ≤ m) : prs ⟨(txt (mac_Text.b6 m) 6).toArray⟩ = (m % 281474976710656, 0) := by
  unfold prs
  rw [if_pos (by rw [txt_T12]; rfl), show (⟨(txt (mac_Text.b6 m) 6).toArray⟩ : ByteArray).data.toList = txt (mac_Text.b6 m) 6 from by simp, pr_txt h0]

theorem pr_inv {l : List UInt8} (hl : l.length = 17) {v : Int} (h : pr l 0 0 = some v) : 0 ≤ v ∧ v < 281474976710656 ∧ l = txt (mac_Text.b6 v) 6 := by
  match l, hl with
  | [c0, c1, c2, c3, c4, c5, c6, c7, c8, c9, c10, c11, c12, c13, c14, c15, c16], _ =>
    obtain ⟨a, ha, E0, h⟩ := inv_hex h (by decide) (by omega) (by omega)
    obtain ⟨b, hb, E1, h⟩ := inv_hex h (by decide) (by omega) (by omega)
    obtain ⟨E2, h⟩ := inv_dash h (by decide)
    obtain ⟨c, hc, E3, h⟩ := inv_hex h (by decide) (by omega) (by omega)
    obtain ⟨d, hd, E4, h⟩ := inv_hex h (by decide) (by omega) (by omega)
    obtain ⟨E5, h⟩ := inv_dash h (by decide)
    obtain ⟨e, he, E6, h⟩ := inv_hex h (by decide) (by omega) (by omega)
    obtain ⟨f, hf, E7, h⟩ := inv_hex h (by decide) (by omega) (by omega)
    obtain ⟨E8, h⟩ := inv_dash h (by decide)
    obtain ⟨g, hg, E9, h⟩ := inv_hex h (by decide) (by omega) (by omega)
    obtain ⟨k, hk, E10, h⟩ := inv_hex h (by decide) (by omega) (by omega)
    obtain ⟨E11, h⟩ := inv_dash h (by decide)
    obtain ⟨i, hi, E12, h⟩ := inv_hex h (by decide) (by omega) (by omega)
    obtain ⟨j, hj, E13, h⟩ := inv_hex h (by decide) (by omega) (by omega)
    obtain ⟨E14, h⟩ := inv_dash h (by decide)
    obtain ⟨p, hp, E15, h⟩ := inv_hex h (by decide) (by omega) (by omega)
    obtain ⟨q, hq, E16, h⟩ := inv_hex h (by decide) (by omega) (by omega)
    have hv := Option.some.inj h
    have e1 : v / 1099511627776 % 256 = (a : Int) * 16 + b := by omega
    have e2 : v / 4294967296 % 256 = (c : Int) * 16 + d := by omega
    have e3 : v / 16777216 % 256 = (e : Int) * 16 + f := by omega
    have e4 : v / 65536 % 256 = (g : Int) * 16 + k := by omega
    have e5 : v / 256 % 256 = (i : Int) * 16 + j := by omega
    have e6 : v % 256 = (p : Int) * 16 + q := by omega
    refine ⟨by omega, by omega, ?_⟩
    rw [txt_T12, e1, e2, e3, e4, e5, e6]
    have X : ∀ x y : Nat, y < 16 → ((x : Int) * 16 + y).toNat / 16 = x ∧ ((x : Int) * 16 + y).toNat % 16 = y := by
      intro x y hy; omega
    rw [(X a b hb).1, (X a b hb).2, (X c d hd).1, (X c d hd).2, (X e f hf).1, (X e f hf).2, (X g k hk).1, (X g k hk).2, (X i j hj).1, (X i j hj).2, (X p q hq).1, (X p q hq).2, E0, E1, E2, E3, E4, E5, E6, E7, E8, E9, E10, E11, E12, E13, E14, E15, E16]
    rfl

theorem text_of_parse {s : ByteArray} {v : Int} (h : prs s = (v, 0)) : s.size = 17 ∧ pr s.data.toList 0 0 = some v ∧ 0 ≤ v ∧ v < 281474976710656 ∧ s = ⟨(txt (mac_Text.b6 v) 6).toArray⟩ := by
  unfold prs at h
  split at h
  · rename_i hs
    split at h
    · rename_i n hn
      simp only [Prod.mk.injEq] at h
      obtain ⟨rfl, _⟩ := h
      obtain ⟨h1, h2, h3⟩ := pr_inv (by rw [Array.length_toList]; exact hs) hn
      refine ⟨hs, hn, h1, h2, ?_⟩
      rw [← h3]
    · simp at h
  · simp at h
end Go.Proofs.Ytdohdjfclnlpmaa.Pure
