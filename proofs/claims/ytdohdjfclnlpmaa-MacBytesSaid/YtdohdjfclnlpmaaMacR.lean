/- mac.Parse's walk; no condition. -/
import Derived.Test.YtdohdjfclnlpmaaMacT
import Derived.Lib.ConvBytes
namespace Go.Proofs.Ytdohdjfclnlpmaa.MacW
open Go.RowKit Go.Proofs.YtdohdjfclnlpmaaW.PrintWords Go.Proofs.YtdohdjfclnlpmaaW.PrintLast
set_option linter.unusedVariables false
set_option linter.unusedSimpArgs false

def pr : List UInt8 → Nat → Int → Option Int
  | [], _, n => some n
  | c :: l, i, n =>
    if i % 3 = 2 then (if c = 45 then pr l (i + 1) n else none)
    else if Lib.indexByte hexL c < 0 then none else pr l (i + 1) (Go.bits .or .u64 (IntKind.u64.wrap (n * 16)) (IntKind.u64.wrap (Lib.indexByte hexL c)))

def prs (s : ByteArray) : Int × Int := if s.size = 17 then (match pr s.data.toList 0 0 with | some n => (n, 0) | none => (0, 4)) else (0, 4)

theorem idx_range (c : UInt8) : ∀ l : List UInt8, -1 ≤ Lib.indexByte l c ∧ Lib.indexByte l c < l.length
  | [] => by simp [Lib.indexByte]
  | b :: l => by
    have h := idx_range c l
    unfold Lib.indexByte
    split
    · simp
      try omega
    · split <;> simp <;> omega

theorem u9 : Try.prog.underlying 9 = some .string := by kernel_rfl
theorem u5 : Try.prog.underlying 5 = some (.int .u8) := by kernel_rfl

set_option maxHeartbeats 2000000 in
set_option maxRecDepth 100000 in
theorem parse_walk (s : ByteArray) (w : World) :
    Calls Try.prog 26 #[.string s] w fun e w' => e = .returned (.tuple #[.int .u64 (prs s).1, .int .i64 (prs s).2]) ∧ Below w.heap.size w w' := by
  obtain ⟨R, hR⟩ : ∃ R, prs s = R := ⟨_, rfl⟩
  rw [hR]
  have HR := Aside0.mk hR
  clear hR
  by_cases h17 : s.size = 17
  · have hcv := Lib.run_convert_string_bytes (P := Try.prog) w 9 22 5 s (u := .string) u9 u22 u5
    have HC := Aside0.mk (fun j (hj : j < 17) => Lib.bytesWorld_cell w 5 s j (by omega))
    have HB := Aside0.mk (show Below w.heap.size w (Lib.bytesWorld w 5 s) from bytes_below (Below.refl _ _) (Nat.le_refl _) 5 s)
    rw [h17] at hcv
    generalize Lib.bytesWorld w 5 s = W at *
    generalize grownCap w 17 0 5 = cp at *
    obtain ⟨L, hL⟩ : ∃ L, s.data.toList = L := ⟨_, rfl⟩
    rw [hL] at HC
    have HP := Aside0.mk (show (match pr L 0 0 with | some n => ((n, 0) : Int × Int) | none => (0, 4)) = R from by have := HR.out; unfold prs at this; rw [if_pos h17, hL] at this; exact this)
    have HL := Aside0.mk (show L.length = 17 from by rw [← hL, Array.length_toList]; exact h17)
    clear HR hL
    go_enter Try.func26, Try.ntmps26
    go_wp2
    go_loopg [4, 14] 17 (fun kq v4 v14 w' => ∃ (i : Nat) (n : Int), Aside0 (kq = 17 - i) ∧ i ≤ 17 ∧ v4 = .int .u64 n ∧ v14 = .int .i64 (i : Int) ∧ Aside0 ((match pr (L.drop i) i n with | some n => ((n, 0) : Int × Int) | none => (0, 4)) = R) ∧ w' = W)
    case atStart => exact ⟨0, 0, ⟨by omega⟩, by omega, rfl, rfl, HP, rfl⟩
    case round =>
      obtain ⟨i, n, HKQ, hi, rfl, rfl, HPr, rfl⟩ := hrel
      by_cases hlt : i < 17
      · have xa := HC.out i hlt
        have hd := List.drop_eq_getElem_cons (show i < L.length from by rw [HL.out]; exact hlt)
        have HD := Aside0.mk (show L.drop i = L.getD i 0 :: L.drop (i + 1) from by rw [hd, List.getD_eq_getElem?_getD, List.getElem?_eq_getElem (by rw [HL.out]; exact hlt)]; rfl)
        clear hd
        rw [HD.out] at HPr
        generalize L.getD i 0 = c at *
        have hr := idx_range c hexL
        obtain ⟨d, hd⟩ : ∃ d, Lib.indexByte hexL c = d := ⟨_, rfl⟩
        rw [hd] at hr
        have hd0 : Lib.indexByte [48, 49, 50, 51, 52, 53, 54, 55, 56, 57, 97, 98, 99, 100, 101, 102] c = d := hd
        by_cases hm : i % 3 = 2
        · have hm' : ((i : Int) % 3 == 2) = true := beq_iff_eq.mpr (by omega)
          by_cases hc : c = 45
          · have hc' : ((c.toNat : Int) == 45) = true := by rw [hc]; rfl
            have HN := Aside0.mk (show (match pr (L.drop (i + 1)) (i + 1) n with | some n => ((n, 0) : Int × Int) | none => (0, 4)) = R from by have := HPr.out; unfold pr at this; rw [if_pos hm, if_pos hc] at this; exact this)
            clear hc hm hd HPr
            go_wp2_with (go_at_call 57; refine (strings_IndexByte _ _ _).mono ?_; rintro e w' ⟨rfl, rfl⟩)
            go_roundg (17 - (i + 1))
            case measure => have := HKQ.out; omega
            case rel => exact ⟨i + 1, _, ⟨rfl⟩, by omega, rfl, by simp, HN, rfl⟩
          · have hc' : ((c.toNat : Int) == 45) = false := beq_eq_false_iff_ne.mpr (fun h => hc (UInt8.toNat_inj.mp (by show c.toNat = 45; omega)))
            have HN : R = (0, 4) := by have := HPr.out; unfold pr at this; rw [if_pos hm, if_neg hc] at this; exact this.symm
            clear hc hm hd HPr HP
            subst HN
            go_wp2_with (go_at_call 57; refine (strings_IndexByte _ _ _).mono ?_; rintro e w' ⟨rfl, rfl⟩)
            all_goals (go_ret2; exact ⟨rfl, HB.out⟩)
        · have hm' : ((i : Int) % 3 == 2) = false := beq_eq_false_iff_ne.mpr (by omega)
          by_cases hc : d < 0
          · have HN : R = (0, 4) := by have := HPr.out; unfold pr at this; rw [if_neg hm, hd, if_pos hc] at this; exact this.symm
            clear hm hd HPr HP
            subst HN
            go_wp2_with (go_at_call 57; refine (strings_IndexByte _ _ _).mono ?_; rintro e w' ⟨rfl, rfl⟩)
            all_goals (go_ret2; exact ⟨rfl, HB.out⟩)
          · have HN := Aside0.mk (show (match pr (L.drop (i + 1)) (i + 1) (Go.bits .or .u64 (IntKind.u64.wrap (n * 16)) (IntKind.u64.wrap d)) with | some n => ((n, 0) : Int × Int) | none => (0, 4)) = R from by have := HPr.out; unfold pr at this; rw [if_neg hm, hd, if_neg hc] at this; exact this)
            clear hm hd HPr
            go_wp2_with (go_at_call 57; refine (strings_IndexByte _ _ _).mono ?_; rintro e w' ⟨rfl, rfl⟩)
            go_roundg (17 - (i + 1))
            case measure => have := HKQ.out; omega
            case rel => exact ⟨i + 1, _, ⟨rfl⟩, by omega, rfl, by simp, HN, rfl⟩
      · obtain rfl : i = 17 := by omega
        have HN : R = (n, 0) := by have := HPr.out; rw [List.drop_of_length_le (by rw [HL.out]; omega)] at this; exact this.symm
        clear HPr HP
        subst HN
        go_wp2
        go_ret2
        exact ⟨rfl, HB.out⟩
  · have HR2 : R = (0, 4) := by have := HR.out; unfold prs at this; rw [if_neg h17] at this; exact this.symm
    subst HR2
    clear HR
    have h17' : ¬ (s.size : Int) = 17 := by omega
    go_enter Try.func26, Try.ntmps26
    go_wp2
    go_ret2
    exact ⟨rfl, Below.refl _ _⟩
end Go.Proofs.Ytdohdjfclnlpmaa.MacW
