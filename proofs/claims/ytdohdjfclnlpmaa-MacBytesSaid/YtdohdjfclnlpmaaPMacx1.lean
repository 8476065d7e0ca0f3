/- Plain Lean functions of what a law comes to, and their contracts: the machine's call does what they say; no condition. Written by wip/myprint.sh over the kit's print.py. -/
import Derived.Test.YtdohdjfclnlpmaaPMacx0
import Derived.Test.YtdohdjfclnlpmaaMacR
import Derived.Test.YtdohdjfclnlpmaaMacF
namespace Go.Proofs.Ytdohdjfclnlpmaa.PMac
open Go.RowKit Go.Proofs.YtdohdjfclnlpmaaW.PrintWords Go.Proofs.YtdohdjfclnlpmaaW.PrintLast Go.Proofs.YtdohdjfclnlpmaaW.PrintMore
attribute [local go_sem] max2_int min2_int max_two min_two max_three min_three max_four min_four   -- for this text's walks alone
set_option linter.unusedVariables false
set_option linter.unusedSimpArgs false

/-! ### mac_Bytes: function 37 -/
def mac_Bytes.l0 : Nat → Int → List Int → Int → Int → Option (List Int)
  | 0, _, _, _, _ => none
  | k + 1, x0, x3, x7, x8 => if x8 < x7 then (if 0 ≤ (wrap64 (8 * (wrap64 (5 - x8)))) then (if 0 ≤ x8 then (if x8 < (x3.length : Int) then (mac_Bytes.l0 k x0 (x3.set (x8 : Int).toNat ((shr .u64 x0 (wrap64 (8 * (wrap64 (5 - x8))))) % 256)) x7 (wrap64 (x8 + 1))) else (none)) else (none)) else (none)) else (some x3)
def mac_Bytes.f (k : Nat) (a0 : Int) : Option (List Int) := if 6 ≤ 281474976710656 then ((some (List.replicate 6 0 : List Int)).bind fun y101 => (mac_Bytes.l0 k a0 y101 (y101.length : Int) 0)) else (none)
theorem mac_Bytes.mono_l : ∀ k, (∀ y0 y1 y2 y3, LeO (mac_Bytes.l0 k y0 y1 y2 y3) (mac_Bytes.l0 (k + 1) y0 y1 y2 y3))
  | 0 => fun _ _ _ _ r h => by simp [mac_Bytes.l0] at h
  | k + 1 => by
    have ih0 := mac_Bytes.mono_l k
    · intro y0 y1 y2 y3
      unfold mac_Bytes.l0
      repeat' first
      | (with_reducible exact ih0 _ _ _ _)
      | (with_reducible exact LeO.refl _)
      | (with_reducible exact LeO.none _)
      | (with_reducible refine LeO.ite ?_ ?_)
      | (with_reducible refine LeO.bind ?_ (fun _ => ?_))
      | exact ih0 _ _ _ _
      | exact LeO.none _
      | refine LeO.ite ?_ ?_
      | refine LeO.bind ?_ (fun _ => ?_)
theorem mac_Bytes.mono : ∀ a0 k, LeO (mac_Bytes.f k a0) (mac_Bytes.f (k + 1) a0) := by
  intro a0 k
  have ih0 := mac_Bytes.mono_l k
  unfold mac_Bytes.f
  repeat' first
      | (with_reducible exact ih0 _ _ _ _)
      | (with_reducible exact LeO.refl _)
      | (with_reducible exact LeO.none _)
      | (with_reducible refine LeO.ite ?_ ?_)
      | (with_reducible refine LeO.bind ?_ (fun _ => ?_))
      | exact ih0 _ _ _ _
      | exact LeO.none _
      | refine LeO.ite ?_ ?_
      | refine LeO.bind ?_ (fun _ => ?_)
set_option maxHeartbeats 8000000 in
set_option maxRecDepth 100000 in
theorem mac_Bytes.calls (k : Nat) (a0 : Int) (r : List Int) (w : World) (h : mac_Bytes.f k a0 = some r) :
    Calls Try.prog 37 #[.int .u64 a0] w fun e w' => ∃ v0_ : Value, e = .returned (v0_) ∧ Kd.R (Kd.int .u8) 5 w' w.heap.size (fun _ => True) v0_ r ∧ Below w.heap.size w w' := by
  have HB := Aside0.mk (Below.refl w.heap.size w)
  have H : (if 6 ≤ 281474976710656 then ((some (List.replicate 6 0 : List Int)).bind fun y101 => (mac_Bytes.l0 k a0 y101 (y101.length : Int) 0)) else (none)) = some r := h
  clear h
  by_cases c2 : 6 ≤ 281474976710656
  · rw [if_pos c2] at H
    have c2b0 := eq_true c2
    have c2b1 : decide (6 ≤ 281474976710656) = true := decide_eq_true c2
    clear c2
    obtain ⟨y101, hy101⟩ : ∃ y_ : List Int, y_ = (List.replicate 6 0) := ⟨_, rfl⟩
    replace H : (mac_Bytes.l0 k a0 y101 (y101.length : Int) 0) = some r := by first | (rw [hy101]; with_reducible exact H) | (have H2_ := (Option.bind_some _ _).symm.trans H; rw [hy101]; with_reducible exact H2_) | (have H2_ := (Option.bind_some _ _).symm.trans H; with_reducible exact H2_) | with_reducible exact H | (rw [hy101]; exact H) | exact H
    have Ny101 := Aside0.mk hy101
    clear hy101
    have H' := Aside0.mk H
    clear H
    go_enter Try.func37, Try.ntmps37
    go_wp2_with (first | ((with_reducible refine gate_dst (N := 5) rfl ?_); refine Kd.R_make (Kd.int .u8) _ 5 rfl (N := 5) rfl 22 _ _ rfl 6 rfl rfl Try.underlying22 (.int .u8 0) 1 info5 rfl (by decide) (by omega) 0 (ok := fun _ => True) (okp := fun _ => True) rfl (fun _ hk => hk) trivial (by omega) (by omega) (Below.refl _ _) (Nat.le_refl _) ?_; intro v102 w3 ho4 hb hg_ hnew_; clear hg_ hnew_; (first | rw [← Ny101.out] at ho4 | (simp only [Int.reduceToNat] at ho4; rw [← Ny101.out] at ho4)); have n0_ := Aside0.mk (Kd.R_lower ho4 (below_size (by repeat (first | (with_reducible first | exact HB.out | apply below_alloc | apply pw_below_drewN | apply below_drew1) | exact HB.out)))); have n1_ := Aside0.mk (below_step (by repeat (first | (with_reducible first | exact HB.out | apply below_alloc | apply pw_below_drewN | apply below_drew1) | exact HB.out)) hb); clear HB; have HO103 := n0_; have HB := n1_; clear n0_ n1_; clear hb ho4; obtain ⟨Ao5, co5, eo5⟩ := Kd.R_slice HO103.out; subst eo5))
    go_loopg [8] k (fun kq v8 w' => ∃ (x3_1 : List Int) (x8_1 : Int), v8 = .int .i64 x8_1 ∧ Aside0 (mac_Bytes.l0 kq a0 x3_1 (y101.length : Int) x8_1 = some r) ∧ Aside0 (kq ≤ k) ∧ Aside0 (Kd.R (Kd.int .u8) 5 w' w.heap.size (fun _ => True) (.slice Ao5 y101.length co5) x3_1) ∧ Aside0 (Below w.heap.size w w'))
    case atStart => exact ⟨(y101), (0), (by first | rfl | (simp; done) | (simp [*]; done)), H', ⟨Nat.le_refl _⟩, ⟨by (with_reducible repeat (first | apply Kd.R_alloc | apply Kd.R_drewN | apply Kd.R_drew)); exact HO103.out⟩, ⟨by repeat (first | (with_reducible first | exact HB.out | apply below_alloc | apply pw_below_drewN | apply below_drew1) | exact HB.out)⟩⟩
    case round =>
      clear H'
      try clear c2
      try clear c2b0
      try clear c2b1
      try clear p2
      try clear c3
      obtain ⟨x3_1, x8_1, rfl, HA, HK1, HO_3, HB⟩ := hrel
      have hl3_1 := (Kd.R_reads' HO_3.out).1
      rw [hl3_1] at HO_3
      (try simp only [hl3_1])
      cases gk with
      | zero => exact absurd HA.out (by simp [mac_Bytes.l0])
      | succ k1 =>
        have H := HA.out
        clear HA
        simp only [mac_Bytes.l0] at H
        by_cases c6 : x8_1 < (y101.length : Int)
        · rw [if_pos c6] at H
          have c6b0 : decide (x8_1 < (y101.length : Int)) = true := decide_eq_true c6
          clear c6
          obtain ⟨ji7, hji7⟩ : ∃ j_ : Int, (wrap64 (8 * (wrap64 (5 - x8_1)))) = j_ := ⟨_, rfl⟩
          replace H : (if 0 ≤ (ji7) then (if 0 ≤ x8_1 then (if x8_1 < (x3_1.length : Int) then (mac_Bytes.l0 k1 a0 (x3_1.set (x8_1 : Int).toNat ((shr .u64 a0 (ji7)) % 256)) (y101.length : Int) (wrap64 (x8_1 + 1))) else (none)) else (none)) else (none)) = some r := by first | (rw [hji7] at H; exact H) | (simp only [hji7] at H ⊢; exact H)
          have hji7w : (IntKind.i64.wrap (8 * (wrap64 (5 - x8_1)))) = ji7 := (i64_w _).trans hji7
          by_cases c8 : 0 ≤ (ji7)
          · rw [if_pos c8] at H
            have c8b0 := eq_true c8
            have c8b1 : decide (0 ≤ (ji7)) = true := decide_eq_true c8
            clear c8
            obtain ⟨ji9, hji9⟩ : ∃ j_ : Int, (shr .u64 a0 (ji7)) = j_ := ⟨_, rfl⟩
            replace H : (if 0 ≤ x8_1 then (if x8_1 < (x3_1.length : Int) then (mac_Bytes.l0 k1 a0 (x3_1.set (x8_1 : Int).toNat ((ji9) % 256)) (y101.length : Int) (wrap64 (x8_1 + 1))) else (none)) else (none)) = some r := by first | (rw [hji9] at H; exact H) | (simp only [hji9] at H ⊢; exact H)
            have hji9_ : (a0 / 2 ^ min (ji7).toNat 64) = ji9 := hji9
            have hji9z : (ji7) ≤ 64 → (a0 / 2 ^ (ji7).toNat) = ji9 := shr_small hji9
            by_cases c10 : 0 ≤ x8_1
            · rw [if_pos c10] at H
              have c10b0 : decide (0 ≤ x8_1) = true := decide_eq_true c10
              clear c10
              by_cases c11 : x8_1 < (x3_1.length : Int)
              · rw [if_pos c11] at H
                have c11b0 : decide (x8_1 < (x3_1.length : Int)) = true := decide_eq_true c11
                clear c11
                obtain ⟨y104, hy104⟩ : ∃ y_ : List Int, y_ = (x3_1.set (x8_1 : Int).toNat ((ji9) % 256)) := ⟨_, rfl⟩
                replace H : (mac_Bytes.l0 k1 a0 y104 (y101.length : Int) (wrap64 (x8_1 + 1))) = some r := by first | (rw [hy104]; with_reducible exact H) | (have H2_ := (Option.bind_some _ _).symm.trans H; rw [hy104]; with_reducible exact H2_) | (have H2_ := (Option.bind_some _ _).symm.trans H; with_reducible exact H2_) | with_reducible exact H | (rw [hy104]; exact H) | exact H
                have Ny104 := Aside0.mk hy104
                clear hy104
                have H' := Aside0.mk H
                clear H
                have p12 : 0 ≤ (x8_1 : Int) := of_decide_eq_true (by first | (with_reducible assumption) | assumption)
                have q12 : (x8_1 : Int) < ((x3_1.length : Int) : Int) := of_decide_eq_true (by first | (with_reducible assumption) | assumption)
                obtain ⟨go12, co12, eo12, gb12, gl12, cl12, HG12⟩ := Kd.R_form HO_3.out (by omega)
                (first | cases eo12 | (injection eo12 with ea_ en_ ec_; (first | subst ea_ | (injection ea_ with ea_; subst ea_)); subst ec_; clear en_))
                have GB12 := Aside0.mk gb12
                have GG12 := Aside0.mk HG12
                clear gb12 gl12 HG12
                obtain ⟨hx12_0, hf12_0⟩ := Kd.R_celln 0 HO_3.out (x8_1 : Int) p12 q12
                replace p12 := eq_true p12
                replace q12 := eq_true q12
                have HP13 := Kd.R_putg HO_3.out (x8_1 : Int) ((ji9) % 256)
                go_wp2_with (first | ((with_reducible refine gate_store (t := 5) (p := 19) rfl ?_); refine store_event (t := 5) (p := 19) (v := ?vo_w14) (w1 := (wr.setCell ⟨go12, (x8_1 : Int).toNat, none⟩ (.int .u8 ((ji9) % 256)))) ?hg ?ho ?hn ?hr ?_; (case ho => rfl); (case hg => rfl); (case hn => rfl); (case hr => first | (go_simp; done) | (go_simp; rfl)); intro w14 hw; have hg : wr.grownBy w14 (some go12) := (by rw [hw]; exact HP13.2); have hp_ : Kd.R (Kd.int .u8) 5 w14 w.heap.size (fun _ => True) (.slice (some ⟨go12, 0, none⟩) x3_1.length co5) y104 := (by rw [hw, Ny104.out]; exact HP13.1); clear HP13; have n0_ := Aside0.mk (hp_); have n1_ := Aside0.mk ((by rw [hw]; exact below_set (HB.out) GB12.out : Below w.heap.size w w14)); clear HO_3; clear HB; have HO_3 := n0_; have HB := n1_; clear n0_ n1_; clear hg hw hp_))
                (try simp only [← hl3_1])
                go_roundg k1
                case measure => have := HK1.out; omega
                case rel => exact ⟨(y104), (wrap64 (x8_1 + 1)), (by first | rfl | (simp; done) | (simp [*]; done)), H', ⟨by have := HK1.out; omega⟩, ⟨by (try simp only [hl3_1]); (with_reducible repeat (first | apply Kd.R_alloc | apply Kd.R_drewN | apply Kd.R_drew)); exact HO_3.out⟩, ⟨by repeat (first | (with_reducible first | exact HB.out | apply below_alloc | apply pw_below_drewN | apply below_drew1) | exact HB.out)⟩⟩
              · rw [if_neg c11] at H
                exact absurd H (by simp)
            · rw [if_neg c10] at H
              exact absurd H (by simp)
          · rw [if_neg c8] at H
            exact absurd H (by simp)
        · rw [if_neg c6] at H
          have c6b0 : decide (x8_1 < (y101.length : Int)) = false := decide_eq_false c6
          (try rw [hl3_1] at c6b0)
          clear c6
          obtain rfl := Option.some.inj H
          go_wp2
          go_ret
          exact ⟨_, by first | rfl | (simp [errW_none, errW_some] <;> rfl) | (simp [*, errW_none, errW_some] <;> rfl), by (with_reducible repeat (first | apply Kd.R_alloc | apply Kd.R_drewN | apply Kd.R_drew)); exact HO_3.out, by repeat (first | (with_reducible first | exact HB.out | apply below_alloc | apply pw_below_drewN | apply below_drew1) | exact HB.out)⟩
  · rw [if_neg c2] at H
    exact absurd H (by simp)

-- NOT PRINTED: function 63 (abi_NoEscape)

-- NOT PRINTED: function 60 (strings_Builder_copyCheck)

-- NOT PRINTED: function 55 (strings_Builder_WriteByte)

-- NOT PRINTED: function 56 (strings_Builder_String)

/-! ### mac_Text: function 25 -/
def mac_Text.b6 (m : Int) : List Int := [m / 1099511627776 % 256, m / 4294967296 % 256, m / 16777216 % 256, m / 65536 % 256, m / 256 % 256, m % 256]
theorem mac_Text.bytes {m : Int} (h0 : 0 ≤ m) (h1 : m ≤ 18446744073709551615) : mac_Bytes.f 7 m = some (mac_Text.b6 m) := by
  unfold mac_Bytes.f
  simp [mac_Bytes.l0, wrap64, shr, mac_Text.b6, List.replicate]
  exact ⟨rfl, rfl, rfl, rfl, rfl⟩
theorem mac_Text.range (m : Int) (i : Int) : 0 ≤ rd (mac_Text.b6 m) i ∧ rd (mac_Text.b6 m) i ≤ 255 := by
  unfold rd
  have hx : ∀ x ∈ mac_Text.b6 m, 0 ≤ x ∧ x ≤ 255 := by
    intro x hx
    simp only [mac_Text.b6, List.mem_cons, List.not_mem_nil, or_false] at hx
    omega
  rw [List.getD_eq_getElem?_getD]
  by_cases c : i.toNat < (mac_Text.b6 m).length
  · rw [List.getElem?_eq_getElem c, Option.getD_some]; exact hx _ (List.getElem_mem c)
  · rw [List.getElem?_eq_none (by omega)]; decide
def mac_Text.f (a0 : Int) : Option (ByteArray) := if 0 ≤ a0 ∧ a0 ≤ 18446744073709551615 then some ⟨(MacW.txt (mac_Text.b6 a0) 6).toArray⟩ else none
theorem mac_Text.calls (a0 : Int) (r : ByteArray) (w : World) (h : mac_Text.f a0 = some r) :
    Calls Try.prog 25 #[.int .u64 a0] w fun e w' => e = .returned (.string r) ∧ Below w.heap.size w w' := by
  unfold mac_Text.f at h
  split at h
  · rename_i hr
    obtain rfl := Option.some.inj h
    exact MacW.text_walk a0 (mac_Text.b6 a0) w rfl (mac_Text.range a0) (fun W => mac_Bytes.calls 7 a0 _ W (mac_Text.bytes hr.1 hr.2))
  · cases h

/-! ### mac_Parse: function 26 -/
def mac_Parse.f (a0 : ByteArray) : Option (Int × Int) := some (MacW.prs a0)
theorem mac_Parse.calls (a0 : ByteArray) (r1 : Int) (r2 : Int) (w : World) (h : mac_Parse.f a0 = some (r1, r2)) :
    Calls Try.prog 26 #[.string a0] w fun e w' => e = .returned (.tuple #[.int .u64 r1, .int .i64 r2]) ∧ Below w.heap.size w w' := by
  have h2 : MacW.prs a0 = (r1, r2) := Option.some.inj h
  have k := MacW.parse_walk a0 w
  rw [h2] at k
  exact k

/-! ### mac_Kind: function 31 -/
def mac_Kind.f (a0 : Int) : Option (Int) := if (Go.bits .and .u64 a0 281474976710655) = 281474976710655 then (some 2) else (if (Go.bits .andNot .u64 (Go.bits .and .u64 a0 281474976710655) 15) = 1652522221568 then (some 3) else (if (Go.bits .and .u64 (Go.bits .and .u64 a0 281474976710655) 1099511627776) = 0 then (some 0) else (some 1)))
set_option maxHeartbeats 8000000 in
set_option maxRecDepth 100000 in
theorem mac_Kind.calls (a0 : Int) (r : Int) (w : World) (h : mac_Kind.f a0 = some r) :
    Calls Try.prog 31 #[.int .u64 a0] w fun e w' => e = .returned (.int .i64 r) ∧ Drawn0 w w' := by
  have H : (if (Go.bits .and .u64 a0 281474976710655) = 281474976710655 then (some 2) else (if (Go.bits .andNot .u64 (Go.bits .and .u64 a0 281474976710655) 15) = 1652522221568 then (some 3) else (if (Go.bits .and .u64 (Go.bits .and .u64 a0 281474976710655) 1099511627776) = 0 then (some 0) else (some 1)))) = some r := h
  clear h
  by_cases c2 : (Go.bits .and .u64 a0 281474976710655) = 281474976710655
  · rw [if_pos c2] at H
    have c2b0 : ((Go.bits .and .u64 a0 281474976710655) == 281474976710655) = true := beq_iff_eq.mpr c2
    have c2b1 : ((Go.bits .and .u64 a0 281474976710655) != 281474976710655) = false := bne_eq_false_iff_eq.mpr c2
    clear c2
    obtain rfl := Option.some.inj H
    go_enter Try.func31, Try.ntmps31
    go_wp2
    go_ret
    exact ⟨by first | rfl | (simp; done) | (simp [*]; done), by repeat (first | exact Drawn0.refl _ | apply Drawn0.step)⟩
  · rw [if_neg c2] at H
    have c2b0 : ((Go.bits .and .u64 a0 281474976710655) == 281474976710655) = false := beq_eq_false_iff_ne.mpr c2
    have c2b1 : ((Go.bits .and .u64 a0 281474976710655) != 281474976710655) = true := bne_iff_ne.mpr c2
    by_cases c3 : (Go.bits .andNot .u64 (Go.bits .and .u64 a0 281474976710655) 15) = 1652522221568
    · rw [if_pos c3] at H
      have c3b0 : ((Go.bits .andNot .u64 (Go.bits .and .u64 a0 281474976710655) 15) == 1652522221568) = true := beq_iff_eq.mpr c3
      have c3b1 : ((Go.bits .andNot .u64 (Go.bits .and .u64 a0 281474976710655) 15) != 1652522221568) = false := bne_eq_false_iff_eq.mpr c3
      clear c3
      obtain rfl := Option.some.inj H
      go_enter Try.func31, Try.ntmps31
      go_wp2
      go_ret
      exact ⟨by first | rfl | (simp; done) | (simp [*]; done), by repeat (first | exact Drawn0.refl _ | apply Drawn0.step)⟩
    · rw [if_neg c3] at H
      have c3b0 : ((Go.bits .andNot .u64 (Go.bits .and .u64 a0 281474976710655) 15) == 1652522221568) = false := beq_eq_false_iff_ne.mpr c3
      have c3b1 : ((Go.bits .andNot .u64 (Go.bits .and .u64 a0 281474976710655) 15) != 1652522221568) = true := bne_iff_ne.mpr c3
      by_cases c4 : (Go.bits .and .u64 (Go.bits .and .u64 a0 281474976710655) 1099511627776) = 0
      · rw [if_pos c4] at H
        have c4b0 : ((Go.bits .and .u64 (Go.bits .and .u64 a0 281474976710655) 1099511627776) == 0) = true := beq_iff_eq.mpr c4
        have c4b1 : ((Go.bits .and .u64 (Go.bits .and .u64 a0 281474976710655) 1099511627776) != 0) = false := bne_eq_false_iff_eq.mpr c4
        clear c4
        obtain rfl := Option.some.inj H
        go_enter Try.func31, Try.ntmps31
        go_wp2
        go_ret
        exact ⟨by first | rfl | (simp; done) | (simp [*]; done), by repeat (first | exact Drawn0.refl _ | apply Drawn0.step)⟩
      · rw [if_neg c4] at H
        have c4b0 : ((Go.bits .and .u64 (Go.bits .and .u64 a0 281474976710655) 1099511627776) == 0) = false := beq_eq_false_iff_ne.mpr c4
        have c4b1 : ((Go.bits .and .u64 (Go.bits .and .u64 a0 281474976710655) 1099511627776) != 0) = true := bne_iff_ne.mpr c4
        obtain rfl := Option.some.inj H
        go_enter Try.func31, Try.ntmps31
        go_wp2
        go_ret
        exact ⟨by first | rfl | (simp; done) | (simp [*]; done), by repeat (first | exact Drawn0.refl _ | apply Drawn0.step)⟩

/-! ### patchbaylaw01_told: function 27 -/
def patchbaylaw01_told.f (k : Nat)  : Option (Bool) := (mac_Parse.f (⟨#[48, 49, 45, 56, 48, 45, 99, 50, 45, 48, 48, 45, 48, 48, 45, 48, 101]⟩ : ByteArray)).bind fun bt111 => (if bt111.2 = 0 then (if bt111.1 = 1652522221582 then ((mac_Kind.f bt111.1).bind fun t113 => (if t113 = 3 then ((mac_Text.f bt111.1).bind fun t114 => (if t114.toList = ([48, 49, 45, 56, 48, 45, 99, 50, 45, 48, 48, 45, 48, 48, 45, 48, 101] : List UInt8) then ((mac_Bytes.f k bt111.1).bind fun t115 => (some ((t115.length : Int) == 6))) else (some false))) else (some false))) else (some false)) else (some false))
theorem patchbaylaw01_told.mono : ∀ k, LeO (patchbaylaw01_told.f k ) (patchbaylaw01_told.f (k + 1) ) := by
  intro  k
  unfold patchbaylaw01_told.f
  repeat' first
      | (with_reducible exact mac_Bytes.mono _ _)
      | (with_reducible exact LeO.refl _)
      | (with_reducible exact LeO.none _)
      | (with_reducible refine LeO.ite ?_ ?_)
      | (with_reducible refine LeO.bind ?_ (fun _ => ?_))
      | exact mac_Bytes.mono _ _
      | exact LeO.none _
      | refine LeO.ite ?_ ?_
      | refine LeO.bind ?_ (fun _ => ?_)
set_option maxHeartbeats 8000000 in
set_option maxRecDepth 100000 in
theorem patchbaylaw01_told.calls (k : Nat)  (r : Bool) (w : World) (h : patchbaylaw01_told.f k  = some r) :
    Calls Try.prog 27 #[] w fun e w' => e = .returned (.bool r) ∧ Below w.heap.size w w' := by
  have HB := Aside0.mk (Below.refl w.heap.size w)
  have H : ((mac_Parse.f (⟨#[48, 49, 45, 56, 48, 45, 99, 50, 45, 48, 48, 45, 48, 48, 45, 48, 101]⟩ : ByteArray)).bind fun bt111 => (if bt111.2 = 0 then (if bt111.1 = 1652522221582 then ((mac_Kind.f bt111.1).bind fun t113 => (if t113 = 3 then ((mac_Text.f bt111.1).bind fun t114 => (if t114.toList = ([48, 49, 45, 56, 48, 45, 99, 50, 45, 48, 48, 45, 48, 48, 45, 48, 101] : List UInt8) then ((mac_Bytes.f k bt111.1).bind fun t115 => (some ((t115.length : Int) == 6))) else (some false))) else (some false))) else (some false)) else (some false))) = some r := h
  clear h
  replace H := Option.bind_eq_some_iff.mp H
  obtain ⟨⟨t111, t112⟩, A10, H⟩ := H
  replace H : (if t112 = 0 then (if t111 = 1652522221582 then ((mac_Kind.f t111).bind fun t113 => (if t113 = 3 then ((mac_Text.f t111).bind fun t114 => (if t114.toList = ([48, 49, 45, 56, 48, 45, 99, 50, 45, 48, 48, 45, 48, 48, 45, 48, 101] : List UInt8) then ((mac_Bytes.f k t111).bind fun t115 => (some ((t115.length : Int) == 6))) else (some false))) else (some false))) else (some false)) else (some false)) = some r := H
  have A1 := Aside0.mk A10
  clear A10
  by_cases c2 : t112 = 0
  · rw [if_pos c2] at H
    have c2b0 : (t112 == 0) = true := beq_iff_eq.mpr c2
    have c2b1 : (t112 != 0) = false := bne_eq_false_iff_eq.mpr c2
    clear c2
    by_cases c3 : t111 = 1652522221582
    · rw [if_pos c3] at H
      have c3b0 : (t111 == 1652522221582) = true := beq_iff_eq.mpr c3
      have c3b1 : (t111 != 1652522221582) = false := bne_eq_false_iff_eq.mpr c3
      clear c3
      replace H := Option.bind_eq_some_iff.mp H
      obtain ⟨t113, A40, H⟩ := H
      replace H : (if t113 = 3 then ((mac_Text.f t111).bind fun t114 => (if t114.toList = ([48, 49, 45, 56, 48, 45, 99, 50, 45, 48, 48, 45, 48, 48, 45, 48, 101] : List UInt8) then ((mac_Bytes.f k t111).bind fun t115 => (some ((t115.length : Int) == 6))) else (some false))) else (some false)) = some r := H
      have A4 := Aside0.mk A40
      clear A40
      by_cases c5 : t113 = 3
      · rw [if_pos c5] at H
        have c5b0 : (t113 == 3) = true := beq_iff_eq.mpr c5
        have c5b1 : (t113 != 3) = false := bne_eq_false_iff_eq.mpr c5
        clear c5
        replace H := Option.bind_eq_some_iff.mp H
        obtain ⟨t114, A60, H⟩ := H
        replace H : (if t114.toList = ([48, 49, 45, 56, 48, 45, 99, 50, 45, 48, 48, 45, 48, 48, 45, 48, 101] : List UInt8) then ((mac_Bytes.f k t111).bind fun t115 => (some ((t115.length : Int) == 6))) else (some false)) = some r := H
        have A6 := Aside0.mk A60
        clear A60
        by_cases c7 : t114.toList = ([48, 49, 45, 56, 48, 45, 99, 50, 45, 48, 48, 45, 48, 48, 45, 48, 101] : List UInt8)
        · rw [if_pos c7] at H
          have c7b0 : (t114.toList == ([48, 49, 45, 56, 48, 45, 99, 50, 45, 48, 48, 45, 48, 48, 45, 48, 101] : List UInt8)) = true := beq_iff_eq.mpr c7
          have c7b1 : (t114.toList != ([48, 49, 45, 56, 48, 45, 99, 50, 45, 48, 48, 45, 48, 48, 45, 48, 101] : List UInt8)) = false := bne_eq_false_iff_eq.mpr c7
          clear c7
          replace H := Option.bind_eq_some_iff.mp H
          obtain ⟨t115, A80, H⟩ := H
          replace H : (some ((t115.length : Int) == 6)) = some r := H
          have A8 := Aside0.mk A80
          clear A80
          obtain rfl := Option.some.inj H
          go_enter Try.func27, Try.ntmps27
          go_wp2_with (first | ((with_reducible refine gate_callee (f := 26) rfl ?_); refine goesL_ (some 4) rfl rfl Try.func26 (by kernel_rfl) rfl #[.string (⟨#[48, 49, 45, 56, 48, 45, 99, 50, 45, 48, 48, 45, 48, 48, 45, 48, 101]⟩ : ByteArray)] rfl (by (try simp only [List.map_toArray, List.map_cons, List.map_nil]); first | done | rfl | (simp only [List.length_drop, List.length_take]; rfl)) ?_; (with_reducible refine (mac_Parse.calls (⟨#[48, 49, 45, 56, 48, 45, 99, 50, 45, 48, 48, 45, 48, 48, 45, 48, 101]⟩ : ByteArray) t111 t112 _ A1.out).mono ?_); rintro e w9 ⟨rfl, hb⟩; refine ⟨_, rfl, ?_⟩; have n0_ := Aside0.mk (below_step (by repeat (first | (with_reducible first | exact HB.out | apply below_alloc | apply pw_below_drewN | apply below_drew1) | exact HB.out)) hb); clear HB; have HB := n0_; clear n0_; (try clear hb); (try clear hb2); (try clear hk); (try clear hi)) | (go_at_call 31; (with_reducible refine (mac_Kind.calls t111 t113 _ A4.out).mono ?_); rintro e w' ⟨rfl, ⟨nd, rfl⟩⟩) | (go_at_call 25; (with_reducible refine (mac_Text.calls t111 t114 _ A6.out).mono ?_); rintro e w10 ⟨rfl, hb⟩; have n0_ := Aside0.mk (below_step (by repeat (first | (with_reducible first | exact HB.out | apply below_alloc | apply pw_below_drewN | apply below_drew1) | exact HB.out)) hb); clear HB; have HB := n0_; clear n0_; (try clear hb); (try clear hb2); (try clear hk); (try clear hi)) | (go_at_call 37; (with_reducible refine (mac_Bytes.calls k t111 t115 _ A8.out).mono ?_); rintro e w11 ⟨v116, rfl, ho0, hb⟩; have n0_ := Aside0.mk (Kd.R_lower ho0 (below_size (by repeat (first | (with_reducible first | exact HB.out | apply below_alloc | apply pw_below_drewN | apply below_drew1) | exact HB.out)))); have n1_ := Aside0.mk (below_step (by repeat (first | (with_reducible first | exact HB.out | apply below_alloc | apply pw_below_drewN | apply below_drew1) | exact HB.out)) hb); clear HB; have HO117 := n0_; have HB := n1_; clear n0_ n1_; (try clear hb); (try clear hb2); (try clear hk); (try clear hi); (try clear ho0); obtain ⟨Ao12, co12, eo12⟩ := Kd.R_slice HO117.out; subst eo12))
          go_ret
          exact ⟨by first | rfl | (simp [errW_none, errW_some] <;> rfl) | (simp [*, errW_none, errW_some] <;> rfl), by repeat (first | (with_reducible first | exact HB.out | apply below_alloc | apply pw_below_drewN | apply below_drew1) | exact HB.out)⟩
        · rw [if_neg c7] at H
          have c7b0 : (t114.toList == ([48, 49, 45, 56, 48, 45, 99, 50, 45, 48, 48, 45, 48, 48, 45, 48, 101] : List UInt8)) = false := beq_eq_false_iff_ne.mpr c7
          have c7b1 : (t114.toList != ([48, 49, 45, 56, 48, 45, 99, 50, 45, 48, 48, 45, 48, 48, 45, 48, 101] : List UInt8)) = true := bne_iff_ne.mpr c7
          obtain rfl := Option.some.inj H
          go_enter Try.func27, Try.ntmps27
          go_wp2_with (first | ((with_reducible refine gate_callee (f := 26) rfl ?_); refine goesL_ (some 4) rfl rfl Try.func26 (by kernel_rfl) rfl #[.string (⟨#[48, 49, 45, 56, 48, 45, 99, 50, 45, 48, 48, 45, 48, 48, 45, 48, 101]⟩ : ByteArray)] rfl (by (try simp only [List.map_toArray, List.map_cons, List.map_nil]); first | done | rfl | (simp only [List.length_drop, List.length_take]; rfl)) ?_; (with_reducible refine (mac_Parse.calls (⟨#[48, 49, 45, 56, 48, 45, 99, 50, 45, 48, 48, 45, 48, 48, 45, 48, 101]⟩ : ByteArray) t111 t112 _ A1.out).mono ?_); rintro e w13 ⟨rfl, hb⟩; refine ⟨_, rfl, ?_⟩; have n0_ := Aside0.mk (below_step (by repeat (first | (with_reducible first | exact HB.out | apply below_alloc | apply pw_below_drewN | apply below_drew1) | exact HB.out)) hb); clear HB; have HB := n0_; clear n0_; (try clear hb); (try clear hb2); (try clear hk); (try clear hi)) | (go_at_call 31; (with_reducible refine (mac_Kind.calls t111 t113 _ A4.out).mono ?_); rintro e w' ⟨rfl, ⟨nd, rfl⟩⟩) | (go_at_call 25; (with_reducible refine (mac_Text.calls t111 t114 _ A6.out).mono ?_); rintro e w14 ⟨rfl, hb⟩; have n0_ := Aside0.mk (below_step (by repeat (first | (with_reducible first | exact HB.out | apply below_alloc | apply pw_below_drewN | apply below_drew1) | exact HB.out)) hb); clear HB; have HB := n0_; clear n0_; (try clear hb); (try clear hb2); (try clear hk); (try clear hi)))
          go_ret
          exact ⟨by first | rfl | (simp [errW_none, errW_some] <;> rfl) | (simp [*, errW_none, errW_some] <;> rfl), by repeat (first | (with_reducible first | exact HB.out | apply below_alloc | apply pw_below_drewN | apply below_drew1) | exact HB.out)⟩
      · rw [if_neg c5] at H
        have c5b0 : (t113 == 3) = false := beq_eq_false_iff_ne.mpr c5
        have c5b1 : (t113 != 3) = true := bne_iff_ne.mpr c5
        obtain rfl := Option.some.inj H
        go_enter Try.func27, Try.ntmps27
        go_wp2_with (first | ((with_reducible refine gate_callee (f := 26) rfl ?_); refine goesL_ (some 4) rfl rfl Try.func26 (by kernel_rfl) rfl #[.string (⟨#[48, 49, 45, 56, 48, 45, 99, 50, 45, 48, 48, 45, 48, 48, 45, 48, 101]⟩ : ByteArray)] rfl (by (try simp only [List.map_toArray, List.map_cons, List.map_nil]); first | done | rfl | (simp only [List.length_drop, List.length_take]; rfl)) ?_; (with_reducible refine (mac_Parse.calls (⟨#[48, 49, 45, 56, 48, 45, 99, 50, 45, 48, 48, 45, 48, 48, 45, 48, 101]⟩ : ByteArray) t111 t112 _ A1.out).mono ?_); rintro e w15 ⟨rfl, hb⟩; refine ⟨_, rfl, ?_⟩; have n0_ := Aside0.mk (below_step (by repeat (first | (with_reducible first | exact HB.out | apply below_alloc | apply pw_below_drewN | apply below_drew1) | exact HB.out)) hb); clear HB; have HB := n0_; clear n0_; (try clear hb); (try clear hb2); (try clear hk); (try clear hi)) | (go_at_call 31; (with_reducible refine (mac_Kind.calls t111 t113 _ A4.out).mono ?_); rintro e w' ⟨rfl, ⟨nd, rfl⟩⟩))
        go_ret
        exact ⟨by first | rfl | (simp [errW_none, errW_some] <;> rfl) | (simp [*, errW_none, errW_some] <;> rfl), by repeat (first | (with_reducible first | exact HB.out | apply below_alloc | apply pw_below_drewN | apply below_drew1) | exact HB.out)⟩
    · rw [if_neg c3] at H
      have c3b0 : (t111 == 1652522221582) = false := beq_eq_false_iff_ne.mpr c3
      have c3b1 : (t111 != 1652522221582) = true := bne_iff_ne.mpr c3
      obtain rfl := Option.some.inj H
      go_enter Try.func27, Try.ntmps27
      go_wp2_with (first | ((with_reducible refine gate_callee (f := 26) rfl ?_); refine goesL_ (some 4) rfl rfl Try.func26 (by kernel_rfl) rfl #[.string (⟨#[48, 49, 45, 56, 48, 45, 99, 50, 45, 48, 48, 45, 48, 48, 45, 48, 101]⟩ : ByteArray)] rfl (by (try simp only [List.map_toArray, List.map_cons, List.map_nil]); first | done | rfl | (simp only [List.length_drop, List.length_take]; rfl)) ?_; (with_reducible refine (mac_Parse.calls (⟨#[48, 49, 45, 56, 48, 45, 99, 50, 45, 48, 48, 45, 48, 48, 45, 48, 101]⟩ : ByteArray) t111 t112 _ A1.out).mono ?_); rintro e w16 ⟨rfl, hb⟩; refine ⟨_, rfl, ?_⟩; have n0_ := Aside0.mk (below_step (by repeat (first | (with_reducible first | exact HB.out | apply below_alloc | apply pw_below_drewN | apply below_drew1) | exact HB.out)) hb); clear HB; have HB := n0_; clear n0_; (try clear hb); (try clear hb2); (try clear hk); (try clear hi)))
      go_ret
      exact ⟨by first | rfl | (simp [errW_none, errW_some] <;> rfl) | (simp [*, errW_none, errW_some] <;> rfl), by repeat (first | (with_reducible first | exact HB.out | apply below_alloc | apply pw_below_drewN | apply below_drew1) | exact HB.out)⟩
  · rw [if_neg c2] at H
    have c2b0 : (t112 == 0) = false := beq_eq_false_iff_ne.mpr c2
    have c2b1 : (t112 != 0) = true := bne_iff_ne.mpr c2
    obtain rfl := Option.some.inj H
    go_enter Try.func27, Try.ntmps27
    go_wp2_with (first | ((with_reducible refine gate_callee (f := 26) rfl ?_); refine goesL_ (some 4) rfl rfl Try.func26 (by kernel_rfl) rfl #[.string (⟨#[48, 49, 45, 56, 48, 45, 99, 50, 45, 48, 48, 45, 48, 48, 45, 48, 101]⟩ : ByteArray)] rfl (by (try simp only [List.map_toArray, List.map_cons, List.map_nil]); first | done | rfl | (simp only [List.length_drop, List.length_take]; rfl)) ?_; (with_reducible refine (mac_Parse.calls (⟨#[48, 49, 45, 56, 48, 45, 99, 50, 45, 48, 48, 45, 48, 48, 45, 48, 101]⟩ : ByteArray) t111 t112 _ A1.out).mono ?_); rintro e w17 ⟨rfl, hb⟩; refine ⟨_, rfl, ?_⟩; have n0_ := Aside0.mk (below_step (by repeat (first | (with_reducible first | exact HB.out | apply below_alloc | apply pw_below_drewN | apply below_drew1) | exact HB.out)) hb); clear HB; have HB := n0_; clear n0_; (try clear hb); (try clear hb2); (try clear hk); (try clear hi)))
    go_ret
    exact ⟨by first | rfl | (simp [errW_none, errW_some] <;> rfl) | (simp [*, errW_none, errW_some] <;> rfl), by repeat (first | (with_reducible first | exact HB.out | apply below_alloc | apply pw_below_drewN | apply below_drew1) | exact HB.out)⟩

/-! ### patchbayref01_Bytes: function 32 -/
def patchbayref01_Bytes.l0 : Nat → Int → List Int → Int → Option (List Int)
  | 0, _, _, _ => none
  | k + 1, x0, x3, x4 => if x4 < 6 then ((some (([(Int.tmod x0 256) % 256] : List Int) : List Int)).bind fun y118 => (if y118.length + x3.length < 140737488355328 then (patchbayref01_Bytes.l0 k (IntKind.u64.wrap (Int.tdiv x0 256)) (y118 ++ x3) (wrap64 (x4 + 1))) else (none))) else (some x3)
def patchbayref01_Bytes.f (k : Nat) (a0 : Int) : Option (List Int) := patchbayref01_Bytes.l0 k a0 ([] : List Int) 0
theorem patchbayref01_Bytes.mono_l : ∀ k, (∀ y0 y1 y2, LeO (patchbayref01_Bytes.l0 k y0 y1 y2) (patchbayref01_Bytes.l0 (k + 1) y0 y1 y2))
  | 0 => fun _ _ _ r h => by simp [patchbayref01_Bytes.l0] at h
  | k + 1 => by
    have ih0 := patchbayref01_Bytes.mono_l k
    · intro y0 y1 y2
      unfold patchbayref01_Bytes.l0
      repeat' first
      | (with_reducible exact ih0 _ _ _)
      | (with_reducible exact LeO.refl _)
      | (with_reducible exact LeO.none _)
      | (with_reducible refine LeO.ite ?_ ?_)
      | (with_reducible refine LeO.bind ?_ (fun _ => ?_))
      | exact ih0 _ _ _
      | exact LeO.none _
      | refine LeO.ite ?_ ?_
      | refine LeO.bind ?_ (fun _ => ?_)
theorem patchbayref01_Bytes.mono : ∀ a0 k, LeO (patchbayref01_Bytes.f k a0) (patchbayref01_Bytes.f (k + 1) a0) := by
  intro a0 k
  have ih0 := patchbayref01_Bytes.mono_l k
  unfold patchbayref01_Bytes.f
  repeat' first
      | (with_reducible exact ih0 _ _ _)
      | (with_reducible exact LeO.refl _)
      | (with_reducible exact LeO.none _)
      | (with_reducible refine LeO.ite ?_ ?_)
      | (with_reducible refine LeO.bind ?_ (fun _ => ?_))
      | exact ih0 _ _ _
      | exact LeO.none _
      | refine LeO.ite ?_ ?_
      | refine LeO.bind ?_ (fun _ => ?_)
set_option maxHeartbeats 8000000 in
set_option maxRecDepth 100000 in
theorem patchbayref01_Bytes.calls (k : Nat) (a0 : Int) (r : List Int) (w : World) (h : patchbayref01_Bytes.f k a0 = some r) :
    Calls Try.prog 32 #[.int .u64 a0] w fun e w' => ∃ v0_ : Value, e = .returned (v0_) ∧ Kd.R (Kd.int .u8) 5 w' w.heap.size (fun _ => True) v0_ r ∧ Below w.heap.size w w' := by
  have HB := Aside0.mk (Below.refl w.heap.size w)
  have H : (patchbayref01_Bytes.l0 k a0 ([] : List Int) 0) = some r := h
  clear h
  have H' := Aside0.mk H
  clear H
  go_enter Try.func32, Try.ntmps32
  go_wp2
  go_loopg [0, 3, 4] k (fun kq v0 v3 v4 w' => ∃ (x0_1 : Int) (x3_1 : List Int) (x4_1 : Int), v0 = .int .u64 x0_1 ∧ v4 = .int .i64 x4_1 ∧ Aside0 (patchbayref01_Bytes.l0 kq x0_1 x3_1 x4_1 = some r) ∧ Aside0 (kq ≤ k) ∧ Aside0 (Kd.R (Kd.int .u8) 5 w' w.heap.size (fun _ => True) v3 x3_1) ∧ Aside0 (Below w.heap.size w w'))
  case atStart => exact ⟨(a0), (([] : List Int)), (0), (by first | rfl | (simp; done) | (simp [*]; done)), (by first | rfl | (simp; done) | (simp [*]; done)), H', ⟨Nat.le_refl _⟩, ⟨by first | exact Kd.R_nil _ _ _ _ _ | exact Kd.N_nil _ _ _ _ _ | exact Kd.V_nil _ _ _ _ _ | exact Kd.Q_nil _ _ _ _ _ | exact Kd.S_nil _ _ _ _ _⟩, ⟨by repeat (first | (with_reducible first | exact HB.out | apply below_alloc | apply pw_below_drewN | apply below_drew1) | exact HB.out)⟩⟩
  case round =>
    clear H'
    obtain ⟨x0_1, x3_1, x4_1, rfl, rfl, HA, HK1, HO_3, HB⟩ := hrel
    cases gk with
    | zero => exact absurd HA.out (by simp [patchbayref01_Bytes.l0])
    | succ k1 =>
      have H := HA.out
      clear HA
      simp only [patchbayref01_Bytes.l0] at H
      by_cases c2 : x4_1 < 6
      · rw [if_pos c2] at H
        have c2b0 : decide (x4_1 < 6) = true := decide_eq_true c2
        clear c2
        obtain ⟨y118, hy118⟩ : ∃ y_ : List Int, y_ = (([(Int.tmod x0_1 256) % 256] : List Int)) := ⟨_, rfl⟩
        replace H : (if y118.length + x3_1.length < 140737488355328 then (patchbayref01_Bytes.l0 k1 (IntKind.u64.wrap (Int.tdiv x0_1 256)) (y118 ++ x3_1) (wrap64 (x4_1 + 1))) else (none)) = some r := by first | (rw [hy118]; with_reducible exact H) | (have H2_ := (Option.bind_some _ _).symm.trans H; rw [hy118]; with_reducible exact H2_) | (have H2_ := (Option.bind_some _ _).symm.trans H; with_reducible exact H2_) | with_reducible exact H | (rw [hy118]; exact H) | exact H
        have Ny118 := Aside0.mk hy118
        clear hy118
        by_cases c3 : y118.length + x3_1.length < 140737488355328
        · rw [if_pos c3] at H
          have LMc3 := Aside0.mk c3
          clear c3
          obtain ⟨y121, hy121⟩ : ∃ y_ : List Int, y_ = (y118 ++ x3_1) := ⟨_, rfl⟩
          replace H : (patchbayref01_Bytes.l0 k1 (IntKind.u64.wrap (Int.tdiv x0_1 256)) y121 (wrap64 (x4_1 + 1))) = some r := by first | (rw [hy121]; with_reducible exact H) | (have H2_ := (Option.bind_some _ _).symm.trans H; rw [hy121]; with_reducible exact H2_) | (have H2_ := (Option.bind_some _ _).symm.trans H; with_reducible exact H2_) | with_reducible exact H | (rw [hy121]; exact H) | exact H
          have Ny121 := Aside0.mk hy121
          clear hy121
          have H' := Aside0.mk H
          clear H
          go_wp2_with (first | ((with_reducible refine gate_dst (N := 12) rfl ?_); refine Kd.R_lit (Kd.int .u8) _ 5 ?hg (N := 12) ?hd (xs := ([(Int.tmod x0_1 256) % 256] : List Int)) (inner := [.int .u8 ((Int.tmod x0_1 256) % 256)]) (ok := fun _ => True) (okp := fun _ => True) ?hr ?hp (fun _ hk => hk) trivial (Below.refl _ _) (Nat.le_refl _) (by simp) ?_; (case hd => rfl); (case hg => rfl); (case hr => first | (go_simp; done) | (go_simp; rfl)); (case hp => exact (Reps.one (show Kd.M (Kd.int .u8) _ _ _ ((Int.tmod x0_1 256) % 256) [.int .u8 ((Int.tmod x0_1 256) % 256)] from rfl) (Reps.none _ _))); intro v119 w4 ho5 hb hg_ hnew_; clear hg_ hnew_; (first | rw [← Ny118.out] at ho5 | (simp only [Int.reduceToNat] at ho5; rw [← Ny118.out] at ho5)); have n0_ := Aside0.mk (Kd.R_elder' (by (with_reducible repeat (first | apply Kd.R_alloc | apply Kd.R_drewN | apply Kd.R_drew)); exact HO_3.out) (Kd.R_base ho5) hb); have n1_ := Aside0.mk (Kd.R_lower (Kd.R_new' ho5 (Kd.R_lt (by (with_reducible repeat (first | apply Kd.R_alloc | apply Kd.R_drewN | apply Kd.R_drew)); exact HO_3.out))) (below_size (by repeat (first | (with_reducible first | exact HB.out | apply below_alloc | apply pw_below_drewN | apply below_drew1) | exact HB.out)))); have n2_ := Aside0.mk (below_step (by repeat (first | (with_reducible first | exact HB.out | apply below_alloc | apply pw_below_drewN | apply below_drew1) | exact HB.out)) hb); clear HO_3; clear HB; have HO_3 := n0_; have HO120 := n1_; have HB := n2_; clear n0_ n1_ n2_; clear hb ho5; obtain ⟨Ao7, co7, eo7⟩ := Kd.R_slice HO_3.out; subst eo7) | ((with_reducible refine gate_builtin (b := .append) (xs := #[.tmp 12, .tmp 13]) rfl ?_); at_builtin; refine Kd.R_append_rows (Kd.int .u8) (w0 := w) w.heap.size rfl (.tmp 12) (.tmp 13) 22 5 (.int .u8 0) 1 rfl Try.underlying22 info5 rfl (by decide) (by omega) v119 y118 x3_1 _ _ _ (fun k_ => some k_ ≠ (.slice Ao7 x3_1.length co7 : Value).ownBlock) (fun _ => False) rfl rfl ?aO ?aR (fun _ _ h => h) (fun _ h => h.elim) ?aF ?aB ?aS ?aL ?_; (case aR => repeat (first | exact (Kd.R_reads' HO_3.out).2.2 | (with_reducible refine Kd.C_alloc ?_ _) | (with_reducible refine Kd.C_drewN ?_ _) | (with_reducible refine Kd.C_drew ?_))); (case aB => exact (by repeat (first | (with_reducible first | exact HB.out | apply below_alloc | apply pw_below_drewN | apply below_drew1) | exact HB.out))); (case aF => exact (fun k_ hk => Kd.fresh' (Kd.R_lt (by (with_reducible repeat (first | apply Kd.R_alloc | apply Kd.R_drewN | apply Kd.R_drew)); exact HO_3.out)) k_ hk)); (case aO => exact (by (with_reducible repeat (first | apply Kd.R_alloc | apply Kd.R_drewN | apply Kd.R_drew)); exact Kd.R_mono HO120.out (fun _ hk => hk.2))); (case aS => exact (below_size (by repeat (first | (with_reducible first | exact HB.out | apply below_alloc | apply pw_below_drewN | apply below_drew1) | exact HB.out)))); (case aL => have := LMc3.out; omega); intro v122 w6 ho hb hg hat; rw [← Ny121.out] at ho; have n0_ := Aside0.mk (Kd.R_after (ok := (fun _ => True)) (by (with_reducible repeat (first | apply Kd.R_alloc | apply Kd.R_drewN | apply Kd.R_drew)); exact HO_3.out) hg hat); have n1_ := Aside0.mk (hb); have n2_ := Aside0.mk (ho); clear HO_3; clear HB; clear HO120; have HO_3 := n0_; have HB := n1_; have HO123 := n2_; clear n0_ n1_ n2_; clear ho hb hg hat))
          go_roundg k1
          case measure => have := HK1.out; omega
          case rel => exact ⟨(IntKind.u64.wrap (Int.tdiv x0_1 256)), (y121), (wrap64 (x4_1 + 1)), (by first | rfl | (simp; done) | (simp [*]; done)), (by first | rfl | (simp; done) | (simp [*]; done)), H', ⟨by have := HK1.out; omega⟩, ⟨by (with_reducible repeat (first | apply Kd.R_alloc | apply Kd.R_drewN | apply Kd.R_drew)); exact Kd.R_mono HO123.out (fun _ hk => trivial)⟩, ⟨by repeat (first | (with_reducible first | exact HB.out | apply below_alloc | apply pw_below_drewN | apply below_drew1) | exact HB.out)⟩⟩
        · rw [if_neg c3] at H
          exact absurd H (by simp)
      · rw [if_neg c2] at H
        have c2b0 : decide (x4_1 < 6) = false := decide_eq_false c2
        clear c2
        obtain rfl := Option.some.inj H
        go_wp2
        go_ret
        exact ⟨_, by first | rfl | (simp [errW_none, errW_some] <;> rfl) | (simp [*, errW_none, errW_some] <;> rfl), by (with_reducible repeat (first | apply Kd.R_alloc | apply Kd.R_drewN | apply Kd.R_drew)); exact HO_3.out, by repeat (first | (with_reducible first | exact HB.out | apply below_alloc | apply pw_below_drewN | apply below_drew1) | exact HB.out)⟩

/-! ### patchbayref01_Text: function 28 -/
def patchbayref01_Text.f (a0 : Int) : Option (ByteArray) := if 0 ≤ a0 ∧ a0 ≤ 18446744073709551615 then some ⟨(MacW.txt (mac_Text.b6 a0) 6).toArray⟩ else none
theorem patchbayref01_Text.bytes {m : Int} (h0 : 0 ≤ m) (h1 : m ≤ 18446744073709551615) : patchbayref01_Bytes.f 7 m = some (mac_Text.b6 m) := by
  have T : ∀ x : Int, 0 ≤ x → x ≤ 18446744073709551615 → IntKind.u64.wrap (Int.tdiv x 256) = x / 256 := by
    intro x a b; rw [Int.tdiv_eq_ediv_of_nonneg a, IntWalk.u64_in _ (by omega)]
  have M : ∀ x : Int, 0 ≤ x → Int.tmod x 256 % 256 = x % 256 := by
    intro x a; rw [Int.tmod_eq_emod_of_nonneg a, Int.emod_emod_of_dvd _ (by decide)]
  unfold patchbayref01_Bytes.f
  simp only [patchbayref01_Bytes.l0, Option.bind_some, List.length_cons, List.length_nil, List.cons_append, List.nil_append]
  have e1 : m / 256 / 256 = m / 65536 := by omega
  have e2 : m / 65536 / 256 = m / 16777216 := by omega
  have e3 : m / 16777216 / 256 = m / 4294967296 := by omega
  have e4 : m / 4294967296 / 256 = m / 1099511627776 := by omega
  rw [T m h0 h1, T (m / 256) (by omega) (by omega), e1, T (m / 65536) (by omega) (by omega), e2, T (m / 16777216) (by omega) (by omega), e3, T (m / 4294967296) (by omega) (by omega), e4]
  rw [M _ h0, M (m / 256) (by omega), M (m / 65536) (by omega), M (m / 16777216) (by omega), M (m / 4294967296) (by omega), M (m / 1099511627776) (by omega)]
  simp [wrap64, mac_Text.b6]
theorem patchbayref01_Text.calls (a0 : Int) (r : ByteArray) (w : World) (h : patchbayref01_Text.f a0 = some r) :
    Calls Try.prog 28 #[.int .u64 a0] w fun e w' => e = .returned (.string r) ∧ Below w.heap.size w w' := by
  unfold patchbayref01_Text.f at h
  split at h
  · rename_i hr
    obtain rfl := Option.some.inj h
    refine MacW.rtext_walk a0 (mac_Text.b6 a0) w rfl (mac_Text.range a0) (fun W => patchbayref01_Bytes.calls 7 a0 _ W (patchbayref01_Text.bytes hr.1 hr.2))
  · cases h

/-! ### patchbayref01_Low: function 29 -/
def patchbayref01_Low.f (a0 : Int) : Option (Int) := some (Int.tmod a0 281474976710656)
set_option maxHeartbeats 8000000 in
set_option maxRecDepth 100000 in
theorem patchbayref01_Low.calls (a0 : Int) (r : Int) (w : World) (h : patchbayref01_Low.f a0 = some r) :
    Calls Try.prog 29 #[.int .u64 a0] w fun e w' => e = .returned (.int .u64 r) ∧ Drawn0 w w' := by
  have H : (some (Int.tmod a0 281474976710656)) = some r := h
  clear h
  obtain rfl := Option.some.inj H
  go_enter Try.func29, Try.ntmps29
  go_wp2
  go_ret
  exact ⟨by first | rfl | (simp; done) | (simp [*]; done), by repeat (first | exact Drawn0.refl _ | apply Drawn0.step)⟩

end Go.Proofs.Ytdohdjfclnlpmaa.PMac
