/- MacBytes: the plain law. -/
import Derived.Test.YtdohdjfclnlpmaaMacPure2
import Derived.Test.YtdohdjfclnlpmaaPMacx7
namespace Go.Proofs.Ytdohdjfclnlpmaa.Pure
open Go.RowKit Go.Proofs.Ytdohdjfclnlpmaa.PMac Go.Proofs.YtdohdjfclnlpmaaW.PrintWords Go.Proofs.YtdohdjfclnlpmaaW.PrintLast Go.Proofs.YtdohdjfclnlpmaaW.PrintMore Go.Proofs.Ytdohdjfclnlpmaa.MacW Go.Proofs.Ytdohdjfclnlpmaa
set_option linter.unusedVariables false
set_option linter.unusedSimpArgs false

def bytes (l : List Int) : Prop := ∀ x ∈ l, 0 ≤ x ∧ x ≤ 255

theorem bytes_of {l : List Int} (h : ∀ x ∈ l, (Lit.int .u8 x).wf = true) : bytes l := fun x hx => bounds_u8 (h x hx)

theorem bytes_rd {l : List Int} (h : bytes l) (i : Int) : 0 ≤ rd l i ∧ rd l i ≤ 255 := by
  unfold rd
  rw [List.getD_eq_getElem?_getD]
  by_cases c : i.toNat < l.length
  · rw [List.getElem?_eq_getElem c, Option.getD_some]; exact h _ (List.getElem_mem c)
  · rw [List.getElem?_eq_none (by omega)]; decide

theorem bytes_take {l : List Int} (h : bytes l) (n : Nat) : bytes (l.take n) := fun x hx => h x (List.mem_of_mem_take hx)
theorem bytes_drop {l : List Int} (h : bytes l) (n : Nat) : bytes (l.drop n) := fun x hx => h x (List.mem_of_mem_drop hx)
theorem bytes_app {l m : List Int} (h : bytes l) (g : bytes m) : bytes (l ++ m) := fun x hx => by
  rcases List.mem_append.1 hx with hx | hx
  · exact h x hx
  · exact g x hx
theorem bytes_zeros (n : Nat) : bytes (List.replicate n 0) := fun x hx => by
  rw [(List.mem_replicate.1 hx).2]; decide

theorem rd_take {l : List Int} {n : Nat} {i : Int} (h0 : 0 ≤ i) (h : i < n) : rd (l.take n) i = rd l i := by
  unfold rd
  rw [List.getD_eq_getElem?_getD, List.getD_eq_getElem?_getD, List.getElem?_take_of_lt (by omega)]

theorem rd_drop {l : List Int} {n : Nat} {i : Int} (h0 : 0 ≤ i) : rd (l.drop n) i = rd l (n + i) := by
  unfold rd
  rw [List.getD_eq_getElem?_getD, List.getD_eq_getElem?_getD, List.getElem?_drop, show (↑n + i).toNat = n + i.toNat from by omega]

theorem rd_app_l {l m : List Int} {i : Int} (h0 : 0 ≤ i) (h : i < l.length) : rd (l ++ m) i = rd l i := by
  unfold rd
  rw [List.getD_eq_getElem?_getD, List.getD_eq_getElem?_getD, List.getElem?_append_left (by omega)]

theorem rd_app_r {l m : List Int} {i : Int} (h : (l.length : Int) ≤ i) : rd (l ++ m) i = rd m (i - l.length) := by
  unfold rd
  rw [List.getD_eq_getElem?_getD, List.getD_eq_getElem?_getD, List.getElem?_append_right (by omega), show i.toNat - l.length = (i - (l.length : Int)).toNat from by omega]

theorem or_step {x b : Int} (h0 : 0 ≤ x) (h1 : x < 1099511627776) (b0 : 0 ≤ b) (b1 : b ≤ 255) : Go.bits .or .u64 (IntKind.u64.wrap (x * 256)) (IntKind.u64.wrap b) = x * 256 + b := by
  rw [IntWalk.u64_in _ (by omega), IntWalk.u64_in _ (by omega), Bits.or64 8 _ b (by omega) (by omega) (by omega) (by omega) (by omega) (by omega)]

theorem add_step {x b : Int} (h0 : 0 ≤ x) (h1 : x < 1099511627776) (b0 : 0 ≤ b) (b1 : b ≤ 255) : IntKind.u64.wrap (IntKind.u64.wrap (x * 256) + IntKind.u64.wrap b) = x * 256 + b := by
  rw [IntWalk.u64_in (x * 256) (by omega), IntWalk.u64_in b (by omega), IntWalk.u64_in _ (by omega)]

/-- The first six bytes as a number. -/
def n6 (l : List Int) : Int := ((((rd l 0 * 256 + rd l 1) * 256 + rd l 2) * 256 + rd l 3) * 256 + rd l 4) * 256 + rd l 5

theorem n6_range {l : List Int} (hb : bytes l) : 0 ≤ n6 l ∧ n6 l ≤ 281474976710655 := by
  have h0 := bytes_rd hb 0; have h1 := bytes_rd hb 1; have h2 := bytes_rd hb 2; have h3 := bytes_rd hb 3; have h4 := bytes_rd hb 4; have h5 := bytes_rd hb 5
  unfold n6; omega

theorem mac_Of_eq {l : List Int} (hl : 6 ≤ l.length) (hb : bytes l) {k : Nat} (hk : 7 ≤ k) : mac_Of.f k l = some (n6 l, 0) := by
  obtain ⟨k, rfl⟩ : ∃ j, k = j + 7 := ⟨k - 7, by omega⟩
  unfold mac_Of.f
  rw [if_neg (by omega), if_pos (by omega)]
  have L : ((l.take 6).length : Int) = 6 := by rw [List.length_take]; omega
  have R : ∀ i : Int, 0 ≤ i → i < 6 → rd (l.take 6) i = rd l i := fun i a b => rd_take a (by omega)
  have B := bytes_take hb 6
  have step : ∀ (k : Nat) (x i j : Int), j = i + 1 → 0 ≤ x → x < 1099511627776 → 0 ≤ i → i < 6 → mac_Of.l0 (k + 1) x (l.take 6) 6 i = mac_Of.l0 k (x * 256 + rd l i) (l.take 6) 6 j := by
    intro k x i j ej x0 x1 i0 i1
    subst ej
    have hr := bytes_rd hb i
    simp only [mac_Of.l0]
    rw [if_pos i1, if_pos i0, if_pos (by omega), R i i0 i1, or_step x0 x1 hr.1 hr.2, show wrap64 (i + 1) = i + 1 from by unfold wrap64; omega]
  rw [L]
  have h0 := bytes_rd hb 0; have h1 := bytes_rd hb 1; have h2 := bytes_rd hb 2; have h3 := bytes_rd hb 3; have h4 := bytes_rd hb 4; have h5 := bytes_rd hb 5
  rw [step (k + 6) 0 0 1 rfl (by decide) (by decide) (by decide) (by decide), step (k + 5) _ 1 2 rfl (by omega) (by omega) (by decide) (by decide), step (k + 4) _ 2 3 rfl (by omega) (by omega) (by decide) (by decide), step (k + 3) _ 3 4 rfl (by omega) (by omega) (by decide) (by decide), step (k + 2) _ 4 5 rfl (by omega) (by omega) (by decide) (by decide), step (k + 1) _ 5 6 rfl (by omega) (by omega) (by decide) (by decide)]
  simp only [mac_Of.l0]
  rw [if_neg (by decide)]
  unfold n6
  congr 2; omega

theorem mac_Of_short {l : List Int} (hl : l.length < 6) (k : Nat) : mac_Of.f k l = some (0, 2) := by
  unfold mac_Of.f; rw [if_pos (by omega)]

theorem ref_Of6_eq {l : List Int} (hl : 6 ≤ l.length) (hb : bytes l) {k : Nat} (hk : 7 ≤ k) : patchbayref01_Of.f k l = some (n6 l) := by
  obtain ⟨k, rfl⟩ : ∃ j, k = j + 7 := ⟨k - 7, by omega⟩
  unfold patchbayref01_Of.f
  have step : ∀ (k : Nat) (x i j : Int), j = i + 1 → 0 ≤ x → x < 1099511627776 → 0 ≤ i → i < 6 → patchbayref01_Of.l0 (k + 1) l x i = patchbayref01_Of.l0 k l (x * 256 + rd l i) j := by
    intro k x i j ej x0 x1 i0 i1
    subst ej
    have hr := bytes_rd hb i
    simp only [patchbayref01_Of.l0]
    rw [if_pos i1, if_pos i0, if_pos (by omega), add_step x0 x1 hr.1 hr.2, show wrap64 (i + 1) = i + 1 from by unfold wrap64; omega]
  have h0 := bytes_rd hb 0; have h1 := bytes_rd hb 1; have h2 := bytes_rd hb 2; have h3 := bytes_rd hb 3; have h4 := bytes_rd hb 4; have h5 := bytes_rd hb 5
  rw [step (k + 6) 0 0 1 rfl (by decide) (by decide) (by decide) (by decide), step (k + 5) _ 1 2 rfl (by omega) (by omega) (by decide) (by decide), step (k + 4) _ 2 3 rfl (by omega) (by omega) (by decide) (by decide), step (k + 3) _ 3 4 rfl (by omega) (by omega) (by decide) (by decide), step (k + 2) _ 4 5 rfl (by omega) (by omega) (by decide) (by decide), step (k + 1) _ 5 6 rfl (by omega) (by omega) (by decide) (by decide)]
  simp only [patchbayref01_Of.l0]
  rw [if_neg (by decide)]
  unfold n6
  congr 1; omega

theorem same_self (l : List Int) (hn : l.length ≤ 140737488355328) (d : Nat) : ∀ (k : Nat) (i : Int), 0 ≤ i → i ≤ l.length → (l.length : Int) - i = d → d < k → patchbayref01_Same.l0 k l l i = some true := by
  induction d with
  | zero =>
    intro k i h0 h1 hd hk
    obtain ⟨k, rfl⟩ : ∃ m, k = m + 1 := ⟨k - 1, by omega⟩
    simp only [patchbayref01_Same.l0]; rw [if_neg (by omega)]
  | succ d ih =>
    intro k i h0 h1 hd hk
    obtain ⟨k, rfl⟩ : ∃ m, k = m + 1 := ⟨k - 1, by omega⟩
    simp only [patchbayref01_Same.l0]
    rw [if_pos (by omega), if_pos h0, if_pos (by omega), if_pos trivial, show wrap64 (i + 1) = i + 1 from by unfold wrap64; omega]
    exact ih k (i + 1) (by omega) (by omega) (by omega) (by omega)

theorem same_eq {l : List Int} (hn : l.length ≤ 140737488355328) {k : Nat} (hk : l.length < k) : patchbayref01_Same.f k l l = some true := by
  unfold patchbayref01_Same.f
  rw [if_pos rfl]
  exact same_self l hn l.length k 0 (by omega) (by omega) (by omega) hk

theorem mac_Bytes_at {m : Int} (h0 : 0 ≤ m) (h1 : m ≤ 18446744073709551615) {k : Nat} (hk : 7 ≤ k) : mac_Bytes.f k m = some (mac_Text.b6 m) := by
  obtain ⟨j, rfl⟩ : ∃ j, k = j + 7 := ⟨k - 7, by omega⟩
  unfold mac_Bytes.f
  simp [mac_Bytes.l0, wrap64, shr, mac_Text.b6, List.replicate]
  exact ⟨rfl, rfl, rfl, rfl, rfl⟩

theorem told_at {k : Nat} (hk : 7 ≤ k) : patchbaylaw01_told.f k = some true := by
  have h := told30
  unfold patchbaylaw01_told.f at h ⊢
  rw [mac_Parse.f, Option.bind_some] at h ⊢
  have e1 : prs (⟨#[48, 49, 45, 56, 48, 45, 99, 50, 45, 48, 48, 45, 48, 48, 45, 48, 101]⟩ : ByteArray) = (1652522221582, 0) := by
    have h := prs_txt (m := 1652522221582) (by decide)
    have hx : (⟨(txt (mac_Text.b6 1652522221582) 6).toArray⟩ : ByteArray) = ⟨#[48, 49, 45, 56, 48, 45, 99, 50, 45, 48, 48, 45, 48, 48, 45, 48, 101]⟩ := by decide
    rw [hx] at h
    rw [h]
    rfl
  rw [e1] at h ⊢
  simp only [mac_Bytes_at (show (0 : Int) ≤ 1652522221582 by decide) (by decide) hk, mac_Bytes_at (show (0 : Int) ≤ 1652522221582 by decide) (by decide) (show 7 ≤ 30 by decide)] at h ⊢
  exact h

theorem b6_n6 {l : List Int} (hl : 6 ≤ l.length) (hb : bytes l) : mac_Text.b6 (n6 l) = l.take 6 := by
  match l, hl with
  | a :: b :: c :: d :: e :: f :: r, _ =>
    have h0 := hb a (by simp); have h1 := hb b (by simp); have h2 := hb c (by simp); have h3 := hb d (by simp); have h4 := hb e (by simp); have h5 := hb f (by simp)
    have hn : n6 (a :: b :: c :: d :: e :: f :: r) = ((((a * 256 + b) * 256 + c) * 256 + d) * 256 + e) * 256 + f := rfl
    unfold mac_Text.b6
    rw [hn]
    simp only [List.take_succ_cons, List.take_zero, List.cons.injEq, and_true]
    omega

theorem MacBytes : patchbaylaw01_MacBytes.Pure := by
  intro l m hn hn2 hw hm
  obtain ⟨h0, h1⟩ := bounds_u64 hm
  have hb := bytes_of hw
  refine ⟨201, ?_⟩
  have hmn : mn (l.length : Int) 100 = ((min l.length 100 : Nat) : Int) := by unfold mn; split <;> omega
  have hlt : (l.take (min l.length 100)).length ≤ 100 := by rw [List.length_take]; omega
  unfold patchbaylaw01_MacBytes.f
  rw [Option.bind_some, hmn, Int.toNat_natCast, if_pos (by omega), if_pos (by omega), if_pos (by simp only [List.length_nil, List.length_take]; omega), Option.bind_some, List.nil_append]
  have hB : mac_Bytes.f 201 m = some (mac_Text.b6 m) := mac_Bytes_at h0 h1 (by decide)
  have hR : patchbayref01_Bytes.f 201 m = some (mac_Text.b6 m) := ref_Bytes_eq h0 h1 (by decide)
  have hs6 : patchbayref01_Same.f 201 (mac_Text.b6 m) (mac_Text.b6 m) = some true := same_eq (by simp [mac_Text.b6]) (by simp [mac_Text.b6])
  have hj : ∀ x38 : Bool, (x38 = (decide (m ≤ 281474976710655) != (m == m % 281474976710656))) → x38 = false := by
    intro x38 h
    rw [h]
    by_cases c : m ≤ 281474976710655
    · rw [decide_eq_true c, show m % 281474976710656 = m from by omega]; simp
    · rw [decide_eq_false c, show (m == m % 281474976710656) = false from beq_eq_false_iff_ne.mpr (by omega)]; rfl
  have key : ∀ x y : Int, patchbaylaw01_MacBytes.j0 201 l (l.take (min l.length 100)) x y (decide (m ≤ 281474976710655) != (m == m % 281474976710656)) = patchbaylaw01_MacBytes.j0 201 l (l.take (min l.length 100)) x y false := by
    intro x y
    rw [hj _ rfl]
  by_cases c : l.length < 6
  · rw [mac_Of_short (by rw [List.length_take]; omega), Option.bind_some, told_at (by decide), Option.bind_some, if_pos rfl, hB, Option.bind_some, hR, Option.bind_some, hs6, Option.bind_some, if_pos rfl]
    unfold mac_Right.f
    rw [Option.bind_some, ref_Low_eq h0, Option.bind_some, key]
    simp only [patchbaylaw01_MacBytes.j0]
    rw [if_neg (by simp), if_pos (by omega), if_pos trivial]
    rfl
  · have hl6 : 6 ≤ (l.take (min l.length 100)).length := by rw [List.length_take]; omega
    have hn6 : n6 (l.take (min l.length 100)) = n6 l := by
      unfold n6
      rw [rd_take (by decide) (by omega), rd_take (by decide) (by omega), rd_take (by decide) (by omega), rd_take (by decide) (by omega), rd_take (by decide) (by omega), rd_take (by decide) (by omega)]
    have hr := n6_range hb
    rw [mac_Of_eq hl6 (bytes_take hb _) (by decide), Option.bind_some, told_at (by decide), Option.bind_some, if_pos rfl, hB, Option.bind_some, hR, Option.bind_some, hs6, Option.bind_some, if_pos rfl]
    unfold mac_Right.f
    rw [Option.bind_some, ref_Low_eq h0, Option.bind_some, key, hn6]
    simp only [patchbaylaw01_MacBytes.j0]
    rw [if_neg (by simp), if_neg (by omega), if_pos trivial, ref_Of6_eq (by omega) hb (by decide), Option.bind_some, if_pos rfl, mac_Bytes_at hr.1 (by omega) (by decide), Option.bind_some, if_pos (by omega), b6_n6 (by omega) hb, same_eq (by rw [List.length_take]; omega) (by rw [List.length_take]; omega), Option.bind_some, if_pos rfl, hmn, Int.toNat_natCast, if_pos (by omega), if_pos (by omega), same_eq (by omega) (by omega), Option.bind_some]
end Go.Proofs.Ytdohdjfclnlpmaa.Pure
