/- VlanAccepts: the plain law; no condition. -/
import Derived.OpenShut
import Derived.IntWalk
import Derived.Test.YtfgdjljbdghdgaaBits
import Derived.Test.YtfgdjljbdghdgaaPVlanx10
import Derived.Test.YtfgdjljbdghdgaaVAcc
namespace Go.Proofs.Ytfgdjljbdghdgaa.Pure
open Go.RowKit Go.Proofs.Ytfgdjljbdghdgaa.PVlan Go.Proofs.YtfgdjljbdghdgaaW.PrintWords Go.Proofs.YtfgdjljbdghdgaaW.PrintLast Go.Proofs.YtfgdjljbdghdgaaW.PrintMore
open Go.Proofs.Ytfgdjljbdghdgaa

/-- An address's kind: 3 reserved, 2 broadcast, 1 group, 0 one station's. -/
def kindOf (m : Int) : Int := if m % 281474976710656 = 281474976710655 then 2 else if m % 281474976710656 / 16 = 103282638848 then 3 else m / 1099511627776 % 2

theorem and48 {m : Int} (h0 : 0 ≤ m) (h1 : m ≤ 18446744073709551615) : Go.bits .and .u64 m 281474976710655 = m % 281474976710656 := by
  rw [Bits.and64 0 48 m (by decide) (by decide) h0 h1 281474976710655 rfl]; simp

theorem mac_Kind_eq {m : Int} (h0 : 0 ≤ m) (h1 : m ≤ 18446744073709551615) : mac_Kind.f m = some (kindOf m) := by
  unfold mac_Kind.f kindOf
  rw [and48 h0 h1, Bits.andNot64 4 64 _ (by decide) (by decide) (by omega) (by omega) 15 rfl, Bits.and64 40 41 _ (by decide) (by decide) (by omega) (by omega) 1099511627776 rfl]
  simp only [Nat.reducePow, Nat.reduceSub, Int.cast_ofNat_Int]
  by_cases c1 : m % 281474976710656 = 281474976710655
  · rw [if_pos c1, if_pos c1]
  · rw [if_neg c1, if_neg c1]
    by_cases c2 : m % 281474976710656 / 16 = 103282638848
    · rw [if_pos (by omega), if_pos c2]
    · rw [if_neg (by omega), if_neg c2]
      by_cases c3 : m / 1099511627776 % 2 = 0
      · rw [if_pos (by omega), c3]
      · rw [if_neg (by omega)]; congr 1; omega

theorem ref_Bytes_eq {m : Int} (h0 : 0 ≤ m) (h1 : m ≤ 18446744073709551615) {k : Nat} (hk : 7 ≤ k) : patchbayref01_Bytes.f k m = some [m / 1099511627776 % 256, m / 4294967296 % 256, m / 16777216 % 256, m / 65536 % 256, m / 256 % 256, m % 256] := by
  obtain ⟨k, rfl⟩ : ∃ j, k = j + 7 := ⟨k - 7, by omega⟩
  have T : ∀ x : Int, 0 ≤ x → x ≤ 18446744073709551615 → IntKind.u64.wrap (Int.tdiv x 256) = x / 256 := by
    intro x a b; rw [Int.tdiv_eq_ediv_of_nonneg a, IntWalk.u64_in _ (by omega)]
  have M : ∀ x : Int, 0 ≤ x → Int.tmod x 256 % 256 = x % 256 := by
    intro x a; rw [Int.tmod_eq_emod_of_nonneg a, Int.emod_emod_of_dvd _ (by decide)]
  unfold patchbayref01_Bytes.f
  simp only [patchbayref01_Bytes.l0, Option.bind_some, List.length_cons, List.length_nil, List.cons_append, List.nil_append]
  have e1 : m / 256 / 256 = m / 65536 := by omega
  have e2 : m / 65536 / 256 = m / 16777216 := by omega
  have e3 : m / 16777216 / 256 = m / 4294967296 := by omega
  have e4 : m / 4294967296 / 256 = m / 1099511627776 := by omega
  rw [T m h0 h1, T (m / 256) (by omega) (by omega), e1, T (m / 65536) (by omega) (by omega), e2, T (m / 16777216) (by omega) (by omega), e3, T (m / 4294967296) (by omega) (by omega), e4]
  rw [M _ h0, M (m / 256) (by omega), M (m / 65536) (by omega), M (m / 16777216) (by omega), M (m / 4294967296) (by omega), M (m / 1099511627776) (by omega)]
  simp [wrap64]

theorem ref_Low_eq {m : Int} (h0 : 0 ≤ m) : patchbayref01_Low.f m = some (m % 281474976710656) := by
  unfold patchbayref01_Low.f; rw [Int.tmod_eq_emod_of_nonneg h0]

theorem ref_Kind_eq {m : Int} (h0 : 0 ≤ m) (h1 : m ≤ 18446744073709551615) {k : Nat} (hk : 7 ≤ k) : patchbayref01_Kind.f k m = some (kindOf m) := by
  unfold patchbayref01_Kind.f
  rw [ref_Bytes_eq h0 h1 hk, ref_Low_eq h0]
  simp only [Option.bind_some, List.length_cons, List.length_nil]
  unfold kindOf
  have W : wrap64 (Int.tmod (m / 1099511627776 % 256) 2) = m / 1099511627776 % 2 := by
    rw [Int.tmod_eq_emod_of_nonneg (by omega)]; unfold wrap64; omega
  have g0 : rd [m / 1099511627776 % 256, m / 4294967296 % 256, m / 16777216 % 256, m / 65536 % 256, m / 256 % 256, m % 256] 0 = m / 1099511627776 % 256 := rfl
  have g1 : rd [m / 1099511627776 % 256, m / 4294967296 % 256, m / 16777216 % 256, m / 65536 % 256, m / 256 % 256, m % 256] 1 = m / 4294967296 % 256 := rfl
  have g2 : rd [m / 1099511627776 % 256, m / 4294967296 % 256, m / 16777216 % 256, m / 65536 % 256, m / 256 % 256, m % 256] 2 = m / 16777216 % 256 := rfl
  have g3 : rd [m / 1099511627776 % 256, m / 4294967296 % 256, m / 16777216 % 256, m / 65536 % 256, m / 256 % 256, m % 256] 3 = m / 65536 % 256 := rfl
  have g4 : rd [m / 1099511627776 % 256, m / 4294967296 % 256, m / 16777216 % 256, m / 65536 % 256, m / 256 % 256, m % 256] 4 = m / 256 % 256 := rfl
  have g5 : rd [m / 1099511627776 % 256, m / 4294967296 % 256, m / 16777216 % 256, m / 65536 % 256, m / 256 % 256, m % 256] 5 = m % 256 := rfl
  have L0 : (0 : Int) < ((0 + 1 + 1 + 1 + 1 + 1 + 1 : Nat) : Int) := by decide
  have L1 : (1 : Int) < ((0 + 1 + 1 + 1 + 1 + 1 + 1 : Nat) : Int) := by decide
  have L2 : (2 : Int) < ((0 + 1 + 1 + 1 + 1 + 1 + 1 : Nat) : Int) := by decide
  have L3 : (3 : Int) < ((0 + 1 + 1 + 1 + 1 + 1 + 1 : Nat) : Int) := by decide
  have L4 : (4 : Int) < ((0 + 1 + 1 + 1 + 1 + 1 + 1 : Nat) : Int) := by decide
  have L5 : (5 : Int) < ((0 + 1 + 1 + 1 + 1 + 1 + 1 : Nat) : Int) := by decide
  rw [g0, g1, g2, g3, g4, g5, W, if_pos L0, if_pos L1, if_pos L2, if_pos L3, if_pos L4, if_pos L5]
  by_cases c1 : m % 281474976710656 = 281474976710655
  · rw [if_pos c1, if_pos c1]
  · rw [if_neg c1, if_neg c1]
    by_cases c2 : m % 281474976710656 / 16 = 103282638848
    · rw [if_pos c2, if_pos (by omega), if_pos (by omega), if_pos (by omega), if_pos (by omega), if_pos (by omega), if_pos (by omega)]
    · rw [if_neg c2]
      by_cases d0 : m / 1099511627776 % 256 = 1
      · rw [if_pos d0]
        by_cases d1 : m / 4294967296 % 256 = 128
        · rw [if_pos d1]
          by_cases d2 : m / 16777216 % 256 = 194
          · rw [if_pos d2]
            by_cases d3 : m / 65536 % 256 = 0
            · rw [if_pos d3]
              by_cases d4 : m / 256 % 256 = 0
              · rw [if_pos d4, if_neg (by omega)]
              · rw [if_neg d4]
            · rw [if_neg d3]
          · rw [if_neg d2]
        · rw [if_neg d1]
      · rw [if_neg d0]

def bytes (l : List Int) : Prop := ∀ x ∈ l, 0 ≤ x ∧ x ≤ 255

theorem bytes_of {l : List Int} (h : ∀ x ∈ l, (Lit.int .u8 x).wf = true) : bytes l := fun x hx => bounds_u8 (h x hx)

theorem bytes_rd {l : List Int} (h : bytes l) (i : Int) : 0 ≤ rd l i ∧ rd l i ≤ 255 := by
  unfold rd
  rw [List.getD_eq_getElem?_getD]
  by_cases c : i.toNat < l.length
  · rw [List.getElem?_eq_getElem c, Option.getD_some]; exact h _ (List.getElem_mem c)
  · rw [List.getElem?_eq_none (by omega)]; decide

theorem bytes_take {l : List Int} (h : bytes l) (n : Nat) : bytes (l.take n) := fun x hx => h x (List.mem_of_mem_take hx)
theorem bytes_drop {l : List Int} (h : bytes l) (n : Nat) : bytes (l.drop n) := fun x hx => h x (List.mem_of_mem_drop hx)
theorem bytes_app {l m : List Int} (h : bytes l) (g : bytes m) : bytes (l ++ m) := fun x hx => by
  rcases List.mem_append.1 hx with hx | hx
  · exact h x hx
  · exact g x hx
theorem bytes_zeros (n : Nat) : bytes (List.replicate n 0) := fun x hx => by
  rw [(List.mem_replicate.1 hx).2]; decide

theorem rd_take {l : List Int} {n : Nat} {i : Int} (h0 : 0 ≤ i) (h : i < n) : rd (l.take n) i = rd l i := by
  unfold rd
  rw [List.getD_eq_getElem?_getD, List.getD_eq_getElem?_getD, List.getElem?_take_of_lt (by omega)]

theorem rd_drop {l : List Int} {n : Nat} {i : Int} (h0 : 0 ≤ i) : rd (l.drop n) i = rd l (n + i) := by
  unfold rd
  rw [List.getD_eq_getElem?_getD, List.getD_eq_getElem?_getD, List.getElem?_drop, show (↑n + i).toNat = n + i.toNat from by omega]

theorem rd_app_l {l m : List Int} {i : Int} (h0 : 0 ≤ i) (h : i < l.length) : rd (l ++ m) i = rd l i := by
  unfold rd
  rw [List.getD_eq_getElem?_getD, List.getD_eq_getElem?_getD, List.getElem?_append_left (by omega)]

theorem rd_app_r {l m : List Int} {i : Int} (h : (l.length : Int) ≤ i) : rd (l ++ m) i = rd m (i - l.length) := by
  unfold rd
  rw [List.getD_eq_getElem?_getD, List.getD_eq_getElem?_getD, List.getElem?_append_right (by omega), show i.toNat - l.length = (i - (l.length : Int)).toNat from by omega]

theorem or_step {x b : Int} (h0 : 0 ≤ x) (h1 : x < 1099511627776) (b0 : 0 ≤ b) (b1 : b ≤ 255) : Go.bits .or .u64 (IntKind.u64.wrap (x * 256)) (IntKind.u64.wrap b) = x * 256 + b := by
  rw [IntWalk.u64_in _ (by omega), IntWalk.u64_in _ (by omega), Bits.or64 8 _ b (by omega) (by omega) (by omega) (by omega) (by omega) (by omega)]

theorem add_step {x b : Int} (h0 : 0 ≤ x) (h1 : x < 1099511627776) (b0 : 0 ≤ b) (b1 : b ≤ 255) : IntKind.u64.wrap (IntKind.u64.wrap (x * 256) + IntKind.u64.wrap b) = x * 256 + b := by
  rw [IntWalk.u64_in (x * 256) (by omega), IntWalk.u64_in b (by omega), IntWalk.u64_in _ (by omega)]

/-- The first six bytes as a number. -/
def n6 (l : List Int) : Int := ((((rd l 0 * 256 + rd l 1) * 256 + rd l 2) * 256 + rd l 3) * 256 + rd l 4) * 256 + rd l 5

theorem n6_range {l : List Int} (hb : bytes l) : 0 ≤ n6 l ∧ n6 l ≤ 281474976710655 := by
  have h0 := bytes_rd hb 0; have h1 := bytes_rd hb 1; have h2 := bytes_rd hb 2; have h3 := bytes_rd hb 3; have h4 := bytes_rd hb 4; have h5 := bytes_rd hb 5
  unfold n6; omega

theorem mac_Of_eq {l : List Int} (hl : 6 ≤ l.length) (hb : bytes l) {k : Nat} (hk : 7 ≤ k) : mac_Of.f k l = some (n6 l, 0) := by
  obtain ⟨k, rfl⟩ : ∃ j, k = j + 7 := ⟨k - 7, by omega⟩
  unfold mac_Of.f
  rw [if_neg (by omega), if_pos (by omega)]
  have L : ((l.take 6).length : Int) = 6 := by rw [List.length_take]; omega
  have R : ∀ i : Int, 0 ≤ i → i < 6 → rd (l.take 6) i = rd l i := fun i a b => rd_take a (by omega)
  have B := bytes_take hb 6
  have step : ∀ (k : Nat) (x i j : Int), j = i + 1 → 0 ≤ x → x < 1099511627776 → 0 ≤ i → i < 6 → mac_Of.l0 (k + 1) x (l.take 6) 6 i = mac_Of.l0 k (x * 256 + rd l i) (l.take 6) 6 j := by
    intro k x i j ej x0 x1 i0 i1
    subst ej
    have hr := bytes_rd hb i
    simp only [mac_Of.l0]
    rw [if_pos i1, if_pos i0, if_pos (by omega), R i i0 i1, or_step x0 x1 hr.1 hr.2, show wrap64 (i + 1) = i + 1 from by unfold wrap64; omega]
  rw [L]
  have h0 := bytes_rd hb 0; have h1 := bytes_rd hb 1; have h2 := bytes_rd hb 2; have h3 := bytes_rd hb 3; have h4 := bytes_rd hb 4; have h5 := bytes_rd hb 5
  rw [step (k + 6) 0 0 1 rfl (by decide) (by decide) (by decide) (by decide), step (k + 5) _ 1 2 rfl (by omega) (by omega) (by decide) (by decide), step (k + 4) _ 2 3 rfl (by omega) (by omega) (by decide) (by decide), step (k + 3) _ 3 4 rfl (by omega) (by omega) (by decide) (by decide), step (k + 2) _ 4 5 rfl (by omega) (by omega) (by decide) (by decide), step (k + 1) _ 5 6 rfl (by omega) (by omega) (by decide) (by decide)]
  simp only [mac_Of.l0]
  rw [if_neg (by decide)]
  unfold n6
  congr 2; omega

theorem mac_Of_short {l : List Int} (hl : l.length < 6) (k : Nat) : mac_Of.f k l = some (0, 2) := by
  unfold mac_Of.f; rw [if_pos (by omega)]

theorem ref_Of6_eq {l : List Int} (hl : 6 ≤ l.length) (hb : bytes l) {k : Nat} (hk : 7 ≤ k) : patchbayref01_Of.f k l = some (n6 l) := by
  obtain ⟨k, rfl⟩ : ∃ j, k = j + 7 := ⟨k - 7, by omega⟩
  unfold patchbayref01_Of.f
  have step : ∀ (k : Nat) (x i j : Int), j = i + 1 → 0 ≤ x → x < 1099511627776 → 0 ≤ i → i < 6 → patchbayref01_Of.l0 (k + 1) l x i = patchbayref01_Of.l0 k l (x * 256 + rd l i) j := by
    intro k x i j ej x0 x1 i0 i1
    subst ej
    have hr := bytes_rd hb i
    simp only [patchbayref01_Of.l0]
    rw [if_pos i1, if_pos i0, if_pos (by omega), add_step x0 x1 hr.1 hr.2, show wrap64 (i + 1) = i + 1 from by unfold wrap64; omega]
  have h0 := bytes_rd hb 0; have h1 := bytes_rd hb 1; have h2 := bytes_rd hb 2; have h3 := bytes_rd hb 3; have h4 := bytes_rd hb 4; have h5 := bytes_rd hb 5
  rw [step (k + 6) 0 0 1 rfl (by decide) (by decide) (by decide) (by decide), step (k + 5) _ 1 2 rfl (by omega) (by omega) (by decide) (by decide), step (k + 4) _ 2 3 rfl (by omega) (by omega) (by decide) (by decide), step (k + 3) _ 3 4 rfl (by omega) (by omega) (by decide) (by decide), step (k + 2) _ 4 5 rfl (by omega) (by omega) (by decide) (by decide), step (k + 1) _ 5 6 rfl (by omega) (by omega) (by decide) (by decide)]
  simp only [patchbayref01_Of.l0]
  rw [if_neg (by decide)]
  unfold n6
  congr 1; omega

theorem same_self (l : List Int) (hn : l.length ≤ 140737488355328) (d : Nat) : ∀ (k : Nat) (i : Int), 0 ≤ i → i ≤ l.length → (l.length : Int) - i = d → d < k → patchbayref01_Same.l0 k l l i = some true := by
  induction d with
  | zero =>
    intro k i h0 h1 hd hk
    obtain ⟨k, rfl⟩ : ∃ m, k = m + 1 := ⟨k - 1, by omega⟩
    simp only [patchbayref01_Same.l0]; rw [if_neg (by omega)]
  | succ d ih =>
    intro k i h0 h1 hd hk
    obtain ⟨k, rfl⟩ : ∃ m, k = m + 1 := ⟨k - 1, by omega⟩
    simp only [patchbayref01_Same.l0]
    rw [if_pos (by omega), if_pos h0, if_pos (by omega), if_pos trivial, show wrap64 (i + 1) = i + 1 from by unfold wrap64; omega]
    exact ih k (i + 1) (by omega) (by omega) (by omega) (by omega)

theorem same_eq {l : List Int} (hn : l.length ≤ 140737488355328) {k : Nat} (hk : l.length < k) : patchbayref01_Same.f k l l = some true := by
  unfold patchbayref01_Same.f
  rw [if_pos rfl]
  exact same_self l hn l.length k 0 (by omega) (by omega) (by omega) hk

theorem u16_in {n : Int} (h0 : 0 ≤ n) (h1 : n ≤ 65535) : IntKind.u16.wrap n = n := IntWalk.u16_in n ⟨h0, h1⟩

theorem or16 (i : Nat) {x y : Int} (h0 : 0 ≤ x) (h1 : x ≤ 65535) (k0 : 0 ≤ y) (k1 : y ≤ 65535) (hx : x % ((2 ^ i : Nat) : Int) = 0) (hy : y < ((2 ^ i : Nat) : Int)) : Go.bits .or .u16 x y = x + y := by
  obtain ⟨n, rfl⟩ := Int.eq_ofNat_of_zero_le h0
  obtain ⟨m, rfl⟩ := Int.eq_ofNat_of_zero_le k0
  rw [u16_or_nat n m (by omega) (by omega), nat_join i n m (by omega) (by omega)]
  omega

theorem andNot16 {x : Int} (h0 : 0 ≤ x) (h1 : x ≤ 65535) : Go.bits .andNot .u16 x 4095 = x / 4096 * 4096 := by
  obtain ⟨n, rfl⟩ := Int.eq_ofNat_of_zero_le h0
  refine (u16_andNot_nat n 4095 (by omega) (by omega)).trans ?_
  rw [show 65535 - 4095 = 2 ^ 16 - 2 ^ 12 from rfl, Bits.mid 12 16 n (by decide)]
  omega

theorem and16 {x : Int} (h0 : 0 ≤ x) (h1 : x ≤ 65535) : Go.bits .and .u16 x 4095 = x % 4096 := by
  obtain ⟨n, rfl⟩ := Int.eq_ofNat_of_zero_le h0
  refine (u16_and_nat n 4095 (by omega) (by omega)).trans ?_
  rw [show 4095 = 2 ^ 12 - 2 ^ 0 from rfl, Bits.mid 0 12 n (by decide)]
  omega

theorem two_eq {l : List Int} (hl : 2 ≤ l.length) (hb : bytes l) : frame_two.f l = some (rd l 0 * 256 + rd l 1) := by
  have h0 := bytes_rd hb 0; have h1 := bytes_rd hb 1
  unfold frame_two.f
  rw [if_pos (by omega), if_pos (by omega), u16_in (n := rd l 0) (by omega) (by omega), u16_in (n := rd l 1) (by omega) (by omega), u16_in (by omega) (by omega), or16 8 (by omega) (by omega) (by omega) (by omega) (by omega) (by omega)]

theorem two_drop {l : List Int} (n : Nat) {m m' : Int} (hm : (n : Int) = m) (hm' : m' = m + 1) (hl : n + 2 ≤ l.length) (hb : bytes l) : frame_two.f (l.drop n) = some (rd l m * 256 + rd l m') := by
  subst hm; subst hm'
  rw [two_eq (by rw [List.length_drop]; omega) (bytes_drop hb n), rd_drop (by decide), rd_drop (by decide), Int.add_zero]

theorem ref_two_eq {l : List Int} {i : Int} (h0 : 0 ≤ i) (hi : i + 1 < l.length) (hn : l.length ≤ 140737488355328) (hb : bytes l) : patchbayref02_two.f l i = some (rd l i * 256 + rd l (i + 1)) := by
  have b0 := bytes_rd hb i; have b1 := bytes_rd hb (i + 1)
  unfold patchbayref02_two.f
  rw [show wrap64 (i + 1) = i + 1 from by unfold wrap64; omega, if_pos (by omega), if_pos (by omega), if_pos (by omega), if_pos (by omega), u16_in (n := rd l i) (by omega) (by omega), u16_in (n := rd l i * 256) (by omega) (by omega), u16_in (n := rd l (i + 1)) (by omega) (by omega), u16_in (by omega) (by omega)]

def tg (l : List Int) : Bool := rd l 12 == 129 && rd l 13 == 0
def atOf (l : List Int) : Nat := if tg l = true then 16 else 12
def tciOf (l : List Int) : Int := if tg l = true then rd l 14 * 256 + rd l 15 else 0
def typeOf (l : List Int) : Int := rd l (atOf l) * 256 + rd l (atOf l + 1)
def formOk (t n : Int) : Bool := decide (1536 ≤ t ∨ (t ≤ 1500 ∧ t ≤ n))

theorem tg_iff {l : List Int} (hb : bytes l) : rd l 12 * 256 + rd l 13 = 33024 ↔ tg l = true := by
  have b0 := bytes_rd hb 12; have b1 := bytes_rd hb 13
  unfold tg
  simp only [Bool.and_eq_true, beq_iff_eq]
  omega

theorem atOf_le (l : List Int) : 12 ≤ atOf l ∧ atOf l ≤ 16 := by unfold atOf; split <;> omega

theorem behind_eq {l : List Int} (hl : 16 ≤ l.length) (hb : bytes l) : frame_behind.f l = some ((atOf l : Int), tg l, tciOf l) := by
  unfold frame_behind.f
  rw [if_pos (by omega), two_drop 12 (m := 12) (m' := 13) rfl rfl (by omega) hb]
  simp only [Option.bind_some]
  have e := tg_iff hb
  by_cases c : tg l = true
  · rw [if_pos (e.2 c), if_pos (by omega), two_drop 14 (m := 14) (m' := 15) rfl rfl (by omega) hb]
    unfold atOf tciOf
    rw [if_pos c, if_pos c, c]
    rfl
  · rw [if_neg (fun h => c (e.1 h))]
    unfold atOf tciOf
    rw [if_neg c, if_neg c, show tg l = false from by simpa using c]
    rfl

theorem form_eq {t n : Int} (t0 : 0 ≤ t) (t1 : t ≤ 65535) : frame_form.f t n = some (formOk t n) := by
  unfold frame_form.f formOk
  rw [show wrap64 t = t from by unfold wrap64; omega]
  by_cases c : t ≥ 1536
  · rw [if_pos c, decide_eq_true (by omega)]
  · rw [if_neg c]
    by_cases d : t ≤ 1500
    · rw [if_pos d]; congr 1; exact decide_eq_decide.2 (by omega)
    · rw [if_neg d, decide_eq_false (by omega)]

theorem ref_form_eq {t n : Int} (t0 : 0 ≤ t) (t1 : t ≤ 65535) : patchbayref02_form.f t n = some (formOk t n) := by
  unfold patchbayref02_form.f formOk
  rw [show wrap64 t = t from by unfold wrap64; omega]
  by_cases c : t > 1535
  · rw [if_pos c, decide_eq_true (by omega)]
  · rw [if_neg c]
    by_cases d : t ≤ 1500
    · rw [if_pos d]; congr 1; exact decide_eq_decide.2 (by omega)
    · rw [if_neg d, decide_eq_false (by omega)]

theorem clone_eq {l : List Int} (hn : l.length < 140737488355328) : slices_Clone_byte_byte.f l = some l := by
  unfold slices_Clone_byte_byte.f
  simp only [Option.bind_some, List.length_nil, Nat.zero_add, List.nil_append]
  rw [if_pos hn]

/-- What bytes tell, and the error. -/
def parseOf (l : List Int) : Int × Int × Bool × Int × Int × List Int × Int :=
  if l.length < 60 then (0, 0, false, 0, 0, [], 2)
  else if l.length > atOf l + 1502 then (0, 0, false, 0, 0, [], 3)
  else if formOk (typeOf l) ((l.drop (atOf l + 2)).length : Int) = true then (n6 l, n6 (l.drop 6), tg l, tciOf l, typeOf l, l.drop (atOf l + 2), 0)
  else (0, 0, false, 0, 0, [], 4)

theorem type_range {l : List Int} (hb : bytes l) : 0 ≤ typeOf l ∧ typeOf l ≤ 65535 := by
  have b0 := bytes_rd hb (atOf l); have b1 := bytes_rd hb (atOf l + 1)
  unfold typeOf; omega

theorem tci_range {l : List Int} (hb : bytes l) : 0 ≤ tciOf l ∧ tciOf l ≤ 65535 := by
  have b0 := bytes_rd hb 14; have b1 := bytes_rd hb 15
  unfold tciOf; split <;> omega

theorem parse_eq {l : List Int} (hn : l.length < 140737488355328) (hb : bytes l) {k : Nat} (hk : 7 ≤ k) : frame_Parse.f k l = some (parseOf l) := by
  unfold frame_Parse.f parseOf
  have ha := atOf_le l
  by_cases c1 : l.length < 60
  · rw [if_pos (by omega), if_pos c1]
  · rw [if_neg (by omega), if_neg c1, behind_eq (by omega) hb]
    obtain ⟨q, hq⟩ : ∃ q : Int × Bool × Int, q = ((atOf l : Int), tg l, tciOf l) := ⟨_, rfl⟩
    have q1 : q.1 = (atOf l : Int) := by rw [hq]
    have q2 : q.2.1 = tg l := by rw [hq]
    have q3 : q.2.2 = tciOf l := by rw [hq]
    rw [← hq, Option.bind_some, q1, q2, q3]
    rw [show wrap64 ((atOf l : Int) + 2) = ((atOf l + 2 : Nat) : Int) from by unfold wrap64; omega, show wrap64 (((atOf l + 2 : Nat) : Int) + 1500) = ((atOf l + 1502 : Nat) : Int) from by unfold wrap64; omega]
    by_cases c2 : l.length > atOf l + 1502
    · rw [if_pos (by omega), if_pos c2]
    · rw [if_neg (by omega), if_neg c2, if_pos (by omega), if_pos (by omega), Int.toNat_natCast, two_drop (atOf l) rfl rfl (by omega) hb]
      rw [Option.bind_some]
      rw [if_pos (by omega), if_pos (by omega), Int.toNat_natCast, clone_eq (by rw [List.length_drop]; omega)]
      rw [Option.bind_some]
      have ht := type_range hb
      rw [show rd l (atOf l : Int) * 256 + rd l ((atOf l : Int) + 1) = typeOf l from rfl, form_eq ht.1 ht.2]
      rw [Option.bind_some]
      by_cases c3 : formOk (typeOf l) ((l.drop (atOf l + 2)).length : Int) = true
      · rw [if_pos c3, if_pos c3, mac_Of_eq (by omega) hb hk, mac_Of_eq (by rw [List.length_drop]; omega) (bytes_drop hb 6) hk]
        rw [Option.bind_some]
        rw [if_pos (by omega), Option.bind_some]
      · rw [if_neg c3, if_neg c3]

theorem ref_Tagged_eq {l : List Int} (hl : 14 ≤ l.length) : patchbayref02_Tagged.f l = some (tg l) := by
  unfold patchbayref02_Tagged.f tg
  rw [if_pos (by omega)]
  by_cases c : rd l 12 = 129
  · rw [if_pos c, if_pos (by omega), c]; rfl
  · rw [if_neg c]; simp [c]

theorem ref_parse_eq {l : List Int} (hn : l.length < 140737488355328) (hb : bytes l) {k : Nat} (hk : 7 ≤ k) : patchbayref02_Parse.f k l = some (parseOf l) := by
  unfold patchbayref02_Parse.f
  have ha := atOf_le l
  by_cases c1 : l.length < 60
  · rw [if_pos (by omega)]; unfold parseOf; rw [if_pos c1]
  · rw [if_neg (by omega), ref_Of6_eq (by omega) hb hk]
    rw [Option.bind_some]
    rw [if_pos (by omega), ref_Of6_eq (by rw [List.length_drop]; omega) (bytes_drop hb 6) hk]
    rw [Option.bind_some]
    rw [ref_Tagged_eq (by omega)]
    rw [Option.bind_some]
    obtain ⟨k, rfl⟩ : ∃ j, k = j + 1 := ⟨k - 1, by omega⟩
    have J : ∀ (at' : Nat) (tc : Int), at' = atOf l → tc = tciOf l → patchbayref02_Parse.j0 (k + 1) l (at' : Int) (n6 l) (n6 (l.drop 6)) (tg l) tc 0 = some (parseOf l) := by
      intro at' tc e1 e2
      subst e1; subst e2
      rw [patchbayref02_Parse.j0]
      unfold parseOf
      rw [if_neg c1, show wrap64 (1502 + (atOf l : Int)) = ((atOf l + 1502 : Nat) : Int) from by unfold wrap64; omega, show wrap64 ((atOf l : Int) + 2) = ((atOf l + 2 : Nat) : Int) from by unfold wrap64; omega]
      by_cases c2 : l.length > atOf l + 1502
      · rw [if_pos (by omega), if_pos c2]
      · rw [if_neg (by omega), if_neg c2, ref_two_eq (by omega) (by omega) (by omega) hb]
        rw [Option.bind_some, Option.bind_some, List.length_nil, Nat.zero_add, List.nil_append]
        rw [if_pos (by omega), if_pos (by omega), Int.toNat_natCast, if_pos (by rw [List.length_drop]; omega), Option.bind_some]
        have ht := type_range hb
        rw [show rd l (atOf l : Int) * 256 + rd l ((atOf l : Int) + 1) = typeOf l from rfl, ref_form_eq ht.1 ht.2]
        rw [Option.bind_some]
        by_cases c3 : formOk (typeOf l) ((l.drop (atOf l + 2)).length : Int) = true
        · rw [if_pos c3, if_pos c3]
        · rw [if_neg c3, if_neg c3]
    by_cases c : tg l = true
    · rw [if_pos c, ref_two_eq (by decide) (by omega) (by omega) hb]
      rw [Option.bind_some]
      exact J 16 _ (by unfold atOf; rw [if_pos c]) (by unfold tciOf; rw [if_pos c]; rfl)
    · rw [if_neg c]
      exact J 12 0 (by unfold atOf; rw [if_neg c]) (by unfold tciOf; rw [if_neg c])

/-- A port's bit; 0: there is no such port. -/
def bitN (p : Int) : Nat := if 0 ≤ p ∧ p < 64 then 2 ^ p.toNat else 0

theorem bitN_lt (p : Int) : bitN p < 18446744073709551616 := by
  unfold bitN
  split
  · exact Nat.lt_of_lt_of_le (Nat.pow_lt_pow_right (by decide) (show p.toNat < 64 by omega)) (by decide)
  · decide

theorem bitN_test (p : Int) (i : Nat) : (bitN p).testBit i = decide (0 ≤ p ∧ p < 64 ∧ p.toNat = i) := by
  unfold bitN
  by_cases c : 0 ≤ p ∧ p < 64
  · rw [if_pos c, Nat.testBit_two_pow]
    exact decide_eq_decide.2 (by omega)
  · rw [if_neg c, Nat.zero_testBit]
    exact (decide_eq_false (by omega)).symm

theorem of_eq (p : Int) : vlan_of.f p = some ((bitN p : Nat) : Int) := by
  unfold vlan_of.f bitN
  by_cases c : p < 0
  · rw [if_pos c, if_neg (by omega)]; rfl
  · rw [if_neg c]
    by_cases d : p ≥ 64
    · rw [if_pos d, if_neg (by omega)]; rfl
    · rw [if_neg d, if_pos (by omega), if_pos (by omega)]
      obtain ⟨i, rfl⟩ := Int.eq_ofNat_of_zero_le (show 0 ≤ p by omega)
      have hp : 2 ^ i < 2 ^ 64 := Nat.pow_lt_pow_right (by decide) (show i < 64 by omega)
      have hq : 0 < 2 ^ i := Nat.two_pow_pos i
      congr 1
      unfold shl
      rw [show min (i : Int).toNat IntKind.u64.bits = i from by simp [IntKind.bits]; omega, Int.one_mul, show (2 : Int) ^ i = ((2 ^ i : Nat) : Int) from by norm_cast, Int.toNat_natCast]
      exact IntWalk.u64_in _ ⟨by omega, by omega⟩

/-- Is a port in? -/
def inS (x : Nat) (p : Int) : Bool := decide (0 ≤ p ∧ p < 64) && x.testBit p.toNat

theorem and_bit (x n : Nat) : x &&& 2 ^ n = if x.testBit n = true then 2 ^ n else 0 := by
  apply Nat.eq_of_testBit_eq
  intro i
  rw [Nat.testBit_and, Nat.testBit_two_pow]
  by_cases e : n = i
  · subst e
    by_cases c : x.testBit n = true
    · rw [if_pos c, c, Nat.testBit_two_pow]; rfl
    · rw [if_neg c, show x.testBit n = false from by simpa using c, Nat.zero_testBit]; rfl
  · rw [decide_eq_false e, Bool.and_false]
    split
    · rw [Nat.testBit_two_pow, decide_eq_false e]
    · rw [Nat.zero_testBit]

theorem has_eq {x : Nat} (hx : x < 18446744073709551616) (p : Int) : vlan_Has.f (x : Int) p = some (inS x p) := by
  unfold vlan_Has.f inS
  rw [of_eq]
  simp only [Option.bind_some]
  rw [u64_and_nat x (bitN p) hx (bitN_lt p)]
  congr 1
  unfold bitN
  by_cases c : 0 ≤ p ∧ p < 64
  · rw [if_pos c, decide_eq_true c, Bool.true_and, and_bit]
    cases h : x.testBit p.toNat
    · rw [if_neg (by decide)]; rfl
    · have := Nat.two_pow_pos p.toNat
      rw [if_pos rfl]
      simp only [bne_iff_ne, ne_eq]
      omega
  · rw [if_neg c, decide_eq_false c, Bool.false_and, Nat.and_zero]; rfl

def withN (x : Nat) (p : Int) : Nat := x ||| bitN p
def lessN (x : Nat) (p : Int) : Nat := x &&& (18446744073709551615 - bitN p)

theorem less_eq {x : Nat} (hx : x < 18446744073709551616) (p : Int) : vlan_Without.f (x : Int) p = some ((lessN x p : Nat) : Int) := by
  unfold vlan_Without.f
  rw [of_eq]
  simp only [Option.bind_some]
  rw [u64_andNot_nat x (bitN p) hx (bitN_lt p)]; rfl

theorem withN_lt {x : Nat} (hx : x < 18446744073709551616) (p : Int) : withN x p < 18446744073709551616 := Nat.or_lt_two_pow (n := 64) hx (bitN_lt p)
theorem lessN_lt {x : Nat} (hx : x < 18446744073709551616) (p : Int) : lessN x p < 18446744073709551616 := Nat.lt_of_le_of_lt Nat.and_le_left hx

theorem withN_test (x : Nat) (p : Int) (i : Nat) : (withN x p).testBit i = (x.testBit i || decide (0 ≤ p ∧ p < 64 ∧ p.toNat = i)) := by
  unfold withN
  rw [Nat.testBit_or, bitN_test]

theorem lessN_test (x : Nat) (p : Int) (i : Nat) (hi : i < 64) : (lessN x p).testBit i = (x.testBit i && !decide (0 ≤ p ∧ p < 64 ∧ p.toNat = i)) := by
  unfold lessN
  rw [Nat.testBit_and, show 18446744073709551615 - bitN p = 2 ^ 64 - (bitN p + 1) from by omega, Nat.testBit_two_pow_sub_succ (bitN_lt p), bitN_test, decide_eq_true hi, Bool.true_and]

theorem vtold2 : patchbaylaw03_told.f 2000 = some true := by decide +kernel

theorem vtold_up : ∀ d, patchbaylaw03_told.f (2000 + d) = some true
  | 0 => vtold2
  | d + 1 => patchbaylaw03_told.mono (2000 + d) _ (vtold_up d)

theorem vtold {k : Nat} (hk : 2000 ≤ k) : patchbaylaw03_told.f k = some true := by
  obtain ⟨d, rfl⟩ := Nat.exists_eq_add_of_le hk
  exact vtold_up d

/-- Which VLAN a frame is of, or why it isn't taken. -/
def classOf (l : List Int) (p a : Int) : Int × Int :=
  if (parseOf l).2.2.2.2.2.2 = 0 then
    (if kindOf (parseOf l).2.1 = 0 then
      (if kindOf (parseOf l).1 = 3 then (0, 5)
       else if (a = 1 ∧ (parseOf l).2.2.2.1 % 4096 = 0) ∨ (a = 2 ∧ (parseOf l).2.2.2.1 % 4096 ≠ 0) then (0, 6)
       else if (parseOf l).2.2.2.1 % 4096 = 4095 then (0, 7)
       else if (parseOf l).2.2.2.1 % 4096 = 0 then (p, 0) else ((parseOf l).2.2.2.1 % 4096, 0))
     else (0, 4))
  else (0, (parseOf l).2.2.2.2.2.2 - 1)

theorem parse_range {l : List Int} (hb : bytes l) : (0 ≤ (parseOf l).1 ∧ (parseOf l).1 ≤ 281474976710655) ∧ (0 ≤ (parseOf l).2.1 ∧ (parseOf l).2.1 ≤ 281474976710655) ∧ (0 ≤ (parseOf l).2.2.2.1 ∧ (parseOf l).2.2.2.1 ≤ 65535) ∧ ((parseOf l).2.2.2.2.2.2 = 0 ∨ (parseOf l).2.2.2.2.2.2 = 2 ∨ (parseOf l).2.2.2.2.2.2 = 3 ∨ (parseOf l).2.2.2.2.2.2 = 4) := by
  have h1 := n6_range hb
  have h2 := n6_range (bytes_drop hb 6)
  have h3 := tci_range hb
  unfold parseOf
  split
  · exact ⟨by decide, by decide, by decide, .inr (.inl rfl)⟩
  · split
    · exact ⟨by decide, by decide, by decide, .inr (.inr (.inl rfl))⟩
    · split
      · exact ⟨h1, h2, h3, .inl rfl⟩
      · exact ⟨by decide, by decide, by decide, .inr (.inr (.inr rfl))⟩

theorem class_eq {l : List Int} (p a : Int) (hn : l.length < 99000) (hb : bytes l) {k : Nat} (hk : 9 ≤ k) : vlan_Class.f k l p a = some (classOf l p a) := by
  obtain ⟨k, rfl⟩ : ∃ j, k = j + 2 := ⟨k - 2, by omega⟩
  obtain ⟨h1, h2, h3, h4⟩ := parse_range hb
  unfold vlan_Class.f classOf
  rw [parse_eq (by omega) hb (by omega), Option.bind_some]
  generalize parseOf l = q at *
  by_cases c : q.2.2.2.2.2.2 = 0
  · rw [if_pos c, if_pos c]
    unfold frame_Vid.f
    rw [and16 h3.1 h3.2, show wrap64 (q.2.2.2.1 % 4096) = q.2.2.2.1 % 4096 from by unfold wrap64; omega, Option.bind_some, mac_Kind_eq h2.1 (by omega), Option.bind_some]
    have hv : 0 ≤ q.2.2.2.1 % 4096 ∧ q.2.2.2.1 % 4096 ≤ 4095 := by omega
    generalize q.2.2.2.1 % 4096 = v at *
    by_cases c2 : kindOf q.2.1 = 0
    · rw [if_pos c2, if_pos c2, mac_Kind_eq h1.1 (by omega), Option.bind_some]
      by_cases c3 : kindOf q.1 = 3
      · rw [if_pos c3, if_pos c3]
      · rw [if_neg c3, if_neg c3]
        have J1 : ∀ (k : Nat) (b : Bool), vlan_Class.j1 (k + 1) v b p a = some (if b = true then (0, 6) else if v = 4095 then (0, 7) else if v = 0 then (p, 0) else (v, 0)) := fun k b => by
          rw [vlan_Class.j1]
          split
          · rfl
          · split
            · rfl
            · split <;> rfl
        by_cases c4 : a = 1
        · subst c4
          rw [if_pos rfl, vlan_Class.j0]
          by_cases c5 : v = 0
          · subst c5; simp [J1]
          · simp [c5, J1]
        · rw [if_neg c4, vlan_Class.j0, if_neg (by decide)]
          by_cases c5 : a = 2
          · subst c5
            by_cases c6 : v = 0
            · subst c6; simp [J1]
            · simp [c6, J1]
          · simp [c4, c5, J1]
    · rw [if_neg c2, if_neg c2]
  · rw [if_neg c, if_neg c]
    unfold vlan_why.f
    rcases h4 with h | h | h | h
    · exact absurd h c
    all_goals rw [h]; rfl

theorem ref_class_eq {l : List Int} (p a : Int) (hn : l.length < 99000) (hb : bytes l) {k : Nat} (hk : 9 ≤ k) : patchbayref03_Class.f k l p a = some (classOf l p a) := by
  obtain ⟨k, rfl⟩ : ∃ j, k = j + 2 := ⟨k - 2, by omega⟩
  obtain ⟨h1, h2, h3, h4⟩ := parse_range hb
  unfold patchbayref03_Class.f classOf
  rw [ref_parse_eq (by omega) hb (by omega), Option.bind_some]
  generalize parseOf l = q at *
  by_cases c : q.2.2.2.2.2.2 = 0
  · rw [if_pos c, if_pos c, ref_Kind_eq h2.1 (by omega) (by omega), Option.bind_some, Int.tmod_eq_emod_of_nonneg h3.1, show wrap64 (q.2.2.2.1 % 4096) = q.2.2.2.1 % 4096 from by unfold wrap64; omega]
    have hv : 0 ≤ q.2.2.2.1 % 4096 ∧ q.2.2.2.1 % 4096 ≤ 4095 := by omega
    generalize q.2.2.2.1 % 4096 = v at *
    by_cases c2 : kindOf q.2.1 = 0
    · rw [if_pos c2, if_pos c2, ref_Kind_eq h1.1 (by omega) (by omega), Option.bind_some]
      by_cases c3 : kindOf q.1 = 3
      · rw [if_pos c3, if_pos c3]
      · rw [if_neg c3, if_neg c3]
        have J1 : ∀ (k : Nat) (b : Bool), patchbayref03_Class.j0 (k + 1) v b p a = some (if b = true then (0, 6) else if v = 4095 then (0, 7) else if v = 0 then (p, 0) else (v, 0)) := fun k b => by
          rw [patchbayref03_Class.j0]
          split
          · rfl
          · split
            · rfl
            · split <;> rfl
        by_cases c4 : a = 1
        · subst c4
          by_cases c5 : v = 0
          · subst c5; simp [J1]
          · simp [c5, J1]
        · rw [if_neg c4]
          by_cases c5 : a = 2
          · subst c5
            by_cases c6 : v = 0
            · subst c6; simp [J1]
            · simp [c6, J1]
          · simp [c4, c5, J1]
    · rw [if_neg c2, if_neg c2]
  · rw [if_neg c, if_neg c]
    rw [show wrap64 (q.2.2.2.2.2.2 - 1) = q.2.2.2.2.2.2 - 1 from by unfold wrap64; omega]

theorem VlanAccepts (l : List Int) (pv : Int) (_hm : l.length ≤ maxLen) (_hn : l.length * 1 ≤ 140737488351232) (hw : ∀ x ∈ l, (Lit.int .u8 x).wf = true) (_hp : (Lit.int .i64 pv).wf = true) : ∃ k, patchbaylaw03_VlanAccepts.f k l pv = some true := by
  have hb := bytes_of hw
  refine ⟨2000, ?_⟩
  unfold patchbaylaw03_VlanAccepts.f
  generalize hg : l.take (min l.length 1600) = m
  have hm2 : m.length ≤ 1600 := by rw [← hg, List.length_take]; omega
  have hb2 : bytes m := by rw [← hg]; exact bytes_take hb _
  generalize wrap64 (1 + wrap64 ((IntKind.u64.wrap pv).tmod 4094)) = p
  rw [if_pos (by omega), class_eq p 0 (by omega) hb2 (by decide), Option.bind_some, class_eq p 1 (by omega) hb2 (by decide), Option.bind_some, class_eq p 2 (by omega) hb2 (by decide), Option.bind_some, vtold (by decide), Option.bind_some]
  obtain ⟨h1, h2, h3, h4⟩ := parse_range hb2
  unfold classOf
  generalize parseOf m = q at *
  by_cases c : q.2.2.2.2.2.2 = 0
  · rw [if_pos c, if_pos c, if_pos c]
    generalize q.2.2.2.1 % 4096 = v at *
    by_cases c2 : kindOf q.2.1 = 0
    · rw [if_pos c2, if_pos c2, if_pos c2]
      by_cases c3 : kindOf q.1 = 3
      · rw [if_pos c3, if_pos c3, if_pos c3]
        simp
      · rw [if_neg c3, if_neg c3, if_neg c3]
        by_cases c4 : v = 0
        · subst c4
          simp
        · by_cases c5 : v = 4095
          · subst c5
            simp
          · simp [c4, c5]
    · rw [if_neg c2, if_neg c2, if_neg c2]
      simp
  · rw [if_neg c, if_neg c, if_neg c]
    rcases h4 with h | h | h | h
    · exact absurd h c
    all_goals rw [h]; simp

end Go.Proofs.Ytfgdjljbdghdgaa.Pure
