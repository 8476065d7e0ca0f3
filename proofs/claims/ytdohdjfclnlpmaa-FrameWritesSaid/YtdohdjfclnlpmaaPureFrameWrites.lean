/- The plain law FrameWrites; no condition. -/
import Derived.OpenShut
import Derived.IntWalk
import Derived.Test.YtdohdjfclnlpmaaBits
import Derived.Test.YtdohdjfclnlpmaaPFramex15
namespace Go.Proofs.Ytdohdjfclnlpmaa.Pure
open Go.RowKit Go.Proofs.Ytdohdjfclnlpmaa.PFrame Go.Proofs.YtdohdjfclnlpmaaW.PrintWords Go.Proofs.YtdohdjfclnlpmaaW.PrintLast Go.Proofs.YtdohdjfclnlpmaaW.PrintMore
open Go.Proofs.Ytdohdjfclnlpmaa

set_option linter.unusedVariables false
set_option linter.unusedSimpArgs false

/-- An address's kind: 3 reserved, 2 broadcast, 1 group, 0 one station's. -/
def kindOf (m : Int) : Int := if m % 281474976710656 = 281474976710655 then 2 else if m % 281474976710656 / 16 = 103282638848 then 3 else m / 1099511627776 % 2

theorem and48 {m : Int} (h0 : 0 ≤ m) (h1 : m ≤ 18446744073709551615) : Go.bits .and .u64 m 281474976710655 = m % 281474976710656 := by
  rw [Bits.and64 0 48 m (by decide) (by decide) h0 h1 281474976710655 rfl]; simp

theorem ref_Bytes_eq {m : Int} (h0 : 0 ≤ m) (h1 : m ≤ 18446744073709551615) {k : Nat} (hk : 7 ≤ k) : patchbayref01_Bytes.f k m = some [m / 1099511627776 % 256, m / 4294967296 % 256, m / 16777216 % 256, m / 65536 % 256, m / 256 % 256, m % 256] := by
  obtain ⟨k, rfl⟩ : ∃ j, k = j + 7 := ⟨k - 7, by omega⟩
  have T : ∀ x : Int, 0 ≤ x → x ≤ 18446744073709551615 → IntKind.u64.wrap (Int.tdiv x 256) = x / 256 := by
    intro x a b; rw [Int.tdiv_eq_ediv_of_nonneg a, IntWalk.u64_in _ (by omega)]
  have M : ∀ x : Int, 0 ≤ x → Int.tmod x 256 % 256 = x % 256 := by
    intro x a; rw [Int.tmod_eq_emod_of_nonneg a, Int.emod_emod_of_dvd _ (by decide)]
  unfold patchbayref01_Bytes.f
  simp only [patchbayref01_Bytes.l0, Option.bind_some, List.length_cons, List.length_nil, List.cons_append, List.nil_append]
  have e1 : m / 256 / 256 = m / 65536 := by omega
  have e2 : m / 65536 / 256 = m / 16777216 := by omega
  have e3 : m / 16777216 / 256 = m / 4294967296 := by omega
  have e4 : m / 4294967296 / 256 = m / 1099511627776 := by omega
  rw [T m h0 h1, T (m / 256) (by omega) (by omega), e1, T (m / 65536) (by omega) (by omega), e2, T (m / 16777216) (by omega) (by omega), e3, T (m / 4294967296) (by omega) (by omega), e4]
  rw [M _ h0, M (m / 256) (by omega), M (m / 65536) (by omega), M (m / 16777216) (by omega), M (m / 4294967296) (by omega), M (m / 1099511627776) (by omega)]
  simp [wrap64]

theorem ref_Low_eq {m : Int} (h0 : 0 ≤ m) : patchbayref01_Low.f m = some (m % 281474976710656) := by
  unfold patchbayref01_Low.f; rw [Int.tmod_eq_emod_of_nonneg h0]

def bytes (l : List Int) : Prop := ∀ x ∈ l, 0 ≤ x ∧ x ≤ 255

theorem bytes_of {l : List Int} (h : ∀ x ∈ l, (Lit.int .u8 x).wf = true) : bytes l := fun x hx => bounds_u8 (h x hx)

theorem bytes_rd {l : List Int} (h : bytes l) (i : Int) : 0 ≤ rd l i ∧ rd l i ≤ 255 := by
  unfold rd
  rw [List.getD_eq_getElem?_getD]
  by_cases c : i.toNat < l.length
  · rw [List.getElem?_eq_getElem c, Option.getD_some]; exact h _ (List.getElem_mem c)
  · rw [List.getElem?_eq_none (by omega)]; decide

theorem bytes_take {l : List Int} (h : bytes l) (n : Nat) : bytes (l.take n) := fun x hx => h x (List.mem_of_mem_take hx)
theorem bytes_drop {l : List Int} (h : bytes l) (n : Nat) : bytes (l.drop n) := fun x hx => h x (List.mem_of_mem_drop hx)
theorem bytes_app {l m : List Int} (h : bytes l) (g : bytes m) : bytes (l ++ m) := fun x hx => by
  rcases List.mem_append.1 hx with hx | hx
  · exact h x hx
  · exact g x hx
theorem bytes_zeros (n : Nat) : bytes (List.replicate n 0) := fun x hx => by
  rw [(List.mem_replicate.1 hx).2]; decide

theorem rd_take {l : List Int} {n : Nat} {i : Int} (h0 : 0 ≤ i) (h : i < n) : rd (l.take n) i = rd l i := by
  unfold rd
  rw [List.getD_eq_getElem?_getD, List.getD_eq_getElem?_getD, List.getElem?_take_of_lt (by omega)]

theorem rd_drop {l : List Int} {n : Nat} {i : Int} (h0 : 0 ≤ i) : rd (l.drop n) i = rd l (n + i) := by
  unfold rd
  rw [List.getD_eq_getElem?_getD, List.getD_eq_getElem?_getD, List.getElem?_drop, show (↑n + i).toNat = n + i.toNat from by omega]

theorem rd_app_l {l m : List Int} {i : Int} (h0 : 0 ≤ i) (h : i < l.length) : rd (l ++ m) i = rd l i := by
  unfold rd
  rw [List.getD_eq_getElem?_getD, List.getD_eq_getElem?_getD, List.getElem?_append_left (by omega)]

theorem rd_app_r {l m : List Int} {i : Int} (h : (l.length : Int) ≤ i) : rd (l ++ m) i = rd m (i - l.length) := by
  unfold rd
  rw [List.getD_eq_getElem?_getD, List.getD_eq_getElem?_getD, List.getElem?_append_right (by omega), show i.toNat - l.length = (i - (l.length : Int)).toNat from by omega]

theorem or_step {x b : Int} (h0 : 0 ≤ x) (h1 : x < 1099511627776) (b0 : 0 ≤ b) (b1 : b ≤ 255) : Go.bits .or .u64 (IntKind.u64.wrap (x * 256)) (IntKind.u64.wrap b) = x * 256 + b := by
  rw [IntWalk.u64_in _ (by omega), IntWalk.u64_in _ (by omega), Bits.or64 8 _ b (by omega) (by omega) (by omega) (by omega) (by omega) (by omega)]

theorem add_step {x b : Int} (h0 : 0 ≤ x) (h1 : x < 1099511627776) (b0 : 0 ≤ b) (b1 : b ≤ 255) : IntKind.u64.wrap (IntKind.u64.wrap (x * 256) + IntKind.u64.wrap b) = x * 256 + b := by
  rw [IntWalk.u64_in (x * 256) (by omega), IntWalk.u64_in b (by omega), IntWalk.u64_in _ (by omega)]

/-- The first six bytes as a number. -/
def n6 (l : List Int) : Int := ((((rd l 0 * 256 + rd l 1) * 256 + rd l 2) * 256 + rd l 3) * 256 + rd l 4) * 256 + rd l 5

theorem n6_range {l : List Int} (hb : bytes l) : 0 ≤ n6 l ∧ n6 l ≤ 281474976710655 := by
  have h0 := bytes_rd hb 0; have h1 := bytes_rd hb 1; have h2 := bytes_rd hb 2; have h3 := bytes_rd hb 3; have h4 := bytes_rd hb 4; have h5 := bytes_rd hb 5
  unfold n6; omega

theorem mac_Of_eq {l : List Int} (hl : 6 ≤ l.length) (hb : bytes l) {k : Nat} (hk : 7 ≤ k) : mac_Of.f k l = some (n6 l, 0) := by
  obtain ⟨k, rfl⟩ : ∃ j, k = j + 7 := ⟨k - 7, by omega⟩
  unfold mac_Of.f
  rw [if_neg (by omega), if_pos (by omega)]
  have L : ((l.take 6).length : Int) = 6 := by rw [List.length_take]; omega
  have R : ∀ i : Int, 0 ≤ i → i < 6 → rd (l.take 6) i = rd l i := fun i a b => rd_take a (by omega)
  have B := bytes_take hb 6
  have step : ∀ (k : Nat) (x i j : Int), j = i + 1 → 0 ≤ x → x < 1099511627776 → 0 ≤ i → i < 6 → mac_Of.l0 (k + 1) x (l.take 6) 6 i = mac_Of.l0 k (x * 256 + rd l i) (l.take 6) 6 j := by
    intro k x i j ej x0 x1 i0 i1
    subst ej
    have hr := bytes_rd hb i
    simp only [mac_Of.l0]
    rw [if_pos i1, if_pos i0, if_pos (by omega), R i i0 i1, or_step x0 x1 hr.1 hr.2, show wrap64 (i + 1) = i + 1 from by unfold wrap64; omega]
  rw [L]
  have h0 := bytes_rd hb 0; have h1 := bytes_rd hb 1; have h2 := bytes_rd hb 2; have h3 := bytes_rd hb 3; have h4 := bytes_rd hb 4; have h5 := bytes_rd hb 5
  rw [step (k + 6) 0 0 1 rfl (by decide) (by decide) (by decide) (by decide), step (k + 5) _ 1 2 rfl (by omega) (by omega) (by decide) (by decide), step (k + 4) _ 2 3 rfl (by omega) (by omega) (by decide) (by decide), step (k + 3) _ 3 4 rfl (by omega) (by omega) (by decide) (by decide), step (k + 2) _ 4 5 rfl (by omega) (by omega) (by decide) (by decide), step (k + 1) _ 5 6 rfl (by omega) (by omega) (by decide) (by decide)]
  simp only [mac_Of.l0]
  rw [if_neg (by decide)]
  unfold n6
  congr 2; omega

theorem mac_Of_short {l : List Int} (hl : l.length < 6) (k : Nat) : mac_Of.f k l = some (0, 2) := by
  unfold mac_Of.f; rw [if_pos (by omega)]

theorem ref_Of6_eq {l : List Int} (hl : 6 ≤ l.length) (hb : bytes l) {k : Nat} (hk : 7 ≤ k) : patchbayref01_Of.f k l = some (n6 l) := by
  obtain ⟨k, rfl⟩ : ∃ j, k = j + 7 := ⟨k - 7, by omega⟩
  unfold patchbayref01_Of.f
  have step : ∀ (k : Nat) (x i j : Int), j = i + 1 → 0 ≤ x → x < 1099511627776 → 0 ≤ i → i < 6 → patchbayref01_Of.l0 (k + 1) l x i = patchbayref01_Of.l0 k l (x * 256 + rd l i) j := by
    intro k x i j ej x0 x1 i0 i1
    subst ej
    have hr := bytes_rd hb i
    simp only [patchbayref01_Of.l0]
    rw [if_pos i1, if_pos i0, if_pos (by omega), add_step x0 x1 hr.1 hr.2, show wrap64 (i + 1) = i + 1 from by unfold wrap64; omega]
  have h0 := bytes_rd hb 0; have h1 := bytes_rd hb 1; have h2 := bytes_rd hb 2; have h3 := bytes_rd hb 3; have h4 := bytes_rd hb 4; have h5 := bytes_rd hb 5
  rw [step (k + 6) 0 0 1 rfl (by decide) (by decide) (by decide) (by decide), step (k + 5) _ 1 2 rfl (by omega) (by omega) (by decide) (by decide), step (k + 4) _ 2 3 rfl (by omega) (by omega) (by decide) (by decide), step (k + 3) _ 3 4 rfl (by omega) (by omega) (by decide) (by decide), step (k + 2) _ 4 5 rfl (by omega) (by omega) (by decide) (by decide), step (k + 1) _ 5 6 rfl (by omega) (by omega) (by decide) (by decide)]
  simp only [patchbayref01_Of.l0]
  rw [if_neg (by decide)]
  unfold n6
  congr 1; omega

theorem same_self (l : List Int) (hn : l.length ≤ 140737488355328) (d : Nat) : ∀ (k : Nat) (i : Int), 0 ≤ i → i ≤ l.length → (l.length : Int) - i = d → d < k → patchbayref01_Same.l0 k l l i = some true := by
  induction d with
  | zero =>
    intro k i h0 h1 hd hk
    obtain ⟨k, rfl⟩ : ∃ m, k = m + 1 := ⟨k - 1, by omega⟩
    simp only [patchbayref01_Same.l0]; rw [if_neg (by omega)]
  | succ d ih =>
    intro k i h0 h1 hd hk
    obtain ⟨k, rfl⟩ : ∃ m, k = m + 1 := ⟨k - 1, by omega⟩
    simp only [patchbayref01_Same.l0]
    rw [if_pos (by omega), if_pos h0, if_pos (by omega), if_pos trivial, show wrap64 (i + 1) = i + 1 from by unfold wrap64; omega]
    exact ih k (i + 1) (by omega) (by omega) (by omega) (by omega)

theorem same_eq {l : List Int} (hn : l.length ≤ 140737488355328) {k : Nat} (hk : l.length < k) : patchbayref01_Same.f k l l = some true := by
  unfold patchbayref01_Same.f
  rw [if_pos rfl]
  exact same_self l hn l.length k 0 (by omega) (by omega) (by omega) hk

theorem u16_in {n : Int} (h0 : 0 ≤ n) (h1 : n ≤ 65535) : IntKind.u16.wrap n = n := IntWalk.u16_in n ⟨h0, h1⟩

theorem or16 (i : Nat) {x y : Int} (h0 : 0 ≤ x) (h1 : x ≤ 65535) (k0 : 0 ≤ y) (k1 : y ≤ 65535) (hx : x % ((2 ^ i : Nat) : Int) = 0) (hy : y < ((2 ^ i : Nat) : Int)) : Go.bits .or .u16 x y = x + y := by
  obtain ⟨n, rfl⟩ := Int.eq_ofNat_of_zero_le h0
  obtain ⟨m, rfl⟩ := Int.eq_ofNat_of_zero_le k0
  rw [u16_or_nat n m (by omega) (by omega), nat_join i n m (by omega) (by omega)]
  omega

theorem andNot16 {x : Int} (h0 : 0 ≤ x) (h1 : x ≤ 65535) : Go.bits .andNot .u16 x 4095 = x / 4096 * 4096 := by
  obtain ⟨n, rfl⟩ := Int.eq_ofNat_of_zero_le h0
  refine (u16_andNot_nat n 4095 (by omega) (by omega)).trans ?_
  rw [show 65535 - 4095 = 2 ^ 16 - 2 ^ 12 from rfl, Bits.mid 12 16 n (by decide)]
  omega

theorem and16 {x : Int} (h0 : 0 ≤ x) (h1 : x ≤ 65535) : Go.bits .and .u16 x 4095 = x % 4096 := by
  obtain ⟨n, rfl⟩ := Int.eq_ofNat_of_zero_le h0
  refine (u16_and_nat n 4095 (by omega) (by omega)).trans ?_
  rw [show 4095 = 2 ^ 12 - 2 ^ 0 from rfl, Bits.mid 0 12 n (by decide)]
  omega

theorem two_eq {l : List Int} (hl : 2 ≤ l.length) (hb : bytes l) : frame_two.f l = some (rd l 0 * 256 + rd l 1) := by
  have h0 := bytes_rd hb 0; have h1 := bytes_rd hb 1
  unfold frame_two.f
  rw [if_pos (by omega), if_pos (by omega), u16_in (n := rd l 0) (by omega) (by omega), u16_in (n := rd l 1) (by omega) (by omega), u16_in (by omega) (by omega), or16 8 (by omega) (by omega) (by omega) (by omega) (by omega) (by omega)]

theorem two_drop {l : List Int} (n : Nat) {m m' : Int} (hm : (n : Int) = m) (hm' : m' = m + 1) (hl : n + 2 ≤ l.length) (hb : bytes l) : frame_two.f (l.drop n) = some (rd l m * 256 + rd l m') := by
  subst hm; subst hm'
  rw [two_eq (by rw [List.length_drop]; omega) (bytes_drop hb n), rd_drop (by decide), rd_drop (by decide), Int.add_zero]

theorem ref_two_eq {l : List Int} {i : Int} (h0 : 0 ≤ i) (hi : i + 1 < l.length) (hn : l.length ≤ 140737488355328) (hb : bytes l) : patchbayref02_two.f l i = some (rd l i * 256 + rd l (i + 1)) := by
  have b0 := bytes_rd hb i; have b1 := bytes_rd hb (i + 1)
  unfold patchbayref02_two.f
  rw [show wrap64 (i + 1) = i + 1 from by unfold wrap64; omega, if_pos (by omega), if_pos (by omega), if_pos (by omega), if_pos (by omega), u16_in (n := rd l i) (by omega) (by omega), u16_in (n := rd l i * 256) (by omega) (by omega), u16_in (n := rd l (i + 1)) (by omega) (by omega), u16_in (by omega) (by omega)]

def tg (l : List Int) : Bool := rd l 12 == 129 && rd l 13 == 0
def atOf (l : List Int) : Nat := if tg l = true then 16 else 12
def tciOf (l : List Int) : Int := if tg l = true then rd l 14 * 256 + rd l 15 else 0
def typeOf (l : List Int) : Int := rd l (atOf l) * 256 + rd l (atOf l + 1)
def formOk (t n : Int) : Bool := decide (1536 ≤ t ∨ (t ≤ 1500 ∧ t ≤ n))

theorem tg_iff {l : List Int} (hb : bytes l) : rd l 12 * 256 + rd l 13 = 33024 ↔ tg l = true := by
  have b0 := bytes_rd hb 12; have b1 := bytes_rd hb 13
  unfold tg
  simp only [Bool.and_eq_true, beq_iff_eq]
  omega

theorem atOf_le (l : List Int) : 12 ≤ atOf l ∧ atOf l ≤ 16 := by unfold atOf; split <;> omega

theorem behind_eq {l : List Int} (hl : 16 ≤ l.length) (hb : bytes l) : frame_behind.f l = some ((atOf l : Int), tg l, tciOf l) := by
  unfold frame_behind.f
  rw [if_pos (by omega), two_drop 12 (m := 12) (m' := 13) rfl rfl (by omega) hb]
  simp only [Option.bind_some]
  have e := tg_iff hb
  by_cases c : tg l = true
  · rw [if_pos (e.2 c), if_pos (by omega), two_drop 14 (m := 14) (m' := 15) rfl rfl (by omega) hb]
    unfold atOf tciOf
    rw [if_pos c, if_pos c, c]
    rfl
  · rw [if_neg (fun h => c (e.1 h))]
    unfold atOf tciOf
    rw [if_neg c, if_neg c, show tg l = false from by simpa using c]
    rfl

theorem form_eq {t n : Int} (t0 : 0 ≤ t) (t1 : t ≤ 65535) : frame_form.f t n = some (formOk t n) := by
  unfold frame_form.f formOk
  rw [show wrap64 t = t from by unfold wrap64; omega]
  by_cases c : t ≥ 1536
  · rw [if_pos c, decide_eq_true (by omega)]
  · rw [if_neg c]
    by_cases d : t ≤ 1500
    · rw [if_pos d]; congr 1; exact decide_eq_decide.2 (by omega)
    · rw [if_neg d, decide_eq_false (by omega)]

theorem ref_form_eq {t n : Int} (t0 : 0 ≤ t) (t1 : t ≤ 65535) : patchbayref02_form.f t n = some (formOk t n) := by
  unfold patchbayref02_form.f formOk
  rw [show wrap64 t = t from by unfold wrap64; omega]
  by_cases c : t > 1535
  · rw [if_pos c, decide_eq_true (by omega)]
  · rw [if_neg c]
    by_cases d : t ≤ 1500
    · rw [if_pos d]; congr 1; exact decide_eq_decide.2 (by omega)
    · rw [if_neg d, decide_eq_false (by omega)]

theorem clone_eq {l : List Int} (hn : l.length < 140737488355328) : slices_Clone_byte_byte.f l = some l := by
  unfold slices_Clone_byte_byte.f
  simp only [Option.bind_some, List.length_nil, Nat.zero_add, List.nil_append]
  rw [if_pos hn]

/-- What bytes tell, and the error. -/
def parseOf (l : List Int) : Int × Int × Bool × Int × Int × List Int × Int :=
  if l.length < 60 then (0, 0, false, 0, 0, [], 2)
  else if l.length > atOf l + 1502 then (0, 0, false, 0, 0, [], 3)
  else if formOk (typeOf l) ((l.drop (atOf l + 2)).length : Int) = true then (n6 l, n6 (l.drop 6), tg l, tciOf l, typeOf l, l.drop (atOf l + 2), 0)
  else (0, 0, false, 0, 0, [], 4)

theorem type_range {l : List Int} (hb : bytes l) : 0 ≤ typeOf l ∧ typeOf l ≤ 65535 := by
  have b0 := bytes_rd hb (atOf l); have b1 := bytes_rd hb (atOf l + 1)
  unfold typeOf; omega

theorem tci_range {l : List Int} (hb : bytes l) : 0 ≤ tciOf l ∧ tciOf l ≤ 65535 := by
  have b0 := bytes_rd hb 14; have b1 := bytes_rd hb 15
  unfold tciOf; split <;> omega

theorem parse_eq {l : List Int} (hn : l.length < 140737488355328) (hb : bytes l) {k : Nat} (hk : 7 ≤ k) : frame_Parse.f k l = some (parseOf l) := by
  unfold frame_Parse.f parseOf
  have ha := atOf_le l
  by_cases c1 : l.length < 60
  · rw [if_pos (by omega), if_pos c1]
  · rw [if_neg (by omega), if_neg c1, behind_eq (by omega) hb]
    obtain ⟨q, hq⟩ : ∃ q : Int × Bool × Int, q = ((atOf l : Int), tg l, tciOf l) := ⟨_, rfl⟩
    have q1 : q.1 = (atOf l : Int) := by rw [hq]
    have q2 : q.2.1 = tg l := by rw [hq]
    have q3 : q.2.2 = tciOf l := by rw [hq]
    rw [← hq, Option.bind_some, q1, q2, q3]
    rw [show wrap64 ((atOf l : Int) + 2) = ((atOf l + 2 : Nat) : Int) from by unfold wrap64; omega, show wrap64 (((atOf l + 2 : Nat) : Int) + 1500) = ((atOf l + 1502 : Nat) : Int) from by unfold wrap64; omega]
    by_cases c2 : l.length > atOf l + 1502
    · rw [if_pos (by omega), if_pos c2]
    · rw [if_neg (by omega), if_neg c2, if_pos (by omega), if_pos (by omega), Int.toNat_natCast, two_drop (atOf l) rfl rfl (by omega) hb]
      rw [Option.bind_some]
      rw [if_pos (by omega), if_pos (by omega), Int.toNat_natCast, clone_eq (by rw [List.length_drop]; omega)]
      rw [Option.bind_some]
      have ht := type_range hb
      rw [show rd l (atOf l : Int) * 256 + rd l ((atOf l : Int) + 1) = typeOf l from rfl, form_eq ht.1 ht.2]
      rw [Option.bind_some]
      by_cases c3 : formOk (typeOf l) ((l.drop (atOf l + 2)).length : Int) = true
      · rw [if_pos c3, if_pos c3, mac_Of_eq (by omega) hb hk, mac_Of_eq (by rw [List.length_drop]; omega) (bytes_drop hb 6) hk]
        rw [Option.bind_some]
        rw [if_pos (by omega), Option.bind_some]
      · rw [if_neg c3, if_neg c3]

theorem ref_Tagged_eq {l : List Int} (hl : 14 ≤ l.length) : patchbayref02_Tagged.f l = some (tg l) := by
  unfold patchbayref02_Tagged.f tg
  rw [if_pos (by omega)]
  by_cases c : rd l 12 = 129
  · rw [if_pos c, if_pos (by omega), c]; rfl
  · rw [if_neg c]; simp [c]

/-- Noughts behind, up to 60. -/
def padOf (l : List Int) : List Int := l ++ List.replicate (60 - l.length) 0

theorem padOf_len (l : List Int) : (padOf l).length = max 60 l.length := by unfold padOf; rw [List.length_append, List.length_replicate]; omega

theorem padded_eq {l : List Int} (hn : l.length < 100000) : frame_padded.f l = some (padOf l) := by
  unfold frame_padded.f padOf
  have e : mx 0 (wrap64 (60 - (l.length : Int))) = ((60 - l.length : Nat) : Int) := by unfold mx wrap64; omega
  rw [e, if_pos (by omega), Int.toNat_natCast, if_pos (by omega)]

theorem pad_loop (d : Nat) : ∀ (k : Nat) (l : List Int), 60 - l.length = d → d < k → l.length < 100000 → patchbayref02_pad.l0 k l = some (padOf l) := by
  induction d with
  | zero =>
    intro k l hd hk hn
    obtain ⟨k, rfl⟩ : ∃ m, k = m + 1 := ⟨k - 1, by omega⟩
    simp only [patchbayref02_pad.l0]
    rw [if_neg (by omega)]
    unfold padOf
    rw [hd, List.replicate_zero, List.append_nil]
  | succ d ih =>
    intro k l hd hk hn
    obtain ⟨k, rfl⟩ : ∃ m, k = m + 1 := ⟨k - 1, by omega⟩
    simp only [patchbayref02_pad.l0]
    rw [if_pos (by omega), if_pos (by omega), ih k (l ++ [0]) (by rw [List.length_append]; simp; omega) (by omega) (by rw [List.length_append]; simp; omega)]
    unfold padOf
    rw [List.append_assoc, List.length_append, show ([0] : List Int) ++ List.replicate (60 - (l.length + [(0 : Int)].length)) 0 = List.replicate (60 - l.length) 0 from by
      rw [show 60 - l.length = (60 - (l.length + [(0 : Int)].length)) + 1 from by simp; omega, List.replicate_succ]; rfl]

theorem ref_pad_eq {l : List Int} (hn : l.length < 100000) {k : Nat} (hk : 61 ≤ k) : patchbayref02_pad.f k l = some (padOf l) := by
  unfold patchbayref02_pad.f; exact pad_loop (60 - l.length) k l rfl (by omega) hn

theorem put_eq {l : List Int} {n : Int} (hn : l.length < 100000) (h0 : 0 ≤ n) (h1 : n ≤ 65535) : frame_put.f l n = some (l ++ [n / 256, n % 256]) := by
  unfold frame_put.f
  simp only [Option.bind_some, List.length_cons, List.length_nil]
  rw [if_pos (by omega), show n / 256 % 256 = n / 256 from by omega]

theorem ref_bytes2_eq {n : Int} (h0 : 0 ≤ n) (h1 : n ≤ 65535) : patchbayref02_bytes.f n = some [n / 256, n % 256] := by
  unfold patchbayref02_bytes.f
  rw [Int.tdiv_eq_ediv_of_nonneg h0, Int.tmod_eq_emod_of_nonneg h0, u16_in (by omega) (by omega), show n / 256 % 256 = n / 256 from by omega, Int.emod_emod_of_dvd _ (by decide)]

def tagOf (l : List Int) (tagged : Bool) (vid : Int) : List Int := if tagged = true then [129, 0, (tciOf l / 4096 * 4096 + vid) / 256, (tciOf l / 4096 * 4096 + vid) % 256] else []

/-- A frame's bytes with another tag, or without; and the error. -/
def outOf (l : List Int) (tagged : Bool) (vid : Int) : List Int × Int :=
  if (parseOf l).2.2.2.2.2.2 = 0 then (if tagged = true ∧ (vid < 1 ∨ vid > 4094) then ([], 6) else (padOf (l.take 12 ++ tagOf l tagged vid ++ l.drop (atOf l)), 0))
  else ([], (parseOf l).2.2.2.2.2.2)

theorem outOf_len (l : List Int) (tagged : Bool) (vid : Int) : (outOf l tagged vid).1.length ≤ max 60 (l.length + 16) := by
  have ha := atOf_le l
  unfold outOf
  split
  · split
    · simp
    · simp only
      rw [padOf_len, List.length_append, List.length_append, List.length_take, List.length_drop]
      unfold tagOf
      split <;> simp <;> omega
  · simp

theorem parse_len {l : List Int} (h : (parseOf l).2.2.2.2.2.2 = 0) : 60 ≤ l.length ∧ l.length ≤ atOf l + 1502 ∧ formOk (typeOf l) ((l.drop (atOf l + 2)).length : Int) = true := by
  unfold parseOf at h
  by_cases c1 : l.length < 60
  · rw [if_pos c1] at h; cases h
  · rw [if_neg c1] at h
    by_cases c2 : l.length > atOf l + 1502
    · rw [if_pos c2] at h; cases h
    · rw [if_neg c2] at h
      by_cases c3 : formOk (typeOf l) ((l.drop (atOf l + 2)).length : Int) = true
      · exact ⟨by omega, by omega, c3⟩
      · rw [if_neg c3] at h; cases h

theorem parse_ok {l : List Int} (h0 : 60 ≤ l.length) (h1 : l.length ≤ atOf l + 1502) (h2 : formOk (typeOf l) ((l.drop (atOf l + 2)).length : Int) = true) : parseOf l = (n6 l, n6 (l.drop 6), tg l, tciOf l, typeOf l, l.drop (atOf l + 2), 0) := by
  unfold parseOf
  rw [if_neg (by omega), if_neg (by omega), if_pos h2]

theorem out_eq {l : List Int} {tagged : Bool} {vid : Int} (hn : l.length < 99000) (hb : bytes l) (hv : -9223372036854775808 ≤ vid ∧ vid ≤ 9223372036854775807) {k : Nat} (hk : 8 ≤ k) : frame_Out.f k l tagged vid = some (outOf l tagged vid) := by
  obtain ⟨k, rfl⟩ : ∃ j, k = j + 1 := ⟨k - 1, by omega⟩
  unfold frame_Out.f outOf
  rw [parse_eq (by omega) hb (by omega)]
  simp only [Option.bind_some]
  by_cases c : (parseOf l).2.2.2.2.2.2 = 0
  · rw [if_pos c, if_pos c]
    obtain ⟨p0, p1, _⟩ := parse_len c
    have ha := atOf_le l
    have htc := tci_range hb
    have J : (tagged = true → 1 ≤ vid ∧ vid ≤ 4094) → frame_Out.j0 (k + 1) l tagged vid false = some (padOf (l.take 12 ++ tagOf l tagged vid ++ l.drop (atOf l)), 0) := by
      intro hvv
      simp only [frame_Out.j0]
      rw [if_neg (by decide), behind_eq (by omega) hb]
      simp only [Option.bind_some]
      rw [if_pos (by omega), clone_eq (by rw [List.length_take]; omega)]
      simp only [Option.bind_some, Int.toNat_natCast]
      unfold tagOf
      cases tagged
      · rw [if_neg (c := (false = true)) (by decide), if_neg (c := (false = true)) (by decide), if_pos (by omega), if_pos (by omega), if_pos (by rw [List.length_take, List.length_drop]; omega), List.append_nil, padded_eq (by rw [List.length_append, List.length_take, List.length_drop]; omega)]
        rfl
      · obtain ⟨v0, v1⟩ := hvv rfl
        have et : Go.bits .or .u16 (Go.bits .andNot .u16 (tciOf l) 4095) (IntKind.u16.wrap vid) = tciOf l / 4096 * 4096 + vid := by
          rw [andNot16 htc.1 htc.2, u16_in (by omega) (by omega), or16 12 (by omega) (by omega) (by omega) (by omega) (by omega) (by omega)]
        rw [if_pos (c := (true = true)) rfl, if_pos (c := (true = true)) rfl, et, put_eq (by rw [List.length_take]; omega) (by decide) (by decide)]
        simp only [Option.bind_some]
        rw [put_eq (by rw [List.length_append, List.length_take]; simp; omega) (by omega) (by omega)]
        simp only [Option.bind_some]
        rw [if_pos (by omega), if_pos (by omega), if_pos (by simp only [List.length_append, List.length_take, List.length_drop, List.length_cons, List.length_nil]; omega), padded_eq (by simp only [List.length_append, List.length_take, List.length_drop, List.length_cons, List.length_nil]; omega)]
        simp
    by_cases ht : tagged = true
    · rw [if_pos ht]
      by_cases h1 : vid < 1
      · rw [if_pos h1, if_pos ⟨ht, .inl h1⟩]
        simp only [frame_Out.j0]; rfl
      · rw [if_neg h1]
        by_cases h2 : vid > 4094
        · rw [if_pos ⟨ht, .inr h2⟩, decide_eq_true h2]
          simp only [frame_Out.j0]; rfl
        · rw [if_neg (by omega), decide_eq_false h2]
          exact J (fun _ => ⟨by omega, by omega⟩)
    · rw [if_neg ht, if_neg (fun x => ht x.1)]
      exact J (fun x => absurd x ht)
  · rw [if_neg c, if_neg c]

theorem told2 : patchbaylaw02_told.f 2000 = some true := by decide +kernel

theorem told_up : ∀ d, patchbaylaw02_told.f (2000 + d) = some true
  | 0 => told2
  | d + 1 => patchbaylaw02_told.mono (2000 + d) _ (told_up d)

theorem told_mono {k : Nat} (hk : 2000 ≤ k) : patchbaylaw02_told.f k = some true := by
  obtain ⟨d, rfl⟩ := Nat.exists_eq_add_of_le hk
  exact told_up d

/-- An address's six bytes. -/
def b6 (m : Int) : List Int := [m / 1099511627776 % 256, m / 4294967296 % 256, m / 16777216 % 256, m / 65536 % 256, m / 256 % 256, m % 256]

theorem b6_len (m : Int) : (b6 m).length = 6 := rfl

theorem mac_Bytes_eq {m : Int} (h0 : 0 ≤ m) (h1 : m ≤ 18446744073709551615) {k : Nat} (hk : 7 ≤ k) : mac_Bytes.f k m = some (b6 m) := by
  obtain ⟨j, rfl⟩ : ∃ j, k = j + 7 := ⟨k - 7, by omega⟩
  unfold mac_Bytes.f
  simp [mac_Bytes.l0, wrap64, shr, b6, List.replicate]
  exact ⟨rfl, rfl, rfl, rfl, rfl⟩

theorem ref_Bytes_b6 {m : Int} (h0 : 0 ≤ m) (h1 : m ≤ 18446744073709551615) {k : Nat} (hk : 7 ≤ k) : patchbayref01_Bytes.f k m = some (b6 m) := ref_Bytes_eq h0 h1 hk

theorem b6_n6 {l : List Int} (hl : 6 ≤ l.length) (hb : bytes l) : b6 (n6 l) = l.take 6 := by
  match l, hl with
  | a :: b :: c :: d :: e :: f :: r, _ =>
    have h0 := hb a (by simp); have h1 := hb b (by simp); have h2 := hb c (by simp); have h3 := hb d (by simp); have h4 := hb e (by simp); have h5 := hb f (by simp)
    have hn : n6 (a :: b :: c :: d :: e :: f :: r) = ((((a * 256 + b) * 256 + c) * 256 + d) * 256 + e) * 256 + f := rfl
    unfold b6
    rw [hn]
    simp only [List.take_succ_cons, List.take_zero, List.cons.injEq, and_true]
    omega

/-- A frame's bytes ahead of its load. -/
def headOf (d s : Int) (tagged : Bool) (tci ty : Int) : List Int := b6 d ++ b6 s ++ (if tagged = true then [129, 0, tci / 256, tci % 256] else []) ++ [ty / 256, ty % 256]

theorem headOf_len (d s : Int) (tagged : Bool) (tci ty : Int) : (headOf d s tagged tci ty).length = if tagged = true then 18 else 14 := by
  cases tagged <;> simp [headOf, b6]

def wbad (d s : Int) (tagged : Bool) (tci ty : Int) : Prop := 281474976710655 < d ∨ 281474976710655 < s ∨ (tagged = false ∧ (tci ≠ 0 ∨ ty = 33024))

/-- A frame's bytes, and the error. -/
def writeOf (d s : Int) (tagged : Bool) (tci ty : Int) (load : List Int) : List Int × Int :=
  if 1500 < load.length then ([], 3) else if formOk ty (load.length : Int) = true then (padOf (headOf d s tagged tci ty ++ load), 0) else ([], 4)

theorem write_j {d s tci ty : Int} {tagged : Bool} {load : List Int} (d0 : 0 ≤ d) (d1 : d ≤ 18446744073709551615) (s0 : 0 ≤ s) (s1 : s ≤ 18446744073709551615) (c0 : 0 ≤ tci) (c1 : tci ≤ 65535) (t0 : 0 ≤ ty) (t1 : ty ≤ 65535) (hl : load.length ≤ 1600) {k : Nat} (hk : 8 ≤ k) : frame_Write.j0 k false d s tagged tci ty load = some (writeOf d s tagged tci ty load) := by
  obtain ⟨k, rfl⟩ : ∃ j, k = j + 1 := ⟨k - 1, by omega⟩
  unfold writeOf
  simp only [frame_Write.j0]
  rw [if_neg (by decide)]
  by_cases h1 : 1500 < load.length
  · rw [if_pos (by omega), if_pos h1]
  · rw [if_neg (by omega), if_neg h1, form_eq t0 t1, Option.bind_some]
    by_cases h2 : formOk ty (load.length : Int) = true
    · have L12 : (b6 d ++ b6 s).length = 12 := rfl
      rw [if_pos h2, if_pos h2, mac_Bytes_eq d0 d1 (by omega), Option.bind_some, mac_Bytes_eq s0 s1 (by omega), Option.bind_some, if_pos (by rw [b6_len, b6_len]; omega), Option.bind_some]
      cases tagged
      · rw [if_neg (by decide), put_eq (by omega) t0 t1, Option.bind_some, if_pos (by rw [List.length_append, L12]; simp; omega), padded_eq (by rw [List.length_append, List.length_append, L12]; simp; omega), Option.bind_some]
        simp [headOf]
      · rw [if_pos rfl, put_eq (by omega) (by decide) (by decide), Option.bind_some, put_eq (by rw [List.length_append, L12]; simp) c0 c1, Option.bind_some, put_eq (by rw [List.length_append, List.length_append, L12]; simp) t0 t1, Option.bind_some, if_pos (by rw [List.length_append, List.length_append, List.length_append, L12]; simp; omega), padded_eq (by rw [List.length_append, List.length_append, List.length_append, List.length_append, L12]; simp; omega), Option.bind_some]
        simp [headOf]
    · rw [if_neg h2, if_neg h2]

theorem ref_write_j {d s tci ty : Int} {tagged : Bool} {load : List Int} (d0 : 0 ≤ d) (d1 : d ≤ 18446744073709551615) (s0 : 0 ≤ s) (s1 : s ≤ 18446744073709551615) (c0 : 0 ≤ tci) (c1 : tci ≤ 65535) (t0 : 0 ≤ ty) (t1 : ty ≤ 65535) (hl : load.length ≤ 1600) {k : Nat} (hk : 62 ≤ k) : patchbayref02_Write.j0 k false d s tagged tci ty load = some (writeOf d s tagged tci ty load) := by
  obtain ⟨k, rfl⟩ : ∃ j, k = j + 1 := ⟨k - 1, by omega⟩
  unfold writeOf
  simp only [patchbayref02_Write.j0]
  rw [if_neg (by decide)]
  by_cases h1 : 1500 < load.length
  · rw [if_pos (by omega), if_pos h1]
  · rw [if_neg (by omega), if_neg h1, ref_form_eq t0 t1, Option.bind_some]
    by_cases h2 : formOk ty (load.length : Int) = true
    · have L12 : (b6 d ++ b6 s).length = 12 := rfl
      rw [if_pos h2, if_pos h2, ref_Bytes_b6 d0 d1 (by omega), Option.bind_some, ref_Bytes_b6 s0 s1 (by omega), Option.bind_some, if_pos (by rw [b6_len, b6_len]; omega), Option.bind_some]
      cases tagged
      · rw [if_neg (by decide), ref_bytes2_eq t0 t1, Option.bind_some, if_pos (by rw [L12]; simp), Option.bind_some, if_pos (by rw [List.length_append, L12]; simp; omega), ref_pad_eq (by rw [List.length_append, List.length_append, L12]; simp; omega) (by omega), Option.bind_some]
        simp [headOf]
      · rw [if_pos rfl, Option.bind_some, if_pos (by rw [L12]; simp), Option.bind_some, ref_bytes2_eq c0 c1, Option.bind_some, if_pos (by rw [List.length_append, L12]; simp), Option.bind_some, ref_bytes2_eq t0 t1, Option.bind_some, if_pos (by rw [List.length_append, List.length_append, L12]; simp), Option.bind_some, if_pos (by rw [List.length_append, List.length_append, List.length_append, L12]; simp; omega), ref_pad_eq (by rw [List.length_append, List.length_append, List.length_append, List.length_append, L12]; simp; omega) (by omega), Option.bind_some]
        simp [headOf]
    · rw [if_neg h2, if_neg h2]

theorem write_bad {d s tci ty : Int} {tagged : Bool} {load : List Int} (h : wbad d s tagged tci ty) {k : Nat} (hk : 8 ≤ k) : frame_Write.f k d s tagged tci ty load = some ([], 1) := by
  obtain ⟨k, rfl⟩ : ∃ j, k = j + 1 := ⟨k - 1, by omega⟩
  unfold frame_Write.f mac_Right.f
  have J : frame_Write.j0 (k + 1) true d s tagged tci ty load = some ([], 1) := by simp only [frame_Write.j0]; rfl
  rw [Option.bind_some, Option.bind_some]
  by_cases c1 : d ≤ 281474976710655
  · rw [decide_eq_true c1, if_pos rfl]
    by_cases c2 : s ≤ 281474976710655
    · rw [decide_eq_true c2, if_pos rfl]
      rcases h with h | h | ⟨rfl, h⟩
      · omega
      · omega
      · rw [if_neg (by decide)]
        by_cases c3 : tci = 0
        · rw [if_pos c3, show (ty == 33024) = true from beq_iff_eq.mpr (h.resolve_left (fun h => h c3)), J]
        · rw [if_neg c3, J]
    · rw [decide_eq_false c2, if_neg (by decide)]; exact J
  · rw [decide_eq_false c1, if_neg (by decide)]; exact J

theorem write_good {d s tci ty : Int} {tagged : Bool} {load : List Int} (h : ¬ wbad d s tagged tci ty) (d0 : 0 ≤ d) (s0 : 0 ≤ s) (c0 : 0 ≤ tci) (c1 : tci ≤ 65535) (t0 : 0 ≤ ty) (t1 : ty ≤ 65535) (hl : load.length ≤ 1600) {k : Nat} (hk : 8 ≤ k) : frame_Write.f k d s tagged tci ty load = some (writeOf d s tagged tci ty load) := by
  unfold wbad at h
  unfold frame_Write.f mac_Right.f
  have hd : d ≤ 281474976710655 := by omega
  have hs : s ≤ 281474976710655 := by omega
  have J := write_j (tagged := tagged) d0 (by omega) s0 (by omega) c0 c1 t0 t1 hl hk
  rw [Option.bind_some, Option.bind_some, decide_eq_true hd, if_pos rfl, decide_eq_true hs, if_pos rfl]
  cases tagged
  · have e1 : tci = 0 := Decidable.byContradiction fun e => h (.inr (.inr ⟨rfl, .inl e⟩))
    have e2 : ty ≠ 33024 := fun e => h (.inr (.inr ⟨rfl, .inr e⟩))
    rw [if_neg (by decide), if_pos e1, show (ty == 33024) = false from beq_eq_false_iff_ne.mpr e2, J]
  · rw [if_pos rfl, J]

theorem ref_write_bad {d s tci ty : Int} {tagged : Bool} {load : List Int} (h : wbad d s tagged tci ty) (d0 : 0 ≤ d) (s0 : 0 ≤ s) {k : Nat} (hk : 62 ≤ k) : patchbayref02_Write.f k d s tagged tci ty load = some ([], 1) := by
  obtain ⟨k, rfl⟩ : ∃ j, k = j + 1 := ⟨k - 1, by omega⟩
  unfold patchbayref02_Write.f
  have J : patchbayref02_Write.j0 (k + 1) true d s tagged tci ty load = some ([], 1) := by simp only [patchbayref02_Write.j0]; rfl
  rw [ref_Low_eq d0, Option.bind_some, ref_Low_eq s0, Option.bind_some]
  by_cases c1 : d = d % 281474976710656
  · rw [if_pos c1]
    by_cases c2 : s = s % 281474976710656
    · rw [if_pos c2]
      rcases h with h | h | ⟨rfl, h⟩
      · omega
      · omega
      · rw [if_neg (by decide)]
        by_cases c3 : tci = 0
        · rw [if_pos c3, show (ty == 33024) = true from beq_iff_eq.mpr (h.resolve_left (fun h => h c3)), J]
        · rw [if_neg c3, J]
    · rw [if_neg c2, J]
  · rw [if_neg c1, J]

theorem ref_write_good {d s tci ty : Int} {tagged : Bool} {load : List Int} (h : ¬ wbad d s tagged tci ty) (d0 : 0 ≤ d) (s0 : 0 ≤ s) (c0 : 0 ≤ tci) (c1 : tci ≤ 65535) (t0 : 0 ≤ ty) (t1 : ty ≤ 65535) (hl : load.length ≤ 1600) {k : Nat} (hk : 62 ≤ k) : patchbayref02_Write.f k d s tagged tci ty load = some (writeOf d s tagged tci ty load) := by
  unfold wbad at h
  unfold patchbayref02_Write.f
  have hd : d ≤ 281474976710655 := by omega
  have hs : s ≤ 281474976710655 := by omega
  have J := ref_write_j (tagged := tagged) d0 (by omega) s0 (by omega) c0 c1 t0 t1 hl hk
  rw [ref_Low_eq d0, Option.bind_some, ref_Low_eq s0, Option.bind_some, if_pos (by omega), if_pos (by omega)]
  cases tagged
  · have e1 : tci = 0 := Decidable.byContradiction fun e => h (.inr (.inr ⟨rfl, .inl e⟩))
    have e2 : ty ≠ 33024 := fun e => h (.inr (.inr ⟨rfl, .inr e⟩))
    rw [if_neg (by decide), if_pos e1, show (ty == 33024) = false from beq_eq_false_iff_ne.mpr e2, J]
  · rw [if_pos rfl, J]

theorem writeOf_len (d s : Int) (tagged : Bool) (tci ty : Int) (load : List Int) : (writeOf d s tagged tci ty load).1.length ≤ max 60 (18 + load.length) := by
  have hh := headOf_len d s tagged tci ty
  unfold writeOf
  split
  · simp
  · split
    · simp only
      rw [padOf_len, List.length_append, hh]
      split <;> omega
    · simp

theorem form_more {t n m : Int} (h : formOk t n = true) (hm : n ≤ m) : formOk t m = true := by
  unfold formOk at h ⊢
  have := of_decide_eq_true h
  exact decide_eq_true (by omega)

/-- What was written is parsed: the same frame, but for noughts behind. -/
theorem parse_write {d s tci ty : Int} {tagged : Bool} {load : List Int} (h : ¬ wbad d s tagged tci ty) (d0 : 0 ≤ d) (s0 : 0 ≤ s) (c0 : 0 ≤ tci) (c1 : tci ≤ 65535) (t0 : 0 ≤ ty) (t1 : ty ≤ 65535) (hl : load.length ≤ 1500) (hf : formOk ty (load.length : Int) = true) :
    parseOf (padOf (headOf d s tagged tci ty ++ load)) = (d, s, tagged, tci, ty, load ++ List.replicate (60 - ((if tagged = true then 18 else 14) + load.length)) 0, 0) := by
  unfold wbad at h
  have hd : d ≤ 281474976710655 := by omega
  have hs : s ≤ 281474976710655 := by omega
  obtain ⟨tl, htl⟩ : ∃ tl, load ++ List.replicate (60 - ((if tagged = true then 18 else 14) + load.length)) 0 = tl := ⟨_, rfl⟩
  have hlen : load.length ≤ tl.length ∧ 60 ≤ (if tagged = true then 18 else 14) + tl.length ∧ tl.length ≤ 1500 := by
    rw [← htl, List.length_append, List.length_replicate]
    split <;> omega
  have e : padOf (headOf d s tagged tci ty ++ load) = headOf d s tagged tci ty ++ tl := by
    unfold padOf
    rw [List.length_append, headOf_len, List.append_assoc, htl]
  rw [e, htl]
  clear e htl
  cases tagged
  · have e1 : tci = 0 := Decidable.byContradiction fun e => h (.inr (.inr ⟨rfl, .inl e⟩))
    have e2 : ty ≠ 33024 := fun e => h (.inr (.inr ⟨rfl, .inr e⟩))
    obtain ⟨L, hL⟩ : ∃ L, headOf d s false tci ty ++ tl = L := ⟨_, rfl⟩
    have hl2 : L.length = 14 + tl.length := by rw [← hL, List.length_append, headOf_len]; rfl
    have r12 : rd L 12 = ty / 256 := by rw [← hL]; rfl
    have r13 : rd L 13 = ty % 256 := by rw [← hL]; rfl
    have ht : tg L = false := by
      unfold tg
      rw [r12, r13]
      by_cases a : ty / 256 = 129
      · rw [show (ty % 256 == 0) = false from beq_eq_false_iff_ne.mpr (by omega), Bool.and_false]
      · rw [show (ty / 256 == 129) = false from beq_eq_false_iff_ne.mpr a, Bool.false_and]
    have ha : atOf L = 12 := by unfold atOf; rw [ht]; rfl
    have hty : typeOf L = ty := by unfold typeOf; rw [ha, show ((12 : Nat) : Int) = 12 from rfl, r12, show (12 : Int) + 1 = 13 from rfl, r13]; omega
    have hdr : L.drop 14 = tl := by rw [← hL]; rfl
    rw [hL, parse_ok (by simp at hlen; omega) (by rw [ha]; omega) (by rw [ha, hdr, hty]; exact form_more hf (by omega)), ht, ha, hty, hdr]
    have hn1 : n6 L = d := by rw [← hL]; show ((((d / 1099511627776 % 256 * 256 + d / 4294967296 % 256) * 256 + d / 16777216 % 256) * 256 + d / 65536 % 256) * 256 + d / 256 % 256) * 256 + d % 256 = d; omega
    have hn2 : n6 (L.drop 6) = s := by rw [← hL]; show ((((s / 1099511627776 % 256 * 256 + s / 4294967296 % 256) * 256 + s / 16777216 % 256) * 256 + s / 65536 % 256) * 256 + s / 256 % 256) * 256 + s % 256 = s; omega
    rw [hn1, hn2, show tciOf L = tci from by unfold tciOf; rw [ht, e1]; rfl]
  · obtain ⟨L, hL⟩ : ∃ L, headOf d s true tci ty ++ tl = L := ⟨_, rfl⟩
    have hl2 : L.length = 18 + tl.length := by rw [← hL, List.length_append, headOf_len]; rfl
    have r14 : rd L 14 = tci / 256 := by rw [← hL]; rfl
    have r15 : rd L 15 = tci % 256 := by rw [← hL]; rfl
    have r16 : rd L 16 = ty / 256 := by rw [← hL]; rfl
    have r17 : rd L 17 = ty % 256 := by rw [← hL]; rfl
    have ht : tg L = true := by rw [← hL]; rfl
    have ha : atOf L = 16 := by unfold atOf; rw [ht]; rfl
    have hty : typeOf L = ty := by unfold typeOf; rw [ha, show ((16 : Nat) : Int) = 16 from rfl, r16, show (16 : Int) + 1 = 17 from rfl, r17]; omega
    have hdr : L.drop 18 = tl := by rw [← hL]; rfl
    rw [hL, parse_ok (by simp at hlen; omega) (by rw [ha]; omega) (by rw [ha, hdr, hty]; exact form_more hf (by omega)), ht, ha, hty, hdr]
    have hn1 : n6 L = d := by rw [← hL]; show ((((d / 1099511627776 % 256 * 256 + d / 4294967296 % 256) * 256 + d / 16777216 % 256) * 256 + d / 65536 % 256) * 256 + d / 256 % 256) * 256 + d % 256 = d; omega
    have hn2 : n6 (L.drop 6) = s := by rw [← hL]; show ((((s / 1099511627776 % 256 * 256 + s / 4294967296 % 256) * 256 + s / 16777216 % 256) * 256 + s / 65536 % 256) * 256 + s / 256 % 256) * 256 + s % 256 = s; omega
    rw [hn1, hn2, show tciOf L = tci from by unfold tciOf; rw [ht, if_pos rfl, r14, r15]; omega]

theorem fsame_loop (d s : Int) (tg' : Bool) (tci ty : Int) (la : List Int) (z : Nat) (padded : Bool) (hp : padded = true ∨ z = 0) (hn : la.length + z ≤ 100000) (n : Nat) : ∀ (k i : Nat), i ≤ la.length + z → la.length + z - i = n → n < k → patchbaylaw02_same.l0 k padded (i : Int) d s tg' tci ty la d s tg' tci ty (la ++ List.replicate z 0) = some true := by
  have hlb : (la ++ List.replicate z (0 : Int)).length = la.length + z := by rw [List.length_append, List.length_replicate]
  induction n with
  | zero =>
    intro k i hi hd hk
    obtain ⟨k, rfl⟩ : ∃ m, k = m + 1 := ⟨k - 1, by omega⟩
    simp only [patchbaylaw02_same.l0]
    rw [if_neg (by omega)]
  | succ n ih =>
    intro k i hi hd hk
    obtain ⟨k, rfl⟩ : ∃ m, k = m + 1 := ⟨k - 1, by omega⟩
    have e1 : wrap64 ((i : Int) + 1) = ((i + 1 : Nat) : Int) := by unfold wrap64; omega
    have next := ih k (i + 1) (by omega) (by omega) (by omega)
    simp only [patchbaylaw02_same.l0]
    rw [if_pos (by omega), e1]
    by_cases c : i < la.length
    · rw [if_pos (by omega), if_pos (by omega), rd_app_l (by omega) (by omega), if_pos rfl, if_neg (by omega)]
      exact next
    · rw [if_neg (by omega), if_pos (by omega), if_pos (hp.resolve_right (by omega)), if_pos (by omega), rd_app_r (by omega), show rd (List.replicate z (0 : Int)) ((i : Int) - (la.length : Int)) = 0 from by
        unfold rd
        rw [List.getD_eq_getElem?_getD, List.getElem?_replicate]
        split <;> rfl, if_pos rfl]
      exact next

theorem fsame_eq (d s : Int) (tg' : Bool) (tci ty : Int) (la : List Int) (z : Nat) (padded : Bool) (hp : padded = true ∨ z = 0) (hn : la.length + z ≤ 100000) {k : Nat} (hk : la.length + z + 1 < k) : patchbaylaw02_same.f k d s tg' tci ty la d s tg' tci ty (la ++ List.replicate z 0) padded = some true := by
  obtain ⟨k, rfl⟩ : ∃ m, k = m + 1 := ⟨k - 1, by omega⟩
  have hlb : (la ++ List.replicate z (0 : Int)).length = la.length + z := by rw [List.length_append, List.length_replicate]
  unfold patchbaylaw02_same.f
  rw [if_pos rfl, if_pos rfl, if_neg (by simp), if_pos rfl, if_pos rfl, show decide (((la ++ List.replicate z (0 : Int)).length : Int) < (la.length : Int)) = false from decide_eq_false (by omega)]
  simp only [patchbaylaw02_same.j0]
  rw [if_neg (by decide)]
  exact fsame_loop d s tg' tci ty la z padded hp hn (la.length + z) k 0 (by omega) (by omega) (by omega)

/-- What was parsed is written by just these bytes. -/
theorem write_parse {l : List Int} (hb : bytes l) (p : (parseOf l).2.2.2.2.2.2 = 0) : ¬ wbad (n6 l) (n6 (l.drop 6)) (tg l) (tciOf l) (typeOf l) ∧ writeOf (n6 l) (n6 (l.drop 6)) (tg l) (tciOf l) (typeOf l) (l.drop (atOf l + 2)) = (l, 0) := by
  obtain ⟨p0, p1, p2⟩ := parse_len p
  have b1 := n6_range hb
  have b2 := n6_range (bytes_drop hb 6)
  have ha := atOf_le l
  refine ⟨?_, ?_⟩
  · unfold wbad
    intro h
    rcases h with h | h | ⟨h1, h⟩
    · omega
    · omega
    · have ha2 : atOf l = 12 := by unfold atOf; rw [h1]; rfl
      rcases h with h | h
      · exact h (by unfold tciOf; rw [h1]; rfl)
      · have := (tg_iff hb).1 (by unfold typeOf at h; rw [ha2] at h; exact h)
        rw [h1] at this
        cases this
  · unfold writeOf
    have hdl : (l.drop (atOf l + 2)).length = l.length - (atOf l + 2) := List.length_drop
    rw [if_neg (by omega), if_pos p2]
    have hh : headOf (n6 l) (n6 (l.drop 6)) (tg l) (tciOf l) (typeOf l) = l.take (atOf l + 2) := by
      unfold headOf
      rw [b6_n6 (by omega) hb, b6_n6 (by rw [List.length_drop]; omega) (bytes_drop hb 6)]
      have q12 := bytes_rd hb 12; have q13 := bytes_rd hb 13; have q14 := bytes_rd hb 14; have q15 := bytes_rd hb 15; have q16 := bytes_rd hb 16; have q17 := bytes_rd hb 17
      have e0 : l.take 6 ++ (l.drop 6).take 6 = l.take 12 := by
        rw [show (12 : Nat) = 6 + 6 from rfl, List.take_add]
      have step : ∀ n : Nat, n < l.length → l.take (n + 1) = l.take n ++ [rd l (n : Int)] := by
        intro n hn
        rw [List.take_add_one, List.getElem?_eq_getElem hn]
        unfold rd
        rw [Int.toNat_natCast, List.getD_eq_getElem?_getD, List.getElem?_eq_getElem hn]
        rfl
      rw [e0]
      by_cases c : tg l = true
      · have ha2 : atOf l = 16 := by unfold atOf; rw [if_pos c]
        have g12 : rd l 12 = 129 ∧ rd l 13 = 0 := by
          unfold tg at c
          simpa using c
        have ht : tciOf l = rd l 14 * 256 + rd l 15 := by unfold tciOf; rw [if_pos c]
        have hy : typeOf l = rd l 16 * 256 + rd l 17 := by unfold typeOf; rw [ha2]; rfl
        rw [if_pos c, ha2, ht, hy, step 17 (by omega), step 16 (by omega), step 15 (by omega), step 14 (by omega), step 13 (by omega), step 12 (by omega)]
        simp only [List.append_assoc, List.cons_append, List.nil_append]
        rw [show ((12 : Nat) : Int) = 12 from rfl, show ((13 : Nat) : Int) = 13 from rfl, show ((14 : Nat) : Int) = 14 from rfl, show ((15 : Nat) : Int) = 15 from rfl, show ((16 : Nat) : Int) = 16 from rfl, show ((17 : Nat) : Int) = 17 from rfl, g12.1, g12.2, show (rd l 14 * 256 + rd l 15) / 256 = rd l 14 from by omega, show (rd l 14 * 256 + rd l 15) % 256 = rd l 15 from by omega, show (rd l 16 * 256 + rd l 17) / 256 = rd l 16 from by omega, show (rd l 16 * 256 + rd l 17) % 256 = rd l 17 from by omega]
      · have ha2 : atOf l = 12 := by unfold atOf; rw [if_neg c]
        have hy : typeOf l = rd l 12 * 256 + rd l 13 := by unfold typeOf; rw [ha2]; rfl
        rw [if_neg c, ha2, hy, step 13 (by omega), step 12 (by omega)]
        simp only [List.append_assoc, List.cons_append, List.nil_append, List.append_nil]
        rw [show (rd l 12 * 256 + rd l 13) / 256 = rd l 12 from by omega, show (rd l 12 * 256 + rd l 13) % 256 = rd l 13 from by omega]
        rfl
    rw [hh, List.take_append_drop]
    unfold padOf
    rw [show 60 - l.length = 0 from by omega, List.replicate_zero, List.append_nil]

theorem from_eq {d s tci ty : Int} {tagged : Bool} {load : List Int} (hl : load.length < 100000) : patchbaylaw02_From.f d s tagged tci ty load = some (d, s, tagged, tci, ty, load) := by
  unfold patchbaylaw02_From.f
  rw [Option.bind_some, if_pos (by simp; omega), List.nil_append]

theorem to_eq {d s tci ty : Int} {tagged : Bool} {load : List Int} (hl : load.length < 100000) : patchbaylaw02_To.f d s tagged tci ty load = some (d, s, tagged, tci, ty, load) := by
  unfold patchbaylaw02_To.f
  rw [Option.bind_some, if_pos (by simp; omega), List.nil_append]

theorem writeOf_bytes {d s tci ty : Int} {tagged : Bool} {load : List Int} (c0 : 0 ≤ tci) (c1 : tci ≤ 65535) (t0 : 0 ≤ ty) (t1 : ty ≤ 65535) (hb : bytes load) : bytes (padOf (headOf d s tagged tci ty ++ load)) := by
  unfold padOf
  refine bytes_app (bytes_app ?_ hb) (bytes_zeros _)
  intro x hx
  cases tagged
  · simp [headOf, b6] at hx
    omega
  · simp [headOf, b6] at hx
    omega

theorem FrameWrites (d s : Int) (tagged : Bool) (tci ty : Int) (l : List Int) (hd : (Lit.int .u64 d).wf = true) (hs : (Lit.int .u64 s).wf = true) (ht : (Lit.int .u16 tci).wf = true) (hy : (Lit.int .u16 ty).wf = true) (_hm : l.length ≤ maxLen) (hn : l.length * 1 ≤ 140737488351232) (hw : ∀ x ∈ l, (Lit.int .u8 x).wf = true) : ∃ k, patchbaylaw02_FrameWrites.f k d s tagged tci ty l = some true := by
  have bd := bounds_u64 hd
  have bs := bounds_u64 hs
  have bc := bounds_u16 ht
  have bt := bounds_u16 hy
  have hb := bytes_of hw
  refine ⟨2100, ?_⟩
  unfold patchbaylaw02_FrameWrites.f
  have e : mn (l.length : Int) 1600 = ((min l.length 1600 : Nat) : Int) := by unfold mn; omega
  rw [e, if_pos (by omega), if_pos (by omega), Int.toNat_natCast]
  generalize hg : l.take (min l.length 1600) = m
  have hm2 : m.length ≤ 1600 := by rw [← hg, List.length_take]; omega
  have hb2 : bytes m := by rw [← hg]; exact bytes_take hb _
  have T : patchbaylaw02_told.f 2100 = some true := told_mono (by decide)
  rw [to_eq (by omega)]
  obtain ⟨q, hq⟩ : ∃ q : Int × Int × Bool × Int × Int × List Int, q = (d, s, tagged, tci, ty, m) := ⟨_, rfl⟩
  have q1 : q.1 = d := by rw [hq]
  have q2 : q.2.1 = s := by rw [hq]
  have q3 : q.2.2.1 = tagged := by rw [hq]
  have q4 : q.2.2.2.1 = tci := by rw [hq]
  have q5 : q.2.2.2.2.1 = ty := by rw [hq]
  have q6 : q.2.2.2.2.2 = m := by rw [hq]
  rw [← hq, Option.bind_some, q1, q2, q3, q4, q5, q6]
  have FIN : ∀ (B : List Int) (er : Int), B.length ≤ 2000 → frame_Write.f 2100 d s tagged tci ty m = some (B, er) → patchbayref02_Write.f 2100 d s tagged tci ty m = some (B, er) → patchbaylaw02_FrameWrites.j0 2100 B er false d s tagged tci ty m = some true → ((frame_Write.f 2100 d s tagged tci ty m).bind fun bt442 => ((patchbayref02_Write.f 2100 d s tagged tci ty m).bind fun bt446 => ((patchbaylaw02_told.f 2100).bind fun t450 => (if t450 = true then (if bt442.2 = bt446.2 then ((patchbayref01_Same.f 2100 bt442.1 bt446.1).bind fun t451 => (patchbaylaw02_FrameWrites.j0 2100 bt442.1 bt446.2 (!t451) d s tagged tci ty m)) else (patchbaylaw02_FrameWrites.j0 2100 bt442.1 bt446.2 true d s tagged tci ty m)) else (patchbaylaw02_FrameWrites.j0 2100 bt442.1 bt446.2 true d s tagged tci ty m))))) = some true := by
    intro B er hB h1 h2 h3
    have hS : patchbayref01_Same.f 2100 B B = some true := same_eq (by omega) (by omega)
    rw [h1, h2, T, Option.bind_some, Option.bind_some, Option.bind_some, if_pos rfl, if_pos rfl, hS, Option.bind_some]
    exact h3
  have NIL : ∀ er : Int, er ≠ 0 → patchbaylaw02_FrameWrites.j0 2100 [] er false d s tagged tci ty m = some true := by
    intro er he
    simp only [patchbaylaw02_FrameWrites.j0]
    rw [if_neg (by decide), if_neg he]
    rfl
  by_cases hbad : wbad d s tagged tci ty
  · exact FIN [] 1 (by simp) (write_bad hbad (by decide)) (ref_write_bad hbad bd.1 bs.1 (by decide)) (NIL 1 (by decide))
  · have hW : frame_Write.f 2100 d s tagged tci ty m = some (writeOf d s tagged tci ty m) := write_good hbad bd.1 bs.1 bc.1 bc.2 bt.1 bt.2 hm2 (by decide)
    have hR : patchbayref02_Write.f 2100 d s tagged tci ty m = some (writeOf d s tagged tci ty m) := ref_write_good hbad bd.1 bs.1 bc.1 bc.2 bt.1 bt.2 hm2 (by decide)
    by_cases c1 : 1500 < m.length
    · have hq : writeOf d s tagged tci ty m = ([], 3) := by unfold writeOf; rw [if_pos c1]
      rw [hq] at hW hR
      exact FIN [] 3 (by simp) hW hR (NIL 3 (by decide))
    · by_cases c2 : formOk ty (m.length : Int) = true
      · have hq : writeOf d s tagged tci ty m = (padOf (headOf d s tagged tci ty ++ m), 0) := by unfold writeOf; rw [if_neg c1, if_pos c2]
        have hlen : (padOf (headOf d s tagged tci ty ++ m)).length ≤ 2000 := by
          rw [padOf_len, List.length_append, headOf_len]
          split <;> omega
        rw [hq] at hW hR
        refine FIN _ 0 hlen hW hR ?_
        have pw := parse_write (load := m) hbad bd.1 bs.1 bc.1 bc.2 bt.1 bt.2 (by omega) c2
        simp only [patchbaylaw02_FrameWrites.j0]
        rw [if_neg (by decide), if_pos trivial, parse_eq (by omega) (writeOf_bytes bc.1 bc.2 bt.1 bt.2 hb2) (by decide), pw]
        obtain ⟨z, hz⟩ : ∃ z, 60 - ((if tagged = true then 18 else 14) + m.length) = z := ⟨_, rfl⟩
        have hz2 : z ≤ 60 := by omega
        rw [hz]
        obtain ⟨r, hr⟩ : ∃ r : Int × Int × Bool × Int × Int × List Int × Int, r = (d, s, tagged, tci, ty, m ++ List.replicate z 0, 0) := ⟨_, rfl⟩
        have r1 : r.1 = d := by rw [hr]
        have r2 : r.2.1 = s := by rw [hr]
        have r3 : r.2.2.1 = tagged := by rw [hr]
        have r4 : r.2.2.2.1 = tci := by rw [hr]
        have r5 : r.2.2.2.2.1 = ty := by rw [hr]
        have r6 : r.2.2.2.2.2.1 = m ++ List.replicate z 0 := by rw [hr]
        have r7 : r.2.2.2.2.2.2 = 0 := by rw [hr]
        rw [← hr, Option.bind_some, r1, r2, r3, r4, r5, r6, r7, if_pos rfl, from_eq (by simp only [List.length_append, List.length_replicate]; omega)]
        obtain ⟨u, hu⟩ : ∃ u : Int × Int × Bool × Int × Int × List Int, u = (d, s, tagged, tci, ty, m ++ List.replicate z 0) := ⟨_, rfl⟩
        have u1 : u.1 = d := by rw [hu]
        have u2 : u.2.1 = s := by rw [hu]
        have u3 : u.2.2.1 = tagged := by rw [hu]
        have u4 : u.2.2.2.1 = tci := by rw [hu]
        have u5 : u.2.2.2.2.1 = ty := by rw [hu]
        have u6 : u.2.2.2.2.2 = m ++ List.replicate z 0 := by rw [hu]
        have hs2 := fsame_eq d s tagged tci ty m z true (.inl rfl) (by omega) (k := 2099) (by omega)
        rw [← hu, Option.bind_some, u1, u2, u3, u4, u5, u6, hs2]
        rfl
      · have hq : writeOf d s tagged tci ty m = ([], 4) := by unfold writeOf; rw [if_neg c1, if_neg c2]
        rw [hq] at hW hR
        exact FIN [] 4 (by simp) hW hR (NIL 4 (by decide))

end Go.Proofs.Ytdohdjfclnlpmaa.Pure
