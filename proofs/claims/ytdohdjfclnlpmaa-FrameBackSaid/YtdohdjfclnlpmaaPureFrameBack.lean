/- FrameBack: the plain law. -/
import Derived.OpenShut
import Derived.IntWalk
import Derived.Test.YtdohdjfclnlpmaaBits
import Derived.Test.YtdohdjfclnlpmaaPFramex9
namespace Go.Proofs.Ytdohdjfclnlpmaa.Pure
open Go.RowKit Go.Proofs.Ytdohdjfclnlpmaa.PFrame Go.Proofs.YtdohdjfclnlpmaaW.PrintWords Go.Proofs.YtdohdjfclnlpmaaW.PrintLast Go.Proofs.YtdohdjfclnlpmaaW.PrintMore
open Go.Proofs.Ytdohdjfclnlpmaa

/-- An address's kind: 3 reserved, 2 broadcast, 1 group, 0 one station's. -/
def kindOf (m : Int) : Int := if m % 281474976710656 = 281474976710655 then 2 else if m % 281474976710656 / 16 = 103282638848 then 3 else m / 1099511627776 % 2

theorem and48 {m : Int} (h0 : 0 ≤ m) (h1 : m ≤ 18446744073709551615) : Go.bits .and .u64 m 281474976710655 = m % 281474976710656 := by
  rw [Bits.and64 0 48 m (by decide) (by decide) h0 h1 281474976710655 rfl]; simp

def bytes (l : List Int) : Prop := ∀ x ∈ l, 0 ≤ x ∧ x ≤ 255

theorem bytes_of {l : List Int} (h : ∀ x ∈ l, (Lit.int .u8 x).wf = true) : bytes l := fun x hx => bounds_u8 (h x hx)

theorem bytes_rd {l : List Int} (h : bytes l) (i : Int) : 0 ≤ rd l i ∧ rd l i ≤ 255 := by
  unfold rd
  rw [List.getD_eq_getElem?_getD]
  by_cases c : i.toNat < l.length
  · rw [List.getElem?_eq_getElem c, Option.getD_some]; exact h _ (List.getElem_mem c)
  · rw [List.getElem?_eq_none (by omega)]; decide

theorem bytes_take {l : List Int} (h : bytes l) (n : Nat) : bytes (l.take n) := fun x hx => h x (List.mem_of_mem_take hx)
theorem bytes_drop {l : List Int} (h : bytes l) (n : Nat) : bytes (l.drop n) := fun x hx => h x (List.mem_of_mem_drop hx)
theorem bytes_app {l m : List Int} (h : bytes l) (g : bytes m) : bytes (l ++ m) := fun x hx => by
  rcases List.mem_append.1 hx with hx | hx
  · exact h x hx
  · exact g x hx
theorem bytes_zeros (n : Nat) : bytes (List.replicate n 0) := fun x hx => by
  rw [(List.mem_replicate.1 hx).2]; decide

theorem rd_take {l : List Int} {n : Nat} {i : Int} (h0 : 0 ≤ i) (h : i < n) : rd (l.take n) i = rd l i := by
  unfold rd
  rw [List.getD_eq_getElem?_getD, List.getD_eq_getElem?_getD, List.getElem?_take_of_lt (by omega)]

theorem rd_drop {l : List Int} {n : Nat} {i : Int} (h0 : 0 ≤ i) : rd (l.drop n) i = rd l (n + i) := by
  unfold rd
  rw [List.getD_eq_getElem?_getD, List.getD_eq_getElem?_getD, List.getElem?_drop, show (↑n + i).toNat = n + i.toNat from by omega]

theorem rd_app_l {l m : List Int} {i : Int} (h0 : 0 ≤ i) (h : i < l.length) : rd (l ++ m) i = rd l i := by
  unfold rd
  rw [List.getD_eq_getElem?_getD, List.getD_eq_getElem?_getD, List.getElem?_append_left (by omega)]

theorem rd_app_r {l m : List Int} {i : Int} (h : (l.length : Int) ≤ i) : rd (l ++ m) i = rd m (i - l.length) := by
  unfold rd
  rw [List.getD_eq_getElem?_getD, List.getD_eq_getElem?_getD, List.getElem?_append_right (by omega), show i.toNat - l.length = (i - (l.length : Int)).toNat from by omega]

theorem or_step {x b : Int} (h0 : 0 ≤ x) (h1 : x < 1099511627776) (b0 : 0 ≤ b) (b1 : b ≤ 255) : Go.bits .or .u64 (IntKind.u64.wrap (x * 256)) (IntKind.u64.wrap b) = x * 256 + b := by
  rw [IntWalk.u64_in _ (by omega), IntWalk.u64_in _ (by omega), Bits.or64 8 _ b (by omega) (by omega) (by omega) (by omega) (by omega) (by omega)]

theorem add_step {x b : Int} (h0 : 0 ≤ x) (h1 : x < 1099511627776) (b0 : 0 ≤ b) (b1 : b ≤ 255) : IntKind.u64.wrap (IntKind.u64.wrap (x * 256) + IntKind.u64.wrap b) = x * 256 + b := by
  rw [IntWalk.u64_in (x * 256) (by omega), IntWalk.u64_in b (by omega), IntWalk.u64_in _ (by omega)]

/-- The first six bytes as a number. -/
def n6 (l : List Int) : Int := ((((rd l 0 * 256 + rd l 1) * 256 + rd l 2) * 256 + rd l 3) * 256 + rd l 4) * 256 + rd l 5

theorem n6_range {l : List Int} (hb : bytes l) : 0 ≤ n6 l ∧ n6 l ≤ 281474976710655 := by
  have h0 := bytes_rd hb 0; have h1 := bytes_rd hb 1; have h2 := bytes_rd hb 2; have h3 := bytes_rd hb 3; have h4 := bytes_rd hb 4; have h5 := bytes_rd hb 5
  unfold n6; omega

theorem mac_Of_eq {l : List Int} (hl : 6 ≤ l.length) (hb : bytes l) {k : Nat} (hk : 7 ≤ k) : mac_Of.f k l = some (n6 l, 0) := by
  obtain ⟨k, rfl⟩ : ∃ j, k = j + 7 := ⟨k - 7, by omega⟩
  unfold mac_Of.f
  rw [if_neg (by omega), if_pos (by omega)]
  have L : ((l.take 6).length : Int) = 6 := by rw [List.length_take]; omega
  have R : ∀ i : Int, 0 ≤ i → i < 6 → rd (l.take 6) i = rd l i := fun i a b => rd_take a (by omega)
  have B := bytes_take hb 6
  have step : ∀ (k : Nat) (x i j : Int), j = i + 1 → 0 ≤ x → x < 1099511627776 → 0 ≤ i → i < 6 → mac_Of.l0 (k + 1) x (l.take 6) 6 i = mac_Of.l0 k (x * 256 + rd l i) (l.take 6) 6 j := by
    intro k x i j ej x0 x1 i0 i1
    subst ej
    have hr := bytes_rd hb i
    simp only [mac_Of.l0]
    rw [if_pos i1, if_pos i0, if_pos (by omega), R i i0 i1, or_step x0 x1 hr.1 hr.2, show wrap64 (i + 1) = i + 1 from by unfold wrap64; omega]
  rw [L]
  have h0 := bytes_rd hb 0; have h1 := bytes_rd hb 1; have h2 := bytes_rd hb 2; have h3 := bytes_rd hb 3; have h4 := bytes_rd hb 4; have h5 := bytes_rd hb 5
  rw [step (k + 6) 0 0 1 rfl (by decide) (by decide) (by decide) (by decide), step (k + 5) _ 1 2 rfl (by omega) (by omega) (by decide) (by decide), step (k + 4) _ 2 3 rfl (by omega) (by omega) (by decide) (by decide), step (k + 3) _ 3 4 rfl (by omega) (by omega) (by decide) (by decide), step (k + 2) _ 4 5 rfl (by omega) (by omega) (by decide) (by decide), step (k + 1) _ 5 6 rfl (by omega) (by omega) (by decide) (by decide)]
  simp only [mac_Of.l0]
  rw [if_neg (by decide)]
  unfold n6
  congr 2; omega

theorem mac_Of_short {l : List Int} (hl : l.length < 6) (k : Nat) : mac_Of.f k l = some (0, 2) := by
  unfold mac_Of.f; rw [if_pos (by omega)]

theorem ref_Of6_eq {l : List Int} (hl : 6 ≤ l.length) (hb : bytes l) {k : Nat} (hk : 7 ≤ k) : patchbayref01_Of.f k l = some (n6 l) := by
  obtain ⟨k, rfl⟩ : ∃ j, k = j + 7 := ⟨k - 7, by omega⟩
  unfold patchbayref01_Of.f
  have step : ∀ (k : Nat) (x i j : Int), j = i + 1 → 0 ≤ x → x < 1099511627776 → 0 ≤ i → i < 6 → patchbayref01_Of.l0 (k + 1) l x i = patchbayref01_Of.l0 k l (x * 256 + rd l i) j := by
    intro k x i j ej x0 x1 i0 i1
    subst ej
    have hr := bytes_rd hb i
    simp only [patchbayref01_Of.l0]
    rw [if_pos i1, if_pos i0, if_pos (by omega), add_step x0 x1 hr.1 hr.2, show wrap64 (i + 1) = i + 1 from by unfold wrap64; omega]
  have h0 := bytes_rd hb 0; have h1 := bytes_rd hb 1; have h2 := bytes_rd hb 2; have h3 := bytes_rd hb 3; have h4 := bytes_rd hb 4; have h5 := bytes_rd hb 5
  rw [step (k + 6) 0 0 1 rfl (by decide) (by decide) (by decide) (by decide), step (k + 5) _ 1 2 rfl (by omega) (by omega) (by decide) (by decide), step (k + 4) _ 2 3 rfl (by omega) (by omega) (by decide) (by decide), step (k + 3) _ 3 4 rfl (by omega) (by omega) (by decide) (by decide), step (k + 2) _ 4 5 rfl (by omega) (by omega) (by decide) (by decide), step (k + 1) _ 5 6 rfl (by omega) (by omega) (by decide) (by decide)]
  simp only [patchbayref01_Of.l0]
  rw [if_neg (by decide)]
  unfold n6
  congr 1; omega

theorem same_self (l : List Int) (hn : l.length ≤ 140737488355328) (d : Nat) : ∀ (k : Nat) (i : Int), 0 ≤ i → i ≤ l.length → (l.length : Int) - i = d → d < k → patchbayref01_Same.l0 k l l i = some true := by
  induction d with
  | zero =>
    intro k i h0 h1 hd hk
    obtain ⟨k, rfl⟩ : ∃ m, k = m + 1 := ⟨k - 1, by omega⟩
    simp only [patchbayref01_Same.l0]; rw [if_neg (by omega)]
  | succ d ih =>
    intro k i h0 h1 hd hk
    obtain ⟨k, rfl⟩ : ∃ m, k = m + 1 := ⟨k - 1, by omega⟩
    simp only [patchbayref01_Same.l0]
    rw [if_pos (by omega), if_pos h0, if_pos (by omega), if_pos trivial, show wrap64 (i + 1) = i + 1 from by unfold wrap64; omega]
    exact ih k (i + 1) (by omega) (by omega) (by omega) (by omega)

theorem same_eq {l : List Int} (hn : l.length ≤ 140737488355328) {k : Nat} (hk : l.length < k) : patchbayref01_Same.f k l l = some true := by
  unfold patchbayref01_Same.f
  rw [if_pos rfl]
  exact same_self l hn l.length k 0 (by omega) (by omega) (by omega) hk

theorem u16_in {n : Int} (h0 : 0 ≤ n) (h1 : n ≤ 65535) : IntKind.u16.wrap n = n := IntWalk.u16_in n ⟨h0, h1⟩

theorem or16 (i : Nat) {x y : Int} (h0 : 0 ≤ x) (h1 : x ≤ 65535) (k0 : 0 ≤ y) (k1 : y ≤ 65535) (hx : x % ((2 ^ i : Nat) : Int) = 0) (hy : y < ((2 ^ i : Nat) : Int)) : Go.bits .or .u16 x y = x + y := by
  obtain ⟨n, rfl⟩ := Int.eq_ofNat_of_zero_le h0
  obtain ⟨m, rfl⟩ := Int.eq_ofNat_of_zero_le k0
  rw [u16_or_nat n m (by omega) (by omega), nat_join i n m (by omega) (by omega)]
  omega

theorem andNot16 {x : Int} (h0 : 0 ≤ x) (h1 : x ≤ 65535) : Go.bits .andNot .u16 x 4095 = x / 4096 * 4096 := by
  obtain ⟨n, rfl⟩ := Int.eq_ofNat_of_zero_le h0
  refine (u16_andNot_nat n 4095 (by omega) (by omega)).trans ?_
  rw [show 65535 - 4095 = 2 ^ 16 - 2 ^ 12 from rfl, Bits.mid 12 16 n (by decide)]
  omega

theorem and16 {x : Int} (h0 : 0 ≤ x) (h1 : x ≤ 65535) : Go.bits .and .u16 x 4095 = x % 4096 := by
  obtain ⟨n, rfl⟩ := Int.eq_ofNat_of_zero_le h0
  refine (u16_and_nat n 4095 (by omega) (by omega)).trans ?_
  rw [show 4095 = 2 ^ 12 - 2 ^ 0 from rfl, Bits.mid 0 12 n (by decide)]
  omega

theorem two_eq {l : List Int} (hl : 2 ≤ l.length) (hb : bytes l) : frame_two.f l = some (rd l 0 * 256 + rd l 1) := by
  have h0 := bytes_rd hb 0; have h1 := bytes_rd hb 1
  unfold frame_two.f
  rw [if_pos (by omega), if_pos (by omega), u16_in (n := rd l 0) (by omega) (by omega), u16_in (n := rd l 1) (by omega) (by omega), u16_in (by omega) (by omega), or16 8 (by omega) (by omega) (by omega) (by omega) (by omega) (by omega)]

theorem two_drop {l : List Int} (n : Nat) {m m' : Int} (hm : (n : Int) = m) (hm' : m' = m + 1) (hl : n + 2 ≤ l.length) (hb : bytes l) : frame_two.f (l.drop n) = some (rd l m * 256 + rd l m') := by
  subst hm; subst hm'
  rw [two_eq (by rw [List.length_drop]; omega) (bytes_drop hb n), rd_drop (by decide), rd_drop (by decide), Int.add_zero]

theorem ref_two_eq {l : List Int} {i : Int} (h0 : 0 ≤ i) (hi : i + 1 < l.length) (hn : l.length ≤ 140737488355328) (hb : bytes l) : patchbayref02_two.f l i = some (rd l i * 256 + rd l (i + 1)) := by
  have b0 := bytes_rd hb i; have b1 := bytes_rd hb (i + 1)
  unfold patchbayref02_two.f
  rw [show wrap64 (i + 1) = i + 1 from by unfold wrap64; omega, if_pos (by omega), if_pos (by omega), if_pos (by omega), if_pos (by omega), u16_in (n := rd l i) (by omega) (by omega), u16_in (n := rd l i * 256) (by omega) (by omega), u16_in (n := rd l (i + 1)) (by omega) (by omega), u16_in (by omega) (by omega)]

def tg (l : List Int) : Bool := rd l 12 == 129 && rd l 13 == 0
def atOf (l : List Int) : Nat := if tg l = true then 16 else 12
def tciOf (l : List Int) : Int := if tg l = true then rd l 14 * 256 + rd l 15 else 0
def typeOf (l : List Int) : Int := rd l (atOf l) * 256 + rd l (atOf l + 1)
def formOk (t n : Int) : Bool := decide (1536 ≤ t ∨ (t ≤ 1500 ∧ t ≤ n))

theorem tg_iff {l : List Int} (hb : bytes l) : rd l 12 * 256 + rd l 13 = 33024 ↔ tg l = true := by
  have b0 := bytes_rd hb 12; have b1 := bytes_rd hb 13
  unfold tg
  simp only [Bool.and_eq_true, beq_iff_eq]
  omega

theorem atOf_le (l : List Int) : 12 ≤ atOf l ∧ atOf l ≤ 16 := by unfold atOf; split <;> omega

theorem behind_eq {l : List Int} (hl : 16 ≤ l.length) (hb : bytes l) : frame_behind.f l = some ((atOf l : Int), tg l, tciOf l) := by
  unfold frame_behind.f
  rw [if_pos (by omega), two_drop 12 (m := 12) (m' := 13) rfl rfl (by omega) hb]
  simp only [Option.bind_some]
  have e := tg_iff hb
  by_cases c : tg l = true
  · rw [if_pos (e.2 c), if_pos (by omega), two_drop 14 (m := 14) (m' := 15) rfl rfl (by omega) hb]
    unfold atOf tciOf
    rw [if_pos c, if_pos c, c]
    rfl
  · rw [if_neg (fun h => c (e.1 h))]
    unfold atOf tciOf
    rw [if_neg c, if_neg c, show tg l = false from by simpa using c]
    rfl

theorem form_eq {t n : Int} (t0 : 0 ≤ t) (t1 : t ≤ 65535) : frame_form.f t n = some (formOk t n) := by
  unfold frame_form.f formOk
  rw [show wrap64 t = t from by unfold wrap64; omega]
  by_cases c : t ≥ 1536
  · rw [if_pos c, decide_eq_true (by omega)]
  · rw [if_neg c]
    by_cases d : t ≤ 1500
    · rw [if_pos d]; congr 1; exact decide_eq_decide.2 (by omega)
    · rw [if_neg d, decide_eq_false (by omega)]

theorem ref_form_eq {t n : Int} (t0 : 0 ≤ t) (t1 : t ≤ 65535) : patchbayref02_form.f t n = some (formOk t n) := by
  unfold patchbayref02_form.f formOk
  rw [show wrap64 t = t from by unfold wrap64; omega]
  by_cases c : t > 1535
  · rw [if_pos c, decide_eq_true (by omega)]
  · rw [if_neg c]
    by_cases d : t ≤ 1500
    · rw [if_pos d]; congr 1; exact decide_eq_decide.2 (by omega)
    · rw [if_neg d, decide_eq_false (by omega)]

theorem clone_eq {l : List Int} (hn : l.length < 140737488355328) : slices_Clone_byte_byte.f l = some l := by
  unfold slices_Clone_byte_byte.f
  simp only [Option.bind_some, List.length_nil, Nat.zero_add, List.nil_append]
  rw [if_pos hn]

/-- What bytes tell, and the error. -/
def parseOf (l : List Int) : Int × Int × Bool × Int × Int × List Int × Int :=
  if l.length < 60 then (0, 0, false, 0, 0, [], 2)
  else if l.length > atOf l + 1502 then (0, 0, false, 0, 0, [], 3)
  else if formOk (typeOf l) ((l.drop (atOf l + 2)).length : Int) = true then (n6 l, n6 (l.drop 6), tg l, tciOf l, typeOf l, l.drop (atOf l + 2), 0)
  else (0, 0, false, 0, 0, [], 4)

theorem type_range {l : List Int} (hb : bytes l) : 0 ≤ typeOf l ∧ typeOf l ≤ 65535 := by
  have b0 := bytes_rd hb (atOf l); have b1 := bytes_rd hb (atOf l + 1)
  unfold typeOf; omega

theorem tci_range {l : List Int} (hb : bytes l) : 0 ≤ tciOf l ∧ tciOf l ≤ 65535 := by
  have b0 := bytes_rd hb 14; have b1 := bytes_rd hb 15
  unfold tciOf; split <;> omega

theorem parse_eq {l : List Int} (hn : l.length < 140737488355328) (hb : bytes l) {k : Nat} (hk : 7 ≤ k) : frame_Parse.f k l = some (parseOf l) := by
  unfold frame_Parse.f parseOf
  have ha := atOf_le l
  by_cases c1 : l.length < 60
  · rw [if_pos (by omega), if_pos c1]
  · rw [if_neg (by omega), if_neg c1, behind_eq (by omega) hb]
    obtain ⟨q, hq⟩ : ∃ q : Int × Bool × Int, q = ((atOf l : Int), tg l, tciOf l) := ⟨_, rfl⟩
    have q1 : q.1 = (atOf l : Int) := by rw [hq]
    have q2 : q.2.1 = tg l := by rw [hq]
    have q3 : q.2.2 = tciOf l := by rw [hq]
    rw [← hq, Option.bind_some, q1, q2, q3]
    rw [show wrap64 ((atOf l : Int) + 2) = ((atOf l + 2 : Nat) : Int) from by unfold wrap64; omega, show wrap64 (((atOf l + 2 : Nat) : Int) + 1500) = ((atOf l + 1502 : Nat) : Int) from by unfold wrap64; omega]
    by_cases c2 : l.length > atOf l + 1502
    · rw [if_pos (by omega), if_pos c2]
    · rw [if_neg (by omega), if_neg c2, if_pos (by omega), if_pos (by omega), Int.toNat_natCast, two_drop (atOf l) rfl rfl (by omega) hb]
      rw [Option.bind_some]
      rw [if_pos (by omega), if_pos (by omega), Int.toNat_natCast, clone_eq (by rw [List.length_drop]; omega)]
      rw [Option.bind_some]
      have ht := type_range hb
      rw [show rd l (atOf l : Int) * 256 + rd l ((atOf l : Int) + 1) = typeOf l from rfl, form_eq ht.1 ht.2]
      rw [Option.bind_some]
      by_cases c3 : formOk (typeOf l) ((l.drop (atOf l + 2)).length : Int) = true
      · rw [if_pos c3, if_pos c3, mac_Of_eq (by omega) hb hk, mac_Of_eq (by rw [List.length_drop]; omega) (bytes_drop hb 6) hk]
        rw [Option.bind_some]
        rw [if_pos (by omega), Option.bind_some]
      · rw [if_neg c3, if_neg c3]

theorem ref_Tagged_eq {l : List Int} (hl : 14 ≤ l.length) : patchbayref02_Tagged.f l = some (tg l) := by
  unfold patchbayref02_Tagged.f tg
  rw [if_pos (by omega)]
  by_cases c : rd l 12 = 129
  · rw [if_pos c, if_pos (by omega), c]; rfl
  · rw [if_neg c]; simp [c]

theorem ref_parse_eq {l : List Int} (hn : l.length < 140737488355328) (hb : bytes l) {k : Nat} (hk : 7 ≤ k) : patchbayref02_Parse.f k l = some (parseOf l) := by
  unfold patchbayref02_Parse.f
  have ha := atOf_le l
  by_cases c1 : l.length < 60
  · rw [if_pos (by omega)]; unfold parseOf; rw [if_pos c1]
  · rw [if_neg (by omega), ref_Of6_eq (by omega) hb hk]
    rw [Option.bind_some]
    rw [if_pos (by omega), ref_Of6_eq (by rw [List.length_drop]; omega) (bytes_drop hb 6) hk]
    rw [Option.bind_some]
    rw [ref_Tagged_eq (by omega)]
    rw [Option.bind_some]
    obtain ⟨k, rfl⟩ : ∃ j, k = j + 1 := ⟨k - 1, by omega⟩
    have J : ∀ (at' : Nat) (tc : Int), at' = atOf l → tc = tciOf l → patchbayref02_Parse.j0 (k + 1) l (at' : Int) (n6 l) (n6 (l.drop 6)) (tg l) tc 0 = some (parseOf l) := by
      intro at' tc e1 e2
      subst e1; subst e2
      rw [patchbayref02_Parse.j0]
      unfold parseOf
      rw [if_neg c1, show wrap64 (1502 + (atOf l : Int)) = ((atOf l + 1502 : Nat) : Int) from by unfold wrap64; omega, show wrap64 ((atOf l : Int) + 2) = ((atOf l + 2 : Nat) : Int) from by unfold wrap64; omega]
      by_cases c2 : l.length > atOf l + 1502
      · rw [if_pos (by omega), if_pos c2]
      · rw [if_neg (by omega), if_neg c2, ref_two_eq (by omega) (by omega) (by omega) hb]
        rw [Option.bind_some, Option.bind_some, List.length_nil, Nat.zero_add, List.nil_append]
        rw [if_pos (by omega), if_pos (by omega), Int.toNat_natCast, if_pos (by rw [List.length_drop]; omega), Option.bind_some]
        have ht := type_range hb
        rw [show rd l (atOf l : Int) * 256 + rd l ((atOf l : Int) + 1) = typeOf l from rfl, ref_form_eq ht.1 ht.2]
        rw [Option.bind_some]
        by_cases c3 : formOk (typeOf l) ((l.drop (atOf l + 2)).length : Int) = true
        · rw [if_pos c3, if_pos c3]
        · rw [if_neg c3, if_neg c3]
    by_cases c : tg l = true
    · rw [if_pos c, ref_two_eq (by decide) (by omega) (by omega) hb]
      rw [Option.bind_some]
      exact J 16 _ (by unfold atOf; rw [if_pos c]) (by unfold tciOf; rw [if_pos c]; rfl)
    · rw [if_neg c]
      exact J 12 0 (by unfold atOf; rw [if_neg c]) (by unfold tciOf; rw [if_neg c])

/-- Noughts behind, up to 60. -/
def padOf (l : List Int) : List Int := l ++ List.replicate (60 - l.length) 0

theorem padOf_len (l : List Int) : (padOf l).length = max 60 l.length := by unfold padOf; rw [List.length_append, List.length_replicate]; omega

theorem padded_eq {l : List Int} (hn : l.length < 100000) : frame_padded.f l = some (padOf l) := by
  unfold frame_padded.f padOf
  have e : mx 0 (wrap64 (60 - (l.length : Int))) = ((60 - l.length : Nat) : Int) := by unfold mx wrap64; omega
  rw [e, if_pos (by omega), Int.toNat_natCast, if_pos (by omega)]

theorem pad_loop (d : Nat) : ∀ (k : Nat) (l : List Int), 60 - l.length = d → d < k → l.length < 100000 → patchbayref02_pad.l0 k l = some (padOf l) := by
  induction d with
  | zero =>
    intro k l hd hk hn
    obtain ⟨k, rfl⟩ : ∃ m, k = m + 1 := ⟨k - 1, by omega⟩
    simp only [patchbayref02_pad.l0]
    rw [if_neg (by omega)]
    unfold padOf
    rw [hd, List.replicate_zero, List.append_nil]
  | succ d ih =>
    intro k l hd hk hn
    obtain ⟨k, rfl⟩ : ∃ m, k = m + 1 := ⟨k - 1, by omega⟩
    simp only [patchbayref02_pad.l0]
    rw [if_pos (by omega), if_pos (by omega), ih k (l ++ [0]) (by rw [List.length_append]; simp; omega) (by omega) (by rw [List.length_append]; simp; omega)]
    unfold padOf
    rw [List.append_assoc, List.length_append, show ([0] : List Int) ++ List.replicate (60 - (l.length + [(0 : Int)].length)) 0 = List.replicate (60 - l.length) 0 from by
      rw [show 60 - l.length = (60 - (l.length + [(0 : Int)].length)) + 1 from by simp; omega, List.replicate_succ]; rfl]

theorem ref_pad_eq {l : List Int} (hn : l.length < 100000) {k : Nat} (hk : 61 ≤ k) : patchbayref02_pad.f k l = some (padOf l) := by
  unfold patchbayref02_pad.f; exact pad_loop (60 - l.length) k l rfl (by omega) hn

theorem put_eq {l : List Int} {n : Int} (hn : l.length < 100000) (h0 : 0 ≤ n) (h1 : n ≤ 65535) : frame_put.f l n = some (l ++ [n / 256, n % 256]) := by
  unfold frame_put.f
  simp only [Option.bind_some, List.length_cons, List.length_nil]
  rw [if_pos (by omega), show n / 256 % 256 = n / 256 from by omega]

theorem ref_bytes2_eq {n : Int} (h0 : 0 ≤ n) (h1 : n ≤ 65535) : patchbayref02_bytes.f n = some [n / 256, n % 256] := by
  unfold patchbayref02_bytes.f
  rw [Int.tdiv_eq_ediv_of_nonneg h0, Int.tmod_eq_emod_of_nonneg h0, u16_in (by omega) (by omega), show n / 256 % 256 = n / 256 from by omega, Int.emod_emod_of_dvd _ (by decide)]

def tagOf (l : List Int) (tagged : Bool) (vid : Int) : List Int := if tagged = true then [129, 0, (tciOf l / 4096 * 4096 + vid) / 256, (tciOf l / 4096 * 4096 + vid) % 256] else []

/-- A frame's bytes with another tag, or without; and the error. -/
def outOf (l : List Int) (tagged : Bool) (vid : Int) : List Int × Int :=
  if (parseOf l).2.2.2.2.2.2 = 0 then (if tagged = true ∧ (vid < 1 ∨ vid > 4094) then ([], 6) else (padOf (l.take 12 ++ tagOf l tagged vid ++ l.drop (atOf l)), 0))
  else ([], (parseOf l).2.2.2.2.2.2)

theorem outOf_len (l : List Int) (tagged : Bool) (vid : Int) : (outOf l tagged vid).1.length ≤ max 60 (l.length + 16) := by
  have ha := atOf_le l
  unfold outOf
  split
  · split
    · simp
    · simp only
      rw [padOf_len, List.length_append, List.length_append, List.length_take, List.length_drop]
      unfold tagOf
      split <;> simp <;> omega
  · simp

theorem parse_len {l : List Int} (h : (parseOf l).2.2.2.2.2.2 = 0) : 60 ≤ l.length ∧ l.length ≤ atOf l + 1502 ∧ formOk (typeOf l) ((l.drop (atOf l + 2)).length : Int) = true := by
  unfold parseOf at h
  by_cases c1 : l.length < 60
  · rw [if_pos c1] at h; cases h
  · rw [if_neg c1] at h
    by_cases c2 : l.length > atOf l + 1502
    · rw [if_pos c2] at h; cases h
    · rw [if_neg c2] at h
      by_cases c3 : formOk (typeOf l) ((l.drop (atOf l + 2)).length : Int) = true
      · exact ⟨by omega, by omega, c3⟩
      · rw [if_neg c3] at h; cases h

theorem parse_ok {l : List Int} (h0 : 60 ≤ l.length) (h1 : l.length ≤ atOf l + 1502) (h2 : formOk (typeOf l) ((l.drop (atOf l + 2)).length : Int) = true) : parseOf l = (n6 l, n6 (l.drop 6), tg l, tciOf l, typeOf l, l.drop (atOf l + 2), 0) := by
  unfold parseOf
  rw [if_neg (by omega), if_neg (by omega), if_pos h2]

theorem out_eq {l : List Int} {tagged : Bool} {vid : Int} (hn : l.length < 99000) (hb : bytes l) (hv : -9223372036854775808 ≤ vid ∧ vid ≤ 9223372036854775807) {k : Nat} (hk : 8 ≤ k) : frame_Out.f k l tagged vid = some (outOf l tagged vid) := by
  obtain ⟨k, rfl⟩ : ∃ j, k = j + 1 := ⟨k - 1, by omega⟩
  unfold frame_Out.f outOf
  rw [parse_eq (by omega) hb (by omega)]
  simp only [Option.bind_some]
  by_cases c : (parseOf l).2.2.2.2.2.2 = 0
  · rw [if_pos c, if_pos c]
    obtain ⟨p0, p1, _⟩ := parse_len c
    have ha := atOf_le l
    have htc := tci_range hb
    have J : (tagged = true → 1 ≤ vid ∧ vid ≤ 4094) → frame_Out.j0 (k + 1) l tagged vid false = some (padOf (l.take 12 ++ tagOf l tagged vid ++ l.drop (atOf l)), 0) := by
      intro hvv
      simp only [frame_Out.j0]
      rw [if_neg (by decide), behind_eq (by omega) hb]
      simp only [Option.bind_some]
      rw [if_pos (by omega), clone_eq (by rw [List.length_take]; omega)]
      simp only [Option.bind_some, Int.toNat_natCast]
      unfold tagOf
      cases tagged
      · rw [if_neg (c := (false = true)) (by decide), if_neg (c := (false = true)) (by decide), if_pos (by omega), if_pos (by omega), if_pos (by rw [List.length_take, List.length_drop]; omega), List.append_nil, padded_eq (by rw [List.length_append, List.length_take, List.length_drop]; omega)]
        rfl
      · obtain ⟨v0, v1⟩ := hvv rfl
        have et : Go.bits .or .u16 (Go.bits .andNot .u16 (tciOf l) 4095) (IntKind.u16.wrap vid) = tciOf l / 4096 * 4096 + vid := by
          rw [andNot16 htc.1 htc.2, u16_in (by omega) (by omega), or16 12 (by omega) (by omega) (by omega) (by omega) (by omega) (by omega)]
        rw [if_pos (c := (true = true)) rfl, if_pos (c := (true = true)) rfl, et, put_eq (by rw [List.length_take]; omega) (by decide) (by decide)]
        simp only [Option.bind_some]
        rw [put_eq (by rw [List.length_append, List.length_take]; simp; omega) (by omega) (by omega)]
        simp only [Option.bind_some]
        rw [if_pos (by omega), if_pos (by omega), if_pos (by simp only [List.length_append, List.length_take, List.length_drop, List.length_cons, List.length_nil]; omega), padded_eq (by simp only [List.length_append, List.length_take, List.length_drop, List.length_cons, List.length_nil]; omega)]
        simp
    by_cases ht : tagged = true
    · rw [if_pos ht]
      by_cases h1 : vid < 1
      · rw [if_pos h1, if_pos ⟨ht, .inl h1⟩]
        simp only [frame_Out.j0]; rfl
      · rw [if_neg h1]
        by_cases h2 : vid > 4094
        · rw [if_pos ⟨ht, .inr h2⟩, decide_eq_true h2]
          simp only [frame_Out.j0]; rfl
        · rw [if_neg (by omega), decide_eq_false h2]
          exact J (fun _ => ⟨by omega, by omega⟩)
    · rw [if_neg ht, if_neg (fun x => ht x.1)]
      exact J (fun x => absurd x ht)
  · rw [if_neg c, if_neg c]

theorem ref_out_eq {l : List Int} {tagged : Bool} {vid : Int} (hn : l.length < 99000) (hb : bytes l) (hv : -9223372036854775808 ≤ vid ∧ vid ≤ 9223372036854775807) {k : Nat} (hk : 63 ≤ k) : patchbayref02_Out.f k l tagged vid = some (outOf l tagged vid) := by
  obtain ⟨k, rfl⟩ : ∃ j, k = j + 2 := ⟨k - 2, by omega⟩
  unfold patchbayref02_Out.f outOf
  rw [ref_parse_eq (by omega) hb (by omega)]
  simp only [Option.bind_some]
  by_cases c : (parseOf l).2.2.2.2.2.2 = 0
  · rw [if_pos c, if_pos c]
    obtain ⟨p0, p1, p2⟩ := parse_len c
    rw [parse_ok p0 p1 p2]
    have ha := atOf_le l
    have htc := tci_range hb
    have J : (tagged = true → 1 ≤ vid ∧ vid ≤ 4094) → patchbayref02_Out.j0 (k + 2) l tagged vid false (n6 l) (n6 (l.drop 6)) (tg l) (tciOf l) (typeOf l) (l.drop (atOf l + 2)) = some (padOf (l.take 12 ++ tagOf l tagged vid ++ l.drop (atOf l)), 0) := by
      intro hvv
      have J1 : ∀ a : Nat, a = atOf l → patchbayref02_Out.j1 (k + 1) l tagged vid (a : Int) (n6 l) (n6 (l.drop 6)) (tg l) (tciOf l) (typeOf l) (l.drop (atOf l + 2)) = some (padOf (l.take 12 ++ tagOf l tagged vid ++ l.drop (atOf l)), 0) := by
        intro a ea
        subst ea
        simp only [patchbayref02_Out.j1, Option.bind_some, List.nil_append, List.length_nil, Nat.zero_add, Int.toNat_natCast]
        rw [if_pos (by omega), if_pos (by rw [List.length_take]; omega)]
        unfold tagOf
        cases tagged
        · rw [if_neg (c := (false = true)) (by decide), if_neg (c := (false = true)) (by decide), if_pos (by omega), if_pos (by omega), if_pos (by rw [List.length_take, List.length_drop]; omega), List.append_nil, ref_pad_eq (by rw [List.length_append, List.length_take, List.length_drop]; omega) (by omega)]
          rfl
        · obtain ⟨v0, v1⟩ := hvv rfl
          have et : IntKind.u16.wrap ((IntKind.u16.wrap ((IntKind.u16.wrap (Int.tdiv (tciOf l) 4096)) * 4096)) + (IntKind.u16.wrap vid)) = tciOf l / 4096 * 4096 + vid := by
            rw [Int.tdiv_eq_ediv_of_nonneg htc.1, u16_in (n := tciOf l / 4096) (by omega) (by omega), u16_in (n := tciOf l / 4096 * 4096) (by omega) (by omega), u16_in (n := vid) (by omega) (by omega), u16_in (by omega) (by omega)]
          rw [if_pos (c := (true = true)) rfl, if_pos (c := (true = true)) rfl, et, if_pos (by simp only [List.length_take, List.length_cons, List.length_nil]; omega), ref_bytes2_eq (by omega) (by omega)]
          simp only [Option.bind_some]
          rw [if_pos (by simp only [List.length_append, List.length_take, List.length_cons, List.length_nil]; omega), if_pos (by omega), if_pos (by omega), if_pos (by simp only [List.length_append, List.length_take, List.length_drop, List.length_cons, List.length_nil]; omega), ref_pad_eq (by simp only [List.length_append, List.length_take, List.length_drop, List.length_cons, List.length_nil]; omega) (by omega)]
          simp
      simp only [patchbayref02_Out.j0]
      rw [if_neg (by decide)]
      by_cases ht : tg l = true
      · rw [if_pos ht]
        exact J1 16 (by unfold atOf; rw [if_pos ht])
      · rw [if_neg ht]
        exact J1 12 (by unfold atOf; rw [if_neg ht])
    simp only
    by_cases ht : tagged = true
    · rw [if_pos ht]
      by_cases h1 : vid < 1
      · rw [if_pos h1, if_pos ⟨ht, .inl h1⟩]
        simp only [patchbayref02_Out.j0]; rfl
      · rw [if_neg h1]
        by_cases h2 : vid > 4094
        · rw [if_pos ⟨ht, .inr h2⟩, decide_eq_true h2]
          simp only [patchbayref02_Out.j0]; rfl
        · rw [if_neg (by omega), decide_eq_false h2]
          exact J (fun _ => ⟨by omega, by omega⟩)
    · rw [if_neg ht, if_neg (fun x => ht x.1)]
      exact J (fun x => absurd x ht)
  · rw [if_neg c, if_neg c]

theorem told2 : patchbaylaw02_told.f 2000 = some true := by decide +kernel

theorem told_up : ∀ d, patchbaylaw02_told.f (2000 + d) = some true
  | 0 => told2
  | d + 1 => patchbaylaw02_told.mono (2000 + d) _ (told_up d)

theorem told_mono {k : Nat} (hk : 2000 ≤ k) : patchbaylaw02_told.f k = some true := by
  obtain ⟨d, rfl⟩ := Nat.exists_eq_add_of_le hk
  exact told_up d

/-- A frame with another tag. -/
def outX (m : List Int) (v : Int) : List Int := m.take 12 ++ ([129, 0, (tciOf m / 4096 * 4096 + v) / 256, (tciOf m / 4096 * 4096 + v) % 256] ++ m.drop (atOf m))

theorem outX_eq {m : List Int} {v : Int} (p : (parseOf m).2.2.2.2.2.2 = 0) (v0 : 1 ≤ v) (v1 : v ≤ 4094) : outOf m true v = (outX m v, 0) := by
  obtain ⟨p0, p1, _⟩ := parse_len p
  have ha := atOf_le m
  have hl : atOf m = 12 ∨ atOf m = 16 := by unfold atOf; split; exact .inr rfl; exact .inl rfl
  unfold outOf
  rw [if_pos p, if_neg (by omega)]
  unfold tagOf padOf outX
  rw [if_pos rfl, show 60 - (m.take 12 ++ [129, 0, (tciOf m / 4096 * 4096 + v) / 256, (tciOf m / 4096 * 4096 + v) % 256] ++ m.drop (atOf m)).length = 0 from by
    simp only [List.length_append, List.length_take, List.length_drop, List.length_cons, List.length_nil]
    omega, List.replicate_zero, List.append_nil, List.append_assoc]

theorem outX_facts {m : List Int} {v : Int} (hb : bytes m) (p : (parseOf m).2.2.2.2.2.2 = 0) (v0 : 1 ≤ v) (v1 : v ≤ 4094) : bytes (outX m v) ∧ (outX m v).length = m.length + 16 - atOf m ∧ tg (outX m v) = true ∧ tciOf (outX m v) = tciOf m / 4096 * 4096 + v ∧ (outX m v).take 12 = m.take 12 ∧ (outX m v).drop 16 = m.drop (atOf m) ∧ (parseOf (outX m v)).2.2.2.2.2.2 = 0 := by
  obtain ⟨p0, p1, p2⟩ := parse_len p
  have ha := atOf_le m
  have ht := tci_range hb
  have L12 : (m.take 12).length = 12 := by rw [List.length_take]; omega
  have hlen : (outX m v).length = m.length + 16 - atOf m := by
    unfold outX
    simp only [List.length_append, List.length_take, List.length_drop, List.length_cons, List.length_nil]
    omega
  have hb2 : bytes (outX m v) := by
    unfold outX
    refine bytes_app (bytes_take hb 12) (bytes_app (fun x hx => ?_) (bytes_drop hb _))
    simp only [List.mem_cons, List.not_mem_nil, or_false] at hx
    rcases hx with rfl | rfl | rfl | rfl <;> omega
  have R : ∀ i : Int, 12 ≤ i → i < 16 → rd (outX m v) i = rd [129, 0, (tciOf m / 4096 * 4096 + v) / 256, (tciOf m / 4096 * 4096 + v) % 256] (i - 12) := fun i h0 h1 => by
    unfold outX
    rw [rd_app_r (by omega), L12, rd_app_l (by omega) (by simp only [List.length_cons, List.length_nil]; omega)]
    rfl
  have t1 : tg (outX m v) = true := by
    unfold tg
    rw [R 12 (by decide) (by decide), R 13 (by decide) (by decide)]
    rfl
  have t2 : tciOf (outX m v) = tciOf m / 4096 * 4096 + v := by
    unfold tciOf
    rw [if_pos t1, R 14 (by decide) (by decide), R 15 (by decide) (by decide)]
    show (tciOf m / 4096 * 4096 + v) / 256 * 256 + (tciOf m / 4096 * 4096 + v) % 256 = tciOf m / 4096 * 4096 + v
    omega
  have t3 : (outX m v).take 12 = m.take 12 := by
    unfold outX
    rw [List.take_append_of_le_length (by omega), List.take_of_length_le (by omega)]
  have t4 : (outX m v).drop 16 = m.drop (atOf m) := by
    unfold outX
    rw [← List.append_assoc, List.drop_append_of_le_length (by simp only [List.length_append, List.length_take, List.length_cons, List.length_nil]; omega), List.drop_of_length_le (by simp only [List.length_append, List.length_take, List.length_cons, List.length_nil]; omega), List.nil_append]
  have a16 : atOf (outX m v) = 16 := by unfold atOf; rw [if_pos t1]
  have t5 : typeOf (outX m v) = typeOf m := by
    have e : ∀ i : Nat, rd (outX m v) ((16 : Nat) + (i : Int)) = rd m ((atOf m : Int) + (i : Int)) := fun i => by
      rw [← rd_drop (by omega), t4, rd_drop (by omega)]
    have e0 := e 0
    have e1 := e 1
    unfold typeOf
    rw [a16]
    simp only [Int.ofNat_zero, Int.add_zero, Int.natCast_one] at e0 e1
    rw [e0, e1]
  have t6 : (outX m v).drop (atOf (outX m v) + 2) = m.drop (atOf m + 2) := by
    rw [a16, ← List.drop_drop, t4, List.drop_drop]
  refine ⟨hb2, hlen, t1, t2, t3, t4, ?_⟩
  rw [parse_ok (by omega) (by omega) (by rw [t5, t6]; exact p2)]

theorem back_loop (x y : List Int) (d : Nat) : ∀ (k : Nat) (y' : List Int), padOf y' = y → 60 - y'.length = d → d + 3100 < k → y'.length ≤ 2500 → patchbaylaw02_FrameBack.l0 k x y' = patchbayref01_Same.f (k - (d + 1)) x y := by
  induction d with
  | zero =>
    intro k y' hy hd hk hn
    obtain ⟨k, rfl⟩ : ∃ m, k = m + 1 := ⟨k - 1, by omega⟩
    simp only [patchbaylaw02_FrameBack.l0]
    have : y' = y := by rw [← hy]; unfold padOf; rw [hd, List.replicate_zero, List.append_nil]
    rw [if_neg (by omega), this, show k + 1 - (0 + 1) = k from by omega]
    cases patchbayref01_Same.f k x y <;> rfl
  | succ d ih =>
    intro k y' hy hd hk hn
    obtain ⟨k, rfl⟩ : ∃ m, k = m + 1 := ⟨k - 1, by omega⟩
    simp only [patchbaylaw02_FrameBack.l0]
    rw [if_pos (by omega), if_pos (by omega), ih k (y' ++ [0]) ?_ (by rw [List.length_append]; simp; omega) (by omega) (by rw [List.length_append]; simp; omega), show k + 1 - (d + 1 + 1) = k - (d + 1) from by omega]
    rw [← hy]
    unfold padOf
    rw [List.append_assoc, List.length_append, show ([0] : List Int) ++ List.replicate (60 - (y'.length + [(0 : Int)].length)) 0 = List.replicate (60 - y'.length) 0 from by
      rw [show 60 - y'.length = (60 - (y'.length + [(0 : Int)].length)) + 1 from by simp; omega, List.replicate_succ]; rfl]

theorem FrameBack : patchbaylaw02_FrameBack.Pure := by
  intro l a b hm hn hw _ _
  have hb := bytes_of hw
  refine ⟨9000, ?_⟩
  have T : ∀ k, 3000 ≤ k → patchbaylaw02_told.f k = some true := fun k hk => told_mono (by omega)
  unfold patchbaylaw02_FrameBack.f
  have e : mn (l.length : Int) 1600 = ((min l.length 1600 : Nat) : Int) := by unfold mn; omega
  rw [e, if_pos (by omega), if_pos (by omega), Int.toNat_natCast]
  generalize hg : l.take (min l.length 1600) = m
  have hm2 : m.length ≤ 1600 := by rw [← hg, List.length_take]; omega
  have hb2 : bytes m := by rw [← hg]; exact bytes_take hb _
  have ev : ∀ a : Int, wrap64 (1 + (wrap64 (Int.tmod (IntKind.u64.wrap a) 4094))) = 1 + a % 18446744073709551616 % 4094 := fun a => by
    rw [IntKind.wrap_u64, Int.tmod_eq_emod_of_nonneg (by omega)]; unfold wrap64; omega
  rw [ev, ev, ref_parse_eq (by omega) hb2 (by decide), T 9000 (by decide)]
  have hv : 1 ≤ 1 + a % 18446744073709551616 % 4094 ∧ 1 + a % 18446744073709551616 % 4094 ≤ 4094 := by omega
  have hu : 1 ≤ 1 + b % 18446744073709551616 % 4094 ∧ 1 + b % 18446744073709551616 % 4094 ≤ 4094 := by omega
  generalize 1 + a % 18446744073709551616 % 4094 = v at *
  generalize 1 + b % 18446744073709551616 % 4094 = u at *
  rw [Option.bind_some, Option.bind_some, if_pos rfl]
  rw [patchbaylaw02_FrameBack.j0]
  by_cases c : (parseOf m).2.2.2.2.2.2 = 0
  · obtain ⟨p0, p1, p2⟩ := parse_len c
    have ha := atOf_le m
    have htc := tci_range hb2
    obtain ⟨f1, f2, f3, f4, f5, f6, f7⟩ := outX_facts hb2 c hv.1 hv.2
    have o1 := outX_eq c hv.1 hv.2
    have o2 := outX_eq c hu.1 hu.2
    have o3 := outX_eq f7 hu.1 hu.2
    have a16 : atOf (outX m v) = 16 := by unfold atOf; rw [if_pos f3]
    have eX : outX (outX m v) u = outX m u := by
      rw [show outX (outX m v) u = (outX m v).take 12 ++ ([129, 0, (tciOf (outX m v) / 4096 * 4096 + u) / 256, (tciOf (outX m v) / 4096 * 4096 + u) % 256] ++ (outX m v).drop (atOf (outX m v))) from rfl, f5, a16, f6, f4, show (tciOf m / 4096 * 4096 + v) / 4096 = tciOf m / 4096 from by omega]
      rfl
    have o4 : outOf (outX m v) false 0 = (padOf (m.take 12 ++ m.drop (atOf m)), 0) := by
      unfold outOf tagOf; rw [if_pos f7, if_neg (by simp), if_neg (by decide), List.append_nil, f5, a16, f6]
    have hX : (outX m v).length < 99000 := by omega
    have hU : (outX m u).length ≤ 3000 := by
      obtain ⟨_, g2, _⟩ := outX_facts hb2 c hu.1 hu.2
      omega
    have hP : (padOf (m.take 12 ++ m.drop (atOf m))).length ≤ 3000 ∧ 14 ≤ (padOf (m.take 12 ++ m.drop (atOf m))).length := by
      rw [padOf_len]
      simp only [List.length_append, List.length_take, List.length_drop]
      omega
    rw [if_neg (by simp [c])]
    rw [out_eq (by omega) hb2 (by omega) (by decide), o1, Option.bind_some]
    dsimp only
    rw [out_eq hX f1 (by decide) (by decide), o4, Option.bind_some, out_eq hX f1 (by omega) (by decide), o3, Option.bind_some, out_eq (by omega) hb2 (by omega) (by decide), o2, Option.bind_some]
    dsimp only
    rw [if_pos rfl, if_pos rfl, if_pos rfl, eX, same_eq (by omega) (by omega), Option.bind_some]
    rw [patchbaylaw02_FrameBack.j1, if_neg (by simp), parse_eq (by omega) f1 (by decide), Option.bind_some]
    have g1 : (parseOf (outX m v)).2.2.1 = true := by
      obtain ⟨q0, q1, q2⟩ := parse_len f7
      rw [parse_ok q0 q1 q2]; exact f3
    have g2 : (parseOf (outX m v)).2.2.2.1 = tciOf m / 4096 * 4096 + v := by
      obtain ⟨q0, q1, q2⟩ := parse_len f7
      rw [parse_ok q0 q1 q2]; exact f4
    have g3 : (parseOf m).2.2.2.1 = tciOf m := by rw [parse_ok p0 p1 p2]
    have g4 : (parseOf m).2.2.1 = tg m := by rw [parse_ok p0 p1 p2]
    rw [if_pos f7, if_pos g1, g2, g3, g4, Int.tmod_eq_emod_of_nonneg (by omega), Int.tdiv_eq_ediv_of_nonneg (by omega), Int.tdiv_eq_ediv_of_nonneg (by omega), if_pos (by unfold wrap64; omega), show (tciOf m / 4096 * 4096 + v) / 4096 = tciOf m / 4096 from by omega]
    rw [patchbaylaw02_FrameBack.j2, if_neg (by simp), if_pos rfl, patchbaylaw02_FrameBack.j3, if_neg (by simp; omega)]
    have J : ∀ at' : Nat, at' = atOf m → patchbaylaw02_FrameBack.j4 8996 m (padOf (m.take 12 ++ m.drop (atOf m))) (at' : Int) = some true := by
      intro at' ea
      subst ea
      rw [patchbaylaw02_FrameBack.j4, Option.bind_some, if_pos (by omega), List.length_nil, Nat.zero_add, if_pos (by rw [List.length_take]; omega), Option.bind_some, List.nil_append, if_pos (by omega), if_pos (by omega), Int.toNat_natCast, if_pos (by rw [List.length_take, List.length_drop]; omega)]
      rw [back_loop _ _ _ 8995 _ rfl rfl (by omega) (by rw [List.length_append, List.length_take, List.length_drop]; omega), same_eq (by omega) (by omega)]
    by_cases ht : tg m = true
    · rw [if_pos ht]
      exact J 16 (by unfold atOf; rw [if_pos ht])
    · rw [if_neg ht]
      exact J 12 (by unfold atOf; rw [if_neg ht])
  · rw [if_pos (by simpa using c), T _ (by decide)]
    rfl

end Go.Proofs.Ytdohdjfclnlpmaa.Pure
