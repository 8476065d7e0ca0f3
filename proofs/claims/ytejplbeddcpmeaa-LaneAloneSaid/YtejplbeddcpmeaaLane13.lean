/- The law LaneFair: its walk; no condition. -/
import Derived.Test.YtejplbeddcpmeaaLane11
import Derived.Test.YtejplbeddcpmeaaOpen
namespace Go.Proofs.Ytejplbeddcpmeaa.Lane
open Go.RowKit Go.Proofs.YtejplbeddcpmeaaW.PrintWords Go.Proofs.Ytejplbeddcpmeaa.Heap Go.Proofs.Ytejplbeddcpmeaa.Mem Go.Proofs.Ytejplbeddcpmeaa.Ring
set_option linter.unusedVariables false
set_option linter.unusedSimpArgs false

abbrev JobT := Bool × Int × Int
def jobEnc (x : JobT) : List Value := [.bool x.1, .int .i64 x.2.1, .int .u64 x.2.2]
def jobQ (x : JobT) : Prop := (Lit.int .i64 x.2.1).wf = true ∧ (Lit.int .u64 x.2.2).wf = true
/-- What only makes memory leaves the world as it was. -/
theorem LB.more {w0 w w' : World} {u n k T at_ : Nat} {Ls : Nat → List Int} (h : LB w0 w u n k T at_ Ls) (hb : Below w.heap.size w w') : LB w0 w' u n k T at_ Ls := by
  obtain ⟨p, b2, c2, x, gs, s, ⟨ss, M, hl, hL, hT⟩, h1, h2, h5, h6, h7, h8⟩ := h.ex
  have rowb : ∀ {b n : Nat} {gs : Nat → Nat}, Row w b n gs → Row w' b n gs := fun hr => by obtain ⟨cs, hc, hr⟩ := hr; exact ⟨cs, Blk.below hc hb, hr⟩
  refine ⟨⟨p, b2, c2, x, gs, s, ⟨ss, M, ⟨Blk.below hl.wd hb, rowb hl.row2, Blk.below hl.lane hb, rowb hl.row, ⟨MemAt.below hl.rings.m hb, fun i hi => RingAt.below (hl.rings.r i hi) hb, hl.rings.inv, hl.rings.ap, hl.rings.ne⟩, ?_, hl.at0, hl.n2⟩, hL, hT⟩, h1, h2, h5, h6, h7, h8⟩, below_step h.below hb⟩
  rcases hl.act with q | ⟨y, x', a, q, ha, ho⟩
  · exact .inl q
  · exact .inr ⟨y, x', a, q, Blk.below ha hb, ho⟩
theorem LB.drew {w0 w : World} {u n k T at_ : Nat} {Ls : Nat → List Int} (h : LB w0 w u n k T at_ Ls) : LB w0 w.drew u n k T at_ Ls := h.more (below_drew1 (Below.refl _ _))
theorem LB.at_lt {w0 w : World} {u n k T at_ : Nat} {Ls : Nat → List Int} (h : LB w0 w u n k T at_ Ls) : at_ < n := by
  obtain ⟨p, b2, c2, x, gs, s, ⟨ss, M, hl, _⟩, h1, h2, _⟩ := h.ex
  rw [← h1, ← h2]; exact hl.at0
theorem nx_spec {Ls : Nat → List Int} {n at_ : Nat} : ∀ f j, match nx Ls n at_ f j with
    | none => ∀ i, j ≤ i → i < j + f → Ls ((at_ + i) % n) = []
    | some r => ∃ m, j ≤ m ∧ m < j + f ∧ r = (at_ + m) % n ∧ ∀ i, j ≤ i → i < m → Ls ((at_ + i) % n) = [] := by
  intro f
  induction f with
  | zero => intro j; simp only [nx]; intro i h1 h2; omega
  | succ f ih =>
    intro j
    simp only [nx]
    by_cases c : Ls ((at_ + j) % n) = []
    · rw [if_pos c]
      have := ih (j + 1)
      split at this
      · rename_i q
        intro i h1 h2
        by_cases e : i = j
        · rw [e]; exact c
        · exact this i (by omega) (by omega)
      · rename_i r q
        obtain ⟨m, h1, h2, h3, h4⟩ := this
        refine ⟨m, by omega, by omega, h3, fun i h5 h6 => ?_⟩
        by_cases e : i = j
        · rw [e]; exact c
        · exact h4 i (by omega) h6
    · rw [if_neg c]
      exact ⟨j, Nat.le_refl _, by omega, rfl, fun i h1 h2 => by omega⟩
/-- How many rings the cursor is ahead of one. -/
def dist (n at_ k : Nat) : Nat := if at_ ≤ k then k - at_ else k + n - at_
theorem dist_lt {n at_ k : Nat} (hk : k < n) (ha : at_ < n) : dist n at_ k < n := by unfold dist; split <;> omega
theorem dist_at {n at_ k : Nat} (hk : k < n) (ha : at_ < n) : (at_ + dist n at_ k) % n = k := by
  unfold dist
  split
  · rw [Nat.mod_eq_of_lt (by omega)]; omega
  · rw [Nat.mod_eq_sub_mod (by omega), Nat.mod_eq_of_lt (by omega)]; omega
theorem took_fair {W : World} {n at_ at2 y k ms : Nat} {Ls Ls2 : Nat → List Int} (hk : k < n) (ha : at_ < n) (hne : Ls k ≠ []) (ht : TookL W n at_ Ls y at2 Ls2) (hms : ms + dist n at_ k ≤ n - 1) :
    ∃ (r : Nat) (v : Int), ActSt W y true v (r : Nat) ∧ (r = k → dist n at2 k ≤ n - 1) ∧ (r ≠ k → ms + 1 + dist n at2 k ≤ n - 1) := by
  have hs := nx_spec (Ls := Ls) (n := n) (at_ := at_) n 0
  have hd := dist_lt hk ha
  have hda := dist_at hk ha
  unfold TookL at ht
  split at ht
  · rename_i q
    rw [q] at hs
    exact absurd (by have := hs (dist n at_ k) (Nat.zero_le _) (by omega); rw [hda] at this; exact this) hne
  · rename_i r q
    rw [q] at hs
    obtain ⟨m, _, hmn, hr, hE⟩ := hs
    obtain ⟨v, l, _, hA, h2, _, hrn⟩ := ht
    have hmd : m ≤ dist n at_ k := by
      rcases Nat.lt_or_ge (dist n at_ k) m with c | c
      · exact absurd (by have := hE (dist n at_ k) (Nat.zero_le _) c; rw [hda] at this; exact this) hne
      · exact c
    have h2lt : at2 < n := by rw [h2]; exact Nat.mod_lt _ (by omega)
    refine ⟨r, v, hA, fun _ => by have := dist_lt hk h2lt; omega, fun hrk => ?_⟩
    have hmd2 : m < dist n at_ k := by
      rcases Nat.lt_or_ge m (dist n at_ k) with c | c
      · exact c
      · exact absurd (by rw [hr, show m = dist n at_ k by omega]; exact hda) hrk
    have hd2 : dist n at2 k + m + 1 = dist n at_ k := by
      have e1 : r = if at_ + m < n then at_ + m else at_ + m - n := by
        rw [hr]
        split
        · exact Nat.mod_eq_of_lt (by omega)
        · rw [Nat.mod_eq_sub_mod (by omega), Nat.mod_eq_of_lt (by omega)]
      have e2 : at2 = if r + 1 < n then r + 1 else r + 1 - n := by
        rw [h2]
        split
        · exact Nat.mod_eq_of_lt (by omega)
        · rw [Nat.mod_eq_sub_mod (by omega), Nat.mod_eq_of_lt (by omega)]
      clear h2 hr hda hE q hA hne h2lt
      unfold dist at hmd2 ⊢
      split at e1 <;> split at e2 <;> split <;> split at hmd2 <;> (try split) <;> omega
    omega
theorem putL_self (Ls : Nat → List Int) (K i : Nat) (v : Int) (hK : 1 ≤ K) : putL Ls K i v i ≠ [] := by
  unfold putL
  by_cases c : (Ls i).length < K
  · rw [if_pos c]; unfold updL; rw [if_pos rfl]; simp
  · rw [if_neg c]; intro e; rw [e] at c; simp at c; omega
theorem putL_keep {Ls : Nat → List Int} {k : Nat} (h : Ls k ≠ []) (K i : Nat) (v : Int) : putL Ls K i v k ≠ [] := by
  unfold putL
  by_cases c : (Ls i).length < K
  · rw [if_pos c]; unfold updL
    by_cases e : k = i
    · rw [if_pos e]; simp
    · rw [if_neg e]; exact h
  · rw [if_neg c]; exact h

theorem u64_mod (a : Int) (m : Nat) (hm : 1 ≤ m) : ∃ k : Nat, (IntKind.u64.wrap a).tmod (m : Int) = (k : Int) ∧ k < m := by
  have h := u64_in a
  rw [Int.tmod_eq_emod_of_nonneg h.1]
  have h1 := Int.emod_nonneg (IntKind.u64.wrap a) (show (m : Int) ≠ 0 by omega)
  have h2 := Int.emod_lt_of_pos (IntKind.u64.wrap a) (show (0 : Int) < (m : Int) by omega)
  exact ⟨(IntKind.u64.wrap a % (m : Int)).toNat, by omega, by omega⟩
set_option maxHeartbeats 8000000 in
set_option maxRecDepth 100000 in
theorem LaneFair_calls (a0 a1 : Int) (A0 : Option Addr) (c0 : Nat) (l : List JobT) (w : World) (h : Opens.RowC (Opens.flatK jobEnc) 3 w A0 l.length l) (g0 : l.length ≤ 9223372036854775807) (hq : ∀ x ∈ l, jobQ x) :
    Calls Try.prog 12 #[.int .i64 a0, .int .i64 a1, .slice A0 l.length c0] w fun e w' => e = .returned (.bool true) ∧ Below w.heap.size w w' := by
  obtain ⟨m8, hm8, hm8l⟩ := u64_mod a0 8 (by decide)
  have hm8' : (IntKind.u64.wrap a0).tmod 8 = (m8 : Int) := hm8
  obtain ⟨n, hn⟩ : ∃ n, m8 + 1 = n := ⟨_, rfl⟩
  have ew0 : IntKind.i64.wrap (m8 : Int) = (m8 : Int) := i64_id (by omega)
  have ew1 : IntKind.i64.wrap (1 + (m8 : Int)) = (n : Int) := by rw [i64_id (by omega)]; omega
  have hn1 : 1 ≤ n := by omega
  have hn8 : n ≤ 8 := by omega
  have ewn : IntKind.u64.wrap (n : Int) = (n : Int) := u64_id (by omega)
  have ez0 : ((n : Int) == 0) = false := beq_eq_false_iff_ne.mpr (by omega)
  have ez1 : ¬ (n : Int) = 0 := by omega
  have ez2 : ¬ n = 0 := by omega
  obtain ⟨k, hk, hkn⟩ := u64_mod a1 n hn1
  have ewk : IntKind.i64.wrap (k : Int) = (k : Int) := i64_id (by omega)
  have HX := Aside0.mk h
  have HQ := Aside0.mk hq
  have HBG := Aside0.mk (show Calls Try.prog 49 #[.int .i64 (n : Int), .int .i64 6] w fun e w' => ∃ u, e = .returned (pt u) ∧ LB w w' u n 6 1000 0 (fun _ => []) from LB.begin_ w n 6 hn1 (by omega) (by decide) (by decide))
  clear h hq hm8 hn
  go_enter Try.func12, Try.ntmps12
  go_wp2_with (first | (go_at_call 49; (with_reducible refine HBG.out.mono ?_); rintro e w' ⟨u, rfl, hl⟩; have HL := Aside0.mk hl; clear hl) | (go_at_call 50; (with_reducible refine (told_ _).mono ?_); rintro e w2 ⟨rfl, hb⟩; have HLn := Aside0.mk (HL.out.more hb); clear HL hb; have HL := HLn; clear HLn))
  go_loopg [10, 11] l.length (fun kq v10 v11 wr => ∃ (i ms at_ : Nat) (Ls : Nat → List Int), Aside0 (kq = l.length - i) ∧ i ≤ l.length ∧ i ≤ 150 ∧ v11 = .int .i64 (i : Int) ∧ v10 = .int .i64 (ms : Int) ∧ Aside0 (LB w wr u n 6 (1000 + 1008 * i) at_ Ls) ∧ Aside0 (ms + dist n at_ k ≤ n - 1))
  case atStart => exact ⟨0, 0, 0, _, ⟨by omega⟩, by omega, by omega, rfl, rfl, HL, ⟨by unfold dist; rw [if_pos (Nat.zero_le _)]; omega⟩⟩
  case round =>
    clear HL
    obtain ⟨i, ms, at_, Ls, HKQ, hi, hi4, rfl, rfl, HL, HMS⟩ := hrel
    by_cases hlt : i < l.length ∧ i < 150
    · obtain ⟨hl0, hl4⟩ := hlt
      obtain ⟨ad, e0, x0, x1⟩ := HX.out.field i hl0
      cases e0
      have q := HQ.out _ (List.getElem_mem hl0)
      generalize l[i] = op at *
      obtain ⟨o0, o1, o2⟩ := op
      have X0 := Aside0.mk (And.intro (x1 1 _ (by decide) rfl) (x1 2 _ (by decide) rfl))
      clear x0 x1
      have HV := Aside0.mk (bounds_u64 q.2)
      clear q
      obtain ⟨j, hj, hjn⟩ := u64_mod o1 n hn1
      have ewj : IntKind.i64.wrap (j : Int) = (j : Int) := i64_id (by omega)
      have ewi : IntKind.u64.wrap (i : Int) = (i : Int) := u64_id (by omega)
      have hat := HL.out.at_lt
      have y1 := (HL.out.below.cell (World.block_lt_of_cell? w _ X0.out.1)).trans X0.out.1
      have y2 := (HL.out.below.cell (World.block_lt_of_cell? w _ X0.out.2)).trans X0.out.2
      have d1 : decide ((i : Int) < (l.length : Int)) = true := decide_eq_true (by omega)
      have d2 : decide ((i : Int) < 150) = true := decide_eq_true (by omega)
      have ems : IntKind.i64.wrap ((ms : Int) + 1) = ((ms + 1 : Nat) : Int) := by rw [i64_id (by have := HMS.out; omega)]; omega
      go_upto_region 11 with (go_at_call 57; (with_reducible refine (LB.put_ HL.out (by omega) k hkn (i : Int) (by omega)).mono ?_); rintro e w3 ⟨rfl, hl, _⟩; have HL2 := Aside0.mk hl; clear y1 y2 hl; have y1 := (HL2.out.below.cell (World.block_lt_of_cell? w _ X0.out.1)).trans X0.out.1; have y2 := (HL2.out.below.cell (World.block_lt_of_cell? w _ X0.out.2)).trans X0.out.2)
      go_region_held3 (fun w' => w'.cell? ⟨(ad.add (i * 3)).block, (ad.add (i * 3)).off + 1, none⟩ = some (.int .i64 o1) ∧ w'.cell? ⟨(ad.add (i * 3)).block, (ad.add (i * 3)).off + 2, none⟩ = some (.int .u64 o2)) (first | exact ⟨y1, y2⟩ | go_keep) ((go_at_call 57; (with_reducible refine (LB.put_ (LB.drew HL2.out) (by omega) j hjn o2 HV.out).mono ?_); rintro e w4 ⟨rfl, hl, _⟩; have HL3 := Aside0.mk hl; clear y1 y2 hl; have y1 := (HL3.out.below.cell (World.block_lt_of_cell? w _ X0.out.1)).trans X0.out.1; have y2 := (HL3.out.below.cell (World.block_lt_of_cell? w _ X0.out.2)).trans X0.out.2))
      have HNE := Aside0.mk (putL_keep (putL_self Ls 6 k (i : Int) (by decide)) 6 j o2)
      clear y1 y2 hj
      go_wp2_with (first | (go_at_call 51; (with_reducible refine (LB.take_ HL3.out (by omega)).mono ?_); rintro e w5 ⟨y, at2, Ls2, rfl, hl, ht, _⟩; have HL4 := Aside0.mk hl; obtain ⟨r, v, hA, hr1, hr2⟩ := took_fair hkn hat HNE.out ht HMS.out; have HA := Aside0.mk hA; have HR := Aside0.mk (And.intro hr1 hr2); clear hl ht hA hr1 hr2) | (go_at_call 53; (with_reducible refine HA.out.ok_.mono ?_); rintro e w' ⟨rfl, rfl⟩))
      by_cases hrk : r = k
      · have hq1 : ((r : Int) == (k : Int)) = true := beq_iff_eq.mpr (by omega)
        have hz1 : decide ((0 : Int) ≥ (n : Int)) = false := decide_eq_false (by omega)
        have hz2 : decide ((n : Int) ≤ 0) = false := decide_eq_false (by omega)
        have HD := Aside0.mk (HR.out.1 hrk)
        clear hrk
        refine HA.out.from1.mono ?_
        rintro e w' ⟨rfl, rfl⟩
        go_wp2
        go_roundg (l.length - (i + 1))
        case measure => have := HKQ.out; omega
        case rel => exact ⟨i + 1, 0, at2, Ls2, ⟨rfl⟩, by omega, by omega, by simp, rfl, ⟨by have h := HL4.out; rw [show 1000 + 1008 * (i + 1) = 1000 + 1008 * i + 3 + 3 + 1002 from by omega]; exact h⟩, ⟨by have := HD.out; omega⟩⟩
      · have HD := Aside0.mk (HR.out.2 hrk)
        have hq1 : ((r : Int) == (k : Int)) = false := beq_eq_false_iff_ne.mpr (by omega)
        have hz1 : decide (((ms + 1 : Nat) : Int) ≥ (n : Int)) = false := decide_eq_false (by have := HD.out; omega)
        have hz2 : decide ((n : Int) ≤ ((ms + 1 : Nat) : Int)) = false := decide_eq_false (by have := HD.out; omega)
        have hz3 : decide ((n : Int) ≤ (ms : Int) + 1) = false := decide_eq_false (by have := HD.out; omega)
        have hz4 : ¬ (n : Int) ≤ (ms : Int) + 1 := by have := HD.out; omega
        clear hrk
        refine HA.out.from1.mono ?_
        rintro e w' ⟨rfl, rfl⟩
        go_wp2
        go_roundg (l.length - (i + 1))
        case measure => have := HKQ.out; omega
        case rel => exact ⟨i + 1, ms + 1, at2, Ls2, ⟨rfl⟩, by omega, by omega, by simp, by simp, ⟨by have h := HL4.out; rw [show 1000 + 1008 * (i + 1) = 1000 + 1008 * i + 3 + 3 + 1002 from by omega]; exact h⟩, HD⟩
    · have hge : l.length ≤ i ∨ 150 ≤ i := by omega
      clear hlt
      rcases hge with hge | hge
      all_goals (by_cases a0 : i < l.length <;> try omega)
      all_goals (go_wp2; go_ret; exact ⟨rfl, HL.out.below⟩)
end Go.Proofs.Ytejplbeddcpmeaa.Lane
