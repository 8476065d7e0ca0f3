/- LaneTurns. -/
import Derived.Test.YtejplbeddcpmeaaLaneT
import Derived.Test.YtejplbeddcpmeaaHeld
namespace Go.Proofs.Ytejplbeddcpmeaa.Lane
open Go.RowKit Go.Proofs.YtejplbeddcpmeaaW.PrintWords Go.Proofs.Ytejplbeddcpmeaa.Heap Go.Proofs.Ytejplbeddcpmeaa.Mem Go.Proofs.Ytejplbeddcpmeaa.Ring
set_option linter.unusedVariables false
set_option linter.unusedSimpArgs false

def tka (tk : Option TkS) : Option Addr := match tk with
  | none => none
  | some t => some ⟨t.y, 0, none⟩
abbrev tkv (tk : Option TkS) : Value := .pointer (tka tk)
structure TI (n : Nat) (l1 : List (List Int)) (ss : Nat → LR) (M : MemS) (nw : Nat → Option NwS) (tk : Option TkS) (at_ : Nat → Nat) (fl : Bool → Nat → List Int) (i : Nat) (st : Int) : Prop where
  pg : ∀ k, k < n → fl false k = fl true k ++ (ss k).L
  nw : ∀ k, k < n → ∀ t, nw k = some t → ∃ l, l1[k]? = some l ∧ at_ k < l.length ∧ t.v = rd l (at_ k : Int)
  ai : ∀ k, at_ k ≤ i
  li : ∀ a k, k < n → (fl a k).length ≤ i
  tm : M.time ≤ 1000 + i
  st0 : 0 ≤ st ∧ st ≤ 8 * n
  st : ∀ t, tk = some t → st = t.j + t.c
theorem info_int : (Try.prog.info? 3).map (fun i => (i.zero, i.size, i.bytes)) = some (some (.int .i64 0), 1, 8) := by kernel_rfl
theorem info_pa : (Try.prog.info? 56).map (fun i => (i.zero, i.size, i.bytes)) = some (some (.pointer none), 1, 8) := by kernel_rfl
theorem MW.ofLW {w : World} {u : Nat} {p : Mp} {b2 c2 x : Nat} {gs : Nat → Nat} {ss : Nat → LR} {s : LaneS} {M : MemS} {B0 : Nat} (h : LW w u p b2 c2 x gs ss s M) (h1 : ∀ k, p.has k → B0 ≤ k) (h2 : B0 ≤ x) (h3 : ∀ i, i < s.n → B0 ≤ gs i) : MW B0 w u p b2 c2 x gs ss s M (fun _ => none) none :=
  ⟨⟨h.wd, h.row2, h.lane, h.row, h.rings.m, h.rings.r, h.rings.inv, h.rings.ap, h.rings.ne, (fun i hi t e => by cases e), h.at0, h.n2, h1, h2, h3⟩, h.act⟩
theorem made_cells (w : World) (z : Value) (t n : Nat) : Cells (w.alloc (.cells (madeCells #[z] n) t)) w.heap.size t n (fun _ => z) := by
  refine ⟨(madeCells #[z] n).toList, ?_, fun i hi => made_get z n i hi⟩
  have := Blk.new w (madeCells #[z] n).toList t
  rwa [Array.toArray_toList] at this
theorem Cells.alloc {w : World} {b t n : Nat} {f : Nat → Value} (h : Cells w b t n f) (o : Obj) : Cells (w.alloc o) b t n f := by
  obtain ⟨cs, hb, hc⟩ := h
  exact ⟨cs, hb.alloc o, hc⟩
/-- What the law begins with. -/
structure St0 (w0 w : World) (u n : Nat) (p : Mp) (b2 c2 x : Nat) (gs : Nat → Nat) (ss : Nat → LR) (s : LaneS) (M : MemS) : Prop where
  mw : MW w0.heap.size w u p b2 c2 x gs ss s M (fun _ => none) none
  sn : s.n = n
  L : ∀ i, i < n → (ss i).L = []
  t : M.time ≤ 1000
  t0 : 0 ≤ M.time
  bel : Below w0.heap.size w0 w
theorem LB.st0 {w0 w : World} {u n k at_ : Nat} (h : LB w0 w u n k 1000 at_ (fun _ => [])) : ∃ p b2 c2 x gs ss s M, St0 w0 w u n p b2 c2 x gs ss s M := by
  obtain ⟨p, b2, c2, x, gs, s, ⟨ss, M, hl, hL, hT⟩, h1, h2, h5, h6, h7, h8⟩ := h.ex
  exact ⟨p, b2, c2, x, gs, ss, s, M, MW.ofLW hl h7 h6 (by rw [h1]; exact h8), h1, fun i hi => (hL i (by omega)).1, hT, hl.rings.m.t0, h.below⟩
/-- The four rows are made. -/
theorem start_ {w0 w : World} {u n : Nat} {p : Mp} {b2 c2 x : Nat} {gs : Nat → Nat} {ss : Nat → LR} {s : LaneS} {M : MemS} (h : St0 w0 w u n p b2 c2 x gs ss s M) {W : World} {B NW PB GB : Nat} (hB : w.heap.size = B) (hNW : w.heap.size + 1 = NW) (hPB : w.heap.size + 1 + 1 = PB) (hGB : w.heap.size + 1 + 1 + 1 = GB) (hW : W = (((w.alloc (.cells (madeCells #[.int .i64 0] n) 3)).alloc (.cells (madeCells #[.pointer none] n) 56)).alloc (.cells (madeCells #[.slice none 0 0] n) 44)).alloc (.cells (madeCells #[.slice none 0 0] n) 44)) :
    MW w0.heap.size W u p b2 c2 x gs ss s M (fun _ => none) none ∧ TR w0 W p n B B NW (fun a => if a then GB else PB) (fun _ => 0) (fun _ => .pointer none) (fun _ _ => .slice none 0 0) (fun _ _ => []) := by
  subst hB hNW hPB hGB
  have hb : Below w.heap.size w W := by
    rw [hW]
    exact ((((Below.refl _ _).alloc (Nat.le_refl _) _).alloc (by simp) _).alloc (by simp; omega) _).alloc (by simp; omega) _
  have z1 : (w.alloc (.cells (madeCells #[.int .i64 0] n) 3)).heap.size = w.heap.size + 1 := by simp
  have z2 : ((w.alloc (.cells (madeCells #[.int .i64 0] n) 3)).alloc (.cells (madeCells #[.pointer none] n) 56)).heap.size = w.heap.size + 2 := by simp
  have z3 : (((w.alloc (.cells (madeCells #[.int .i64 0] n) 3)).alloc (.cells (madeCells #[.pointer none] n) 56)).alloc (.cells (madeCells #[.slice none 0 0] n) 44)).heap.size = w.heap.size + 3 := by simp
  refine ⟨h.mw.below hb, ⟨⟨fun a => ?_, fun a i hi => own_nil _ _ _ _, fun _ _ _ _ _ _ _ _ => rfl, by simp, fun a => by cases a <;> simp <;> omega⟩, ?_, ?_, Nat.le_refl _, by omega, fun k hk => ?_, below_step h.bel hb, h.bel.size, hb.size⟩⟩
  · rw [hW]
    cases a
    · have := (made_cells ((w.alloc (.cells (madeCells #[.int .i64 0] n) 3)).alloc (.cells (madeCells #[.pointer none] n) 56)) (.slice none 0 0) 44 n).alloc (.cells (madeCells #[.slice none 0 0] n) 44)
      rw [z2] at this
      exact this
    · have := made_cells (((w.alloc (.cells (madeCells #[.int .i64 0] n) 3)).alloc (.cells (madeCells #[.pointer none] n) 56)).alloc (.cells (madeCells #[.slice none 0 0] n) 44)) (.slice none 0 0) 44 n
      rw [z3] at this
      exact this
  · rw [hW]
    exact (((made_cells w (.int .i64 0) 3 n).alloc _).alloc _).alloc _
  · rw [hW]
    have := ((made_cells (w.alloc (.cells (madeCells #[.int .i64 0] n) 3)) (.pointer none) 56 n).alloc (.cells (madeCells #[.slice none 0 0] n) 44)).alloc (.cells (madeCells #[.slice none 0 0] n) 44)
    rw [z1] at this
    exact this
  · have hm := h.mw.c.m
    rcases hk with q | q | q
    · rw [q]; exact Blk.lt hm.top
    · rw [q]; exact Blk.lt hm.cells
    · rw [q]; exact Blk.lt hm.locks
theorem TI.start {n : Nat} {l1 : List (List Int)} {ss : Nat → LR} {M : MemS} (hL : ∀ i, i < n → (ss i).L = []) (ht : M.time ≤ 1000) : TI n l1 ss M (fun _ => none) none (fun _ => 0) (fun _ _ => []) 0 0 :=
  ⟨fun k hk => by rw [hL k hk]; rfl, fun k hk t e => (by cases e), fun k => Nat.le_refl _, fun a k hk => Nat.le_refl _, by omega, by omega, fun t e => by cases e⟩

theorem ActSt.drew {w : World} {y : Nat} {ok : Bool} {v fr : Int} (h : ActSt w y ok v fr) : ActSt w.drew y ok v fr := h.chg (S := fun _ => False) (Chg.drew (Chg.refl _ _)) (fun _ _ => id)
theorem TI.goes {n : Nat} {l1 : List (List Int)} {ss ss' : Nat → LR} {M M' : MemS} {nw : Nat → Option NwS} {tk tk' : Option TkS} {at_ : Nat → Nat} {fl : Bool → Nat → List Int} {i : Nat} {st st' : Int} (h : TI n l1 ss M nw tk at_ fl i st) (hL : ∀ i, (ss' i).L = (ss i).L) (ht : M'.time = M.time + 1) (hs : 0 ≤ st' ∧ st' ≤ 8 * n) (hk : ∀ t, tk' = some t → st' = t.j + t.c) : TI n l1 ss' M' nw tk' at_ fl (i + 1) st' :=
  ⟨fun k hk => by rw [hL k]; exact h.pg k hk, h.nw, fun k => by have := h.ai k; omega, fun a k hk => by have := h.li a k hk; omega, by have := h.tm; omega, hs, hk⟩

theorem TI.took {n : Nat} {l1 : List (List Int)} {ss ss' : Nat → LR} {M M' : MemS} {nw : Nat → Option NwS} {tk : Option TkS} {at_ : Nat → Nat} {fl : Bool → Nat → List Int} {i : Nat} {st st' : Int} (h : TI n l1 ss M nw tk at_ fl i st) {k : Nat} {v : Int} (hk : k < n) (e : (ss k).L = v :: (ss' k).L) (ho : ∀ j, j ≠ k → (ss' j).L = (ss j).L) (ht : M'.time = M.time + 1) (hs : 0 ≤ st' ∧ st' ≤ 8 * n) : TI n l1 ss' M' nw none at_ (updF fl true k (fl true k ++ [v])) (i + 1) st' := by
  refine ⟨fun j hj => ?_, h.nw, fun k => by have := h.ai k; omega, fun a j hj => ?_, by have := h.tm; omega, hs, fun t e => by cases e⟩
  · rw [updF_far fl _ (b := false) (by simp)]
    by_cases c : j = k
    · subst c; rw [updF_same, h.pg j hj, e]; simp
    · rw [updF_far fl _ (by simp [c]), ho j c]; exact h.pg j hj
  · by_cases c : a = true ∧ j = k
    · obtain ⟨rfl, rfl⟩ := c
      rw [updF_same]; have := h.li true j hj; simp; omega
    · rw [updF_far fl _ c]; have := h.li a j hj; omega
theorem TI.more {n : Nat} {l1 : List (List Int)} {ss : Nat → LR} {M : MemS} {nw : Nat → Option NwS} {tk : Option TkS} {at_ : Nat → Nat} {fl : Bool → Nat → List Int} {i : Nat} {st : Int} (h : TI n l1 ss M nw tk at_ fl i st) : TI n l1 ss M nw tk at_ fl (i + 1) st :=
  ⟨h.pg, h.nw, fun k => by have := h.ai k; omega, fun a k hk => by have := h.li a k hk; omega, by have := h.tm; omega, h.st0, h.st⟩
/-- One begins to put. -/
theorem TI.begin_ {n : Nat} {l1 : List (List Int)} {ss : Nat → LR} {M : MemS} {nw : Nat → Option NwS} {tk : Option TkS} {at_ : Nat → Nat} {fl : Bool → Nat → List Int} {i : Nat} {st : Int} (h : TI n l1 ss M nw tk at_ fl i st) {k : Nat} {t : NwS} {l : List Int} (hl : l1[k]? = some l) (ha : at_ k < l.length) (hv : t.v = rd l (at_ k : Int)) : TI n l1 ss M (updN nw k (some t)) tk at_ fl i st := by
  refine ⟨h.pg, fun j hj t' e => ?_, h.ai, h.li, h.tm, h.st0, h.st⟩
  by_cases c : j = k
  · subst c; rw [updN_same] at e; cases e; exact ⟨l, hl, ha, hv⟩
  · rw [updN_far nw _ c] at e; exact h.nw j hj t' e
/-- One who puts goes on. -/
theorem TI.pgoes {n : Nat} {l1 : List (List Int)} {ss : Nat → LR} {M M' : MemS} {nw : Nat → Option NwS} {tk : Option TkS} {at_ : Nat → Nat} {fl : Bool → Nat → List Int} {i : Nat} {st : Int} (h : TI n l1 ss M nw tk at_ fl i st) {k : Nat} {t t2 : NwS} {s' : LR} (hk : k < n) (ht : nw k = some t) (h2 : t2.v = t.v) (hL : s'.L = (ss k).L) (hT : M'.time = M.time + 1) : TI n l1 (upd ss k s') M' (updN nw k (some t2)) tk at_ fl (i + 1) st := by
  refine ⟨fun j hj => by rw [upd_L ss k s' hL]; exact h.pg j hj, fun j hj t' e => ?_, fun k => by have := h.ai k; omega, fun a k hk => by have := h.li a k hk; omega, by have := h.tm; omega, h.st0, h.st⟩
  by_cases c : j = k
  · subst c
    rw [updN_same] at e; cases e
    obtain ⟨l, h3, h4, h5⟩ := h.nw j hj t ht
    exact ⟨l, h3, h4, h2.trans h5⟩
  · rw [updN_far nw _ c] at e; exact h.nw j hj t' e
/-- One who puts is over. -/
theorem TI.pover {n : Nat} {l1 : List (List Int)} {ss : Nat → LR} {M M' : MemS} {nw : Nat → Option NwS} {tk : Option TkS} {at_ : Nat → Nat} {fl fl' : Bool → Nat → List Int} {i : Nat} {st : Int} (h : TI n l1 ss M nw tk at_ fl i st) {k : Nat} {t : NwS} {s' : LR} (hk : k < n) (hT : M'.time = M.time + 1) (m : Nat) (hm : m ≤ i + 1)
    (hf : (fl' = fl ∧ s'.L = (ss k).L) ∨ (fl' = updF fl false k (fl false k ++ [t.v]) ∧ s'.L = (ss k).L ++ [t.v])) : TI n l1 (upd ss k s') M' (updN nw k none) tk (fun j => if j = k then m else at_ j) fl' (i + 1) st := by
  refine ⟨fun j hj => ?_, fun j hj t' e => ?_, fun j => ?_, fun a j hj => ?_, by have := h.tm; omega, h.st0, h.st⟩
  · rcases hf with ⟨rfl, hL⟩ | ⟨rfl, hL⟩
    · rw [upd_L ss k s' hL]; exact h.pg j hj
    · rw [updF_far fl _ (b := true) (by simp)]
      by_cases c : j = k
      · subst c; rw [updF_same, upd_same, hL, h.pg j hj]; simp
      · rw [updF_far fl _ (by simp [c]), upd_far ss _ c]; exact h.pg j hj
  · by_cases c : j = k
    · subst c; rw [updN_same] at e; cases e
    · rw [updN_far nw _ c] at e
      obtain ⟨l, h3, h4, h5⟩ := h.nw j hj t' e
      exact ⟨l, h3, by rw [if_neg c]; exact h4, by rw [if_neg c]; exact h5⟩
  · show (if j = k then m else at_ j) ≤ i + 1
    split
    · exact hm
    · have := h.ai j; omega
  · rcases hf with ⟨rfl, hL⟩ | ⟨rfl, hL⟩
    · have := h.li a j hj; omega
    · by_cases c : a = false ∧ j = k
      · obtain ⟨rfl, rfl⟩ := c
        rw [updF_same]; have := h.li false j hj; simp; omega
      · rw [updF_far fl _ c]; have := h.li a j hj; omega
theorem upd_self (f : Nat → Nat) (k : Nat) : (fun j => if j = k then f k else f j) = f := by
  funext j
  by_cases e : j = k
  · subst e; simp
  · simp [e]
theorem row_at {w : World} {A1 : Option Addr} {l1 : List (List Int)} (h : Opens.RowC (Opens.rowK (Opens.intK .u64) 1) 1 w A1 l1.length l1) {k : Nat} {l : List Int} (hk : l1[k]? = some l) :
    ∃ ad A cap, A1 = some ad ∧ w.cell? (ad.add k) = some (.slice A l.length cap) ∧ l.length ≤ 9223372036854775807 ∧ ∀ j, j < l.length → ∃ lad, A = some lad ∧ w.cell? (lad.add j) = some (.int .u64 (rd l (j : Int))) := by
  have hlt := (List.getElem?_eq_some_iff.1 hk).1
  obtain ⟨ad, c, e, _, ⟨A, len, cap, hc, hcap, hlen, hr⟩, f⟩ := h.at_ k hlt
  have hx := (List.getElem?_eq_some_iff.1 hk).2
  rw [hx] at hr
  have hl := hr.1
  subst hl
  refine ⟨ad, A, cap, e, ?_, hlen, fun j hj => ?_⟩
  · have := f 0 _ (by rw [hc]; rfl)
    simpa using this
  · obtain ⟨lad, e2, h2⟩ := hr.one j hj
    refine ⟨lad, e2, h2.trans ?_⟩
    simp [rd, List.getD_eq_getElem?_getD, List.getElem?_eq_getElem hj]

set_option maxHeartbeats 16000000 in
set_option maxRecDepth 100000 in
theorem LaneTurns_calls (a0 : Int) (A1 A2 : Option Addr) (c1 c2' : Nat) (l1 : List (List Int)) (l2 : List Int) (w : World) (h1 : Opens.RowC (Opens.rowK (Opens.intK .u64) 1) 1 w A1 l1.length l1) (g1 : l1.length ≤ 9223372036854775807) (q1 : ∀ l ∈ l1, ∀ x ∈ l, (Lit.int .u64 x).wf = true) (h2 : Opens.RowC (Opens.intK .i64) 1 w A2 l2.length l2) (g2 : l2.length ≤ 9223372036854775807) :
    Calls Try.prog 14 #[.int .i64 a0, .slice A1 l1.length c1, .slice A2 l2.length c2'] w fun e w' => e = .returned (.bool true) ∧ Below w.heap.size w w' := by
  obtain ⟨m5, hm5, hm5l⟩ := u64_mod a0 5 (by decide)
  have hm5' : (IntKind.u64.wrap a0).tmod 5 = (m5 : Int) := hm5
  obtain ⟨n, hn⟩ : ∃ n, m5 + 1 = n := ⟨_, rfl⟩
  have ew0 : IntKind.i64.wrap (m5 : Int) = (m5 : Int) := i64_id (by omega)
  have ew1 : IntKind.i64.wrap (1 + (m5 : Int)) = (n : Int) := by rw [i64_id (by omega)]; omega
  have hn1 : 1 ≤ n := by omega
  have hn8 : n ≤ 5 := by omega
  have HX1 := Aside0.mk h1
  have HX2 := Aside0.mk h2
  have HQ := Aside0.mk q1
  have HBG := Aside0.mk (show Calls Try.prog 49 #[.int .i64 (n : Int), .int .i64 3] w fun e w' => ∃ u, e = .returned (pt u) ∧ LB w w' u n 3 1000 0 (fun _ => []) from LB.begin_ w n 3 hn1 (by omega) (by omega) (by omega))
  have hmk1 : ∀ W : World, (Instr.makeSlice 22 (.int .i64 (n : Int)) (.int .i64 (n : Int))).run Try.prog W = .ok (.slice (some ⟨W.heap.size, 0, none⟩) n n) (W.alloc (.cells (madeCells #[.int .i64 0] n) 3)) := print_make_of 22 3 (.int .i64 0) 8 Try.underlying22 info_int rfl (by decide) n (by omega)
  have hmk2 : ∀ W : World, (Instr.makeSlice 60 (.int .i64 (n : Int)) (.int .i64 (n : Int))).run Try.prog W = .ok (.slice (some ⟨W.heap.size, 0, none⟩) n n) (W.alloc (.cells (madeCells #[.pointer none] n) 56)) := print_make_of 60 56 (.pointer none) 8 Try.underlying60 info_pa rfl (by decide) n (by omega)
  have hmk3 : ∀ W : World, (Instr.makeSlice 78 (.int .i64 (n : Int)) (.int .i64 (n : Int))).run Try.prog W = .ok (.slice (some ⟨W.heap.size, 0, none⟩) n n) (W.alloc (.cells (madeCells #[.slice none 0 0] n) 44)) := print_make_of 78 44 (.slice none 0 0) 24 Try.underlying78 info_sl rfl (by decide) n (by omega)
  clear h1 h2 q1 hm5 hn
  go_enter Try.func14, Try.ntmps14
  go_upto_block 0 with (first | (go_at_call 49; (with_reducible refine HBG.out.mono ?_); rintro e w' ⟨u, rfl, hl⟩; have HL := Aside0.mk hl; clear hl) | (go_at_call 50; (with_reducible refine (told_ _).mono ?_); rintro e w2 ⟨rfl, hb⟩; have HLn := Aside0.mk (HL.out.more hb); clear HL hb; have HL := HLn; clear HLn))
  clear hmk1 hmk2 hmk3 HBG
  obtain ⟨p, b2, c2, x, gs, ss, s, M, hst⟩ := LB.st0 HL.out
  clear HL
  obtain ⟨GB, hGB⟩ : ∃ GB, w2.heap.size + 1 + 1 + 1 = GB := ⟨_, rfl⟩
  obtain ⟨PB, hPB⟩ : ∃ PB, w2.heap.size + 1 + 1 = PB := ⟨_, rfl⟩
  obtain ⟨NW, hNW⟩ : ∃ NW, w2.heap.size + 1 = NW := ⟨_, rfl⟩
  obtain ⟨B, hB⟩ : ∃ B, w2.heap.size = B := ⟨_, rfl⟩
  obtain ⟨hmw, htr⟩ := start_ hst hB hNW hPB hGB rfl
  have HMW := Aside0.mk hmw
  have HTR := Aside0.mk htr
  have HTI := Aside0.mk (TI.start (l1 := l1) hst.L hst.t)
  have HSN := Aside0.mk hst.sn
  clear hmw htr hst
  rw [hGB, hPB, hNW, hB]
  generalize (((w2.alloc (.cells (madeCells #[.int .i64 0] n) 3)).alloc (.cells (madeCells #[.pointer none] n) 56)).alloc (.cells (madeCells #[.slice none 0 0] n) 44)).alloc (.cells (madeCells #[.slice none 0 0] n) 44) = w3 at *
  clear hGB hPB hNW hB
  go_cut [13] from 14 to 219 (fun v13 wc => ∃ (ss : Nat → LR) (s : LaneS) (M : MemS) (nw : Nat → Option NwS) (tk : Option TkS) (at_ : Nat → Nat) (fv : Bool → Nat → Value) (fl : Bool → Nat → List Int) (i : Nat) (st : Int), v13 = tkv tk ∧ i ≤ 1500 ∧ Aside0 (MW w.heap.size wc u p b2 c2 x gs ss s M nw tk) ∧ Aside0 (TR w wc p n B B NW (fun a => if a then GB else PB) at_ (nwv nw) fv fl) ∧ Aside0 (s.n = n) ∧ Aside0 (TI n l1 ss M nw tk at_ fl i st))
  case first =>
    as_aux_lemma =>
      go_wp2_with fail
      go_loopg [13, 14, 15] l2.length (fun kq v13 v14 v15 wr => ∃ (i : Nat) (ss : Nat → LR) (s : LaneS) (M : MemS) (nw : Nat → Option NwS) (tk : Option TkS) (at_ : Nat → Nat) (fv : Bool → Nat → Value) (fl : Bool → Nat → List Int) (st : Int), Aside0 (kq = l2.length - i) ∧ i ≤ l2.length ∧ i ≤ 1500 ∧ v13 = tkv tk ∧ v14 = .int .i64 st ∧ v15 = .int .i64 (i : Int) ∧ Aside0 (MW w.heap.size wr u p b2 c2 x gs ss s M nw tk) ∧ Aside0 (TR w wr p n B B NW (fun a => if a then GB else PB) at_ (nwv nw) fv fl) ∧ Aside0 (s.n = n) ∧ Aside0 (TI n l1 ss M nw tk at_ fl i st))
      case atStart => exact ⟨0, ss, s, M, _, none, _, _, _, 0, ⟨by omega⟩, by omega, by omega, rfl, rfl, rfl, HMW, ⟨by have h := HTR.out; exact h⟩, HSN, HTI⟩
      case round =>
        clear HMW HTR HTI HSN
        clear ss s M
        obtain ⟨i, ss, s, M, nw, tk, at_, fv, fl, st, HKQ, hi, hi4, rfl, rfl, rfl, HMW, HTR, HSN, HTI⟩ := hrel
        by_cases hlt : i < l2.length ∧ i < 1500
        · obtain ⟨hl0, hl4⟩ := hlt
          obtain ⟨ad, e0, x0⟩ := HX2.out.one i hl0
          cases e0
          have y0 := (HTR.out.bel.cell (World.block_lt_of_cell? w _ x0)).trans x0
          obtain ⟨y, hyy⟩ : ∃ y, l2[i] = y := ⟨_, rfl⟩
          rw [hyy] at y0
          clear x0 hyy
          obtain ⟨N, hN⟩ : ∃ N, n + 1 = N := ⟨_, rfl⟩
          have eN : IntKind.i64.wrap ((n : Int) + 1) = (N : Int) := by rw [i64_id (by omega)]; omega
          have eNu : IntKind.u64.wrap (N : Int) = (N : Int) := u64_id (by omega)
          have eN0 : ((N : Int) == 0) = false := beq_eq_false_iff_ne.mpr (by omega)
          have eN1 : ¬ (N : Int) = 0 := by omega
          have eN2 : ¬ N = 0 := by omega
          obtain ⟨kd, hkd, hkl⟩ := u64_mod y N (by omega)
          have ekd : IntKind.i64.wrap (kd : Int) = (kd : Int) := i64_id (by omega)
          have d1 : decide ((i : Int) < (l2.length : Int)) = true := decide_eq_true (by omega)
          have d2 : decide ((i : Int) < 1500) = true := decide_eq_true (by omega)
          have u0 : wr.cell? ⟨u, 0, none⟩ = some (pa p) := (Blk.cell HMW.out.c.wd 0).trans rfl
          have u1 : wr.cell? ⟨u, 1, none⟩ = some (.slice (some ⟨b2, 0, none⟩) n c2) := (Blk.cell HMW.out.c.wd 1).trans (by rw [← HSN.out]; rfl)
          have u2 : wr.cell? ⟨u, 2, none⟩ = some (pt x) := (Blk.cell HMW.out.c.wd 2).trans rfl
          have hst0 := HTI.out.st0
          have htm := HTI.out.tm
          have htm0 := HMW.out.c.m.t0
          obtain ⟨T, hT⟩ : ∃ T, M.time = T := ⟨_, rfl⟩
          have HTE := Aside0.mk hT
          rw [hT] at htm htm0
          clear hT
          have HTC := Aside0.mk (show ∀ W, MemAt 97 W p M → Calls Try.prog 27 #[pa p] W fun e w' => e = .returned (.int .i64 T) ∧ W = w' from fun W h => by rw [← HTE.out]; exact time_ W p M h)
          by_cases hkn : n = kd
          · subst hkn
            have ek : ((n : Int) == (n : Int)) = true := beq_self_eq_true _
            go_upto_if 75 with (go_at_call 27; (with_reducible refine (HTC.out _ HMW.out.c.m).mono ?_); rintro e w' ⟨rfl, rfl⟩)
            go_cut [13, 14] from 46 to 219 (fun v13 v14 wc => ∃ (t : TkS) (s2 : LaneS) (st2 : Int), v13 = pt t.y ∧ v14 = .int .i64 st2 ∧ st2 = t.j + t.c ∧ Aside0 (MW w.heap.size wc u p b2 c2 x gs ss s2 M nw (some t)) ∧ Aside0 (TR w wc p n B B NW (fun a => if a then GB else PB) at_ (nwv nw) fv fl) ∧ Aside0 (s2.n = n))
            case first =>
              as_aux_lemma =>
                cases tk with
                | none =>
                  have etk : (tka none).isNone = true := rfl
                  go_wp2_with (first | (go_at_call 60; (with_reducible refine (HMW.out.next).mono ?_); rintro e w4 ⟨t, rfl, hj, hc, hch, hm⟩; have HM2 := Aside0.mk hm; have HR2 := Aside0.mk (HTR.out.mach hch); have HJC := Aside0.mk (And.intro hj hc); clear hj hc hch hm u0 u1 u2; have u2 : w4.cell? ⟨u, 2, none⟩ = some (pt x) := (Blk.cell HM2.out.c.wd 2).trans rfl) | (go_at_call 62; (with_reducible refine (HM2.out.over).mono ?_); rintro e w' ⟨rfl, rfl⟩) | (go_at_call 60; (with_reducible refine (HM2.out.busy).mono ?_); rintro e w' ⟨rfl, rfl⟩))
                  go_meet
                  case rel => exact ⟨t, _, 0, rfl, rfl, by rw [HJC.out.1, HJC.out.2]; rfl, HM2, HR2, ⟨HSN.out⟩⟩
                | some t =>
                  have etk : (tka (some t)).isNone = false := rfl
                  go_wp2
                  go_meet
                  case rel => exact ⟨t, s, st, rfl, rfl, HTI.out.st t rfl, HMW, HTR, HSN⟩
            case rest =>
              as_aux_lemma =>
                clear u0 u1 u2 y0
                obtain ⟨t, s2, st2, rfl, rfl, hst2, HMW2, HTR2, HSN2⟩ := hcut
                obtain ⟨hg1, hg2, hg3⟩ : 0 ≤ st2 ∧ st2 + 1 ≤ 8 * n ∧ Aside0 (st2 = t.j + t.c) := by
                  have h1 := HMW2.out.tk.2.2.2.2.1
                  have h2 := (GP.pv HMW2.out.tk.2.2.2.1).2.2
                  have h3 := HSN2.out
                  exact ⟨by omega, by omega, ⟨hst2⟩⟩
                clear hst2
                have ew22 : IntKind.i64.wrap (st2 + 1) = st2 + 1 := i64_id (by omega)
                have HST := Aside0.mk (HMW2.out.lstep (by rw [HTE.out]; omega))
                go_upto_if 98 with (go_at_call 61; (with_reducible refine HST.out.mono ?_); rintro e w5 ⟨b, rfl, hch, hls⟩; have HTR3 := Aside0.mk (HTR2.out.mach hch); have HLS := Aside0.mk hls; clear hch hls)
                go_cut [13] from 46 to 219 (fun v13 wc => ∃ (ss' : Nat → LR) (s' : LaneS) (M' : MemS) (tk' : Option TkS) (fv' : Bool → Nat → Value) (fl' : Bool → Nat → List Int), v13 = tkv tk' ∧ Aside0 (MW w.heap.size wc u p b2 c2 x gs ss' s' M' nw tk') ∧ Aside0 (TR w wc p n B B NW (fun a => if a then GB else PB) at_ (nwv nw) fv' fl') ∧ Aside0 (s'.n = n) ∧ Aside0 (M'.time = T + 1) ∧ Aside0 (TI n l1 ss' M' nw tk' at_ fl' (i + 1) (st2 + 1)))
                case first =>
                  as_aux_lemma =>
                    have hls := HLS.out
                    clear HLS HST HMW HTR HMW2 HTR2
                    cases hls with
                    | goes t' ss' M' q1 q2 q3 q4 q5 =>
                      have Q := Aside0.mk (And.intro q1 (And.intro q2 (And.intro q3 q4)))
                      have HM5 := Aside0.mk q5
                      clear q1 q2 q3 q4 q5
                      go_wp2
                      go_meet
                      case rel => exact ⟨ss', s2, M', some t', fv, fl, by rw [show tkv (some t') = pt t'.y from rfl, Q.out.1], HM5, HTR3, HSN2, ⟨by rw [Q.out.2.2.2, HTE.out]⟩, ⟨TI.goes HTI.out Q.out.2.2.1 (by rw [Q.out.2.2.2]) (by omega) (fun t1 e => by cases e; have := Q.out.2.1; have := hg3.out; omega)⟩⟩
                    | none_ ss' M' q3 q4 q5 q6 =>
                      have Q := Aside0.mk (And.intro q3 q4)
                      have HA := Aside0.mk q5
                      have HM5 := Aside0.mk q6
                      clear q3 q4 q5 q6
                      go_wp2_with (go_at_call 53; (with_reducible refine HA.out.ok_.mono ?_); rintro e w' ⟨rfl, rfl⟩)
                      go_meet
                      case rel => exact ⟨ss', s2, M', none, fv, fl, rfl, HM5, HTR3, HSN2, ⟨by rw [Q.out.2, HTE.out]⟩, ⟨TI.goes HTI.out Q.out.1 (by rw [Q.out.2]) (by omega) (fun t1 e => by cases e)⟩⟩
                    | one k v ss' s' M' q0 q1 q2 q3 q4 q5 q6 =>
                      have Q := Aside0.mk (And.intro q1 (And.intro q2 (And.intro q3 q4)))
                      have HA := Aside0.mk q5
                      have HM5 := Aside0.mk q6
                      have hkn : k < n := by have := HSN2.out; omega
                      clear q0 q1 q2 q3 q4 q5 q6
                      have dk1 : decide ((k : Int) < 0) = false := decide_eq_false (by omega)
                      have dk2 : decide ((k : Int) ≥ (n : Int)) = false := decide_eq_false (by omega)
                      have dk3 : decide ((n : Int) ≤ (k : Int)) = false := decide_eq_false (by omega)
                      obtain ⟨A5, c5, hv5, hc5, hf5, hr5⟩ := HTR3.out.mt.cell true hkn
                      have hll5 := HTI.out.li true k hkn
                      have HV5 := Aside0.mk hv5
                      clear hr5 hv5
                      go_upto_region 27 with (first | (go_at_call 53; (with_reducible refine HA.out.ok_.mono ?_); rintro e w' ⟨rfl, rfl⟩) | (go_at_call 55; (with_reducible refine HA.out.from1.mono ?_); rintro e w' ⟨rfl, rfl⟩))
                      refine Held.begin_ (fun W => ActSt W t.y true v (k : Nat)) (fun W => W.cell? ⟨GB, k, none⟩ = some (.slice A5 (fl true k).length c5)) [13] (by kernel_rfl) ?_ ?_ (fun hHold => ?_)
                      · exact HA.out.drew
                      · exact hc5
                      have HTq := Aside0.mk HTR3.out.drew
                      have HMq := Aside0.mk HM5.out.drew
                      have HAq := Aside0.mk HA.out.drew
                      have hcq : w5.drew.cell? ⟨GB, k, none⟩ = some (.slice A5 (fl true k).length c5) := hc5
                      clear HTR3 HM5 HA hc5 hf5
                      generalize w5.drew = wq at *
                      refine Held.take (i := 0) (v := ?vq1_) [12, 13] rfl (by kernel_rfl) (by kernel_rfl) (by kernel_rfl) (by kernel_rfl) (by kernel_rfl) (by kernel_rfl) (fun _ _ _ h => h) (Or.inl ⟨by kernel_rfl, ?hyq1_⟩) hHold (fun hHold2 => ?restq1_)
                      case hyq1_ => (intro W hSw; refine Or.inl ?_; have hA := hSw.1; have hB := hSw.2; (try (obtain ⟨hS0⟩ := hA)); (try (obtain ⟨hT0⟩ := hB)); clear hSw; go_simp; try with_reducible rfl)
                      replace hHold := hHold2
                      clear hHold2
                      try simp only [Act.put, List.getElem_toArray, List.getElem_cons_zero, List.getElem_cons_succ, List.setIfInBounds_toArray, List.set_cons_zero, List.set_cons_succ]
                      refine Held.take (i := 1) (v := ?vq2_) [2, 12, 13] rfl (by kernel_rfl) (by kernel_rfl) (by kernel_rfl) (by kernel_rfl) (by kernel_rfl) (by kernel_rfl) (fun _ _ _ h => h) (Or.inl ⟨by kernel_rfl, ?hyq2_⟩) hHold (fun hHold2 => ?restq2_)
                      case hyq2_ => (intro W hSw; refine Or.inl ?_; have hA := hSw.1; have hB := hSw.2; (try (obtain ⟨hS0⟩ := hA)); (try (obtain ⟨hT0⟩ := hB)); clear hSw; go_simp; try with_reducible rfl)
                      replace hHold := hHold2
                      clear hHold2
                      try simp only [Act.put, List.getElem_toArray, List.getElem_cons_zero, List.getElem_cons_succ, List.setIfInBounds_toArray, List.set_cons_zero, List.set_cons_succ]
                      refine Held.take (i := 2) (v := .int .i64 ((k : Nat) : Int)) [12, 13] rfl (by kernel_rfl) (by kernel_rfl) (by kernel_rfl) (by kernel_rfl) (by kernel_rfl) (by kernel_rfl) (fun _ _ _ h => h) (Or.inl ⟨by kernel_rfl, ?hyq3_⟩) hHold (fun hHold2 => ?restq3_)
                      case hyq3_ => (intro W hSw; refine Or.inr ⟨_, _, ?_, hSw.1.from1⟩; go_simp; try with_reducible rfl)
                      replace hHold := hHold2
                      clear hHold2
                      try simp only [Act.put, List.getElem_toArray, List.getElem_cons_zero, List.getElem_cons_succ, List.setIfInBounds_toArray, List.set_cons_zero, List.set_cons_succ]
                      refine Held.take (i := 3) (v := ?vq4_) [6, 7, 11, 13] rfl (by kernel_rfl) (by kernel_rfl) (by kernel_rfl) (by kernel_rfl) (by kernel_rfl) (by kernel_rfl) (fun _ _ _ h => h) (Or.inl ⟨by kernel_rfl, ?hyq4_⟩) hHold (fun hHold2 => ?restq4_)
                      case hyq4_ => (intro W hSw; refine Or.inl ?_; have hA := hSw.1; have hB := hSw.2; (try (obtain ⟨hS0⟩ := hA)); (try (obtain ⟨hT0⟩ := hB)); clear hSw; go_simp; try with_reducible rfl)
                      replace hHold := hHold2
                      clear hHold2
                      try simp only [Act.put, List.getElem_toArray, List.getElem_cons_zero, List.getElem_cons_succ, List.setIfInBounds_toArray, List.set_cons_zero, List.set_cons_succ]
                      refine Held.take (i := 4) (v := ?vq5_) [5, 6, 7, 11, 13] rfl (by kernel_rfl) (by kernel_rfl) (by kernel_rfl) (by kernel_rfl) (by kernel_rfl) (by kernel_rfl) (fun _ _ _ h => h) (Or.inl ⟨by kernel_rfl, ?hyq5_⟩) hHold (fun hHold2 => ?restq5_)
                      case hyq5_ => (intro W hSw; refine Or.inl ?_; have hA := hSw.1; have hB := hSw.2; (try (obtain ⟨hS0⟩ := hA)); (try (obtain ⟨hT0⟩ := hB)); clear hSw; go_simp; try with_reducible rfl)
                      replace hHold := hHold2
                      clear hHold2
                      try simp only [Act.put, List.getElem_toArray, List.getElem_cons_zero, List.getElem_cons_succ, List.setIfInBounds_toArray, List.set_cons_zero, List.set_cons_succ]
                      refine Held.take (i := 5) (v := .int .i64 ((k : Nat) : Int)) [6, 7, 11, 13] rfl (by kernel_rfl) (by kernel_rfl) (by kernel_rfl) (by kernel_rfl) (by kernel_rfl) (by kernel_rfl) (fun _ _ _ h => h) (Or.inl ⟨by kernel_rfl, ?hyq6_⟩) hHold (fun hHold2 => ?restq6_)
                      case hyq6_ => (intro W hSw; refine Or.inr ⟨_, _, ?_, hSw.1.from1⟩; go_simp; try with_reducible rfl)
                      replace hHold := hHold2
                      clear hHold2
                      try simp only [Act.put, List.getElem_toArray, List.getElem_cons_zero, List.getElem_cons_succ, List.setIfInBounds_toArray, List.set_cons_zero, List.set_cons_succ]
                      refine Held.take (i := 6) (v := ?vq7_) [7, 11, 13] rfl (by kernel_rfl) (by kernel_rfl) (by kernel_rfl) (by kernel_rfl) (by kernel_rfl) (by kernel_rfl) (fun _ _ _ h => h) (Or.inl ⟨by kernel_rfl, ?hyq7_⟩) hHold (fun hHold2 => ?restq7_)
                      case hyq7_ => (intro W hSw; refine Or.inl ?_; have hA := hSw.1; have hB := hSw.2; (try (obtain ⟨hS0⟩ := hA)); (try (obtain ⟨hT0⟩ := hB)); clear hSw; go_simp; try with_reducible rfl)
                      replace hHold := hHold2
                      clear hHold2
                      try simp only [Act.put, List.getElem_toArray, List.getElem_cons_zero, List.getElem_cons_succ, List.setIfInBounds_toArray, List.set_cons_zero, List.set_cons_succ]
                      refine Held.take (i := 7) (v := ?vq8_) [11, 13] rfl (by kernel_rfl) (by kernel_rfl) (by kernel_rfl) (by kernel_rfl) (by kernel_rfl) (by kernel_rfl) (fun _ _ _ h => h) (Or.inl ⟨by kernel_rfl, ?hyq8_⟩) hHold (fun hHold2 => ?restq8_)
                      case hyq8_ => (intro W hSw; refine Or.inl ?_; have hA := hSw.1; have hB := hSw.2; (try (obtain ⟨hS0⟩ := hA)); (try (obtain ⟨hT0⟩ := hB)); clear hSw; go_simp; try with_reducible rfl)
                      replace hHold := hHold2
                      clear hHold2
                      try simp only [Act.put, List.getElem_toArray, List.getElem_cons_zero, List.getElem_cons_succ, List.setIfInBounds_toArray, List.set_cons_zero, List.set_cons_succ]
                      refine Held.take (i := 8) (v := ?vq9_) [9, 10, 11, 13] rfl (by kernel_rfl) (by kernel_rfl) (by kernel_rfl) (by kernel_rfl) (by kernel_rfl) (by kernel_rfl) (fun _ _ _ h => h) (Or.inl ⟨by kernel_rfl, ?hyq9_⟩) hHold (fun hHold2 => ?restq9_)
                      case hyq9_ => (intro W hSw; refine Or.inl ?_; have hA := hSw.1; have hB := hSw.2; (try (obtain ⟨hS0⟩ := hA)); (try (obtain ⟨hT0⟩ := hB)); clear hSw; go_simp; try with_reducible rfl)
                      replace hHold := hHold2
                      clear hHold2
                      try simp only [Act.put, List.getElem_toArray, List.getElem_cons_zero, List.getElem_cons_succ, List.setIfInBounds_toArray, List.set_cons_zero, List.set_cons_succ]
                      refine Held.take (i := 9) (v := .int .u64 v) [10, 11, 13] rfl (by kernel_rfl) (by kernel_rfl) (by kernel_rfl) (by kernel_rfl) (by kernel_rfl) (by kernel_rfl) (fun _ _ _ h => h) (Or.inl ⟨by kernel_rfl, ?hyq10_⟩) hHold (fun hHold2 => ?restq10_)
                      case hyq10_ => (intro W hSw; refine Or.inr ⟨_, _, ?_, hSw.1.value1⟩; go_simp; try with_reducible rfl)
                      replace hHold := hHold2
                      clear hHold2
                      try simp only [Act.put, List.getElem_toArray, List.getElem_cons_zero, List.getElem_cons_succ, List.setIfInBounds_toArray, List.set_cons_zero, List.set_cons_succ]
                      refine Held.ready (rs := [10]) (by kernel_rfl) (by simp) ?_
                      refine Held.AllG.cons rfl (fun K hK => ?_) Held.AllG.nil
                      go_simp
                      refine hK.out _ _ ?_ (fun hHold2 => ?_)
                      · exact ⟨HAq.out.chg (S := fun _ => False) (Chg.alloc (Chg.refl _ _) _) (fun _ _ => id), fun _ => (World.cell?_alloc_lt _ _ _ (World.block_lt_of_cell? wq _ hcq)).trans hcq⟩
                      clear hK K
                      replace hHold := hHold2
                      clear hHold2
                      try simp only [Act.put, List.getElem_toArray, List.getElem_cons_zero, List.getElem_cons_succ, List.setIfInBounds_toArray, List.set_cons_zero, List.set_cons_succ]
                      refine Held.ready (rs := [11]) (by kernel_rfl) (by simp) ?_
                      refine Held.AllG.cons rfl (fun K hK => ?_) Held.AllG.nil
                      refine step_append_cells (w0 := wq) (W := wq) B rfl (.tmp 117) (.tmp 120) 44 29 (.int .u64 0) 1 8 rfl Try.underlying44 info_u64 rfl (by decide) (by decide) (.slice A5 (fl true k).length c5) (fl true k).length (nums .u64 (fl true k)) [.int .u64 v] rfl rfl rfl (by intro q hq; simp at hq; subst hq; rfl) (by have q := HTq.out.mt.own true k hkn; rw [HV5.out] at q; exact q) (Below.refl B wq) HTq.out.bs (by omega) ?_
                      intro v1 w1 hown hBe hgr hat2
                      obtain ⟨A3, c3, e3⟩ := own_slice hown
                      subst e3
                      have HO1 := Aside0.mk (HTq.out.grown (a := true) hkn (L := fl true k ++ [v]) (by simpa [nums] using hown) (by rw [HV5.out]; exact hgr) (by rw [HV5.out]; exact hat2))
                      have hg2 : wq.grownBy w1 (fv true k).ownBlock := by rw [HV5.out]; exact hgr
                      have hf1 : w1.frozen? ⟨GB, k, none⟩ = false := by obtain ⟨cs5, hb5, hc5⟩ := HTq.out.mt.out true; exact Blk.frozen (HTq.out.mt.gblk hkn hg2 hb5 (by decide)) k
                      have hc1 : w1.cell? ⟨GB, k, none⟩ = some (.slice A5 (fl true k).length c5) := by obtain ⟨cs5, hb5, hc5⟩ := HTq.out.mt.out true; exact (Blk.cell (HTq.out.mt.gblk hkn hg2 hb5 (by decide)) k).trans (by rw [hc5 k hkn, HV5.out])
                      have HA1 := Aside0.mk (show ActSt w1 t.y true v (k : Nat) from HAq.out.chg (Chg.of_grown hgr) (fun hb ht e => by have q := own_ne (by have q := HTq.out.mt.own true k hkn; rw [HV5.out] at q; exact q) e.symm hb (by rcases ht with e | e <;> subst e <;> decide); exact q rfl))
                      clear hcq hgr hat2 hown hBe
                      refine hK.out _ _ ?_ (fun hHold2 => ?_)
                      · exact ⟨HA1.out, fun _ => hc1⟩
                      clear hK K
                      replace hHold := hHold2
                      clear hHold2
                      try simp only [Act.put, List.getElem_toArray, List.getElem_cons_zero, List.getElem_cons_succ, List.setIfInBounds_toArray, List.set_cons_zero, List.set_cons_succ]
                      refine Held.take (i := 12) (v := ?vq11_) [13] rfl (by kernel_rfl) (by kernel_rfl) (by kernel_rfl) (by kernel_rfl) (by kernel_rfl) (by kernel_rfl) (fun _ _ _ h => h) (Or.inl ⟨by kernel_rfl, ?hyq11_⟩) hHold (fun hHold2 => ?restq11_)
                      case hyq11_ => (intro W hSw; refine Or.inl ?_; have hA := hSw.1; have hB := hSw.2; (try (obtain ⟨hS0⟩ := hA)); (try (obtain ⟨hT0⟩ := hB)); clear hSw; go_simp; try with_reducible rfl)
                      replace hHold := hHold2
                      clear hHold2
                      try simp only [Act.put, List.getElem_toArray, List.getElem_cons_zero, List.getElem_cons_succ, List.setIfInBounds_toArray, List.set_cons_zero, List.set_cons_succ]
                      have HO2 := Aside0.mk (show TR w (w1.setCell ⟨GB, k, none⟩ (.slice A3 ((fl true k).length + 1) c3)) p n B B NW (fun a => if a then GB else PB) at_ (nwv nw) (updF fv true k (.slice A3 ((fl true k).length + 1) c3)) (updF fl true k (fl true k ++ [v])) ∧ Chg (RT B wq) wq (w1.setCell ⟨GB, k, none⟩ (.slice A3 ((fl true k).length + 1) c3)) from HO1.out)
                      clear HO1
                      refine Held.ready (rs := [13]) (by kernel_rfl) (by simp) ?_
                      refine Held.AllG.cons rfl (fun K hK => ?_) Held.AllG.nil
                      go_simp
                      refine hK.out _ _ ?_ (fun hHold2 => ?_)
                      · exact ⟨HAq.out.rt HO2.out.2, fun h => by have := h 13 (by simp); simp at this⟩
                      clear hK K
                      replace hHold := hHold2
                      clear hHold2
                      try simp only [Act.put, List.getElem_toArray, List.getElem_cons_zero, List.getElem_cons_succ, List.setIfInBounds_toArray, List.set_cons_zero, List.set_cons_succ]
                      refine Held.done (by kernel_rfl) ?_ _
                      have HM6 := Aside0.mk (HMq.out.rt HO2.out.2 HTq.out.pl)
                      have HT6 := Aside0.mk HO2.out.1
                      clear HO2 HMq HTq HAq HA1 hc1 hf1 hg2 hHold
                      generalize w1.setCell ⟨GB, k, none⟩ (.slice A3 ((fl true k).length + 1) c3) = w6 at *
                      go_wp2
                      go_meet
                      case rel => exact ⟨ss', s', M', none, _, _, rfl, HM6, HT6, ⟨by rw [Q.out.1]; exact HSN2.out⟩, ⟨by rw [Q.out.2.2.2, HTE.out]⟩, ⟨TI.took HTI.out hkn Q.out.2.1 Q.out.2.2.1 Q.out.2.2.2 (by omega)⟩⟩
                case rest =>
                  as_aux_lemma =>
                    clear HMW HTR HMW2 HTR2 HTR3 HLS HST HTC
                    obtain ⟨ss', s', M', tk', fv', fl', rfl, HMW3, HTR3, HSN3, HTM3, HTI3⟩ := hcut
                    have hTM := HTM3.out
                    have HTC3 := Aside0.mk (show ∀ W, MemAt 97 W p M' → Calls Try.prog 27 #[pa p] W fun e w' => e = .returned (.int .i64 (T + 1)) ∧ W = w' from fun W h => by rw [← hTM]; exact time_ W p M' h)
                    clear hTM
                    have u0 : wc.cell? ⟨u, 0, none⟩ = some (pa p) := (Blk.cell HMW3.out.c.wd 0).trans rfl
                    have ewT : IntKind.i64.wrap (T + 1) = T + 1 := i64_id (by omega)
                    have dT : decide (T + 1 > T + 1) = false := decide_eq_false (by omega)
                    have ew8 : IntKind.i64.wrap (8 * (n : Int)) = 8 * (n : Int) := i64_id (by omega)
                    have d8 : decide (st2 + 1 > 8 * (n : Int)) = false := decide_eq_false (by omega)
                    have d8b : decide (8 * (n : Int) < st2 + 1) = false := decide_eq_false (by omega)
                    go_wp2_with (go_at_call 27; (with_reducible refine (HTC3.out _ HMW3.out.c.m).mono ?_); rintro e w' ⟨rfl, rfl⟩)
                    go_roundg (l2.length - (i + 1))
                    case measure => have := HKQ.out; omega
                    case rel => exact ⟨i + 1, ss', s', M', nw, tk', at_, _, _, (st2 + 1), ⟨rfl⟩, by omega, by omega, rfl, rfl, by simp, HMW3, HTR3, HSN3, HTI3⟩
          · have hkn2 : kd < n := by omega
            have ek : ((kd : Int) == (n : Int)) = false := beq_eq_false_iff_ne.mpr (by omega)
            have nc := (HTR.out.now.cell hkn2).1
            go_upto_if 131 with (go_at_call 27; (with_reducible refine (HTC.out _ HMW.out.c.m).mono ?_); rintro e w' ⟨rfl, rfl⟩)
            go_cut [13] from 46 to 219 (fun v13 wc => ∃ (t : NwS) (nw' : Nat → Option NwS) (l : List Int), v13 = tkv tk ∧ Aside0 (nw' kd = some t ∧ l1[kd]? = some l ∧ at_ kd < l.length ∧ t.v = rd l (at_ kd : Int)) ∧ Aside0 (MW w.heap.size wc u p b2 c2 x gs ss s M nw' tk) ∧ Aside0 (TR w wc p n B B NW (fun a => if a then GB else PB) at_ (nwv nw') fv fl) ∧ Aside0 (TI n l1 ss M nw' tk at_ fl i st))
            case first =>
              as_aux_lemma =>
                rcases hnw : nw kd with _ | t
                · have hna := nwa_none hnw
                  rw [hna]
                  have nc2 := nc
                  rw [show nwv nw kd = .pointer none from by unfold nwv; rw [hna]] at nc2
                  clear nc hna
                  have etk : (none : Option Addr).isNone = true := rfl
                  have HNW := Aside0.mk hnw
                  clear hnw
                  by_cases hkl1 : kd < l1.length
                  · obtain ⟨l, hl⟩ : ∃ l, l1[kd]? = some l := ⟨_, List.getElem?_eq_getElem hkl1⟩
                    have HL := Aside0.mk hl
                    obtain ⟨ad1, A3, cap3, e1, x1, hl63, hel⟩ := row_at HX1.out hl
                    cases e1
                    have y1 := (HTR.out.bel.cell (World.block_lt_of_cell? w _ x1)).trans x1
                    have HEL := Aside0.mk hel
                    have ac := (HTR.out.at_.cell hkn2).1
                    have dl1 : decide ((kd : Int) ≥ (l1.length : Int)) = false := decide_eq_false (by omega)
                    have dl1b : decide ((l1.length : Int) ≤ (kd : Int)) = false := decide_eq_false (by omega)
                    have dl1c : decide (l1.length ≤ kd) = false := decide_eq_false (by omega)
                    have hai := HTI.out.ai kd
                    obtain ⟨m, hm⟩ : ∃ m, at_ kd = m := ⟨_, rfl⟩
                    have HM := Aside0.mk hm
                    rw [hm] at ac hai
                    clear hl hel hm x1
                    by_cases hml : m < l.length
                    · obtain ⟨lad, e3, z1⟩ := HEL.out m hml
                      cases e3
                      have y3 := (HTR.out.bel.cell (World.block_lt_of_cell? w _ z1)).trans z1
                      obtain ⟨v, hv⟩ : ∃ v, rd l (m : Int) = v := ⟨_, rfl⟩
                      have HV := Aside0.mk hv
                      have HVB := Aside0.mk (show 0 ≤ v ∧ v ≤ 18446744073709551615 from by rw [← hv]; exact wf_u64 (HQ.out l (List.mem_of_getElem? HL.out) _ (by rw [show rd l (m : Int) = l[m] from by simp [rd, List.getD_eq_getElem?_getD, List.getElem?_eq_getElem hml]]; exact List.getElem_mem hml)))
                      rw [hv] at y3
                      clear hv z1
                      have dm : decide ((m : Int) ≥ (l.length : Int)) = false := decide_eq_false (by omega)
                      have dmb : decide ((l.length : Int) ≤ (m : Int)) = false := decide_eq_false (by omega)
                      have dmc : decide (l.length ≤ m) = false := decide_eq_false (by omega)
                      go_upto_region 32 with fail
                      refine Held.begin_ (fun W => W.cell? (ad1.add kd) = some (.slice (some lad) l.length cap3) ∧ W.cell? ⟨B, kd, none⟩ = some (.int .i64 (m : Int))) (fun W => True) [] (by kernel_rfl) ?_ ?_ (fun hHold => ?_)
                      · exact ⟨y1, ac⟩
                      · exact trivial
                      refine Held.take (i := 0) (v := ?vq12_) [] rfl (by kernel_rfl) (by kernel_rfl) (by kernel_rfl) (by kernel_rfl) (by kernel_rfl) (by kernel_rfl) (fun _ _ _ h => h) (Or.inl ⟨by kernel_rfl, ?hyq12_⟩) hHold (fun hHold2 => ?restq12_)
                      case hyq12_ => (intro W hSw; refine Or.inl ?_; have hA := hSw.1; have hB := hSw.2; (try (obtain ⟨hS0, hS1⟩ := hA)); (try (obtain ⟨hT0⟩ := hB)); clear hSw; go_simp; try with_reducible rfl)
                      replace hHold := hHold2
                      clear hHold2
                      try simp only [Act.put, List.getElem_toArray, List.getElem_cons_zero, List.getElem_cons_succ, List.setIfInBounds_toArray, List.set_cons_zero, List.set_cons_succ]
                      refine Held.take (i := 1) (v := ?vq13_) [] rfl (by kernel_rfl) (by kernel_rfl) (by kernel_rfl) (by kernel_rfl) (by kernel_rfl) (by kernel_rfl) (fun _ _ _ h => h) (Or.inl ⟨by kernel_rfl, ?hyq13_⟩) hHold (fun hHold2 => ?restq13_)
                      case hyq13_ => (intro W hSw; refine Or.inl ?_; have hA := hSw.1; have hB := hSw.2; (try (obtain ⟨hS0, hS1⟩ := hA)); (try (obtain ⟨hT0⟩ := hB)); clear hSw; go_simp; try with_reducible rfl)
                      replace hHold := hHold2
                      clear hHold2
                      try simp only [Act.put, List.getElem_toArray, List.getElem_cons_zero, List.getElem_cons_succ, List.setIfInBounds_toArray, List.set_cons_zero, List.set_cons_succ]
                      refine Held.take (i := 2) (v := ?vq14_) [] rfl (by kernel_rfl) (by kernel_rfl) (by kernel_rfl) (by kernel_rfl) (by kernel_rfl) (by kernel_rfl) (fun _ _ _ h => h) (Or.inl ⟨by kernel_rfl, ?hyq14_⟩) hHold (fun hHold2 => ?restq14_)
                      case hyq14_ => (intro W hSw; refine Or.inl ?_; have hA := hSw.1; have hB := hSw.2; (try (obtain ⟨hS0, hS1⟩ := hA)); (try (obtain ⟨hT0⟩ := hB)); clear hSw; go_simp; try with_reducible rfl)
                      replace hHold := hHold2
                      clear hHold2
                      try simp only [Act.put, List.getElem_toArray, List.getElem_cons_zero, List.getElem_cons_succ, List.setIfInBounds_toArray, List.set_cons_zero, List.set_cons_succ]
                      refine Held.take (i := 3) (v := ?vq15_) [] rfl (by kernel_rfl) (by kernel_rfl) (by kernel_rfl) (by kernel_rfl) (by kernel_rfl) (by kernel_rfl) (fun _ _ _ h => h) (Or.inl ⟨by kernel_rfl, ?hyq15_⟩) hHold (fun hHold2 => ?restq15_)
                      case hyq15_ => (intro W hSw; refine Or.inl ?_; have hA := hSw.1; have hB := hSw.2; (try (obtain ⟨hS0, hS1⟩ := hA)); (try (obtain ⟨hT0⟩ := hB)); clear hSw; go_simp; try with_reducible rfl)
                      replace hHold := hHold2
                      clear hHold2
                      try simp only [Act.put, List.getElem_toArray, List.getElem_cons_zero, List.getElem_cons_succ, List.setIfInBounds_toArray, List.set_cons_zero, List.set_cons_succ]
                      refine Held.take (i := 4) (v := ?vq16_) [] rfl (by kernel_rfl) (by kernel_rfl) (by kernel_rfl) (by kernel_rfl) (by kernel_rfl) (by kernel_rfl) (fun _ _ _ h => h) (Or.inl ⟨by kernel_rfl, ?hyq16_⟩) hHold (fun hHold2 => ?restq16_)
                      case hyq16_ => (intro W hSw; refine Or.inl ?_; have hA := hSw.1; have hB := hSw.2; (try (obtain ⟨hS0, hS1⟩ := hA)); (try (obtain ⟨hT0⟩ := hB)); clear hSw; go_simp; try with_reducible rfl)
                      replace hHold := hHold2
                      clear hHold2
                      try simp only [Act.put, List.getElem_toArray, List.getElem_cons_zero, List.getElem_cons_succ, List.setIfInBounds_toArray, List.set_cons_zero, List.set_cons_succ]
                      refine Held.take (i := 5) (v := ?vq17_) [] rfl (by kernel_rfl) (by kernel_rfl) (by kernel_rfl) (by kernel_rfl) (by kernel_rfl) (by kernel_rfl) (fun _ _ _ h => h) (Or.inl ⟨by kernel_rfl, ?hyq17_⟩) hHold (fun hHold2 => ?restq17_)
                      case hyq17_ => (intro W hSw; refine Or.inl ?_; have hA := hSw.1; have hB := hSw.2; (try (obtain ⟨hS0, hS1⟩ := hA)); (try (obtain ⟨hT0⟩ := hB)); clear hSw; go_simp; try with_reducible rfl)
                      replace hHold := hHold2
                      clear hHold2
                      try simp only [Act.put, List.getElem_toArray, List.getElem_cons_zero, List.getElem_cons_succ, List.setIfInBounds_toArray, List.set_cons_zero, List.set_cons_succ]
                      refine Held.take (i := 6) (v := ?vq18_) [] rfl (by kernel_rfl) (by kernel_rfl) (by kernel_rfl) (by kernel_rfl) (by kernel_rfl) (by kernel_rfl) (fun _ _ _ h => h) (Or.inl ⟨by kernel_rfl, ?hyq18_⟩) hHold (fun hHold2 => ?restq18_)
                      case hyq18_ => (intro W hSw; refine Or.inl ?_; have hA := hSw.1; have hB := hSw.2; (try (obtain ⟨hS0, hS1⟩ := hA)); (try (obtain ⟨hT0⟩ := hB)); clear hSw; go_simp; try with_reducible rfl)
                      replace hHold := hHold2
                      clear hHold2
                      try simp only [Act.put, List.getElem_toArray, List.getElem_cons_zero, List.getElem_cons_succ, List.setIfInBounds_toArray, List.set_cons_zero, List.set_cons_succ]
                      refine Held.take (i := 7) (v := ?vq19_) [] rfl (by kernel_rfl) (by kernel_rfl) (by kernel_rfl) (by kernel_rfl) (by kernel_rfl) (by kernel_rfl) (fun _ _ _ h => h) (Or.inl ⟨by kernel_rfl, ?hyq19_⟩) hHold (fun hHold2 => ?restq19_)
                      case hyq19_ => (intro W hSw; refine Or.inl ?_; have hA := hSw.1; have hB := hSw.2; (try (obtain ⟨hS0, hS1⟩ := hA)); (try (obtain ⟨hT0⟩ := hB)); clear hSw; go_simp; try with_reducible rfl)
                      replace hHold := hHold2
                      clear hHold2
                      try simp only [Act.put, List.getElem_toArray, List.getElem_cons_zero, List.getElem_cons_succ, List.setIfInBounds_toArray, List.set_cons_zero, List.set_cons_succ]
                      refine Held.take (i := 8) (v := ?vq20_) [] rfl (by kernel_rfl) (by kernel_rfl) (by kernel_rfl) (by kernel_rfl) (by kernel_rfl) (by kernel_rfl) (fun _ _ _ h => h) (Or.inl ⟨by kernel_rfl, ?hyq20_⟩) hHold (fun hHold2 => ?restq20_)
                      case hyq20_ => (intro W hSw; refine Or.inl ?_; have hA := hSw.1; have hB := hSw.2; (try (obtain ⟨hS0, hS1⟩ := hA)); (try (obtain ⟨hT0⟩ := hB)); clear hSw; go_simp; try with_reducible rfl)
                      replace hHold := hHold2
                      clear hHold2
                      try simp only [Act.put, List.getElem_toArray, List.getElem_cons_zero, List.getElem_cons_succ, List.setIfInBounds_toArray, List.set_cons_zero, List.set_cons_succ]
                      refine Held.take (i := 9) (v := ?vq21_) [] rfl (by kernel_rfl) (by kernel_rfl) (by kernel_rfl) (by kernel_rfl) (by kernel_rfl) (by kernel_rfl) (fun _ _ _ h => h) (Or.inl ⟨by kernel_rfl, ?hyq21_⟩) hHold (fun hHold2 => ?restq21_)
                      case hyq21_ => (intro W hSw; refine Or.inl ?_; have hA := hSw.1; have hB := hSw.2; (try (obtain ⟨hS0, hS1⟩ := hA)); (try (obtain ⟨hT0⟩ := hB)); clear hSw; go_simp; try with_reducible rfl)
                      replace hHold := hHold2
                      clear hHold2
                      try simp only [Act.put, List.getElem_toArray, List.getElem_cons_zero, List.getElem_cons_succ, List.setIfInBounds_toArray, List.set_cons_zero, List.set_cons_succ]
                      refine Held.take (i := 10) (v := ?vq22_) [] rfl (by kernel_rfl) (by kernel_rfl) (by kernel_rfl) (by kernel_rfl) (by kernel_rfl) (by kernel_rfl) (fun _ _ _ h => h) (Or.inl ⟨by kernel_rfl, ?hyq22_⟩) hHold (fun hHold2 => ?restq22_)
                      case hyq22_ => (intro W hSw; refine Or.inl ?_; have hA := hSw.1; have hB := hSw.2; (try (obtain ⟨hS0, hS1⟩ := hA)); (try (obtain ⟨hT0⟩ := hB)); clear hSw; go_simp; try with_reducible rfl)
                      replace hHold := hHold2
                      clear hHold2
                      try simp only [Act.put, List.getElem_toArray, List.getElem_cons_zero, List.getElem_cons_succ, List.setIfInBounds_toArray, List.set_cons_zero, List.set_cons_succ]
                      refine Held.take (i := 11) (v := ?vq23_) [] rfl (by kernel_rfl) (by kernel_rfl) (by kernel_rfl) (by kernel_rfl) (by kernel_rfl) (by kernel_rfl) (fun _ _ _ h => h) (Or.inl ⟨by kernel_rfl, ?hyq23_⟩) hHold (fun hHold2 => ?restq23_)
                      case hyq23_ => (intro W hSw; refine Or.inl ?_; have hA := hSw.1; have hB := hSw.2; (try (obtain ⟨hS0, hS1⟩ := hA)); (try (obtain ⟨hT0⟩ := hB)); clear hSw; go_simp; try with_reducible rfl)
                      replace hHold := hHold2
                      clear hHold2
                      try simp only [Act.put, List.getElem_toArray, List.getElem_cons_zero, List.getElem_cons_succ, List.setIfInBounds_toArray, List.set_cons_zero, List.set_cons_succ]
                      refine Held.take (i := 12) (v := ?vq24_) [] rfl (by kernel_rfl) (by kernel_rfl) (by kernel_rfl) (by kernel_rfl) (by kernel_rfl) (by kernel_rfl) (fun _ _ _ h => h) (Or.inl ⟨by kernel_rfl, ?hyq24_⟩) hHold (fun hHold2 => ?restq24_)
                      case hyq24_ => (intro W hSw; refine Or.inl ?_; have hA := hSw.1; have hB := hSw.2; (try (obtain ⟨hS0, hS1⟩ := hA)); (try (obtain ⟨hT0⟩ := hB)); clear hSw; go_simp; try with_reducible rfl)
                      replace hHold := hHold2
                      clear hHold2
                      try simp only [Act.put, List.getElem_toArray, List.getElem_cons_zero, List.getElem_cons_succ, List.setIfInBounds_toArray, List.set_cons_zero, List.set_cons_succ]
                      refine Held.take (i := 13) (v := ?vq25_) [] rfl (by kernel_rfl) (by kernel_rfl) (by kernel_rfl) (by kernel_rfl) (by kernel_rfl) (by kernel_rfl) (fun _ _ _ h => h) (Or.inl ⟨by kernel_rfl, ?hyq25_⟩) hHold (fun hHold2 => ?restq25_)
                      case hyq25_ => (intro W hSw; refine Or.inl ?_; have hA := hSw.1; have hB := hSw.2; (try (obtain ⟨hS0, hS1⟩ := hA)); (try (obtain ⟨hT0⟩ := hB)); clear hSw; go_simp; try with_reducible rfl)
                      replace hHold := hHold2
                      clear hHold2
                      try simp only [Act.put, List.getElem_toArray, List.getElem_cons_zero, List.getElem_cons_succ, List.setIfInBounds_toArray, List.set_cons_zero, List.set_cons_succ]
                      refine Held.take (i := 14) (v := ?vq26_) [] rfl (by kernel_rfl) (by kernel_rfl) (by kernel_rfl) (by kernel_rfl) (by kernel_rfl) (by kernel_rfl) (fun _ _ _ h => h) (Or.inl ⟨by kernel_rfl, ?hyq26_⟩) hHold (fun hHold2 => ?restq26_)
                      case hyq26_ => (intro W hSw; refine Or.inl ?_; have hA := hSw.1; have hB := hSw.2; (try (obtain ⟨hS0, hS1⟩ := hA)); (try (obtain ⟨hT0⟩ := hB)); clear hSw; go_simp; try with_reducible rfl)
                      replace hHold := hHold2
                      clear hHold2
                      try simp only [Act.put, List.getElem_toArray, List.getElem_cons_zero, List.getElem_cons_succ, List.setIfInBounds_toArray, List.set_cons_zero, List.set_cons_succ]
                      refine Held.take (i := 15) (v := ?vq27_) [] rfl (by kernel_rfl) (by kernel_rfl) (by kernel_rfl) (by kernel_rfl) (by kernel_rfl) (by kernel_rfl) (fun _ _ _ h => h) (Or.inl ⟨by kernel_rfl, ?hyq27_⟩) hHold (fun hHold2 => ?restq27_)
                      case hyq27_ => (intro W hSw; refine Or.inl ?_; have hA := hSw.1; have hB := hSw.2; (try (obtain ⟨hS0, hS1⟩ := hA)); (try (obtain ⟨hT0⟩ := hB)); clear hSw; go_simp; try with_reducible rfl)
                      replace hHold := hHold2
                      clear hHold2
                      try simp only [Act.put, List.getElem_toArray, List.getElem_cons_zero, List.getElem_cons_succ, List.setIfInBounds_toArray, List.set_cons_zero, List.set_cons_succ]
                      refine Held.done (by kernel_rfl) ?_ _
                      have HMWd := Aside0.mk HMW.out.drew
                      have HTRd := Aside0.mk HTR.out.drew
                      clear hHold
                      have bc := (show wr.cell? ⟨b2, kd, none⟩ = some (pt (gs kd)) from HMW.out.c.row2.cell (by rw [HSN.out]; exact hkn2))
                      have u1d : wr.drew.cell? ⟨u, 1, none⟩ = _ := u1
                      have y1d : wr.drew.cell? (ad1.add kd) = _ := y1
                      have y3d : wr.drew.cell? (lad.add m) = _ := y3
                      have acd : wr.drew.cell? ⟨B, kd, none⟩ = _ := ac
                      have bcd : wr.drew.cell? ⟨b2, kd, none⟩ = _ := bc
                      clear u0 u1 u2 y0 y1 y3 ac bc nc2 HMW HTR
                      generalize wr.drew = wd at *
                      go_upto_region 33 with fail
                      refine Held.begin_ (fun W => True) (fun W => W.cell? ⟨u, 1, none⟩ = some (.slice (some ⟨b2, 0, none⟩) n c2) ∧ W.cell? ⟨b2, kd, none⟩ = some (pt (gs kd)) ∧ W.cell? (ad1.add kd) = some (.slice (some lad) l.length cap3) ∧ W.cell? ⟨B, kd, none⟩ = some (.int .i64 (m : Int)) ∧ W.cell? (lad.add m) = some (.int .u64 v)) [19] (by kernel_rfl) ?_ ?_ (fun hHold => ?_)
                      · exact trivial
                      · exact ⟨u1d, bcd, y1d, acd, y3d⟩
                      refine Held.take1 (i := 0) (v := ?vq28_) rfl (by kernel_rfl) (by kernel_rfl) (by kernel_rfl) (by kernel_rfl) (fun _ _ _ h => h) (Or.inl ⟨by kernel_rfl, ?hyq28_⟩) hHold (fun hHold2 => ?restq28_)
                      case hyq28_ => (intro W hSw; refine Or.inl ?_; have hA := hSw; have hB := True.intro; (try (obtain ⟨hS0⟩ := hA)); (try (obtain ⟨hT0, hT1, hT2, hT3, hT4⟩ := hB)); clear hSw; go_simp; try with_reducible rfl)
                      replace hHold := hHold2
                      clear hHold2
                      try simp only [Act.put, List.getElem_toArray, List.getElem_cons_zero, List.getElem_cons_succ, List.setIfInBounds_toArray, List.set_cons_zero, List.set_cons_succ]
                      refine Held.take1 (i := 1) (v := ?vq29_) rfl (by kernel_rfl) (by kernel_rfl) (by kernel_rfl) (by kernel_rfl) (fun _ _ _ h => h) (Or.inl ⟨by kernel_rfl, ?hyq29_⟩) hHold (fun hHold2 => ?restq29_)
                      case hyq29_ => (intro W hSw; refine Or.inl ?_; have hA := hSw; have hB := True.intro; (try (obtain ⟨hS0⟩ := hA)); (try (obtain ⟨hT0, hT1, hT2, hT3, hT4⟩ := hB)); clear hSw; go_simp; try with_reducible rfl)
                      replace hHold := hHold2
                      clear hHold2
                      try simp only [Act.put, List.getElem_toArray, List.getElem_cons_zero, List.getElem_cons_succ, List.setIfInBounds_toArray, List.set_cons_zero, List.set_cons_succ]
                      refine Held.take (i := 2) (v := ?vq30_) [3, 4, 5, 7, 8, 19, 21] rfl (by kernel_rfl) (by kernel_rfl) (by kernel_rfl) (by kernel_rfl) (by kernel_rfl) (by kernel_rfl) (fun _ _ _ h => h) (Or.inl ⟨by kernel_rfl, ?hyq30_⟩) hHold (fun hHold2 => ?restq30_)
                      case hyq30_ => (intro W hSw; refine Or.inl ?_; have hA := hSw.1; have hB := hSw.2; (try (obtain ⟨hS0⟩ := hA)); (try (obtain ⟨hT0, hT1, hT2, hT3, hT4⟩ := hB)); clear hSw; go_simp; try with_reducible rfl)
                      replace hHold := hHold2
                      clear hHold2
                      try simp only [Act.put, List.getElem_toArray, List.getElem_cons_zero, List.getElem_cons_succ, List.setIfInBounds_toArray, List.set_cons_zero, List.set_cons_succ]
                      refine Held.take (i := 3) (v := ?vq31_) [4, 5, 7, 8, 19, 21] rfl (by kernel_rfl) (by kernel_rfl) (by kernel_rfl) (by kernel_rfl) (by kernel_rfl) (by kernel_rfl) (fun _ _ _ h => h) (Or.inl ⟨by kernel_rfl, ?hyq31_⟩) hHold (fun hHold2 => ?restq31_)
                      case hyq31_ => (intro W hSw; refine Or.inl ?_; have hA := hSw.1; have hB := hSw.2; (try (obtain ⟨hS0⟩ := hA)); (try (obtain ⟨hT0, hT1, hT2, hT3, hT4⟩ := hB)); clear hSw; go_simp; try with_reducible rfl)
                      replace hHold := hHold2
                      clear hHold2
                      try simp only [Act.put, List.getElem_toArray, List.getElem_cons_zero, List.getElem_cons_succ, List.setIfInBounds_toArray, List.set_cons_zero, List.set_cons_succ]
                      refine Held.take (i := 4) (v := ?vq32_) [5, 7, 8, 19, 21] rfl (by kernel_rfl) (by kernel_rfl) (by kernel_rfl) (by kernel_rfl) (by kernel_rfl) (by kernel_rfl) (fun _ _ _ h => h) (Or.inl ⟨by kernel_rfl, ?hyq32_⟩) hHold (fun hHold2 => ?restq32_)
                      case hyq32_ => (intro W hSw; refine Or.inl ?_; have hA := hSw.1; have hB := hSw.2; (try (obtain ⟨hS0⟩ := hA)); (try (obtain ⟨hT0, hT1, hT2, hT3, hT4⟩ := hB)); clear hSw; go_simp; try with_reducible rfl)
                      replace hHold := hHold2
                      clear hHold2
                      try simp only [Act.put, List.getElem_toArray, List.getElem_cons_zero, List.getElem_cons_succ, List.setIfInBounds_toArray, List.set_cons_zero, List.set_cons_succ]
                      refine Held.take (i := 5) (v := ?vq33_) [7, 8, 19, 21] rfl (by kernel_rfl) (by kernel_rfl) (by kernel_rfl) (by kernel_rfl) (by kernel_rfl) (by kernel_rfl) (fun _ _ _ h => h) (Or.inl ⟨by kernel_rfl, ?hyq33_⟩) hHold (fun hHold2 => ?restq33_)
                      case hyq33_ => (intro W hSw; refine Or.inl ?_; have hA := hSw.1; have hB := hSw.2; (try (obtain ⟨hS0⟩ := hA)); (try (obtain ⟨hT0, hT1, hT2, hT3, hT4⟩ := hB)); clear hSw; go_simp; try with_reducible rfl)
                      replace hHold := hHold2
                      clear hHold2
                      try simp only [Act.put, List.getElem_toArray, List.getElem_cons_zero, List.getElem_cons_succ, List.setIfInBounds_toArray, List.set_cons_zero, List.set_cons_succ]
                      refine Held.take (i := 6) (v := ?vq34_) [7, 8, 19, 21] rfl (by kernel_rfl) (by kernel_rfl) (by kernel_rfl) (by kernel_rfl) (by kernel_rfl) (by kernel_rfl) (fun _ _ _ h => h) (Or.inl ⟨by kernel_rfl, ?hyq34_⟩) hHold (fun hHold2 => ?restq34_)
                      case hyq34_ => (intro W hSw; refine Or.inl ?_; have hA := hSw.1; have hB := hSw.2; (try (obtain ⟨hS0⟩ := hA)); (try (obtain ⟨hT0, hT1, hT2, hT3, hT4⟩ := hB)); clear hSw; go_simp; try with_reducible rfl)
                      replace hHold := hHold2
                      clear hHold2
                      try simp only [Act.put, List.getElem_toArray, List.getElem_cons_zero, List.getElem_cons_succ, List.setIfInBounds_toArray, List.set_cons_zero, List.set_cons_succ]
                      refine Held.take (i := 7) (v := ?vq35_) [8, 19, 21] rfl (by kernel_rfl) (by kernel_rfl) (by kernel_rfl) (by kernel_rfl) (by kernel_rfl) (by kernel_rfl) (fun _ _ _ h => h) (Or.inl ⟨by kernel_rfl, ?hyq35_⟩) hHold (fun hHold2 => ?restq35_)
                      case hyq35_ => (intro W hSw; refine Or.inl ?_; have hA := hSw.1; have hB := hSw.2; (try (obtain ⟨hS0⟩ := hA)); (try (obtain ⟨hT0, hT1, hT2, hT3, hT4⟩ := hB)); clear hSw; go_simp; try with_reducible rfl)
                      replace hHold := hHold2
                      clear hHold2
                      try simp only [Act.put, List.getElem_toArray, List.getElem_cons_zero, List.getElem_cons_succ, List.setIfInBounds_toArray, List.set_cons_zero, List.set_cons_succ]
                      refine Held.take (i := 8) (v := ?vq36_) [19, 21] rfl (by kernel_rfl) (by kernel_rfl) (by kernel_rfl) (by kernel_rfl) (by kernel_rfl) (by kernel_rfl) (fun _ _ _ h => h) (Or.inl ⟨by kernel_rfl, ?hyq36_⟩) hHold (fun hHold2 => ?restq36_)
                      case hyq36_ => (intro W hSw; refine Or.inl ?_; have hA := hSw.1; have hB := hSw.2; (try (obtain ⟨hS0⟩ := hA)); (try (obtain ⟨hT0, hT1, hT2, hT3, hT4⟩ := hB)); clear hSw; go_simp; try with_reducible rfl)
                      replace hHold := hHold2
                      clear hHold2
                      try simp only [Act.put, List.getElem_toArray, List.getElem_cons_zero, List.getElem_cons_succ, List.setIfInBounds_toArray, List.set_cons_zero, List.set_cons_succ]
                      refine Held.take (i := 9) (v := ?vq37_) [11, 12, 17, 18, 19, 21] rfl (by kernel_rfl) (by kernel_rfl) (by kernel_rfl) (by kernel_rfl) (by kernel_rfl) (by kernel_rfl) (fun _ _ _ h => h) (Or.inl ⟨by kernel_rfl, ?hyq37_⟩) hHold (fun hHold2 => ?restq37_)
                      case hyq37_ => (intro W hSw; refine Or.inl ?_; have hA := hSw.1; have hB := hSw.2; (try (obtain ⟨hS0⟩ := hA)); (try (obtain ⟨hT0, hT1, hT2, hT3, hT4⟩ := hB)); clear hSw; go_simp; try with_reducible rfl)
                      replace hHold := hHold2
                      clear hHold2
                      try simp only [Act.put, List.getElem_toArray, List.getElem_cons_zero, List.getElem_cons_succ, List.setIfInBounds_toArray, List.set_cons_zero, List.set_cons_succ]
                      refine Held.take (i := 10) (v := ?vq38_) [11, 12, 17, 18, 19, 21] rfl (by kernel_rfl) (by kernel_rfl) (by kernel_rfl) (by kernel_rfl) (by kernel_rfl) (by kernel_rfl) (fun _ _ _ h => h) (Or.inl ⟨by kernel_rfl, ?hyq38_⟩) hHold (fun hHold2 => ?restq38_)
                      case hyq38_ => (intro W hSw; refine Or.inl ?_; have hA := hSw.1; have hB := hSw.2; (try (obtain ⟨hS0⟩ := hA)); (try (obtain ⟨hT0, hT1, hT2, hT3, hT4⟩ := hB)); clear hSw; go_simp; try with_reducible rfl)
                      replace hHold := hHold2
                      clear hHold2
                      try simp only [Act.put, List.getElem_toArray, List.getElem_cons_zero, List.getElem_cons_succ, List.setIfInBounds_toArray, List.set_cons_zero, List.set_cons_succ]
                      refine Held.take (i := 11) (v := ?vq39_) [12, 17, 18, 19, 21] rfl (by kernel_rfl) (by kernel_rfl) (by kernel_rfl) (by kernel_rfl) (by kernel_rfl) (by kernel_rfl) (fun _ _ _ h => h) (Or.inl ⟨by kernel_rfl, ?hyq39_⟩) hHold (fun hHold2 => ?restq39_)
                      case hyq39_ => (intro W hSw; refine Or.inl ?_; have hA := hSw.1; have hB := hSw.2; (try (obtain ⟨hS0⟩ := hA)); (try (obtain ⟨hT0, hT1, hT2, hT3, hT4⟩ := hB)); clear hSw; go_simp; try with_reducible rfl)
                      replace hHold := hHold2
                      clear hHold2
                      try simp only [Act.put, List.getElem_toArray, List.getElem_cons_zero, List.getElem_cons_succ, List.setIfInBounds_toArray, List.set_cons_zero, List.set_cons_succ]
                      refine Held.take (i := 12) (v := ?vq40_) [17, 18, 19, 21] rfl (by kernel_rfl) (by kernel_rfl) (by kernel_rfl) (by kernel_rfl) (by kernel_rfl) (by kernel_rfl) (fun _ _ _ h => h) (Or.inl ⟨by kernel_rfl, ?hyq40_⟩) hHold (fun hHold2 => ?restq40_)
                      case hyq40_ => (intro W hSw; refine Or.inl ?_; have hA := hSw.1; have hB := hSw.2; (try (obtain ⟨hS0⟩ := hA)); (try (obtain ⟨hT0, hT1, hT2, hT3, hT4⟩ := hB)); clear hSw; go_simp; try with_reducible rfl)
                      replace hHold := hHold2
                      clear hHold2
                      try simp only [Act.put, List.getElem_toArray, List.getElem_cons_zero, List.getElem_cons_succ, List.setIfInBounds_toArray, List.set_cons_zero, List.set_cons_succ]
                      refine Held.take (i := 13) (v := ?vq41_) [15, 16, 17, 18, 19, 21] rfl (by kernel_rfl) (by kernel_rfl) (by kernel_rfl) (by kernel_rfl) (by kernel_rfl) (by kernel_rfl) (fun _ _ _ h => h) (Or.inl ⟨by kernel_rfl, ?hyq41_⟩) hHold (fun hHold2 => ?restq41_)
                      case hyq41_ => (intro W hSw; refine Or.inl ?_; have hA := hSw.1; have hB := hSw.2; (try (obtain ⟨hS0⟩ := hA)); (try (obtain ⟨hT0, hT1, hT2, hT3, hT4⟩ := hB)); clear hSw; go_simp; try with_reducible rfl)
                      replace hHold := hHold2
                      clear hHold2
                      try simp only [Act.put, List.getElem_toArray, List.getElem_cons_zero, List.getElem_cons_succ, List.setIfInBounds_toArray, List.set_cons_zero, List.set_cons_succ]
                      refine Held.take (i := 14) (v := ?vq42_) [15, 16, 17, 18, 19, 21] rfl (by kernel_rfl) (by kernel_rfl) (by kernel_rfl) (by kernel_rfl) (by kernel_rfl) (by kernel_rfl) (fun _ _ _ h => h) (Or.inl ⟨by kernel_rfl, ?hyq42_⟩) hHold (fun hHold2 => ?restq42_)
                      case hyq42_ => (intro W hSw; refine Or.inl ?_; have hA := hSw.1; have hB := hSw.2; (try (obtain ⟨hS0⟩ := hA)); (try (obtain ⟨hT0, hT1, hT2, hT3, hT4⟩ := hB)); clear hSw; go_simp; try with_reducible rfl)
                      replace hHold := hHold2
                      clear hHold2
                      try simp only [Act.put, List.getElem_toArray, List.getElem_cons_zero, List.getElem_cons_succ, List.setIfInBounds_toArray, List.set_cons_zero, List.set_cons_succ]
                      refine Held.take (i := 15) (v := ?vq43_) [16, 17, 18, 19, 21] rfl (by kernel_rfl) (by kernel_rfl) (by kernel_rfl) (by kernel_rfl) (by kernel_rfl) (by kernel_rfl) (fun _ _ _ h => h) (Or.inl ⟨by kernel_rfl, ?hyq43_⟩) hHold (fun hHold2 => ?restq43_)
                      case hyq43_ => (intro W hSw; refine Or.inl ?_; have hA := hSw.1; have hB := hSw.2; (try (obtain ⟨hS0⟩ := hA)); (try (obtain ⟨hT0, hT1, hT2, hT3, hT4⟩ := hB)); clear hSw; go_simp; try with_reducible rfl)
                      replace hHold := hHold2
                      clear hHold2
                      try simp only [Act.put, List.getElem_toArray, List.getElem_cons_zero, List.getElem_cons_succ, List.setIfInBounds_toArray, List.set_cons_zero, List.set_cons_succ]
                      refine Held.take (i := 16) (v := ?vq44_) [17, 18, 19, 21] rfl (by kernel_rfl) (by kernel_rfl) (by kernel_rfl) (by kernel_rfl) (by kernel_rfl) (by kernel_rfl) (fun _ _ _ h => h) (Or.inl ⟨by kernel_rfl, ?hyq44_⟩) hHold (fun hHold2 => ?restq44_)
                      case hyq44_ => (intro W hSw; refine Or.inl ?_; have hA := hSw.1; have hB := hSw.2; (try (obtain ⟨hS0⟩ := hA)); (try (obtain ⟨hT0, hT1, hT2, hT3, hT4⟩ := hB)); clear hSw; go_simp; try with_reducible rfl)
                      replace hHold := hHold2
                      clear hHold2
                      try simp only [Act.put, List.getElem_toArray, List.getElem_cons_zero, List.getElem_cons_succ, List.setIfInBounds_toArray, List.set_cons_zero, List.set_cons_succ]
                      refine Held.take (i := 17) (v := ?vq45_) [18, 19, 21] rfl (by kernel_rfl) (by kernel_rfl) (by kernel_rfl) (by kernel_rfl) (by kernel_rfl) (by kernel_rfl) (fun _ _ _ h => h) (Or.inl ⟨by kernel_rfl, ?hyq45_⟩) hHold (fun hHold2 => ?restq45_)
                      case hyq45_ => (intro W hSw; refine Or.inl ?_; have hA := hSw.1; have hB := hSw.2; (try (obtain ⟨hS0⟩ := hA)); (try (obtain ⟨hT0, hT1, hT2, hT3, hT4⟩ := hB)); clear hSw; go_simp; try with_reducible rfl)
                      replace hHold := hHold2
                      clear hHold2
                      try simp only [Act.put, List.getElem_toArray, List.getElem_cons_zero, List.getElem_cons_succ, List.setIfInBounds_toArray, List.set_cons_zero, List.set_cons_succ]
                      refine Held.take (i := 18) (v := ?vq46_) [19, 21] rfl (by kernel_rfl) (by kernel_rfl) (by kernel_rfl) (by kernel_rfl) (by kernel_rfl) (by kernel_rfl) (fun _ _ _ h => h) (Or.inl ⟨by kernel_rfl, ?hyq46_⟩) hHold (fun hHold2 => ?restq46_)
                      case hyq46_ => (intro W hSw; refine Or.inl ?_; have hA := hSw.1; have hB := hSw.2; (try (obtain ⟨hS0⟩ := hA)); (try (obtain ⟨hT0, hT1, hT2, hT3, hT4⟩ := hB)); clear hSw; go_simp; try with_reducible rfl)
                      replace hHold := hHold2
                      clear hHold2
                      try simp only [Act.put, List.getElem_toArray, List.getElem_cons_zero, List.getElem_cons_succ, List.setIfInBounds_toArray, List.set_cons_zero, List.set_cons_succ]
                      have HMWe := Aside0.mk HMWd.out.drew
                      have HTRe := Aside0.mk HTRd.out.drew
                      clear HMWd HTRd u1d y1d y3d acd bcd
                      generalize wd.drew = we at *
                      refine Held.ready (rs := [19]) (by kernel_rfl) (by simp) ?_
                      refine Held.AllG.cons rfl (fun K hK => ?_) Held.AllG.nil
                      go_simp
                      go_wp2_with (go_at_call 33; (with_reducible refine (HMWe.out.push (k := kd) (by rw [HSN.out]; exact hkn2) HNW.out v HVB.out).mono ?_); rintro e w4 ⟨px, Ax, rfl, hch, hmw4⟩; have HMW4 := Aside0.mk hmw4; have HTR4 := Aside0.mk (HTRe.out.mach hch); clear hch hmw4)
                      refine hK.out _ _ ?_ (fun hHold2 => ?_)
                      · exact ⟨trivial, fun h => by have := h 19 (by simp); simp at this⟩
                      clear hK K
                      replace hHold := hHold2
                      clear hHold2
                      try simp only [Act.put, List.getElem_toArray, List.getElem_cons_zero, List.getElem_cons_succ, List.setIfInBounds_toArray, List.set_cons_zero, List.set_cons_succ]
                      refine Held.take1 (i := 20) (v := ?vq47_) rfl (by kernel_rfl) (by kernel_rfl) (by kernel_rfl) (by kernel_rfl) (fun _ _ _ h => h) (Or.inl ⟨by kernel_rfl, ?hyq47_⟩) hHold (fun hHold2 => ?restq47_)
                      case hyq47_ => (intro W hSw; refine Or.inl ?_; have hA := hSw; have hB := True.intro; (try (obtain ⟨hS0⟩ := hA)); (try (obtain ⟨hT0, hT1, hT2, hT3, hT4⟩ := hB)); clear hSw; go_simp; try with_reducible rfl)
                      replace hHold := hHold2
                      clear hHold2
                      try simp only [Act.put, List.getElem_toArray, List.getElem_cons_zero, List.getElem_cons_succ, List.setIfInBounds_toArray, List.set_cons_zero, List.set_cons_succ]
                      have nc4 := (HTR4.out.now.cell hkn2)
                      have ncv := nc4.1
                      have ncf := nc4.2
                      clear nc4
                      have HO4 := Aside0.mk (HTR4.out.setNow hkn2 (pt px))
                      refine Held.ready (rs := [21]) (by kernel_rfl) (by simp) ?_
                      refine Held.AllG.cons rfl (fun K hK => ?_) Held.AllG.nil
                      go_simp
                      refine hK.out _ _ ?_ (fun hHold2 => ?_)
                      · exact ⟨trivial, fun h => by have := h 19 (by simp); simp at this⟩
                      clear hK K
                      replace hHold := hHold2
                      clear hHold2
                      try simp only [Act.put, List.getElem_toArray, List.getElem_cons_zero, List.getElem_cons_succ, List.setIfInBounds_toArray, List.set_cons_zero, List.set_cons_succ]
                      refine Held.done (by kernel_rfl) ?_ _
                      have HM6 := Aside0.mk (HMW4.out.rt HO4.out.2 HTR4.out.pl)
                      have HT6 := Aside0.mk (HO4.out.1.eqN (nv' := nwv (updN nw kd (some ⟨px, Ax, 0, v⟩))) (fun i _ => by rw [nwv_upd]))
                      clear HO4 HMW4 HTR4 HMWe HTRe ncv ncf hHold
                      generalize w4.setCell ⟨NW, kd, none⟩ (pt px) = w6 at *
                      have ncx : w6.cell? ⟨NW, kd, none⟩ = some (pt px) := by have q := (HT6.out.now.cell hkn2).1; rw [nwv_upd, if_pos rfl] at q; exact q
                      go_wp2
                      go_meet
                      case rel => exact ⟨⟨px, Ax, 0, v⟩, updN nw kd (some ⟨px, Ax, 0, v⟩), l, rfl, ⟨updN_same _ _ _, HL.out, by rw [HM.out]; exact hml, by rw [HM.out, HV.out]⟩, HM6, HT6, ⟨HTI.out.begin_ HL.out (by rw [HM.out]; exact hml) (by rw [HM.out, HV.out])⟩⟩
                    · have dm : decide ((m : Int) ≥ (l.length : Int)) = true := decide_eq_true (by omega)
                      have dmb : decide ((l.length : Int) ≤ (m : Int)) = true := decide_eq_true (by omega)
                      have dmc : decide (l.length ≤ m) = true := decide_eq_true (by omega)
                      go_upto_region 32 with fail
                      refine Held.begin_ (fun W => W.cell? (ad1.add kd) = some (.slice A3 l.length cap3) ∧ W.cell? ⟨B, kd, none⟩ = some (.int .i64 (m : Int))) (fun W => True) [] (by kernel_rfl) ?_ ?_ (fun hHold => ?_)
                      · exact ⟨y1, ac⟩
                      · exact trivial
                      refine Held.take (i := 0) (v := ?vq48_) [] rfl (by kernel_rfl) (by kernel_rfl) (by kernel_rfl) (by kernel_rfl) (by kernel_rfl) (by kernel_rfl) (fun _ _ _ h => h) (Or.inl ⟨by kernel_rfl, ?hyq48_⟩) hHold (fun hHold2 => ?restq48_)
                      case hyq48_ => (intro W hSw; refine Or.inl ?_; have hA := hSw.1; have hB := hSw.2; (try (obtain ⟨hS0, hS1⟩ := hA)); (try (obtain ⟨hT0⟩ := hB)); clear hSw; go_simp; try with_reducible rfl)
                      replace hHold := hHold2
                      clear hHold2
                      try simp only [Act.put, List.getElem_toArray, List.getElem_cons_zero, List.getElem_cons_succ, List.setIfInBounds_toArray, List.set_cons_zero, List.set_cons_succ]
                      refine Held.take (i := 1) (v := ?vq49_) [] rfl (by kernel_rfl) (by kernel_rfl) (by kernel_rfl) (by kernel_rfl) (by kernel_rfl) (by kernel_rfl) (fun _ _ _ h => h) (Or.inl ⟨by kernel_rfl, ?hyq49_⟩) hHold (fun hHold2 => ?restq49_)
                      case hyq49_ => (intro W hSw; refine Or.inl ?_; have hA := hSw.1; have hB := hSw.2; (try (obtain ⟨hS0, hS1⟩ := hA)); (try (obtain ⟨hT0⟩ := hB)); clear hSw; go_simp; try with_reducible rfl)
                      replace hHold := hHold2
                      clear hHold2
                      try simp only [Act.put, List.getElem_toArray, List.getElem_cons_zero, List.getElem_cons_succ, List.setIfInBounds_toArray, List.set_cons_zero, List.set_cons_succ]
                      refine Held.take (i := 2) (v := ?vq50_) [] rfl (by kernel_rfl) (by kernel_rfl) (by kernel_rfl) (by kernel_rfl) (by kernel_rfl) (by kernel_rfl) (fun _ _ _ h => h) (Or.inl ⟨by kernel_rfl, ?hyq50_⟩) hHold (fun hHold2 => ?restq50_)
                      case hyq50_ => (intro W hSw; refine Or.inl ?_; have hA := hSw.1; have hB := hSw.2; (try (obtain ⟨hS0, hS1⟩ := hA)); (try (obtain ⟨hT0⟩ := hB)); clear hSw; go_simp; try with_reducible rfl)
                      replace hHold := hHold2
                      clear hHold2
                      try simp only [Act.put, List.getElem_toArray, List.getElem_cons_zero, List.getElem_cons_succ, List.setIfInBounds_toArray, List.set_cons_zero, List.set_cons_succ]
                      refine Held.take (i := 3) (v := ?vq51_) [] rfl (by kernel_rfl) (by kernel_rfl) (by kernel_rfl) (by kernel_rfl) (by kernel_rfl) (by kernel_rfl) (fun _ _ _ h => h) (Or.inl ⟨by kernel_rfl, ?hyq51_⟩) hHold (fun hHold2 => ?restq51_)
                      case hyq51_ => (intro W hSw; refine Or.inl ?_; have hA := hSw.1; have hB := hSw.2; (try (obtain ⟨hS0, hS1⟩ := hA)); (try (obtain ⟨hT0⟩ := hB)); clear hSw; go_simp; try with_reducible rfl)
                      replace hHold := hHold2
                      clear hHold2
                      try simp only [Act.put, List.getElem_toArray, List.getElem_cons_zero, List.getElem_cons_succ, List.setIfInBounds_toArray, List.set_cons_zero, List.set_cons_succ]
                      refine Held.take (i := 4) (v := ?vq52_) [] rfl (by kernel_rfl) (by kernel_rfl) (by kernel_rfl) (by kernel_rfl) (by kernel_rfl) (by kernel_rfl) (fun _ _ _ h => h) (Or.inl ⟨by kernel_rfl, ?hyq52_⟩) hHold (fun hHold2 => ?restq52_)
                      case hyq52_ => (intro W hSw; refine Or.inl ?_; have hA := hSw.1; have hB := hSw.2; (try (obtain ⟨hS0, hS1⟩ := hA)); (try (obtain ⟨hT0⟩ := hB)); clear hSw; go_simp; try with_reducible rfl)
                      replace hHold := hHold2
                      clear hHold2
                      try simp only [Act.put, List.getElem_toArray, List.getElem_cons_zero, List.getElem_cons_succ, List.setIfInBounds_toArray, List.set_cons_zero, List.set_cons_succ]
                      refine Held.take (i := 5) (v := ?vq53_) [] rfl (by kernel_rfl) (by kernel_rfl) (by kernel_rfl) (by kernel_rfl) (by kernel_rfl) (by kernel_rfl) (fun _ _ _ h => h) (Or.inl ⟨by kernel_rfl, ?hyq53_⟩) hHold (fun hHold2 => ?restq53_)
                      case hyq53_ => (intro W hSw; refine Or.inl ?_; have hA := hSw.1; have hB := hSw.2; (try (obtain ⟨hS0, hS1⟩ := hA)); (try (obtain ⟨hT0⟩ := hB)); clear hSw; go_simp; try with_reducible rfl)
                      replace hHold := hHold2
                      clear hHold2
                      try simp only [Act.put, List.getElem_toArray, List.getElem_cons_zero, List.getElem_cons_succ, List.setIfInBounds_toArray, List.set_cons_zero, List.set_cons_succ]
                      refine Held.take (i := 6) (v := ?vq54_) [] rfl (by kernel_rfl) (by kernel_rfl) (by kernel_rfl) (by kernel_rfl) (by kernel_rfl) (by kernel_rfl) (fun _ _ _ h => h) (Or.inl ⟨by kernel_rfl, ?hyq54_⟩) hHold (fun hHold2 => ?restq54_)
                      case hyq54_ => (intro W hSw; refine Or.inl ?_; have hA := hSw.1; have hB := hSw.2; (try (obtain ⟨hS0, hS1⟩ := hA)); (try (obtain ⟨hT0⟩ := hB)); clear hSw; go_simp; try with_reducible rfl)
                      replace hHold := hHold2
                      clear hHold2
                      try simp only [Act.put, List.getElem_toArray, List.getElem_cons_zero, List.getElem_cons_succ, List.setIfInBounds_toArray, List.set_cons_zero, List.set_cons_succ]
                      refine Held.take (i := 7) (v := ?vq55_) [] rfl (by kernel_rfl) (by kernel_rfl) (by kernel_rfl) (by kernel_rfl) (by kernel_rfl) (by kernel_rfl) (fun _ _ _ h => h) (Or.inl ⟨by kernel_rfl, ?hyq55_⟩) hHold (fun hHold2 => ?restq55_)
                      case hyq55_ => (intro W hSw; refine Or.inl ?_; have hA := hSw.1; have hB := hSw.2; (try (obtain ⟨hS0, hS1⟩ := hA)); (try (obtain ⟨hT0⟩ := hB)); clear hSw; go_simp; try with_reducible rfl)
                      replace hHold := hHold2
                      clear hHold2
                      try simp only [Act.put, List.getElem_toArray, List.getElem_cons_zero, List.getElem_cons_succ, List.setIfInBounds_toArray, List.set_cons_zero, List.set_cons_succ]
                      refine Held.take (i := 8) (v := ?vq56_) [] rfl (by kernel_rfl) (by kernel_rfl) (by kernel_rfl) (by kernel_rfl) (by kernel_rfl) (by kernel_rfl) (fun _ _ _ h => h) (Or.inl ⟨by kernel_rfl, ?hyq56_⟩) hHold (fun hHold2 => ?restq56_)
                      case hyq56_ => (intro W hSw; refine Or.inl ?_; have hA := hSw.1; have hB := hSw.2; (try (obtain ⟨hS0, hS1⟩ := hA)); (try (obtain ⟨hT0⟩ := hB)); clear hSw; go_simp; try with_reducible rfl)
                      replace hHold := hHold2
                      clear hHold2
                      try simp only [Act.put, List.getElem_toArray, List.getElem_cons_zero, List.getElem_cons_succ, List.setIfInBounds_toArray, List.set_cons_zero, List.set_cons_succ]
                      refine Held.take (i := 9) (v := ?vq57_) [] rfl (by kernel_rfl) (by kernel_rfl) (by kernel_rfl) (by kernel_rfl) (by kernel_rfl) (by kernel_rfl) (fun _ _ _ h => h) (Or.inl ⟨by kernel_rfl, ?hyq57_⟩) hHold (fun hHold2 => ?restq57_)
                      case hyq57_ => (intro W hSw; refine Or.inl ?_; have hA := hSw.1; have hB := hSw.2; (try (obtain ⟨hS0, hS1⟩ := hA)); (try (obtain ⟨hT0⟩ := hB)); clear hSw; go_simp; try with_reducible rfl)
                      replace hHold := hHold2
                      clear hHold2
                      try simp only [Act.put, List.getElem_toArray, List.getElem_cons_zero, List.getElem_cons_succ, List.setIfInBounds_toArray, List.set_cons_zero, List.set_cons_succ]
                      refine Held.take (i := 10) (v := ?vq58_) [] rfl (by kernel_rfl) (by kernel_rfl) (by kernel_rfl) (by kernel_rfl) (by kernel_rfl) (by kernel_rfl) (fun _ _ _ h => h) (Or.inl ⟨by kernel_rfl, ?hyq58_⟩) hHold (fun hHold2 => ?restq58_)
                      case hyq58_ => (intro W hSw; refine Or.inl ?_; have hA := hSw.1; have hB := hSw.2; (try (obtain ⟨hS0, hS1⟩ := hA)); (try (obtain ⟨hT0⟩ := hB)); clear hSw; go_simp; try with_reducible rfl)
                      replace hHold := hHold2
                      clear hHold2
                      try simp only [Act.put, List.getElem_toArray, List.getElem_cons_zero, List.getElem_cons_succ, List.setIfInBounds_toArray, List.set_cons_zero, List.set_cons_succ]
                      refine Held.take (i := 11) (v := ?vq59_) [] rfl (by kernel_rfl) (by kernel_rfl) (by kernel_rfl) (by kernel_rfl) (by kernel_rfl) (by kernel_rfl) (fun _ _ _ h => h) (Or.inl ⟨by kernel_rfl, ?hyq59_⟩) hHold (fun hHold2 => ?restq59_)
                      case hyq59_ => (intro W hSw; refine Or.inl ?_; have hA := hSw.1; have hB := hSw.2; (try (obtain ⟨hS0, hS1⟩ := hA)); (try (obtain ⟨hT0⟩ := hB)); clear hSw; go_simp; try with_reducible rfl)
                      replace hHold := hHold2
                      clear hHold2
                      try simp only [Act.put, List.getElem_toArray, List.getElem_cons_zero, List.getElem_cons_succ, List.setIfInBounds_toArray, List.set_cons_zero, List.set_cons_succ]
                      refine Held.take (i := 12) (v := ?vq60_) [] rfl (by kernel_rfl) (by kernel_rfl) (by kernel_rfl) (by kernel_rfl) (by kernel_rfl) (by kernel_rfl) (fun _ _ _ h => h) (Or.inl ⟨by kernel_rfl, ?hyq60_⟩) hHold (fun hHold2 => ?restq60_)
                      case hyq60_ => (intro W hSw; refine Or.inl ?_; have hA := hSw.1; have hB := hSw.2; (try (obtain ⟨hS0, hS1⟩ := hA)); (try (obtain ⟨hT0⟩ := hB)); clear hSw; go_simp; try with_reducible rfl)
                      replace hHold := hHold2
                      clear hHold2
                      try simp only [Act.put, List.getElem_toArray, List.getElem_cons_zero, List.getElem_cons_succ, List.setIfInBounds_toArray, List.set_cons_zero, List.set_cons_succ]
                      refine Held.take (i := 13) (v := ?vq61_) [] rfl (by kernel_rfl) (by kernel_rfl) (by kernel_rfl) (by kernel_rfl) (by kernel_rfl) (by kernel_rfl) (fun _ _ _ h => h) (Or.inl ⟨by kernel_rfl, ?hyq61_⟩) hHold (fun hHold2 => ?restq61_)
                      case hyq61_ => (intro W hSw; refine Or.inl ?_; have hA := hSw.1; have hB := hSw.2; (try (obtain ⟨hS0, hS1⟩ := hA)); (try (obtain ⟨hT0⟩ := hB)); clear hSw; go_simp; try with_reducible rfl)
                      replace hHold := hHold2
                      clear hHold2
                      try simp only [Act.put, List.getElem_toArray, List.getElem_cons_zero, List.getElem_cons_succ, List.setIfInBounds_toArray, List.set_cons_zero, List.set_cons_succ]
                      refine Held.take (i := 14) (v := ?vq62_) [] rfl (by kernel_rfl) (by kernel_rfl) (by kernel_rfl) (by kernel_rfl) (by kernel_rfl) (by kernel_rfl) (fun _ _ _ h => h) (Or.inl ⟨by kernel_rfl, ?hyq62_⟩) hHold (fun hHold2 => ?restq62_)
                      case hyq62_ => (intro W hSw; refine Or.inl ?_; have hA := hSw.1; have hB := hSw.2; (try (obtain ⟨hS0, hS1⟩ := hA)); (try (obtain ⟨hT0⟩ := hB)); clear hSw; go_simp; try with_reducible rfl)
                      replace hHold := hHold2
                      clear hHold2
                      try simp only [Act.put, List.getElem_toArray, List.getElem_cons_zero, List.getElem_cons_succ, List.setIfInBounds_toArray, List.set_cons_zero, List.set_cons_succ]
                      refine Held.take (i := 15) (v := ?vq63_) [] rfl (by kernel_rfl) (by kernel_rfl) (by kernel_rfl) (by kernel_rfl) (by kernel_rfl) (by kernel_rfl) (fun _ _ _ h => h) (Or.inl ⟨by kernel_rfl, ?hyq63_⟩) hHold (fun hHold2 => ?restq63_)
                      case hyq63_ => (intro W hSw; refine Or.inl ?_; have hA := hSw.1; have hB := hSw.2; (try (obtain ⟨hS0, hS1⟩ := hA)); (try (obtain ⟨hT0⟩ := hB)); clear hSw; go_simp; try with_reducible rfl)
                      replace hHold := hHold2
                      clear hHold2
                      try simp only [Act.put, List.getElem_toArray, List.getElem_cons_zero, List.getElem_cons_succ, List.setIfInBounds_toArray, List.set_cons_zero, List.set_cons_succ]
                      refine Held.done (by kernel_rfl) ?_ _
                      have HMWd := Aside0.mk HMW.out.drew
                      have HTRd := Aside0.mk HTR.out.drew
                      clear hHold
                      go_wp2
                      go_roundg (l2.length - (i + 1))
                      case measure => have := HKQ.out; omega
                      case rel => exact ⟨i + 1, ss, s, M, nw, tk, at_, fv, fl, st, ⟨rfl⟩, by omega, by omega, rfl, rfl, by simp, HMWd, HTRd, HSN, ⟨HTI.out.more⟩⟩
                  · have dl1 : decide ((kd : Int) ≥ (l1.length : Int)) = true := decide_eq_true (by omega)
                    have dl1b : decide ((l1.length : Int) ≤ (kd : Int)) = true := decide_eq_true (by omega)
                    have dl1c : decide (l1.length ≤ kd) = true := decide_eq_true (by omega)
                    go_upto_region 32 with fail
                    refine Held.begin_ (fun W => True) (fun W => True) [] (by kernel_rfl) ?_ ?_ (fun hHold => ?_)
                    · exact trivial
                    · exact trivial
                    refine Held.take (i := 0) (v := ?vq64_) [] rfl (by kernel_rfl) (by kernel_rfl) (by kernel_rfl) (by kernel_rfl) (by kernel_rfl) (by kernel_rfl) (fun _ _ _ h => h) (Or.inl ⟨by kernel_rfl, ?hyq64_⟩) hHold (fun hHold2 => ?restq64_)
                    case hyq64_ => (intro W hSw; refine Or.inl ?_; have hA := hSw.1; have hB := hSw.2; (try (obtain ⟨hS0⟩ := hA)); (try (obtain ⟨hT0⟩ := hB)); clear hSw; go_simp; try with_reducible rfl)
                    replace hHold := hHold2
                    clear hHold2
                    try simp only [Act.put, List.getElem_toArray, List.getElem_cons_zero, List.getElem_cons_succ, List.setIfInBounds_toArray, List.set_cons_zero, List.set_cons_succ]
                    refine Held.take (i := 1) (v := ?vq65_) [] rfl (by kernel_rfl) (by kernel_rfl) (by kernel_rfl) (by kernel_rfl) (by kernel_rfl) (by kernel_rfl) (fun _ _ _ h => h) (Or.inl ⟨by kernel_rfl, ?hyq65_⟩) hHold (fun hHold2 => ?restq65_)
                    case hyq65_ => (intro W hSw; refine Or.inl ?_; have hA := hSw.1; have hB := hSw.2; (try (obtain ⟨hS0⟩ := hA)); (try (obtain ⟨hT0⟩ := hB)); clear hSw; go_simp; try with_reducible rfl)
                    replace hHold := hHold2
                    clear hHold2
                    try simp only [Act.put, List.getElem_toArray, List.getElem_cons_zero, List.getElem_cons_succ, List.setIfInBounds_toArray, List.set_cons_zero, List.set_cons_succ]
                    refine Held.take (i := 2) (v := ?vq66_) [] rfl (by kernel_rfl) (by kernel_rfl) (by kernel_rfl) (by kernel_rfl) (by kernel_rfl) (by kernel_rfl) (fun _ _ _ h => h) (Or.inl ⟨by kernel_rfl, ?hyq66_⟩) hHold (fun hHold2 => ?restq66_)
                    case hyq66_ => (intro W hSw; refine Or.inl ?_; have hA := hSw.1; have hB := hSw.2; (try (obtain ⟨hS0⟩ := hA)); (try (obtain ⟨hT0⟩ := hB)); clear hSw; go_simp; try with_reducible rfl)
                    replace hHold := hHold2
                    clear hHold2
                    try simp only [Act.put, List.getElem_toArray, List.getElem_cons_zero, List.getElem_cons_succ, List.setIfInBounds_toArray, List.set_cons_zero, List.set_cons_succ]
                    refine Held.take (i := 3) (v := ?vq67_) [] rfl (by kernel_rfl) (by kernel_rfl) (by kernel_rfl) (by kernel_rfl) (by kernel_rfl) (by kernel_rfl) (fun _ _ _ h => h) (Or.inl ⟨by kernel_rfl, ?hyq67_⟩) hHold (fun hHold2 => ?restq67_)
                    case hyq67_ => (intro W hSw; refine Or.inl ?_; have hA := hSw.1; have hB := hSw.2; (try (obtain ⟨hS0⟩ := hA)); (try (obtain ⟨hT0⟩ := hB)); clear hSw; go_simp; try with_reducible rfl)
                    replace hHold := hHold2
                    clear hHold2
                    try simp only [Act.put, List.getElem_toArray, List.getElem_cons_zero, List.getElem_cons_succ, List.setIfInBounds_toArray, List.set_cons_zero, List.set_cons_succ]
                    refine Held.take (i := 4) (v := ?vq68_) [] rfl (by kernel_rfl) (by kernel_rfl) (by kernel_rfl) (by kernel_rfl) (by kernel_rfl) (by kernel_rfl) (fun _ _ _ h => h) (Or.inl ⟨by kernel_rfl, ?hyq68_⟩) hHold (fun hHold2 => ?restq68_)
                    case hyq68_ => (intro W hSw; refine Or.inl ?_; have hA := hSw.1; have hB := hSw.2; (try (obtain ⟨hS0⟩ := hA)); (try (obtain ⟨hT0⟩ := hB)); clear hSw; go_simp; try with_reducible rfl)
                    replace hHold := hHold2
                    clear hHold2
                    try simp only [Act.put, List.getElem_toArray, List.getElem_cons_zero, List.getElem_cons_succ, List.setIfInBounds_toArray, List.set_cons_zero, List.set_cons_succ]
                    refine Held.take (i := 5) (v := undef) [] rfl (by kernel_rfl) (by kernel_rfl) (by kernel_rfl) (by kernel_rfl) (by kernel_rfl) (by kernel_rfl) (fun _ _ _ h => h) (Or.inr ⟨by kernel_rfl, rfl⟩) hHold (fun hHold2 => ?_)
                    replace hHold := hHold2
                    clear hHold2
                    try simp only [Act.put, List.getElem_toArray, List.getElem_cons_zero, List.getElem_cons_succ, List.setIfInBounds_toArray, List.set_cons_zero, List.set_cons_succ]
                    refine Held.take (i := 6) (v := undef) [] rfl (by kernel_rfl) (by kernel_rfl) (by kernel_rfl) (by kernel_rfl) (by kernel_rfl) (by kernel_rfl) (fun _ _ _ h => h) (Or.inr ⟨by kernel_rfl, rfl⟩) hHold (fun hHold2 => ?_)
                    replace hHold := hHold2
                    clear hHold2
                    try simp only [Act.put, List.getElem_toArray, List.getElem_cons_zero, List.getElem_cons_succ, List.setIfInBounds_toArray, List.set_cons_zero, List.set_cons_succ]
                    refine Held.take (i := 7) (v := undef) [] rfl (by kernel_rfl) (by kernel_rfl) (by kernel_rfl) (by kernel_rfl) (by kernel_rfl) (by kernel_rfl) (fun _ _ _ h => h) (Or.inr ⟨by kernel_rfl, rfl⟩) hHold (fun hHold2 => ?_)
                    replace hHold := hHold2
                    clear hHold2
                    try simp only [Act.put, List.getElem_toArray, List.getElem_cons_zero, List.getElem_cons_succ, List.setIfInBounds_toArray, List.set_cons_zero, List.set_cons_succ]
                    refine Held.take (i := 8) (v := undef) [] rfl (by kernel_rfl) (by kernel_rfl) (by kernel_rfl) (by kernel_rfl) (by kernel_rfl) (by kernel_rfl) (fun _ _ _ h => h) (Or.inr ⟨by kernel_rfl, rfl⟩) hHold (fun hHold2 => ?_)
                    replace hHold := hHold2
                    clear hHold2
                    try simp only [Act.put, List.getElem_toArray, List.getElem_cons_zero, List.getElem_cons_succ, List.setIfInBounds_toArray, List.set_cons_zero, List.set_cons_succ]
                    refine Held.take (i := 9) (v := undef) [] rfl (by kernel_rfl) (by kernel_rfl) (by kernel_rfl) (by kernel_rfl) (by kernel_rfl) (by kernel_rfl) (fun _ _ _ h => h) (Or.inr ⟨by kernel_rfl, rfl⟩) hHold (fun hHold2 => ?_)
                    replace hHold := hHold2
                    clear hHold2
                    try simp only [Act.put, List.getElem_toArray, List.getElem_cons_zero, List.getElem_cons_succ, List.setIfInBounds_toArray, List.set_cons_zero, List.set_cons_succ]
                    refine Held.take (i := 10) (v := undef) [] rfl (by kernel_rfl) (by kernel_rfl) (by kernel_rfl) (by kernel_rfl) (by kernel_rfl) (by kernel_rfl) (fun _ _ _ h => h) (Or.inr ⟨by kernel_rfl, rfl⟩) hHold (fun hHold2 => ?_)
                    replace hHold := hHold2
                    clear hHold2
                    try simp only [Act.put, List.getElem_toArray, List.getElem_cons_zero, List.getElem_cons_succ, List.setIfInBounds_toArray, List.set_cons_zero, List.set_cons_succ]
                    refine Held.take (i := 11) (v := undef) [] rfl (by kernel_rfl) (by kernel_rfl) (by kernel_rfl) (by kernel_rfl) (by kernel_rfl) (by kernel_rfl) (fun _ _ _ h => h) (Or.inr ⟨by kernel_rfl, rfl⟩) hHold (fun hHold2 => ?_)
                    replace hHold := hHold2
                    clear hHold2
                    try simp only [Act.put, List.getElem_toArray, List.getElem_cons_zero, List.getElem_cons_succ, List.setIfInBounds_toArray, List.set_cons_zero, List.set_cons_succ]
                    refine Held.take (i := 12) (v := undef) [] rfl (by kernel_rfl) (by kernel_rfl) (by kernel_rfl) (by kernel_rfl) (by kernel_rfl) (by kernel_rfl) (fun _ _ _ h => h) (Or.inr ⟨by kernel_rfl, rfl⟩) hHold (fun hHold2 => ?_)
                    replace hHold := hHold2
                    clear hHold2
                    try simp only [Act.put, List.getElem_toArray, List.getElem_cons_zero, List.getElem_cons_succ, List.setIfInBounds_toArray, List.set_cons_zero, List.set_cons_succ]
                    refine Held.take (i := 13) (v := undef) [] rfl (by kernel_rfl) (by kernel_rfl) (by kernel_rfl) (by kernel_rfl) (by kernel_rfl) (by kernel_rfl) (fun _ _ _ h => h) (Or.inr ⟨by kernel_rfl, rfl⟩) hHold (fun hHold2 => ?_)
                    replace hHold := hHold2
                    clear hHold2
                    try simp only [Act.put, List.getElem_toArray, List.getElem_cons_zero, List.getElem_cons_succ, List.setIfInBounds_toArray, List.set_cons_zero, List.set_cons_succ]
                    refine Held.take (i := 14) (v := undef) [] rfl (by kernel_rfl) (by kernel_rfl) (by kernel_rfl) (by kernel_rfl) (by kernel_rfl) (by kernel_rfl) (fun _ _ _ h => h) (Or.inr ⟨by kernel_rfl, rfl⟩) hHold (fun hHold2 => ?_)
                    replace hHold := hHold2
                    clear hHold2
                    try simp only [Act.put, List.getElem_toArray, List.getElem_cons_zero, List.getElem_cons_succ, List.setIfInBounds_toArray, List.set_cons_zero, List.set_cons_succ]
                    refine Held.take (i := 15) (v := ?vq69_) [] rfl (by kernel_rfl) (by kernel_rfl) (by kernel_rfl) (by kernel_rfl) (by kernel_rfl) (by kernel_rfl) (fun _ _ _ h => h) (Or.inl ⟨by kernel_rfl, ?hyq69_⟩) hHold (fun hHold2 => ?restq69_)
                    case hyq69_ => (intro W hSw; refine Or.inl ?_; have hA := hSw.1; have hB := hSw.2; (try (obtain ⟨hS0⟩ := hA)); (try (obtain ⟨hT0⟩ := hB)); clear hSw; go_simp; try with_reducible rfl)
                    replace hHold := hHold2
                    clear hHold2
                    try simp only [Act.put, List.getElem_toArray, List.getElem_cons_zero, List.getElem_cons_succ, List.setIfInBounds_toArray, List.set_cons_zero, List.set_cons_succ]
                    refine Held.done (by kernel_rfl) ?_ _
                    have HMWd := Aside0.mk HMW.out.drew
                    have HTRd := Aside0.mk HTR.out.drew
                    clear hHold
                    go_wp2
                    go_roundg (l2.length - (i + 1))
                    case measure => have := HKQ.out; omega
                    case rel => exact ⟨i + 1, ss, s, M, nw, tk, at_, fv, fl, st, ⟨rfl⟩, by omega, by omega, rfl, rfl, by simp, HMWd, HTRd, HSN, ⟨HTI.out.more⟩⟩
                · have hna := nwa_some hnw
                  rw [hna]
                  have etk : (some (⟨t.px, 0, none⟩ : Addr)).isNone = false := rfl
                  obtain ⟨l, q1, q2, q3⟩ := HTI.out.nw kd hkn2 t hnw
                  have HQ3 := Aside0.mk (And.intro hnw (And.intro q1 (And.intro q2 q3)))
                  clear hnw q1 q2 q3 hna
                  go_wp2
                  go_meet
                  case rel => exact ⟨t, nw, l, rfl, HQ3, HMW, HTR, HTI⟩
            case rest =>
              as_aux_lemma =>
                clear HMW HTR u0 u1 u2 y0 nc HTI
                obtain ⟨t, nw', l, rfl, HNL, HMW2, HTR2, HTI2⟩ := hcut
                have nc : wc.cell? ⟨NW, kd, none⟩ = some (pt t.px) := by have q := (HTR2.out.now.cell hkn2).1; rw [show nwv nw' kd = pt t.px from by unfold nwv; rw [nwa_some HNL.out.1]] at q; exact q
                have hks : kd < s.n := by rw [HSN.out]; exact hkn2
                have HST := Aside0.mk (HMW2.out.pstep hks HNL.out.1 (by rw [HTE.out]; omega))
                go_upto_if 178 with (go_at_call 36; (with_reducible refine HST.out.mono ?_); rintro e w5 ⟨b, M', s', A', rfl, hT5, hA5, hch, hm5, hf5, ht5⟩; have HTR3 := Aside0.mk (HTR2.out.mach hch); have HMW3 := Aside0.mk hm5; have HQ5 := Aside0.mk (And.intro hT5 (And.intro hA5 (And.intro hf5 ht5))); clear hT5 hA5 hch hm5 hf5 ht5 nc)
                go_cut [13] from 46 to 219 (fun v13 wc => ∃ (ss' : Nat → LR) (M' : MemS) (nw'' : Nat → Option NwS) (at' : Nat → Nat) (fv' : Bool → Nat → Value) (fl' : Bool → Nat → List Int), v13 = tkv tk ∧ Aside0 (MW w.heap.size wc u p b2 c2 x gs ss' s M' nw'' tk) ∧ Aside0 (TR w wc p n B B NW (fun a => if a then GB else PB) at' (nwv nw'') fv' fl') ∧ Aside0 (M'.time = T + 1) ∧ Aside0 (TI n l1 ss' M' nw'' tk at' fl' (i + 1) st))
                case first =>
                  as_aux_lemma =>
                    clear HST HMW2 HTR2
                    cases b with
                    | false =>
                      go_wp2
                      go_meet
                      case rel => exact ⟨_, M', _, at_, fv, fl, rfl, HMW3, ⟨HTR3.out.eqN (fun i _ => by rw [nwv_upd]; by_cases e : i = kd; rw [if_pos e, e]; show nwv nw' kd = pt t.px; unfold nwv; rw [nwa_some HNL.out.1]; rw [if_neg e])⟩, ⟨by rw [HQ5.out.1, HTE.out]⟩, ⟨HTI2.out.pgoes hkn2 HNL.out.1 rfl (HQ5.out.2.2.1 (by first | rfl | trivial)) HQ5.out.1⟩⟩
                    | true =>
                      have nc : w5.cell? ⟨NW, kd, none⟩ = some (pt t.px) := by have q := (HTR3.out.now.cell hkn2).1; rw [show nwv nw' kd = pt t.px from by unfold nwv; rw [nwa_some HNL.out.1]] at q; exact q
                      have hai := HTI2.out.ai kd
                      obtain ⟨m, hm⟩ : ∃ m, at_ kd = m := ⟨_, rfl⟩
                      have HM := Aside0.mk hm
                      have ac := (HTR3.out.at_.cell hkn2).1
                      have af := (HTR3.out.at_.cell hkn2).2
                      rw [hm] at ac hai
                      clear hm
                      have hwm : IntKind.i64.wrap ((m : Int) + 1) = (m : Int) + 1 := i64_id (by omega)
                      have HOK := Aside0.mk (Ring.ok_ w5 t.px (gs kd) A' HQ5.out.2.1)
                      rcases HQ5.out.2.2.2 rfl with ⟨hok, hL⟩ | ⟨hok, hL⟩
                      · rw [hok] at HOK
                        have HLL := Aside0.mk hL
                        clear hok hL
                        obtain ⟨ad1, A3, cap3, e1, x1, hl63, hel⟩ := row_at HX1.out HNL.out.2.1
                        cases e1
                        have hml : m < l.length := by have := HNL.out.2.2.1; rw [HM.out] at this; exact this
                        obtain ⟨lad, e3, z1⟩ := hel m hml
                        cases e3
                        have hkl1 := (List.getElem?_eq_some_iff.1 HNL.out.2.1).1
                        have y1 := (HTR3.out.bel.cell (World.block_lt_of_cell? w _ x1)).trans x1
                        have y3 := (HTR3.out.bel.cell (World.block_lt_of_cell? w _ z1)).trans z1
                        have HVE := Aside0.mk (show rd l (m : Int) = t.v from by rw [← HM.out]; exact HNL.out.2.2.2.symm)
                        rw [HVE.out] at y3
                        clear x1 z1 hel
                        obtain ⟨A5, c5, hv5, hc5, hf5, hr5⟩ := HTR3.out.mt.cell false hkn2
                        have hc5 : w5.cell? ⟨PB, kd, none⟩ = _ := hc5
                        have hll5 := HTI2.out.li false kd hkn2
                        have HV5 := Aside0.mk hv5
                        have hkn := hkn2
                        clear hr5 hv5 hf5
                        obtain ⟨tv, htv⟩ : ∃ tv, t.v = tv := ⟨_, rfl⟩
                        have HTV := Aside0.mk htv
                        rw [htv] at y3
                        clear htv
                        go_upto_region 38 with (go_at_call 37; (with_reducible refine HOK.out.mono ?_); rintro e w' ⟨rfl, rfl⟩)
                        refine Held.begin_ (fun W => True) (fun W => W.cell? ⟨PB, kd, none⟩ = some (.slice A5 (fl false kd).length c5) ∧ W.cell? (ad1.add kd) = some (.slice (some lad) l.length cap3) ∧ W.cell? ⟨B, kd, none⟩ = some (.int .i64 (m : Int)) ∧ W.cell? (lad.add m) = some (.int .u64 tv)) [17] (by kernel_rfl) ?_ ?_ (fun hHold => ?_)
                        · exact trivial
                        · exact ⟨hc5, y1, ac, y3⟩
                        have HTq := Aside0.mk HTR3.out.drew
                        have HMq := Aside0.mk HMW3.out.drew
                        have hcq : w5.drew.cell? ⟨PB, kd, none⟩ = some (.slice A5 (fl false kd).length c5) := hc5
                        have y1q : w5.drew.cell? (ad1.add kd) = _ := y1
                        have acq : w5.drew.cell? ⟨B, kd, none⟩ = _ := ac
                        have y3q : w5.drew.cell? (lad.add m) = _ := y3
                        clear HTR3 HMW3 hc5 y1 ac y3 nc af HOK
                        generalize w5.drew = wq at *
                        refine Held.take1 (i := 0) (v := ?vq70_) rfl (by kernel_rfl) (by kernel_rfl) (by kernel_rfl) (by kernel_rfl) (fun _ _ _ h => h) (Or.inl ⟨by kernel_rfl, ?hyq70_⟩) hHold (fun hHold2 => ?restq70_)
                        case hyq70_ => (intro W hSw; refine Or.inl ?_; have hA := hSw; have hB := True.intro; (try (obtain ⟨hS0⟩ := hA)); (try (obtain ⟨hT0, hT1, hT2, hT3⟩ := hB)); clear hSw; go_simp; try with_reducible rfl)
                        replace hHold := hHold2
                        clear hHold2
                        try simp only [Act.put, List.getElem_toArray, List.getElem_cons_zero, List.getElem_cons_succ, List.setIfInBounds_toArray, List.set_cons_zero, List.set_cons_succ]
                        refine Held.take1 (i := 1) (v := ?vq71_) rfl (by kernel_rfl) (by kernel_rfl) (by kernel_rfl) (by kernel_rfl) (fun _ _ _ h => h) (Or.inl ⟨by kernel_rfl, ?hyq71_⟩) hHold (fun hHold2 => ?restq71_)
                        case hyq71_ => (intro W hSw; refine Or.inl ?_; have hA := hSw; have hB := True.intro; (try (obtain ⟨hS0⟩ := hA)); (try (obtain ⟨hT0, hT1, hT2, hT3⟩ := hB)); clear hSw; go_simp; try with_reducible rfl)
                        replace hHold := hHold2
                        clear hHold2
                        try simp only [Act.put, List.getElem_toArray, List.getElem_cons_zero, List.getElem_cons_succ, List.setIfInBounds_toArray, List.set_cons_zero, List.set_cons_succ]
                        refine Held.take (i := 2) (v := ?vq72_) [4, 5, 17, 19] rfl (by kernel_rfl) (by kernel_rfl) (by kernel_rfl) (by kernel_rfl) (by kernel_rfl) (by kernel_rfl) (fun _ _ _ h => h) (Or.inl ⟨by kernel_rfl, ?hyq72_⟩) hHold (fun hHold2 => ?restq72_)
                        case hyq72_ => (intro W hSw; refine Or.inl ?_; have hA := hSw.1; have hB := hSw.2; (try (obtain ⟨hS0⟩ := hA)); (try (obtain ⟨hT0, hT1, hT2, hT3⟩ := hB)); clear hSw; go_simp; try with_reducible rfl)
                        replace hHold := hHold2
                        clear hHold2
                        try simp only [Act.put, List.getElem_toArray, List.getElem_cons_zero, List.getElem_cons_succ, List.setIfInBounds_toArray, List.set_cons_zero, List.set_cons_succ]
                        refine Held.take (i := 3) (v := ?vq73_) [4, 5, 17, 19] rfl (by kernel_rfl) (by kernel_rfl) (by kernel_rfl) (by kernel_rfl) (by kernel_rfl) (by kernel_rfl) (fun _ _ _ h => h) (Or.inl ⟨by kernel_rfl, ?hyq73_⟩) hHold (fun hHold2 => ?restq73_)
                        case hyq73_ => (intro W hSw; refine Or.inl ?_; have hA := hSw.1; have hB := hSw.2; (try (obtain ⟨hS0⟩ := hA)); (try (obtain ⟨hT0, hT1, hT2, hT3⟩ := hB)); clear hSw; go_simp; try with_reducible rfl)
                        replace hHold := hHold2
                        clear hHold2
                        try simp only [Act.put, List.getElem_toArray, List.getElem_cons_zero, List.getElem_cons_succ, List.setIfInBounds_toArray, List.set_cons_zero, List.set_cons_succ]
                        refine Held.take (i := 4) (v := ?vq74_) [5, 17, 19] rfl (by kernel_rfl) (by kernel_rfl) (by kernel_rfl) (by kernel_rfl) (by kernel_rfl) (by kernel_rfl) (fun _ _ _ h => h) (Or.inl ⟨by kernel_rfl, ?hyq74_⟩) hHold (fun hHold2 => ?restq74_)
                        case hyq74_ => (intro W hSw; refine Or.inl ?_; have hA := hSw.1; have hB := hSw.2; (try (obtain ⟨hS0⟩ := hA)); (try (obtain ⟨hT0, hT1, hT2, hT3⟩ := hB)); clear hSw; go_simp; try with_reducible rfl)
                        replace hHold := hHold2
                        clear hHold2
                        try simp only [Act.put, List.getElem_toArray, List.getElem_cons_zero, List.getElem_cons_succ, List.setIfInBounds_toArray, List.set_cons_zero, List.set_cons_succ]
                        refine Held.take (i := 5) (v := ?vq75_) [17, 19] rfl (by kernel_rfl) (by kernel_rfl) (by kernel_rfl) (by kernel_rfl) (by kernel_rfl) (by kernel_rfl) (fun _ _ _ h => h) (Or.inl ⟨by kernel_rfl, ?hyq75_⟩) hHold (fun hHold2 => ?restq75_)
                        case hyq75_ => (intro W hSw; refine Or.inl ?_; have hA := hSw.1; have hB := hSw.2; (try (obtain ⟨hS0⟩ := hA)); (try (obtain ⟨hT0, hT1, hT2, hT3⟩ := hB)); clear hSw; go_simp; try with_reducible rfl)
                        replace hHold := hHold2
                        clear hHold2
                        try simp only [Act.put, List.getElem_toArray, List.getElem_cons_zero, List.getElem_cons_succ, List.setIfInBounds_toArray, List.set_cons_zero, List.set_cons_succ]
                        refine Held.take (i := 6) (v := ?vq76_) [8, 9, 14, 15, 16, 17, 19] rfl (by kernel_rfl) (by kernel_rfl) (by kernel_rfl) (by kernel_rfl) (by kernel_rfl) (by kernel_rfl) (fun _ _ _ h => h) (Or.inl ⟨by kernel_rfl, ?hyq76_⟩) hHold (fun hHold2 => ?restq76_)
                        case hyq76_ => (intro W hSw; refine Or.inl ?_; have hA := hSw.1; have hB := hSw.2; (try (obtain ⟨hS0⟩ := hA)); (try (obtain ⟨hT0, hT1, hT2, hT3⟩ := hB)); clear hSw; go_simp; try with_reducible rfl)
                        replace hHold := hHold2
                        clear hHold2
                        try simp only [Act.put, List.getElem_toArray, List.getElem_cons_zero, List.getElem_cons_succ, List.setIfInBounds_toArray, List.set_cons_zero, List.set_cons_succ]
                        refine Held.take (i := 7) (v := ?vq77_) [8, 9, 14, 15, 16, 17, 19] rfl (by kernel_rfl) (by kernel_rfl) (by kernel_rfl) (by kernel_rfl) (by kernel_rfl) (by kernel_rfl) (fun _ _ _ h => h) (Or.inl ⟨by kernel_rfl, ?hyq77_⟩) hHold (fun hHold2 => ?restq77_)
                        case hyq77_ => (intro W hSw; refine Or.inl ?_; have hA := hSw.1; have hB := hSw.2; (try (obtain ⟨hS0⟩ := hA)); (try (obtain ⟨hT0, hT1, hT2, hT3⟩ := hB)); clear hSw; go_simp; try with_reducible rfl)
                        replace hHold := hHold2
                        clear hHold2
                        try simp only [Act.put, List.getElem_toArray, List.getElem_cons_zero, List.getElem_cons_succ, List.setIfInBounds_toArray, List.set_cons_zero, List.set_cons_succ]
                        refine Held.take (i := 8) (v := ?vq78_) [9, 14, 15, 16, 17, 19] rfl (by kernel_rfl) (by kernel_rfl) (by kernel_rfl) (by kernel_rfl) (by kernel_rfl) (by kernel_rfl) (fun _ _ _ h => h) (Or.inl ⟨by kernel_rfl, ?hyq78_⟩) hHold (fun hHold2 => ?restq78_)
                        case hyq78_ => (intro W hSw; refine Or.inl ?_; have hA := hSw.1; have hB := hSw.2; (try (obtain ⟨hS0⟩ := hA)); (try (obtain ⟨hT0, hT1, hT2, hT3⟩ := hB)); clear hSw; go_simp; try with_reducible rfl)
                        replace hHold := hHold2
                        clear hHold2
                        try simp only [Act.put, List.getElem_toArray, List.getElem_cons_zero, List.getElem_cons_succ, List.setIfInBounds_toArray, List.set_cons_zero, List.set_cons_succ]
                        refine Held.take (i := 9) (v := ?vq79_) [14, 15, 16, 17, 19] rfl (by kernel_rfl) (by kernel_rfl) (by kernel_rfl) (by kernel_rfl) (by kernel_rfl) (by kernel_rfl) (fun _ _ _ h => h) (Or.inl ⟨by kernel_rfl, ?hyq79_⟩) hHold (fun hHold2 => ?restq79_)
                        case hyq79_ => (intro W hSw; refine Or.inl ?_; have hA := hSw.1; have hB := hSw.2; (try (obtain ⟨hS0⟩ := hA)); (try (obtain ⟨hT0, hT1, hT2, hT3⟩ := hB)); clear hSw; go_simp; try with_reducible rfl)
                        replace hHold := hHold2
                        clear hHold2
                        try simp only [Act.put, List.getElem_toArray, List.getElem_cons_zero, List.getElem_cons_succ, List.setIfInBounds_toArray, List.set_cons_zero, List.set_cons_succ]
                        refine Held.take (i := 10) (v := ?vq80_) [12, 13, 14, 15, 16, 17, 19] rfl (by kernel_rfl) (by kernel_rfl) (by kernel_rfl) (by kernel_rfl) (by kernel_rfl) (by kernel_rfl) (fun _ _ _ h => h) (Or.inl ⟨by kernel_rfl, ?hyq80_⟩) hHold (fun hHold2 => ?restq80_)
                        case hyq80_ => (intro W hSw; refine Or.inl ?_; have hA := hSw.1; have hB := hSw.2; (try (obtain ⟨hS0⟩ := hA)); (try (obtain ⟨hT0, hT1, hT2, hT3⟩ := hB)); clear hSw; go_simp; try with_reducible rfl)
                        replace hHold := hHold2
                        clear hHold2
                        try simp only [Act.put, List.getElem_toArray, List.getElem_cons_zero, List.getElem_cons_succ, List.setIfInBounds_toArray, List.set_cons_zero, List.set_cons_succ]
                        refine Held.take (i := 11) (v := ?vq81_) [12, 13, 14, 15, 16, 17, 19] rfl (by kernel_rfl) (by kernel_rfl) (by kernel_rfl) (by kernel_rfl) (by kernel_rfl) (by kernel_rfl) (fun _ _ _ h => h) (Or.inl ⟨by kernel_rfl, ?hyq81_⟩) hHold (fun hHold2 => ?restq81_)
                        case hyq81_ => (intro W hSw; refine Or.inl ?_; have hA := hSw.1; have hB := hSw.2; (try (obtain ⟨hS0⟩ := hA)); (try (obtain ⟨hT0, hT1, hT2, hT3⟩ := hB)); clear hSw; go_simp; try with_reducible rfl)
                        replace hHold := hHold2
                        clear hHold2
                        try simp only [Act.put, List.getElem_toArray, List.getElem_cons_zero, List.getElem_cons_succ, List.setIfInBounds_toArray, List.set_cons_zero, List.set_cons_succ]
                        refine Held.take (i := 12) (v := ?vq82_) [13, 14, 15, 16, 17, 19] rfl (by kernel_rfl) (by kernel_rfl) (by kernel_rfl) (by kernel_rfl) (by kernel_rfl) (by kernel_rfl) (fun _ _ _ h => h) (Or.inl ⟨by kernel_rfl, ?hyq82_⟩) hHold (fun hHold2 => ?restq82_)
                        case hyq82_ => (intro W hSw; refine Or.inl ?_; have hA := hSw.1; have hB := hSw.2; (try (obtain ⟨hS0⟩ := hA)); (try (obtain ⟨hT0, hT1, hT2, hT3⟩ := hB)); clear hSw; go_simp; try with_reducible rfl)
                        replace hHold := hHold2
                        clear hHold2
                        try simp only [Act.put, List.getElem_toArray, List.getElem_cons_zero, List.getElem_cons_succ, List.setIfInBounds_toArray, List.set_cons_zero, List.set_cons_succ]
                        refine Held.take (i := 13) (v := ?vq83_) [14, 15, 16, 17, 19] rfl (by kernel_rfl) (by kernel_rfl) (by kernel_rfl) (by kernel_rfl) (by kernel_rfl) (by kernel_rfl) (fun _ _ _ h => h) (Or.inl ⟨by kernel_rfl, ?hyq83_⟩) hHold (fun hHold2 => ?restq83_)
                        case hyq83_ => (intro W hSw; refine Or.inl ?_; have hA := hSw.1; have hB := hSw.2; (try (obtain ⟨hS0⟩ := hA)); (try (obtain ⟨hT0, hT1, hT2, hT3⟩ := hB)); clear hSw; go_simp; try with_reducible rfl)
                        replace hHold := hHold2
                        clear hHold2
                        try simp only [Act.put, List.getElem_toArray, List.getElem_cons_zero, List.getElem_cons_succ, List.setIfInBounds_toArray, List.set_cons_zero, List.set_cons_succ]
                        refine Held.take (i := 14) (v := ?vq84_) [15, 16, 17, 19] rfl (by kernel_rfl) (by kernel_rfl) (by kernel_rfl) (by kernel_rfl) (by kernel_rfl) (by kernel_rfl) (fun _ _ _ h => h) (Or.inl ⟨by kernel_rfl, ?hyq84_⟩) hHold (fun hHold2 => ?restq84_)
                        case hyq84_ => (intro W hSw; refine Or.inl ?_; have hA := hSw.1; have hB := hSw.2; (try (obtain ⟨hS0⟩ := hA)); (try (obtain ⟨hT0, hT1, hT2, hT3⟩ := hB)); clear hSw; go_simp; try with_reducible rfl)
                        replace hHold := hHold2
                        clear hHold2
                        try simp only [Act.put, List.getElem_toArray, List.getElem_cons_zero, List.getElem_cons_succ, List.setIfInBounds_toArray, List.set_cons_zero, List.set_cons_succ]
                        refine Held.take (i := 15) (v := ?vq85_) [16, 17, 19] rfl (by kernel_rfl) (by kernel_rfl) (by kernel_rfl) (by kernel_rfl) (by kernel_rfl) (by kernel_rfl) (fun _ _ _ h => h) (Or.inl ⟨by kernel_rfl, ?hyq85_⟩) hHold (fun hHold2 => ?restq85_)
                        case hyq85_ => (intro W hSw; refine Or.inl ?_; have hA := hSw.1; have hB := hSw.2; (try (obtain ⟨hS0⟩ := hA)); (try (obtain ⟨hT0, hT1, hT2, hT3⟩ := hB)); clear hSw; go_simp; try with_reducible rfl)
                        replace hHold := hHold2
                        clear hHold2
                        try simp only [Act.put, List.getElem_toArray, List.getElem_cons_zero, List.getElem_cons_succ, List.setIfInBounds_toArray, List.set_cons_zero, List.set_cons_succ]
                        refine Held.ready (rs := [16]) (by kernel_rfl) (by simp) ?_
                        refine Held.AllG.cons rfl (fun K hK => ?_) Held.AllG.nil
                        go_simp
                        refine hK.out _ _ ?_ (fun hHold2 => ?_)
                        · exact ⟨trivial, fun _ => ⟨(World.cell?_alloc_lt _ _ _ (World.block_lt_of_cell? wq _ hcq)).trans hcq, (World.cell?_alloc_lt _ _ _ (World.block_lt_of_cell? wq _ y1q)).trans y1q, (World.cell?_alloc_lt _ _ _ (World.block_lt_of_cell? wq _ acq)).trans acq, (World.cell?_alloc_lt _ _ _ (World.block_lt_of_cell? wq _ y3q)).trans y3q⟩⟩
                        clear hK K
                        replace hHold := hHold2
                        clear hHold2
                        try simp only [Act.put, List.getElem_toArray, List.getElem_cons_zero, List.getElem_cons_succ, List.setIfInBounds_toArray, List.set_cons_zero, List.set_cons_succ]
                        refine Held.ready (rs := [17]) (by kernel_rfl) (by simp) ?_
                        refine Held.AllG.cons rfl (fun K hK => ?_) Held.AllG.nil
                        refine step_append_cells (w0 := wq) (W := wq) B rfl (.tmp 189) (.tmp 200) 44 29 (.int .u64 0) 1 8 rfl Try.underlying44 info_u64 rfl (by decide) (by decide) (.slice A5 (fl false kd).length c5) (fl false kd).length (nums .u64 (fl false kd)) [.int .u64 tv] rfl rfl rfl (by intro q hq; simp at hq; subst hq; rfl) (by have q := HTq.out.mt.own false kd hkn; rw [HV5.out] at q; exact q) (Below.refl B wq) HTq.out.bs (by omega) ?_
                        intro v1 w1 hown hBe hgr hat2
                        obtain ⟨A3, c3, e3⟩ := own_slice hown
                        subst e3
                        have HO1 := Aside0.mk (HTq.out.grown (a := false) hkn (L := fl false kd ++ [tv]) (by simpa [nums] using hown) (by rw [HV5.out]; exact hgr) (by rw [HV5.out]; exact hat2))
                        have hg2 : wq.grownBy w1 (fv false kd).ownBlock := by rw [HV5.out]; exact hgr
                        have hf1 : w1.frozen? ⟨PB, kd, none⟩ = false := by obtain ⟨cs5, hb5, hc5⟩ := HTq.out.mt.out false; exact Blk.frozen (HTq.out.mt.gblk hkn hg2 hb5 (by decide)) kd
                        have hc1 : w1.cell? ⟨PB, kd, none⟩ = some (.slice A5 (fl false kd).length c5) := by obtain ⟨cs5, hb5, hc5⟩ := HTq.out.mt.out false; exact (Blk.cell (HTq.out.mt.gblk hkn hg2 hb5 (by decide)) kd).trans (by rw [hc5 kd hkn, HV5.out])
                        clear hcq hgr hat2 hown hBe y1q acq y3q
                        refine hK.out _ _ ?_ (fun hHold2 => ?_)
                        · exact ⟨trivial, fun h => by have := h 17 (by simp); simp at this⟩
                        clear hK K
                        replace hHold := hHold2
                        clear hHold2
                        try simp only [Act.put, List.getElem_toArray, List.getElem_cons_zero, List.getElem_cons_succ, List.setIfInBounds_toArray, List.set_cons_zero, List.set_cons_succ]
                        refine Held.take1 (i := 18) (v := ?vq86_) rfl (by kernel_rfl) (by kernel_rfl) (by kernel_rfl) (by kernel_rfl) (fun _ _ _ h => h) (Or.inl ⟨by kernel_rfl, ?hyq86_⟩) hHold (fun hHold2 => ?restq86_)
                        case hyq86_ => (intro W hSw; refine Or.inl ?_; have hA := hSw; have hB := True.intro; (try (obtain ⟨hS0⟩ := hA)); (try (obtain ⟨hT0, hT1, hT2, hT3⟩ := hB)); clear hSw; go_simp; try with_reducible rfl)
                        replace hHold := hHold2
                        clear hHold2
                        try simp only [Act.put, List.getElem_toArray, List.getElem_cons_zero, List.getElem_cons_succ, List.setIfInBounds_toArray, List.set_cons_zero, List.set_cons_succ]
                        have HO2 := Aside0.mk (show TR w (w1.setCell ⟨PB, kd, none⟩ (.slice A3 ((fl false kd).length + 1) c3)) p n B B NW (fun a => if a then GB else PB) at_ (nwv nw') (updF fv false kd (.slice A3 ((fl false kd).length + 1) c3)) (updF fl false kd (fl false kd ++ [tv])) ∧ Chg (RT B wq) wq (w1.setCell ⟨PB, kd, none⟩ (.slice A3 ((fl false kd).length + 1) c3)) from HO1.out)
                        clear HO1
                        refine Held.ready (rs := [19]) (by kernel_rfl) (by simp) ?_
                        refine Held.AllG.cons rfl (fun K hK => ?_) Held.AllG.nil
                        go_simp
                        refine hK.out _ _ ?_ (fun hHold2 => ?_)
                        · exact ⟨trivial, fun h => by have := h 17 (by simp); simp at this⟩
                        clear hK K
                        replace hHold := hHold2
                        clear hHold2
                        try simp only [Act.put, List.getElem_toArray, List.getElem_cons_zero, List.getElem_cons_succ, List.setIfInBounds_toArray, List.set_cons_zero, List.set_cons_succ]
                        refine Held.done (by kernel_rfl) ?_ _
                        have HMWf := Aside0.mk (HMq.out.rt HO2.out.2 HTq.out.pl)
                        have HTRf := Aside0.mk HO2.out.1
                        clear HO2 HMq HTq hc1 hf1 hg2 hHold
                        generalize w1.setCell ⟨PB, kd, none⟩ (.slice A3 ((fl false kd).length + 1) c3) = w6 at *
                        have ac := (HTRf.out.at_.cell hkn2).1
                        have af := (HTRf.out.at_.cell hkn2).2
                        rw [HM.out] at ac
                        have HA1 := Aside0.mk (HTRf.out.setAt hkn2 (m + 1))
                        rw [show ((m + 1 : Nat) : Int) = (m : Int) + 1 from by omega] at HA1
                        have HMa := Aside0.mk (HMWf.out.rt HA1.out.2 HTRf.out.pl)
                        have HA2 := Aside0.mk (HA1.out.1.setNow hkn2 (.pointer none))
                        have HMb := Aside0.mk (HMa.out.rt HA2.out.2 HTRf.out.pl)
                        have fnc : (w6.setCell ⟨B, kd, none⟩ (.int .i64 ((m : Int) + 1))).frozen? ⟨NW, kd, none⟩ = false := (HA1.out.1.now.cell hkn2).2
                        have ncc : (w6.setCell ⟨B, kd, none⟩ (.int .i64 ((m : Int) + 1))).cell? ⟨NW, kd, none⟩ = some _ := (HA1.out.1.now.cell hkn2).1
                        go_wp2_with (go_at_call 37; (with_reducible refine HOK.out.mono ?_); rintro e w' ⟨rfl, rfl⟩)
                        go_meet
                        case rel => exact ⟨_, M', _, _, _, _, rfl, HMb, ⟨HA2.out.1.eqN (fun i _ => by rw [nwv_upd]; by_cases e : i = kd <;> simp [e])⟩, ⟨by rw [HQ5.out.1, HTE.out]⟩, ⟨HTI2.out.pover (t := t) hkn2 HQ5.out.1 (m + 1) (by omega) (.inr ⟨by rw [← HTV.out], HLL.out⟩)⟩⟩
                      · rw [hok] at HOK
                        have HLL := Aside0.mk hL
                        have HMWf := HMW3
                        have HTRf := HTR3
                        clear hok hL HMW3 HTR3
                        have HA1 := Aside0.mk (HTRf.out.setAt hkn2 (m + 1))
                        rw [show ((m + 1 : Nat) : Int) = (m : Int) + 1 from by omega] at HA1
                        have HMa := Aside0.mk (HMWf.out.rt HA1.out.2 HTRf.out.pl)
                        have HA2 := Aside0.mk (HA1.out.1.setNow hkn2 (.pointer none))
                        have HMb := Aside0.mk (HMa.out.rt HA2.out.2 HTRf.out.pl)
                        have fnc : (w5.setCell ⟨B, kd, none⟩ (.int .i64 ((m : Int) + 1))).frozen? ⟨NW, kd, none⟩ = false := (HA1.out.1.now.cell hkn2).2
                        have ncc : (w5.setCell ⟨B, kd, none⟩ (.int .i64 ((m : Int) + 1))).cell? ⟨NW, kd, none⟩ = some _ := (HA1.out.1.now.cell hkn2).1
                        go_wp2_with (go_at_call 37; (with_reducible refine HOK.out.mono ?_); rintro e w' ⟨rfl, rfl⟩)
                        go_meet
                        case rel => exact ⟨_, M', _, _, _, _, rfl, HMb, ⟨HA2.out.1.eqN (fun i _ => by rw [nwv_upd]; by_cases e : i = kd <;> simp [e])⟩, ⟨by rw [HQ5.out.1, HTE.out]⟩, ⟨HTI2.out.pover (t := t) hkn2 HQ5.out.1 (m + 1) (by omega) (.inl ⟨rfl, HLL.out⟩)⟩⟩
                case rest =>
                  as_aux_lemma =>
                    clear HMW2 HTR2 HST HTC HTR3 HMW3
                    obtain ⟨ss', M', nw'', at', fv', fl', rfl, HMW4, HTR4, HTM4, HTI4⟩ := hcut
                    have hTM := HTM4.out
                    have HTC3 := Aside0.mk (show ∀ W, MemAt 97 W p M' → Calls Try.prog 27 #[pa p] W fun e w' => e = .returned (.int .i64 (T + 1)) ∧ W = w' from fun W h => by rw [← hTM]; exact time_ W p M' h)
                    clear hTM
                    have u0 : wc.cell? ⟨u, 0, none⟩ = some (pa p) := (Blk.cell HMW4.out.c.wd 0).trans rfl
                    have ewT : IntKind.i64.wrap (T + 1) = T + 1 := i64_id (by omega)
                    have dT : decide (T + 1 > T + 1) = false := decide_eq_false (by omega)
                    have ew8 : IntKind.i64.wrap (8 * (n : Int)) = 8 * (n : Int) := i64_id (by omega)
                    go_wp2_with (go_at_call 27; (with_reducible refine (HTC3.out _ HMW4.out.c.m).mono ?_); rintro e w' ⟨rfl, rfl⟩)
                    go_roundg (l2.length - (i + 1))
                    case measure => have := HKQ.out; omega
                    case rel => exact ⟨i + 1, ss', s, M', nw'', tk, at', _, _, st, ⟨rfl⟩, by omega, by omega, rfl, rfl, by simp, HMW4, HTR4, HSN, HTI4⟩
        · by_cases c : i < l2.length
          · have c2 : ¬ i < 1500 := fun q => hlt ⟨c, q⟩
            have d1 : decide ((i : Int) < (l2.length : Int)) = true := decide_eq_true (by omega)
            have d2 : decide ((i : Int) < 1500) = false := decide_eq_false (by omega)
            have d3 : ¬ (i : Int) < 1500 := by omega
            clear hlt
            go_wp2
            go_meet
            case rel => exact ⟨ss, s, M, nw, tk, at_, fv, fl, i, st, rfl, by omega, HMW, HTR, HSN, HTI⟩
          · have d1 : decide ((i : Int) < (l2.length : Int)) = false := decide_eq_false (by omega)
            have d2 : decide (i < l2.length) = false := decide_eq_false (by omega)
            have d3 : ¬ (i : Int) < (l2.length : Int) := by omega
            clear hlt
            go_wp2
            go_meet
            case rel => exact ⟨ss, s, M, nw, tk, at_, fv, fl, i, st, rfl, by omega, HMW, HTR, HSN, HTI⟩
  case rest =>
    clear HMW HTR HTI HSN ss s M
    obtain ⟨ss, s, M, nw, tk, at_, fv, fl, i, st, rfl, hi4, HMW, HTR, HSN, HTI⟩ := hcut
    go_wp2_with fail
    go_loopg [18] n (fun kq v18 wr => ∃ (k : Nat) (ss : Nat → LR) (M : MemS) (nw : Nat → Option NwS) (fv : Bool → Nat → Value) (fl : Bool → Nat → List Int) (i' : Nat), Aside0 (kq = n - k) ∧ k ≤ n ∧ v18 = .int .i64 (k : Int) ∧ i' ≤ 1500 + 9 * k ∧ Aside0 (MW w.heap.size wr u p b2 c2 x gs ss s M nw tk) ∧ Aside0 (TR w wr p n B B NW (fun a => if a then GB else PB) at_ (nwv nw) fv fl) ∧ Aside0 (∀ j, j < k → nw j = none) ∧ Aside0 (TI n l1 ss M nw tk at_ fl i' st))
    case atStart => exact ⟨0, ss, M, nw, fv, fl, i, ⟨by omega⟩, by omega, rfl, by omega, HMW, HTR, ⟨fun j hj => absurd hj (by omega)⟩, HTI⟩
    case round =>
      clear HMW HTR HTI
      clear ss M nw fv fl
      obtain ⟨kd, ss, M, nw, fv, fl, i', HKQ, hk, rfl, hi', HMW, HTR, HN, HTI⟩ := hrel
      by_cases hkn2 : kd < n
      · have hks : kd < s.n := by rw [HSN.out]; exact hkn2
        have d1 : decide ((kd : Int) < (n : Int)) = true := decide_eq_true (by omega)
        have nc := (HTR.out.now.cell hkn2).1
        as_aux_lemma =>
          rcases hnw : nw kd with _ | t
          · rw [show nwv nw kd = .pointer none from by unfold nwv; rw [nwa_none hnw]] at nc
            have HNW := Aside0.mk hnw
            have HC0 := Aside0.mk (show ∀ t, nw kd = some t → ((0 : Nat) : Int) ≤ t.c from fun t e => by rw [hnw] at e; cases e)
            clear hnw
            cases tk with
            | none =>
              have etk : (tka none).isNone = true := rfl
              go_wp2
              go_roundg (n - (kd + 1))
              case measure => have := HKQ.out; omega
              case rel => exact ⟨kd + 1, ss, M, nw, fv, fl, i', ⟨rfl⟩, by omega, by simp, by omega, HMW, HTR, ⟨fun j hj => by by_cases e : j = kd; rw [e]; exact HNW.out; exact HN.out j (by omega)⟩, HTI⟩
            | some tt =>
              have etk : (tka (some tt)).isNone = false := rfl
              go_wp2
              obtain ⟨wo, hwo⟩ : ∃ wo : World, wo = wr := ⟨_, rfl⟩
              subst hwo
              go_loopg [19] 10 (fun kq2 v19 wr2 => ∃ (i2 : Nat) (ss : Nat → LR) (M : MemS) (nw : Nat → Option NwS) (fv : Bool → Nat → Value) (fl : Bool → Nat → List Int) (i' : Nat), Aside0 (kq2 = 10 - i2) ∧ i2 ≤ 3 ∧ v19 = .int .i64 (i2 : Int) ∧ i' ≤ 1500 + 9 * kd + i2 ∧ Aside0 (MW w.heap.size wr2 u p b2 c2 x gs ss s M nw (some tt)) ∧ Aside0 (TR w wr2 p n B B NW (fun a => if a then GB else PB) at_ (nwv nw) fv fl) ∧ Aside0 (∀ j, j < kd → nw j = none) ∧ Aside0 (∀ t, nw kd = some t → (i2 : Int) ≤ t.c) ∧ Aside0 (TI n l1 ss M nw (some tt) at_ fl i' st))
              case atStart => exact ⟨0, ss, M, nw, fv, fl, i', ⟨by omega⟩, by omega, rfl, by omega, HMW, HTR, HN, HC0, HTI⟩
              case round =>
                clear HMW HTR HTI HN HC0 nc HNW
                clear ss M nw fv fl
                rename_i hi0
                obtain ⟨i2, ss, M, nw, fv, fl, i'', HKQ2, hi2, rfl, hi'', HMW, HTR, HN, HC, HTI⟩ := hrel
                have nc := (HTR.out.now.cell hkn2).1
                have d9 : decide ((i2 : Int) < 9) = true := decide_eq_true (by omega)
                rcases hnw : nw kd with _ | t
                · rw [show nwv nw kd = .pointer none from by unfold nwv; rw [nwa_none hnw]] at nc
                  have HNW := Aside0.mk hnw
                  clear hnw
                  go_wp2
                  go_roundg (n - (kd + 1))
                  case measure => have := HKQ.out; omega
                  case rel => exact ⟨kd + 1, ss, M, nw, fv, fl, i'', ⟨rfl⟩, by omega, by simp, by omega, HMW, HTR, ⟨fun j hj => by by_cases e : j = kd; rw [e]; exact HNW.out; exact HN.out j (by omega)⟩, HTI⟩
                · rw [show nwv nw kd = pt t.px from by unfold nwv; rw [nwa_some hnw]] at nc
                  obtain ⟨l, q1, q2, q3⟩ := HTI.out.nw kd hkn2 t hnw
                  have hcc := HC.out t hnw
                  have hc2 := (PP.pv (HMW.out.c.nw kd hks t hnw).2.1).2.2.2
                  have HNL := Aside0.mk (And.intro hnw (And.intro q1 (And.intro q2 q3)))
                  have htm := HTI.out.tm
                  have htm0 := HMW.out.c.m.t0
                  have HST := Aside0.mk (HMW.out.pstep hks hnw (by omega))
                  obtain ⟨T, hT⟩ : ∃ T, M.time = T := ⟨_, rfl⟩
                  have HTE := Aside0.mk hT
                  clear hnw q1 q2 q3 hT htm htm0
                  have hi2b : i2 ≤ 2 := by omega
                  have HCC := Aside0.mk hcc
                  clear hcc hc2
                  go_upto_if 249 with (go_at_call 36; (with_reducible refine HST.out.mono ?_); rintro e w5 ⟨b, M', s', A', rfl, hT5, hA5, hch, hm5, hf5, ht5⟩; have HTR3 := Aside0.mk (HTR.out.mach hch); have HMW3 := Aside0.mk hm5; have HQ5 := Aside0.mk (And.intro hT5 (And.intro hA5 (And.intro hf5 ht5))); clear hT5 hA5 hch hm5 hf5 ht5 nc)
                  cases b with
                  | false =>
                    go_wp2
                    go_roundg (10 - (i2 + 1))
                    case measure => have := HKQ2.out; omega
                    case rel => exact ⟨i2 + 1, _, M', _, fv, fl, i'' + 1, ⟨rfl⟩, by omega, by simp, by omega, HMW3, ⟨HTR3.out.eqN (fun i _ => by rw [nwv_upd]; by_cases e : i = kd; rw [if_pos e, e]; show nwv nw kd = pt t.px; unfold nwv; rw [nwa_some HNL.out.1]; rw [if_neg e])⟩, ⟨fun j hj => by rw [updN_far nw _ (show j ≠ kd by omega)]; exact HN.out j hj⟩, ⟨fun t' e => by have e2 := e; simp only [Bool.false_eq_true, if_false] at e2; rw [updN_same] at e2; cases e2; have := HCC.out; show ((i2 + 1 : Nat) : Int) ≤ t.c + 1; omega⟩, ⟨HTI.out.pgoes hkn2 HNL.out.1 rfl (HQ5.out.2.2.1 (by first | rfl | trivial)) HQ5.out.1⟩⟩
                  | true =>
                    have nc : w5.cell? ⟨NW, kd, none⟩ = some (pt t.px) := by have q := (HTR3.out.now.cell hkn2).1; rw [show nwv nw kd = pt t.px from by unfold nwv; rw [nwa_some HNL.out.1]] at q; exact q
                    have hai := HTI.out.ai kd
                    obtain ⟨m, hm⟩ : ∃ m, at_ kd = m := ⟨_, rfl⟩
                    have HM := Aside0.mk hm
                    have ac := (HTR3.out.at_.cell hkn2).1
                    have af := (HTR3.out.at_.cell hkn2).2
                    rw [hm] at ac hai
                    clear hm
                    have HTI2 := HTI
                    have HOK := Aside0.mk (Ring.ok_ w5 t.px (gs kd) A' HQ5.out.2.1)
                    rcases HQ5.out.2.2.2 rfl with ⟨hok, hL⟩ | ⟨hok, hL⟩
                    · rw [hok] at HOK
                      have HLL := Aside0.mk hL
                      clear hok hL
                      obtain ⟨ad1, A3, cap3, e1, x1, hl63, hel⟩ := row_at HX1.out HNL.out.2.1
                      cases e1
                      have hml : m < l.length := by have := HNL.out.2.2.1; rw [HM.out] at this; exact this
                      obtain ⟨lad, e3, z1⟩ := hel m hml
                      cases e3
                      have hkl1 := (List.getElem?_eq_some_iff.1 HNL.out.2.1).1
                      have y1 := (HTR3.out.bel.cell (World.block_lt_of_cell? w _ x1)).trans x1
                      have y3 := (HTR3.out.bel.cell (World.block_lt_of_cell? w _ z1)).trans z1
                      have HVE := Aside0.mk (show rd l (m : Int) = t.v from by rw [← HM.out]; exact HNL.out.2.2.2.symm)
                      rw [HVE.out] at y3
                      clear x1 z1 hel
                      obtain ⟨A5, c5, hv5, hc5, hf5, hr5⟩ := HTR3.out.mt.cell false hkn2
                      have hc5 : w5.cell? ⟨PB, kd, none⟩ = _ := hc5
                      have hll5 := HTI2.out.li false kd hkn2
                      have HV5 := Aside0.mk hv5
                      have hkn := hkn2
                      clear hr5 hv5 hf5
                      obtain ⟨tv, htv⟩ : ∃ tv, t.v = tv := ⟨_, rfl⟩
                      have HTV := Aside0.mk htv
                      rw [htv] at y3
                      clear htv
                      go_upto_region 52 with (go_at_call 37; (with_reducible refine HOK.out.mono ?_); rintro e w' ⟨rfl, rfl⟩)
                      refine Held.begin_ (fun W => True) (fun W => W.cell? ⟨PB, kd, none⟩ = some (.slice A5 (fl false kd).length c5) ∧ W.cell? (ad1.add kd) = some (.slice (some lad) l.length cap3) ∧ W.cell? ⟨B, kd, none⟩ = some (.int .i64 (m : Int)) ∧ W.cell? (lad.add m) = some (.int .u64 tv)) [17] (by kernel_rfl) ?_ ?_ (fun hHold => ?_)
                      · exact trivial
                      · exact ⟨hc5, y1, ac, y3⟩
                      have HTq := Aside0.mk HTR3.out.drew
                      have HMq := Aside0.mk HMW3.out.drew
                      have hcq : w5.drew.cell? ⟨PB, kd, none⟩ = some (.slice A5 (fl false kd).length c5) := hc5
                      have y1q : w5.drew.cell? (ad1.add kd) = _ := y1
                      have acq : w5.drew.cell? ⟨B, kd, none⟩ = _ := ac
                      have y3q : w5.drew.cell? (lad.add m) = _ := y3
                      clear HTR3 HMW3 hc5 y1 ac y3 nc af HOK
                      generalize w5.drew = wq at *
                      refine Held.take1 (i := 0) (v := ?vq87_) rfl (by kernel_rfl) (by kernel_rfl) (by kernel_rfl) (by kernel_rfl) (fun _ _ _ h => h) (Or.inl ⟨by kernel_rfl, ?hyq87_⟩) hHold (fun hHold2 => ?restq87_)
                      case hyq87_ => (intro W hSw; refine Or.inl ?_; have hA := hSw; have hB := True.intro; (try (obtain ⟨hS0⟩ := hA)); (try (obtain ⟨hT0, hT1, hT2, hT3⟩ := hB)); clear hSw; go_simp; try with_reducible rfl)
                      replace hHold := hHold2
                      clear hHold2
                      try simp only [Act.put, List.getElem_toArray, List.getElem_cons_zero, List.getElem_cons_succ, List.setIfInBounds_toArray, List.set_cons_zero, List.set_cons_succ]
                      refine Held.take1 (i := 1) (v := ?vq88_) rfl (by kernel_rfl) (by kernel_rfl) (by kernel_rfl) (by kernel_rfl) (fun _ _ _ h => h) (Or.inl ⟨by kernel_rfl, ?hyq88_⟩) hHold (fun hHold2 => ?restq88_)
                      case hyq88_ => (intro W hSw; refine Or.inl ?_; have hA := hSw; have hB := True.intro; (try (obtain ⟨hS0⟩ := hA)); (try (obtain ⟨hT0, hT1, hT2, hT3⟩ := hB)); clear hSw; go_simp; try with_reducible rfl)
                      replace hHold := hHold2
                      clear hHold2
                      try simp only [Act.put, List.getElem_toArray, List.getElem_cons_zero, List.getElem_cons_succ, List.setIfInBounds_toArray, List.set_cons_zero, List.set_cons_succ]
                      refine Held.take (i := 2) (v := ?vq89_) [4, 5, 17, 19] rfl (by kernel_rfl) (by kernel_rfl) (by kernel_rfl) (by kernel_rfl) (by kernel_rfl) (by kernel_rfl) (fun _ _ _ h => h) (Or.inl ⟨by kernel_rfl, ?hyq89_⟩) hHold (fun hHold2 => ?restq89_)
                      case hyq89_ => (intro W hSw; refine Or.inl ?_; have hA := hSw.1; have hB := hSw.2; (try (obtain ⟨hS0⟩ := hA)); (try (obtain ⟨hT0, hT1, hT2, hT3⟩ := hB)); clear hSw; go_simp; try with_reducible rfl)
                      replace hHold := hHold2
                      clear hHold2
                      try simp only [Act.put, List.getElem_toArray, List.getElem_cons_zero, List.getElem_cons_succ, List.setIfInBounds_toArray, List.set_cons_zero, List.set_cons_succ]
                      refine Held.take (i := 3) (v := ?vq90_) [4, 5, 17, 19] rfl (by kernel_rfl) (by kernel_rfl) (by kernel_rfl) (by kernel_rfl) (by kernel_rfl) (by kernel_rfl) (fun _ _ _ h => h) (Or.inl ⟨by kernel_rfl, ?hyq90_⟩) hHold (fun hHold2 => ?restq90_)
                      case hyq90_ => (intro W hSw; refine Or.inl ?_; have hA := hSw.1; have hB := hSw.2; (try (obtain ⟨hS0⟩ := hA)); (try (obtain ⟨hT0, hT1, hT2, hT3⟩ := hB)); clear hSw; go_simp; try with_reducible rfl)
                      replace hHold := hHold2
                      clear hHold2
                      try simp only [Act.put, List.getElem_toArray, List.getElem_cons_zero, List.getElem_cons_succ, List.setIfInBounds_toArray, List.set_cons_zero, List.set_cons_succ]
                      refine Held.take (i := 4) (v := ?vq91_) [5, 17, 19] rfl (by kernel_rfl) (by kernel_rfl) (by kernel_rfl) (by kernel_rfl) (by kernel_rfl) (by kernel_rfl) (fun _ _ _ h => h) (Or.inl ⟨by kernel_rfl, ?hyq91_⟩) hHold (fun hHold2 => ?restq91_)
                      case hyq91_ => (intro W hSw; refine Or.inl ?_; have hA := hSw.1; have hB := hSw.2; (try (obtain ⟨hS0⟩ := hA)); (try (obtain ⟨hT0, hT1, hT2, hT3⟩ := hB)); clear hSw; go_simp; try with_reducible rfl)
                      replace hHold := hHold2
                      clear hHold2
                      try simp only [Act.put, List.getElem_toArray, List.getElem_cons_zero, List.getElem_cons_succ, List.setIfInBounds_toArray, List.set_cons_zero, List.set_cons_succ]
                      refine Held.take (i := 5) (v := ?vq92_) [17, 19] rfl (by kernel_rfl) (by kernel_rfl) (by kernel_rfl) (by kernel_rfl) (by kernel_rfl) (by kernel_rfl) (fun _ _ _ h => h) (Or.inl ⟨by kernel_rfl, ?hyq92_⟩) hHold (fun hHold2 => ?restq92_)
                      case hyq92_ => (intro W hSw; refine Or.inl ?_; have hA := hSw.1; have hB := hSw.2; (try (obtain ⟨hS0⟩ := hA)); (try (obtain ⟨hT0, hT1, hT2, hT3⟩ := hB)); clear hSw; go_simp; try with_reducible rfl)
                      replace hHold := hHold2
                      clear hHold2
                      try simp only [Act.put, List.getElem_toArray, List.getElem_cons_zero, List.getElem_cons_succ, List.setIfInBounds_toArray, List.set_cons_zero, List.set_cons_succ]
                      refine Held.take (i := 6) (v := ?vq93_) [8, 9, 14, 15, 16, 17, 19] rfl (by kernel_rfl) (by kernel_rfl) (by kernel_rfl) (by kernel_rfl) (by kernel_rfl) (by kernel_rfl) (fun _ _ _ h => h) (Or.inl ⟨by kernel_rfl, ?hyq93_⟩) hHold (fun hHold2 => ?restq93_)
                      case hyq93_ => (intro W hSw; refine Or.inl ?_; have hA := hSw.1; have hB := hSw.2; (try (obtain ⟨hS0⟩ := hA)); (try (obtain ⟨hT0, hT1, hT2, hT3⟩ := hB)); clear hSw; go_simp; try with_reducible rfl)
                      replace hHold := hHold2
                      clear hHold2
                      try simp only [Act.put, List.getElem_toArray, List.getElem_cons_zero, List.getElem_cons_succ, List.setIfInBounds_toArray, List.set_cons_zero, List.set_cons_succ]
                      refine Held.take (i := 7) (v := ?vq94_) [8, 9, 14, 15, 16, 17, 19] rfl (by kernel_rfl) (by kernel_rfl) (by kernel_rfl) (by kernel_rfl) (by kernel_rfl) (by kernel_rfl) (fun _ _ _ h => h) (Or.inl ⟨by kernel_rfl, ?hyq94_⟩) hHold (fun hHold2 => ?restq94_)
                      case hyq94_ => (intro W hSw; refine Or.inl ?_; have hA := hSw.1; have hB := hSw.2; (try (obtain ⟨hS0⟩ := hA)); (try (obtain ⟨hT0, hT1, hT2, hT3⟩ := hB)); clear hSw; go_simp; try with_reducible rfl)
                      replace hHold := hHold2
                      clear hHold2
                      try simp only [Act.put, List.getElem_toArray, List.getElem_cons_zero, List.getElem_cons_succ, List.setIfInBounds_toArray, List.set_cons_zero, List.set_cons_succ]
                      refine Held.take (i := 8) (v := ?vq95_) [9, 14, 15, 16, 17, 19] rfl (by kernel_rfl) (by kernel_rfl) (by kernel_rfl) (by kernel_rfl) (by kernel_rfl) (by kernel_rfl) (fun _ _ _ h => h) (Or.inl ⟨by kernel_rfl, ?hyq95_⟩) hHold (fun hHold2 => ?restq95_)
                      case hyq95_ => (intro W hSw; refine Or.inl ?_; have hA := hSw.1; have hB := hSw.2; (try (obtain ⟨hS0⟩ := hA)); (try (obtain ⟨hT0, hT1, hT2, hT3⟩ := hB)); clear hSw; go_simp; try with_reducible rfl)
                      replace hHold := hHold2
                      clear hHold2
                      try simp only [Act.put, List.getElem_toArray, List.getElem_cons_zero, List.getElem_cons_succ, List.setIfInBounds_toArray, List.set_cons_zero, List.set_cons_succ]
                      refine Held.take (i := 9) (v := ?vq96_) [14, 15, 16, 17, 19] rfl (by kernel_rfl) (by kernel_rfl) (by kernel_rfl) (by kernel_rfl) (by kernel_rfl) (by kernel_rfl) (fun _ _ _ h => h) (Or.inl ⟨by kernel_rfl, ?hyq96_⟩) hHold (fun hHold2 => ?restq96_)
                      case hyq96_ => (intro W hSw; refine Or.inl ?_; have hA := hSw.1; have hB := hSw.2; (try (obtain ⟨hS0⟩ := hA)); (try (obtain ⟨hT0, hT1, hT2, hT3⟩ := hB)); clear hSw; go_simp; try with_reducible rfl)
                      replace hHold := hHold2
                      clear hHold2
                      try simp only [Act.put, List.getElem_toArray, List.getElem_cons_zero, List.getElem_cons_succ, List.setIfInBounds_toArray, List.set_cons_zero, List.set_cons_succ]
                      refine Held.take (i := 10) (v := ?vq97_) [12, 13, 14, 15, 16, 17, 19] rfl (by kernel_rfl) (by kernel_rfl) (by kernel_rfl) (by kernel_rfl) (by kernel_rfl) (by kernel_rfl) (fun _ _ _ h => h) (Or.inl ⟨by kernel_rfl, ?hyq97_⟩) hHold (fun hHold2 => ?restq97_)
                      case hyq97_ => (intro W hSw; refine Or.inl ?_; have hA := hSw.1; have hB := hSw.2; (try (obtain ⟨hS0⟩ := hA)); (try (obtain ⟨hT0, hT1, hT2, hT3⟩ := hB)); clear hSw; go_simp; try with_reducible rfl)
                      replace hHold := hHold2
                      clear hHold2
                      try simp only [Act.put, List.getElem_toArray, List.getElem_cons_zero, List.getElem_cons_succ, List.setIfInBounds_toArray, List.set_cons_zero, List.set_cons_succ]
                      refine Held.take (i := 11) (v := ?vq98_) [12, 13, 14, 15, 16, 17, 19] rfl (by kernel_rfl) (by kernel_rfl) (by kernel_rfl) (by kernel_rfl) (by kernel_rfl) (by kernel_rfl) (fun _ _ _ h => h) (Or.inl ⟨by kernel_rfl, ?hyq98_⟩) hHold (fun hHold2 => ?restq98_)
                      case hyq98_ => (intro W hSw; refine Or.inl ?_; have hA := hSw.1; have hB := hSw.2; (try (obtain ⟨hS0⟩ := hA)); (try (obtain ⟨hT0, hT1, hT2, hT3⟩ := hB)); clear hSw; go_simp; try with_reducible rfl)
                      replace hHold := hHold2
                      clear hHold2
                      try simp only [Act.put, List.getElem_toArray, List.getElem_cons_zero, List.getElem_cons_succ, List.setIfInBounds_toArray, List.set_cons_zero, List.set_cons_succ]
                      refine Held.take (i := 12) (v := ?vq99_) [13, 14, 15, 16, 17, 19] rfl (by kernel_rfl) (by kernel_rfl) (by kernel_rfl) (by kernel_rfl) (by kernel_rfl) (by kernel_rfl) (fun _ _ _ h => h) (Or.inl ⟨by kernel_rfl, ?hyq99_⟩) hHold (fun hHold2 => ?restq99_)
                      case hyq99_ => (intro W hSw; refine Or.inl ?_; have hA := hSw.1; have hB := hSw.2; (try (obtain ⟨hS0⟩ := hA)); (try (obtain ⟨hT0, hT1, hT2, hT3⟩ := hB)); clear hSw; go_simp; try with_reducible rfl)
                      replace hHold := hHold2
                      clear hHold2
                      try simp only [Act.put, List.getElem_toArray, List.getElem_cons_zero, List.getElem_cons_succ, List.setIfInBounds_toArray, List.set_cons_zero, List.set_cons_succ]
                      refine Held.take (i := 13) (v := ?vq100_) [14, 15, 16, 17, 19] rfl (by kernel_rfl) (by kernel_rfl) (by kernel_rfl) (by kernel_rfl) (by kernel_rfl) (by kernel_rfl) (fun _ _ _ h => h) (Or.inl ⟨by kernel_rfl, ?hyq100_⟩) hHold (fun hHold2 => ?restq100_)
                      case hyq100_ => (intro W hSw; refine Or.inl ?_; have hA := hSw.1; have hB := hSw.2; (try (obtain ⟨hS0⟩ := hA)); (try (obtain ⟨hT0, hT1, hT2, hT3⟩ := hB)); clear hSw; go_simp; try with_reducible rfl)
                      replace hHold := hHold2
                      clear hHold2
                      try simp only [Act.put, List.getElem_toArray, List.getElem_cons_zero, List.getElem_cons_succ, List.setIfInBounds_toArray, List.set_cons_zero, List.set_cons_succ]
                      refine Held.take (i := 14) (v := ?vq101_) [15, 16, 17, 19] rfl (by kernel_rfl) (by kernel_rfl) (by kernel_rfl) (by kernel_rfl) (by kernel_rfl) (by kernel_rfl) (fun _ _ _ h => h) (Or.inl ⟨by kernel_rfl, ?hyq101_⟩) hHold (fun hHold2 => ?restq101_)
                      case hyq101_ => (intro W hSw; refine Or.inl ?_; have hA := hSw.1; have hB := hSw.2; (try (obtain ⟨hS0⟩ := hA)); (try (obtain ⟨hT0, hT1, hT2, hT3⟩ := hB)); clear hSw; go_simp; try with_reducible rfl)
                      replace hHold := hHold2
                      clear hHold2
                      try simp only [Act.put, List.getElem_toArray, List.getElem_cons_zero, List.getElem_cons_succ, List.setIfInBounds_toArray, List.set_cons_zero, List.set_cons_succ]
                      refine Held.take (i := 15) (v := ?vq102_) [16, 17, 19] rfl (by kernel_rfl) (by kernel_rfl) (by kernel_rfl) (by kernel_rfl) (by kernel_rfl) (by kernel_rfl) (fun _ _ _ h => h) (Or.inl ⟨by kernel_rfl, ?hyq102_⟩) hHold (fun hHold2 => ?restq102_)
                      case hyq102_ => (intro W hSw; refine Or.inl ?_; have hA := hSw.1; have hB := hSw.2; (try (obtain ⟨hS0⟩ := hA)); (try (obtain ⟨hT0, hT1, hT2, hT3⟩ := hB)); clear hSw; go_simp; try with_reducible rfl)
                      replace hHold := hHold2
                      clear hHold2
                      try simp only [Act.put, List.getElem_toArray, List.getElem_cons_zero, List.getElem_cons_succ, List.setIfInBounds_toArray, List.set_cons_zero, List.set_cons_succ]
                      refine Held.ready (rs := [16]) (by kernel_rfl) (by simp) ?_
                      refine Held.AllG.cons rfl (fun K hK => ?_) Held.AllG.nil
                      go_simp
                      refine hK.out _ _ ?_ (fun hHold2 => ?_)
                      · exact ⟨trivial, fun _ => ⟨(World.cell?_alloc_lt _ _ _ (World.block_lt_of_cell? wq _ hcq)).trans hcq, (World.cell?_alloc_lt _ _ _ (World.block_lt_of_cell? wq _ y1q)).trans y1q, (World.cell?_alloc_lt _ _ _ (World.block_lt_of_cell? wq _ acq)).trans acq, (World.cell?_alloc_lt _ _ _ (World.block_lt_of_cell? wq _ y3q)).trans y3q⟩⟩
                      clear hK K
                      replace hHold := hHold2
                      clear hHold2
                      try simp only [Act.put, List.getElem_toArray, List.getElem_cons_zero, List.getElem_cons_succ, List.setIfInBounds_toArray, List.set_cons_zero, List.set_cons_succ]
                      refine Held.ready (rs := [17]) (by kernel_rfl) (by simp) ?_
                      refine Held.AllG.cons rfl (fun K hK => ?_) Held.AllG.nil
                      refine step_append_cells (w0 := wq) (W := wq) B rfl (.tmp 260) (.tmp 271) 44 29 (.int .u64 0) 1 8 rfl Try.underlying44 info_u64 rfl (by decide) (by decide) (.slice A5 (fl false kd).length c5) (fl false kd).length (nums .u64 (fl false kd)) [.int .u64 tv] rfl rfl rfl (by intro q hq; simp at hq; subst hq; rfl) (by have q := HTq.out.mt.own false kd hkn; rw [HV5.out] at q; exact q) (Below.refl B wq) HTq.out.bs (by omega) ?_
                      intro v1 w1 hown hBe hgr hat2
                      obtain ⟨A3, c3, e3⟩ := own_slice hown
                      subst e3
                      have HO1 := Aside0.mk (HTq.out.grown (a := false) hkn (L := fl false kd ++ [tv]) (by simpa [nums] using hown) (by rw [HV5.out]; exact hgr) (by rw [HV5.out]; exact hat2))
                      have hg2 : wq.grownBy w1 (fv false kd).ownBlock := by rw [HV5.out]; exact hgr
                      have hf1 : w1.frozen? ⟨PB, kd, none⟩ = false := by obtain ⟨cs5, hb5, hc5⟩ := HTq.out.mt.out false; exact Blk.frozen (HTq.out.mt.gblk hkn hg2 hb5 (by decide)) kd
                      have hc1 : w1.cell? ⟨PB, kd, none⟩ = some (.slice A5 (fl false kd).length c5) := by obtain ⟨cs5, hb5, hc5⟩ := HTq.out.mt.out false; exact (Blk.cell (HTq.out.mt.gblk hkn hg2 hb5 (by decide)) kd).trans (by rw [hc5 kd hkn, HV5.out])
                      clear hcq hgr hat2 hown hBe y1q acq y3q
                      refine hK.out _ _ ?_ (fun hHold2 => ?_)
                      · exact ⟨trivial, fun h => by have := h 17 (by simp); simp at this⟩
                      clear hK K
                      replace hHold := hHold2
                      clear hHold2
                      try simp only [Act.put, List.getElem_toArray, List.getElem_cons_zero, List.getElem_cons_succ, List.setIfInBounds_toArray, List.set_cons_zero, List.set_cons_succ]
                      refine Held.take1 (i := 18) (v := ?vq103_) rfl (by kernel_rfl) (by kernel_rfl) (by kernel_rfl) (by kernel_rfl) (fun _ _ _ h => h) (Or.inl ⟨by kernel_rfl, ?hyq103_⟩) hHold (fun hHold2 => ?restq103_)
                      case hyq103_ => (intro W hSw; refine Or.inl ?_; have hA := hSw; have hB := True.intro; (try (obtain ⟨hS0⟩ := hA)); (try (obtain ⟨hT0, hT1, hT2, hT3⟩ := hB)); clear hSw; go_simp; try with_reducible rfl)
                      replace hHold := hHold2
                      clear hHold2
                      try simp only [Act.put, List.getElem_toArray, List.getElem_cons_zero, List.getElem_cons_succ, List.setIfInBounds_toArray, List.set_cons_zero, List.set_cons_succ]
                      have HO2 := Aside0.mk (show TR w (w1.setCell ⟨PB, kd, none⟩ (.slice A3 ((fl false kd).length + 1) c3)) p n B B NW (fun a => if a then GB else PB) at_ (nwv nw) (updF fv false kd (.slice A3 ((fl false kd).length + 1) c3)) (updF fl false kd (fl false kd ++ [tv])) ∧ Chg (RT B wq) wq (w1.setCell ⟨PB, kd, none⟩ (.slice A3 ((fl false kd).length + 1) c3)) from HO1.out)
                      clear HO1
                      refine Held.ready (rs := [19]) (by kernel_rfl) (by simp) ?_
                      refine Held.AllG.cons rfl (fun K hK => ?_) Held.AllG.nil
                      go_simp
                      refine hK.out _ _ ?_ (fun hHold2 => ?_)
                      · exact ⟨trivial, fun h => by have := h 17 (by simp); simp at this⟩
                      clear hK K
                      replace hHold := hHold2
                      clear hHold2
                      try simp only [Act.put, List.getElem_toArray, List.getElem_cons_zero, List.getElem_cons_succ, List.setIfInBounds_toArray, List.set_cons_zero, List.set_cons_succ]
                      refine Held.done (by kernel_rfl) ?_ _
                      have HMWf := Aside0.mk (HMq.out.rt HO2.out.2 HTq.out.pl)
                      have HTRf := Aside0.mk HO2.out.1
                      clear HO2 HMq HTq hc1 hf1 hg2 hHold
                      generalize w1.setCell ⟨PB, kd, none⟩ (.slice A3 ((fl false kd).length + 1) c3) = w6 at *
                      have ac := (HTRf.out.at_.cell hkn2).1
                      have af := (HTRf.out.at_.cell hkn2).2
                      rw [HM.out] at ac
                      clear ac af
                      have HA2 := Aside0.mk (HTRf.out.setNow hkn2 (.pointer none))
                      have HMb := Aside0.mk (HMWf.out.rt HA2.out.2 HTRf.out.pl)
                      have fnc : (w6).frozen? ⟨NW, kd, none⟩ = false := (HTRf.out.now.cell hkn2).2
                      have ncc : (w6).cell? ⟨NW, kd, none⟩ = some _ := (HTRf.out.now.cell hkn2).1
                      go_wp2_with (go_at_call 37; (with_reducible refine HOK.out.mono ?_); rintro e w' ⟨rfl, rfl⟩)
                      go_roundg (10 - (i2 + 1))
                      case measure => have := HKQ2.out; omega
                      case rel => exact ⟨i2 + 1, _, M', _, _, _, i'' + 1, ⟨rfl⟩, by omega, by simp, by omega, HMb, ⟨HA2.out.1.eqN (fun i _ => (nwv_upd nw kd none i).symm)⟩, ⟨fun j hj => by rw [updN_far nw _ (show j ≠ kd by omega)]; exact HN.out j hj⟩, ⟨fun t' e => by have e2 := e; simp only [if_true] at e2; rw [updN_same] at e2; cases e2⟩, ⟨by have q := HTI2.out.pover (t := t) (fl' := updF fl false kd (fl false kd ++ [tv])) hkn2 HQ5.out.1 (at_ kd) (by have := HTI2.out.ai kd; omega) (.inr ⟨by rw [← HTV.out], HLL.out⟩); rw [upd_self] at q; exact q⟩⟩
                    · rw [hok] at HOK
                      have HLL := Aside0.mk hL
                      have HMWf := HMW3
                      have HTRf := HTR3
                      clear hok hL HMW3 HTR3 ac af
                      have HA2 := Aside0.mk (HTRf.out.setNow hkn2 (.pointer none))
                      have HMb := Aside0.mk (HMWf.out.rt HA2.out.2 HTRf.out.pl)
                      have fnc : (w5).frozen? ⟨NW, kd, none⟩ = false := (HTRf.out.now.cell hkn2).2
                      have ncc : (w5).cell? ⟨NW, kd, none⟩ = some _ := (HTRf.out.now.cell hkn2).1
                      go_wp2_with (go_at_call 37; (with_reducible refine HOK.out.mono ?_); rintro e w' ⟨rfl, rfl⟩)
                      go_roundg (10 - (i2 + 1))
                      case measure => have := HKQ2.out; omega
                      case rel => exact ⟨i2 + 1, _, M', _, _, _, i'' + 1, ⟨rfl⟩, by omega, by simp, by omega, HMb, ⟨HA2.out.1.eqN (fun i _ => (nwv_upd nw kd none i).symm)⟩, ⟨fun j hj => by rw [updN_far nw _ (show j ≠ kd by omega)]; exact HN.out j hj⟩, ⟨fun t' e => by have e2 := e; simp only [if_true] at e2; rw [updN_same] at e2; cases e2⟩, ⟨by have q := HTI2.out.pover (t := t) (fl' := fl) hkn2 HQ5.out.1 (at_ kd) (by have := HTI2.out.ai kd; omega) (.inl ⟨rfl, HLL.out⟩); rw [upd_self] at q; exact q⟩⟩
          · rw [show nwv nw kd = pt t.px from by unfold nwv; rw [nwa_some hnw]] at nc
            have HC0 := Aside0.mk (show ∀ t, nw kd = some t → ((0 : Nat) : Int) ≤ t.c from fun t e => by have := (PP.pv (HMW.out.c.nw kd hks t e).2.1).2.2.2.2; omega)
            clear hnw
            go_wp2
            obtain ⟨wo, hwo⟩ : ∃ wo : World, wo = wr := ⟨_, rfl⟩
            subst hwo
            go_loopg [19] 10 (fun kq2 v19 wr2 => ∃ (i2 : Nat) (ss : Nat → LR) (M : MemS) (nw : Nat → Option NwS) (fv : Bool → Nat → Value) (fl : Bool → Nat → List Int) (i' : Nat), Aside0 (kq2 = 10 - i2) ∧ i2 ≤ 3 ∧ v19 = .int .i64 (i2 : Int) ∧ i' ≤ 1500 + 9 * kd + i2 ∧ Aside0 (MW w.heap.size wr2 u p b2 c2 x gs ss s M nw tk) ∧ Aside0 (TR w wr2 p n B B NW (fun a => if a then GB else PB) at_ (nwv nw) fv fl) ∧ Aside0 (∀ j, j < kd → nw j = none) ∧ Aside0 (∀ t, nw kd = some t → (i2 : Int) ≤ t.c) ∧ Aside0 (TI n l1 ss M nw tk at_ fl i' st))
            case atStart => exact ⟨0, ss, M, nw, fv, fl, i', ⟨by omega⟩, by omega, rfl, by omega, HMW, HTR, HN, HC0, HTI⟩
            case round =>
              clear HMW HTR HTI HN HC0 nc
              clear ss M nw fv fl
              rename_i hi0
              obtain ⟨i2, ss, M, nw, fv, fl, i'', HKQ2, hi2, rfl, hi'', HMW, HTR, HN, HC, HTI⟩ := hrel
              have nc := (HTR.out.now.cell hkn2).1
              have d9 : decide ((i2 : Int) < 9) = true := decide_eq_true (by omega)
              rcases hnw : nw kd with _ | t
              · rw [show nwv nw kd = .pointer none from by unfold nwv; rw [nwa_none hnw]] at nc
                have HNW := Aside0.mk hnw
                clear hnw
                go_wp2
                go_roundg (n - (kd + 1))
                case measure => have := HKQ.out; omega
                case rel => exact ⟨kd + 1, ss, M, nw, fv, fl, i'', ⟨rfl⟩, by omega, by simp, by omega, HMW, HTR, ⟨fun j hj => by by_cases e : j = kd; rw [e]; exact HNW.out; exact HN.out j (by omega)⟩, HTI⟩
              · rw [show nwv nw kd = pt t.px from by unfold nwv; rw [nwa_some hnw]] at nc
                obtain ⟨l, q1, q2, q3⟩ := HTI.out.nw kd hkn2 t hnw
                have hcc := HC.out t hnw
                have hc2 := (PP.pv (HMW.out.c.nw kd hks t hnw).2.1).2.2.2
                have HNL := Aside0.mk (And.intro hnw (And.intro q1 (And.intro q2 q3)))
                have htm := HTI.out.tm
                have htm0 := HMW.out.c.m.t0
                have HST := Aside0.mk (HMW.out.pstep hks hnw (by omega))
                obtain ⟨T, hT⟩ : ∃ T, M.time = T := ⟨_, rfl⟩
                have HTE := Aside0.mk hT
                clear hnw q1 q2 q3 hT htm htm0
                have hi2b : i2 ≤ 2 := by omega
                have HCC := Aside0.mk hcc
                clear hcc hc2
                go_upto_if 249 with (go_at_call 36; (with_reducible refine HST.out.mono ?_); rintro e w5 ⟨b, M', s', A', rfl, hT5, hA5, hch, hm5, hf5, ht5⟩; have HTR3 := Aside0.mk (HTR.out.mach hch); have HMW3 := Aside0.mk hm5; have HQ5 := Aside0.mk (And.intro hT5 (And.intro hA5 (And.intro hf5 ht5))); clear hT5 hA5 hch hm5 hf5 ht5 nc)
                cases b with
                | false =>
                  go_wp2
                  go_roundg (10 - (i2 + 1))
                  case measure => have := HKQ2.out; omega
                  case rel => exact ⟨i2 + 1, _, M', _, fv, fl, i'' + 1, ⟨rfl⟩, by omega, by simp, by omega, HMW3, ⟨HTR3.out.eqN (fun i _ => by rw [nwv_upd]; by_cases e : i = kd; rw [if_pos e, e]; show nwv nw kd = pt t.px; unfold nwv; rw [nwa_some HNL.out.1]; rw [if_neg e])⟩, ⟨fun j hj => by rw [updN_far nw _ (show j ≠ kd by omega)]; exact HN.out j hj⟩, ⟨fun t' e => by have e2 := e; simp only [Bool.false_eq_true, if_false] at e2; rw [updN_same] at e2; cases e2; have := HCC.out; show ((i2 + 1 : Nat) : Int) ≤ t.c + 1; omega⟩, ⟨HTI.out.pgoes hkn2 HNL.out.1 rfl (HQ5.out.2.2.1 (by first | rfl | trivial)) HQ5.out.1⟩⟩
                | true =>
                  have nc : w5.cell? ⟨NW, kd, none⟩ = some (pt t.px) := by have q := (HTR3.out.now.cell hkn2).1; rw [show nwv nw kd = pt t.px from by unfold nwv; rw [nwa_some HNL.out.1]] at q; exact q
                  have hai := HTI.out.ai kd
                  obtain ⟨m, hm⟩ : ∃ m, at_ kd = m := ⟨_, rfl⟩
                  have HM := Aside0.mk hm
                  have ac := (HTR3.out.at_.cell hkn2).1
                  have af := (HTR3.out.at_.cell hkn2).2
                  rw [hm] at ac hai
                  clear hm
                  have HTI2 := HTI
                  have HOK := Aside0.mk (Ring.ok_ w5 t.px (gs kd) A' HQ5.out.2.1)
                  rcases HQ5.out.2.2.2 rfl with ⟨hok, hL⟩ | ⟨hok, hL⟩
                  · rw [hok] at HOK
                    have HLL := Aside0.mk hL
                    clear hok hL
                    obtain ⟨ad1, A3, cap3, e1, x1, hl63, hel⟩ := row_at HX1.out HNL.out.2.1
                    cases e1
                    have hml : m < l.length := by have := HNL.out.2.2.1; rw [HM.out] at this; exact this
                    obtain ⟨lad, e3, z1⟩ := hel m hml
                    cases e3
                    have hkl1 := (List.getElem?_eq_some_iff.1 HNL.out.2.1).1
                    have y1 := (HTR3.out.bel.cell (World.block_lt_of_cell? w _ x1)).trans x1
                    have y3 := (HTR3.out.bel.cell (World.block_lt_of_cell? w _ z1)).trans z1
                    have HVE := Aside0.mk (show rd l (m : Int) = t.v from by rw [← HM.out]; exact HNL.out.2.2.2.symm)
                    rw [HVE.out] at y3
                    clear x1 z1 hel
                    obtain ⟨A5, c5, hv5, hc5, hf5, hr5⟩ := HTR3.out.mt.cell false hkn2
                    have hc5 : w5.cell? ⟨PB, kd, none⟩ = _ := hc5
                    have hll5 := HTI2.out.li false kd hkn2
                    have HV5 := Aside0.mk hv5
                    have hkn := hkn2
                    clear hr5 hv5 hf5
                    obtain ⟨tv, htv⟩ : ∃ tv, t.v = tv := ⟨_, rfl⟩
                    have HTV := Aside0.mk htv
                    rw [htv] at y3
                    clear htv
                    go_upto_region 52 with (go_at_call 37; (with_reducible refine HOK.out.mono ?_); rintro e w' ⟨rfl, rfl⟩)
                    refine Held.begin_ (fun W => True) (fun W => W.cell? ⟨PB, kd, none⟩ = some (.slice A5 (fl false kd).length c5) ∧ W.cell? (ad1.add kd) = some (.slice (some lad) l.length cap3) ∧ W.cell? ⟨B, kd, none⟩ = some (.int .i64 (m : Int)) ∧ W.cell? (lad.add m) = some (.int .u64 tv)) [17] (by kernel_rfl) ?_ ?_ (fun hHold => ?_)
                    · exact trivial
                    · exact ⟨hc5, y1, ac, y3⟩
                    have HTq := Aside0.mk HTR3.out.drew
                    have HMq := Aside0.mk HMW3.out.drew
                    have hcq : w5.drew.cell? ⟨PB, kd, none⟩ = some (.slice A5 (fl false kd).length c5) := hc5
                    have y1q : w5.drew.cell? (ad1.add kd) = _ := y1
                    have acq : w5.drew.cell? ⟨B, kd, none⟩ = _ := ac
                    have y3q : w5.drew.cell? (lad.add m) = _ := y3
                    clear HTR3 HMW3 hc5 y1 ac y3 nc af HOK
                    generalize w5.drew = wq at *
                    refine Held.take1 (i := 0) (v := ?vq104_) rfl (by kernel_rfl) (by kernel_rfl) (by kernel_rfl) (by kernel_rfl) (fun _ _ _ h => h) (Or.inl ⟨by kernel_rfl, ?hyq104_⟩) hHold (fun hHold2 => ?restq104_)
                    case hyq104_ => (intro W hSw; refine Or.inl ?_; have hA := hSw; have hB := True.intro; (try (obtain ⟨hS0⟩ := hA)); (try (obtain ⟨hT0, hT1, hT2, hT3⟩ := hB)); clear hSw; go_simp; try with_reducible rfl)
                    replace hHold := hHold2
                    clear hHold2
                    try simp only [Act.put, List.getElem_toArray, List.getElem_cons_zero, List.getElem_cons_succ, List.setIfInBounds_toArray, List.set_cons_zero, List.set_cons_succ]
                    refine Held.take1 (i := 1) (v := ?vq105_) rfl (by kernel_rfl) (by kernel_rfl) (by kernel_rfl) (by kernel_rfl) (fun _ _ _ h => h) (Or.inl ⟨by kernel_rfl, ?hyq105_⟩) hHold (fun hHold2 => ?restq105_)
                    case hyq105_ => (intro W hSw; refine Or.inl ?_; have hA := hSw; have hB := True.intro; (try (obtain ⟨hS0⟩ := hA)); (try (obtain ⟨hT0, hT1, hT2, hT3⟩ := hB)); clear hSw; go_simp; try with_reducible rfl)
                    replace hHold := hHold2
                    clear hHold2
                    try simp only [Act.put, List.getElem_toArray, List.getElem_cons_zero, List.getElem_cons_succ, List.setIfInBounds_toArray, List.set_cons_zero, List.set_cons_succ]
                    refine Held.take (i := 2) (v := ?vq106_) [4, 5, 17, 19] rfl (by kernel_rfl) (by kernel_rfl) (by kernel_rfl) (by kernel_rfl) (by kernel_rfl) (by kernel_rfl) (fun _ _ _ h => h) (Or.inl ⟨by kernel_rfl, ?hyq106_⟩) hHold (fun hHold2 => ?restq106_)
                    case hyq106_ => (intro W hSw; refine Or.inl ?_; have hA := hSw.1; have hB := hSw.2; (try (obtain ⟨hS0⟩ := hA)); (try (obtain ⟨hT0, hT1, hT2, hT3⟩ := hB)); clear hSw; go_simp; try with_reducible rfl)
                    replace hHold := hHold2
                    clear hHold2
                    try simp only [Act.put, List.getElem_toArray, List.getElem_cons_zero, List.getElem_cons_succ, List.setIfInBounds_toArray, List.set_cons_zero, List.set_cons_succ]
                    refine Held.take (i := 3) (v := ?vq107_) [4, 5, 17, 19] rfl (by kernel_rfl) (by kernel_rfl) (by kernel_rfl) (by kernel_rfl) (by kernel_rfl) (by kernel_rfl) (fun _ _ _ h => h) (Or.inl ⟨by kernel_rfl, ?hyq107_⟩) hHold (fun hHold2 => ?restq107_)
                    case hyq107_ => (intro W hSw; refine Or.inl ?_; have hA := hSw.1; have hB := hSw.2; (try (obtain ⟨hS0⟩ := hA)); (try (obtain ⟨hT0, hT1, hT2, hT3⟩ := hB)); clear hSw; go_simp; try with_reducible rfl)
                    replace hHold := hHold2
                    clear hHold2
                    try simp only [Act.put, List.getElem_toArray, List.getElem_cons_zero, List.getElem_cons_succ, List.setIfInBounds_toArray, List.set_cons_zero, List.set_cons_succ]
                    refine Held.take (i := 4) (v := ?vq108_) [5, 17, 19] rfl (by kernel_rfl) (by kernel_rfl) (by kernel_rfl) (by kernel_rfl) (by kernel_rfl) (by kernel_rfl) (fun _ _ _ h => h) (Or.inl ⟨by kernel_rfl, ?hyq108_⟩) hHold (fun hHold2 => ?restq108_)
                    case hyq108_ => (intro W hSw; refine Or.inl ?_; have hA := hSw.1; have hB := hSw.2; (try (obtain ⟨hS0⟩ := hA)); (try (obtain ⟨hT0, hT1, hT2, hT3⟩ := hB)); clear hSw; go_simp; try with_reducible rfl)
                    replace hHold := hHold2
                    clear hHold2
                    try simp only [Act.put, List.getElem_toArray, List.getElem_cons_zero, List.getElem_cons_succ, List.setIfInBounds_toArray, List.set_cons_zero, List.set_cons_succ]
                    refine Held.take (i := 5) (v := ?vq109_) [17, 19] rfl (by kernel_rfl) (by kernel_rfl) (by kernel_rfl) (by kernel_rfl) (by kernel_rfl) (by kernel_rfl) (fun _ _ _ h => h) (Or.inl ⟨by kernel_rfl, ?hyq109_⟩) hHold (fun hHold2 => ?restq109_)
                    case hyq109_ => (intro W hSw; refine Or.inl ?_; have hA := hSw.1; have hB := hSw.2; (try (obtain ⟨hS0⟩ := hA)); (try (obtain ⟨hT0, hT1, hT2, hT3⟩ := hB)); clear hSw; go_simp; try with_reducible rfl)
                    replace hHold := hHold2
                    clear hHold2
                    try simp only [Act.put, List.getElem_toArray, List.getElem_cons_zero, List.getElem_cons_succ, List.setIfInBounds_toArray, List.set_cons_zero, List.set_cons_succ]
                    refine Held.take (i := 6) (v := ?vq110_) [8, 9, 14, 15, 16, 17, 19] rfl (by kernel_rfl) (by kernel_rfl) (by kernel_rfl) (by kernel_rfl) (by kernel_rfl) (by kernel_rfl) (fun _ _ _ h => h) (Or.inl ⟨by kernel_rfl, ?hyq110_⟩) hHold (fun hHold2 => ?restq110_)
                    case hyq110_ => (intro W hSw; refine Or.inl ?_; have hA := hSw.1; have hB := hSw.2; (try (obtain ⟨hS0⟩ := hA)); (try (obtain ⟨hT0, hT1, hT2, hT3⟩ := hB)); clear hSw; go_simp; try with_reducible rfl)
                    replace hHold := hHold2
                    clear hHold2
                    try simp only [Act.put, List.getElem_toArray, List.getElem_cons_zero, List.getElem_cons_succ, List.setIfInBounds_toArray, List.set_cons_zero, List.set_cons_succ]
                    refine Held.take (i := 7) (v := ?vq111_) [8, 9, 14, 15, 16, 17, 19] rfl (by kernel_rfl) (by kernel_rfl) (by kernel_rfl) (by kernel_rfl) (by kernel_rfl) (by kernel_rfl) (fun _ _ _ h => h) (Or.inl ⟨by kernel_rfl, ?hyq111_⟩) hHold (fun hHold2 => ?restq111_)
                    case hyq111_ => (intro W hSw; refine Or.inl ?_; have hA := hSw.1; have hB := hSw.2; (try (obtain ⟨hS0⟩ := hA)); (try (obtain ⟨hT0, hT1, hT2, hT3⟩ := hB)); clear hSw; go_simp; try with_reducible rfl)
                    replace hHold := hHold2
                    clear hHold2
                    try simp only [Act.put, List.getElem_toArray, List.getElem_cons_zero, List.getElem_cons_succ, List.setIfInBounds_toArray, List.set_cons_zero, List.set_cons_succ]
                    refine Held.take (i := 8) (v := ?vq112_) [9, 14, 15, 16, 17, 19] rfl (by kernel_rfl) (by kernel_rfl) (by kernel_rfl) (by kernel_rfl) (by kernel_rfl) (by kernel_rfl) (fun _ _ _ h => h) (Or.inl ⟨by kernel_rfl, ?hyq112_⟩) hHold (fun hHold2 => ?restq112_)
                    case hyq112_ => (intro W hSw; refine Or.inl ?_; have hA := hSw.1; have hB := hSw.2; (try (obtain ⟨hS0⟩ := hA)); (try (obtain ⟨hT0, hT1, hT2, hT3⟩ := hB)); clear hSw; go_simp; try with_reducible rfl)
                    replace hHold := hHold2
                    clear hHold2
                    try simp only [Act.put, List.getElem_toArray, List.getElem_cons_zero, List.getElem_cons_succ, List.setIfInBounds_toArray, List.set_cons_zero, List.set_cons_succ]
                    refine Held.take (i := 9) (v := ?vq113_) [14, 15, 16, 17, 19] rfl (by kernel_rfl) (by kernel_rfl) (by kernel_rfl) (by kernel_rfl) (by kernel_rfl) (by kernel_rfl) (fun _ _ _ h => h) (Or.inl ⟨by kernel_rfl, ?hyq113_⟩) hHold (fun hHold2 => ?restq113_)
                    case hyq113_ => (intro W hSw; refine Or.inl ?_; have hA := hSw.1; have hB := hSw.2; (try (obtain ⟨hS0⟩ := hA)); (try (obtain ⟨hT0, hT1, hT2, hT3⟩ := hB)); clear hSw; go_simp; try with_reducible rfl)
                    replace hHold := hHold2
                    clear hHold2
                    try simp only [Act.put, List.getElem_toArray, List.getElem_cons_zero, List.getElem_cons_succ, List.setIfInBounds_toArray, List.set_cons_zero, List.set_cons_succ]
                    refine Held.take (i := 10) (v := ?vq114_) [12, 13, 14, 15, 16, 17, 19] rfl (by kernel_rfl) (by kernel_rfl) (by kernel_rfl) (by kernel_rfl) (by kernel_rfl) (by kernel_rfl) (fun _ _ _ h => h) (Or.inl ⟨by kernel_rfl, ?hyq114_⟩) hHold (fun hHold2 => ?restq114_)
                    case hyq114_ => (intro W hSw; refine Or.inl ?_; have hA := hSw.1; have hB := hSw.2; (try (obtain ⟨hS0⟩ := hA)); (try (obtain ⟨hT0, hT1, hT2, hT3⟩ := hB)); clear hSw; go_simp; try with_reducible rfl)
                    replace hHold := hHold2
                    clear hHold2
                    try simp only [Act.put, List.getElem_toArray, List.getElem_cons_zero, List.getElem_cons_succ, List.setIfInBounds_toArray, List.set_cons_zero, List.set_cons_succ]
                    refine Held.take (i := 11) (v := ?vq115_) [12, 13, 14, 15, 16, 17, 19] rfl (by kernel_rfl) (by kernel_rfl) (by kernel_rfl) (by kernel_rfl) (by kernel_rfl) (by kernel_rfl) (fun _ _ _ h => h) (Or.inl ⟨by kernel_rfl, ?hyq115_⟩) hHold (fun hHold2 => ?restq115_)
                    case hyq115_ => (intro W hSw; refine Or.inl ?_; have hA := hSw.1; have hB := hSw.2; (try (obtain ⟨hS0⟩ := hA)); (try (obtain ⟨hT0, hT1, hT2, hT3⟩ := hB)); clear hSw; go_simp; try with_reducible rfl)
                    replace hHold := hHold2
                    clear hHold2
                    try simp only [Act.put, List.getElem_toArray, List.getElem_cons_zero, List.getElem_cons_succ, List.setIfInBounds_toArray, List.set_cons_zero, List.set_cons_succ]
                    refine Held.take (i := 12) (v := ?vq116_) [13, 14, 15, 16, 17, 19] rfl (by kernel_rfl) (by kernel_rfl) (by kernel_rfl) (by kernel_rfl) (by kernel_rfl) (by kernel_rfl) (fun _ _ _ h => h) (Or.inl ⟨by kernel_rfl, ?hyq116_⟩) hHold (fun hHold2 => ?restq116_)
                    case hyq116_ => (intro W hSw; refine Or.inl ?_; have hA := hSw.1; have hB := hSw.2; (try (obtain ⟨hS0⟩ := hA)); (try (obtain ⟨hT0, hT1, hT2, hT3⟩ := hB)); clear hSw; go_simp; try with_reducible rfl)
                    replace hHold := hHold2
                    clear hHold2
                    try simp only [Act.put, List.getElem_toArray, List.getElem_cons_zero, List.getElem_cons_succ, List.setIfInBounds_toArray, List.set_cons_zero, List.set_cons_succ]
                    refine Held.take (i := 13) (v := ?vq117_) [14, 15, 16, 17, 19] rfl (by kernel_rfl) (by kernel_rfl) (by kernel_rfl) (by kernel_rfl) (by kernel_rfl) (by kernel_rfl) (fun _ _ _ h => h) (Or.inl ⟨by kernel_rfl, ?hyq117_⟩) hHold (fun hHold2 => ?restq117_)
                    case hyq117_ => (intro W hSw; refine Or.inl ?_; have hA := hSw.1; have hB := hSw.2; (try (obtain ⟨hS0⟩ := hA)); (try (obtain ⟨hT0, hT1, hT2, hT3⟩ := hB)); clear hSw; go_simp; try with_reducible rfl)
                    replace hHold := hHold2
                    clear hHold2
                    try simp only [Act.put, List.getElem_toArray, List.getElem_cons_zero, List.getElem_cons_succ, List.setIfInBounds_toArray, List.set_cons_zero, List.set_cons_succ]
                    refine Held.take (i := 14) (v := ?vq118_) [15, 16, 17, 19] rfl (by kernel_rfl) (by kernel_rfl) (by kernel_rfl) (by kernel_rfl) (by kernel_rfl) (by kernel_rfl) (fun _ _ _ h => h) (Or.inl ⟨by kernel_rfl, ?hyq118_⟩) hHold (fun hHold2 => ?restq118_)
                    case hyq118_ => (intro W hSw; refine Or.inl ?_; have hA := hSw.1; have hB := hSw.2; (try (obtain ⟨hS0⟩ := hA)); (try (obtain ⟨hT0, hT1, hT2, hT3⟩ := hB)); clear hSw; go_simp; try with_reducible rfl)
                    replace hHold := hHold2
                    clear hHold2
                    try simp only [Act.put, List.getElem_toArray, List.getElem_cons_zero, List.getElem_cons_succ, List.setIfInBounds_toArray, List.set_cons_zero, List.set_cons_succ]
                    refine Held.take (i := 15) (v := ?vq119_) [16, 17, 19] rfl (by kernel_rfl) (by kernel_rfl) (by kernel_rfl) (by kernel_rfl) (by kernel_rfl) (by kernel_rfl) (fun _ _ _ h => h) (Or.inl ⟨by kernel_rfl, ?hyq119_⟩) hHold (fun hHold2 => ?restq119_)
                    case hyq119_ => (intro W hSw; refine Or.inl ?_; have hA := hSw.1; have hB := hSw.2; (try (obtain ⟨hS0⟩ := hA)); (try (obtain ⟨hT0, hT1, hT2, hT3⟩ := hB)); clear hSw; go_simp; try with_reducible rfl)
                    replace hHold := hHold2
                    clear hHold2
                    try simp only [Act.put, List.getElem_toArray, List.getElem_cons_zero, List.getElem_cons_succ, List.setIfInBounds_toArray, List.set_cons_zero, List.set_cons_succ]
                    refine Held.ready (rs := [16]) (by kernel_rfl) (by simp) ?_
                    refine Held.AllG.cons rfl (fun K hK => ?_) Held.AllG.nil
                    go_simp
                    refine hK.out _ _ ?_ (fun hHold2 => ?_)
                    · exact ⟨trivial, fun _ => ⟨(World.cell?_alloc_lt _ _ _ (World.block_lt_of_cell? wq _ hcq)).trans hcq, (World.cell?_alloc_lt _ _ _ (World.block_lt_of_cell? wq _ y1q)).trans y1q, (World.cell?_alloc_lt _ _ _ (World.block_lt_of_cell? wq _ acq)).trans acq, (World.cell?_alloc_lt _ _ _ (World.block_lt_of_cell? wq _ y3q)).trans y3q⟩⟩
                    clear hK K
                    replace hHold := hHold2
                    clear hHold2
                    try simp only [Act.put, List.getElem_toArray, List.getElem_cons_zero, List.getElem_cons_succ, List.setIfInBounds_toArray, List.set_cons_zero, List.set_cons_succ]
                    refine Held.ready (rs := [17]) (by kernel_rfl) (by simp) ?_
                    refine Held.AllG.cons rfl (fun K hK => ?_) Held.AllG.nil
                    refine step_append_cells (w0 := wq) (W := wq) B rfl (.tmp 260) (.tmp 271) 44 29 (.int .u64 0) 1 8 rfl Try.underlying44 info_u64 rfl (by decide) (by decide) (.slice A5 (fl false kd).length c5) (fl false kd).length (nums .u64 (fl false kd)) [.int .u64 tv] rfl rfl rfl (by intro q hq; simp at hq; subst hq; rfl) (by have q := HTq.out.mt.own false kd hkn; rw [HV5.out] at q; exact q) (Below.refl B wq) HTq.out.bs (by omega) ?_
                    intro v1 w1 hown hBe hgr hat2
                    obtain ⟨A3, c3, e3⟩ := own_slice hown
                    subst e3
                    have HO1 := Aside0.mk (HTq.out.grown (a := false) hkn (L := fl false kd ++ [tv]) (by simpa [nums] using hown) (by rw [HV5.out]; exact hgr) (by rw [HV5.out]; exact hat2))
                    have hg2 : wq.grownBy w1 (fv false kd).ownBlock := by rw [HV5.out]; exact hgr
                    have hf1 : w1.frozen? ⟨PB, kd, none⟩ = false := by obtain ⟨cs5, hb5, hc5⟩ := HTq.out.mt.out false; exact Blk.frozen (HTq.out.mt.gblk hkn hg2 hb5 (by decide)) kd
                    have hc1 : w1.cell? ⟨PB, kd, none⟩ = some (.slice A5 (fl false kd).length c5) := by obtain ⟨cs5, hb5, hc5⟩ := HTq.out.mt.out false; exact (Blk.cell (HTq.out.mt.gblk hkn hg2 hb5 (by decide)) kd).trans (by rw [hc5 kd hkn, HV5.out])
                    clear hcq hgr hat2 hown hBe y1q acq y3q
                    refine hK.out _ _ ?_ (fun hHold2 => ?_)
                    · exact ⟨trivial, fun h => by have := h 17 (by simp); simp at this⟩
                    clear hK K
                    replace hHold := hHold2
                    clear hHold2
                    try simp only [Act.put, List.getElem_toArray, List.getElem_cons_zero, List.getElem_cons_succ, List.setIfInBounds_toArray, List.set_cons_zero, List.set_cons_succ]
                    refine Held.take1 (i := 18) (v := ?vq120_) rfl (by kernel_rfl) (by kernel_rfl) (by kernel_rfl) (by kernel_rfl) (fun _ _ _ h => h) (Or.inl ⟨by kernel_rfl, ?hyq120_⟩) hHold (fun hHold2 => ?restq120_)
                    case hyq120_ => (intro W hSw; refine Or.inl ?_; have hA := hSw; have hB := True.intro; (try (obtain ⟨hS0⟩ := hA)); (try (obtain ⟨hT0, hT1, hT2, hT3⟩ := hB)); clear hSw; go_simp; try with_reducible rfl)
                    replace hHold := hHold2
                    clear hHold2
                    try simp only [Act.put, List.getElem_toArray, List.getElem_cons_zero, List.getElem_cons_succ, List.setIfInBounds_toArray, List.set_cons_zero, List.set_cons_succ]
                    have HO2 := Aside0.mk (show TR w (w1.setCell ⟨PB, kd, none⟩ (.slice A3 ((fl false kd).length + 1) c3)) p n B B NW (fun a => if a then GB else PB) at_ (nwv nw) (updF fv false kd (.slice A3 ((fl false kd).length + 1) c3)) (updF fl false kd (fl false kd ++ [tv])) ∧ Chg (RT B wq) wq (w1.setCell ⟨PB, kd, none⟩ (.slice A3 ((fl false kd).length + 1) c3)) from HO1.out)
                    clear HO1
                    refine Held.ready (rs := [19]) (by kernel_rfl) (by simp) ?_
                    refine Held.AllG.cons rfl (fun K hK => ?_) Held.AllG.nil
                    go_simp
                    refine hK.out _ _ ?_ (fun hHold2 => ?_)
                    · exact ⟨trivial, fun h => by have := h 17 (by simp); simp at this⟩
                    clear hK K
                    replace hHold := hHold2
                    clear hHold2
                    try simp only [Act.put, List.getElem_toArray, List.getElem_cons_zero, List.getElem_cons_succ, List.setIfInBounds_toArray, List.set_cons_zero, List.set_cons_succ]
                    refine Held.done (by kernel_rfl) ?_ _
                    have HMWf := Aside0.mk (HMq.out.rt HO2.out.2 HTq.out.pl)
                    have HTRf := Aside0.mk HO2.out.1
                    clear HO2 HMq HTq hc1 hf1 hg2 hHold
                    generalize w1.setCell ⟨PB, kd, none⟩ (.slice A3 ((fl false kd).length + 1) c3) = w6 at *
                    have ac := (HTRf.out.at_.cell hkn2).1
                    have af := (HTRf.out.at_.cell hkn2).2
                    rw [HM.out] at ac
                    clear ac af
                    have HA2 := Aside0.mk (HTRf.out.setNow hkn2 (.pointer none))
                    have HMb := Aside0.mk (HMWf.out.rt HA2.out.2 HTRf.out.pl)
                    have fnc : (w6).frozen? ⟨NW, kd, none⟩ = false := (HTRf.out.now.cell hkn2).2
                    have ncc : (w6).cell? ⟨NW, kd, none⟩ = some _ := (HTRf.out.now.cell hkn2).1
                    go_wp2_with (go_at_call 37; (with_reducible refine HOK.out.mono ?_); rintro e w' ⟨rfl, rfl⟩)
                    go_roundg (10 - (i2 + 1))
                    case measure => have := HKQ2.out; omega
                    case rel => exact ⟨i2 + 1, _, M', _, _, _, i'' + 1, ⟨rfl⟩, by omega, by simp, by omega, HMb, ⟨HA2.out.1.eqN (fun i _ => (nwv_upd nw kd none i).symm)⟩, ⟨fun j hj => by rw [updN_far nw _ (show j ≠ kd by omega)]; exact HN.out j hj⟩, ⟨fun t' e => by have e2 := e; simp only [if_true] at e2; rw [updN_same] at e2; cases e2⟩, ⟨by have q := HTI2.out.pover (t := t) (fl' := updF fl false kd (fl false kd ++ [tv])) hkn2 HQ5.out.1 (at_ kd) (by have := HTI2.out.ai kd; omega) (.inr ⟨by rw [← HTV.out], HLL.out⟩); rw [upd_self] at q; exact q⟩⟩
                  · rw [hok] at HOK
                    have HLL := Aside0.mk hL
                    have HMWf := HMW3
                    have HTRf := HTR3
                    clear hok hL HMW3 HTR3 ac af
                    have HA2 := Aside0.mk (HTRf.out.setNow hkn2 (.pointer none))
                    have HMb := Aside0.mk (HMWf.out.rt HA2.out.2 HTRf.out.pl)
                    have fnc : (w5).frozen? ⟨NW, kd, none⟩ = false := (HTRf.out.now.cell hkn2).2
                    have ncc : (w5).cell? ⟨NW, kd, none⟩ = some _ := (HTRf.out.now.cell hkn2).1
                    go_wp2_with (go_at_call 37; (with_reducible refine HOK.out.mono ?_); rintro e w' ⟨rfl, rfl⟩)
                    go_roundg (10 - (i2 + 1))
                    case measure => have := HKQ2.out; omega
                    case rel => exact ⟨i2 + 1, _, M', _, _, _, i'' + 1, ⟨rfl⟩, by omega, by simp, by omega, HMb, ⟨HA2.out.1.eqN (fun i _ => (nwv_upd nw kd none i).symm)⟩, ⟨fun j hj => by rw [updN_far nw _ (show j ≠ kd by omega)]; exact HN.out j hj⟩, ⟨fun t' e => by have e2 := e; simp only [if_true] at e2; rw [updN_same] at e2; cases e2⟩, ⟨by have q := HTI2.out.pover (t := t) (fl' := fl) hkn2 HQ5.out.1 (at_ kd) (by have := HTI2.out.ai kd; omega) (.inl ⟨rfl, HLL.out⟩); rw [upd_self] at q; exact q⟩⟩
      · obtain rfl : n = kd := by omega
        have d1 : decide ((n : Int) < (n : Int)) = false := decide_eq_false (by omega)
        go_wp2
        as_aux_lemma =>
          obtain ⟨wo, hwo⟩ : ∃ wo : World, wo = wr := ⟨_, rfl⟩
          subst hwo
          go_loopg [13, 20] 100 (fun kq v13 v20 wr => ∃ (i2 : Nat) (ss : Nat → LR) (s : LaneS) (M : MemS) (tk : Option TkS) (fv : Bool → Nat → Value) (fl : Bool → Nat → List Int) (i' : Nat) (st : Int), Aside0 (kq = 100 - i2) ∧ i2 ≤ n + 2 ∧ v13 = tkv tk ∧ v20 = .int .i64 (i2 : Int) ∧ i' ≤ 1600 + i2 ∧ Aside0 (MW w.heap.size wr u p b2 c2 x gs ss s M nw tk) ∧ Aside0 (TR w wr p n B B NW (fun a => if a then GB else PB) at_ (nwv nw) fv fl) ∧ Aside0 (s.n = n) ∧ Aside0 (∀ t, tk = some t → (i2 : Int) ≤ t.j + t.c) ∧ Aside0 (TI n l1 ss M nw tk at_ fl i' st))
          case atStart => exact ⟨0, ss, s, M, tk, fv, fl, i', st, ⟨by omega⟩, by omega, rfl, rfl, by omega, HMW, HTR, HSN, ⟨fun t e => by subst e; have := HMW.out.tk.2.2.2.1; have := (GP.pv this).2.2.2; omega⟩, HTI⟩
          case round =>
            clear HMW HTR HTI HSN
            obtain ⟨i2, ss, s, M, tk, fv, fl, i'', st, HKQ4, hi2, rfl, rfl, hi'', HMW, HTR, HSN, HC, HTI⟩ := hrel
            have ew8 : IntKind.i64.wrap (8 * (n : Int)) = 8 * (n : Int) := i64_id (by omega)
            have d8 : decide ((i2 : Int) < 8 * (n : Int)) = true := decide_eq_true (by omega)
            have d8b : (i2 : Int) < 8 * (n : Int) := by omega
            cases tk with
            | some t =>
              as_aux_lemma =>
                have e13 : tkv (some t) = pt t.y := rfl
                rw [e13]
                have e14 : (some (⟨t.y, 0, none⟩ : Addr)).isNone = false := rfl
                have htm := HTI.out.tm
                have htm0 := HMW.out.c.m.t0
                have hcc := HC.out t rfl
                have hj := HMW.out.tk.2.2.2.2.1
                have hc2 := (GP.pv HMW.out.tk.2.2.2.1).2.2
                have hsn := HSN.out
                have hst0 := HTI.out.st0
                have hst1 := HTI.out.st t rfl
                have hi2b : i2 ≤ n + 1 := by omega
                have HST := Aside0.mk (HMW.out.lstep (by omega))
                have hg4 : 0 ≤ st + 1 ∧ st + 1 ≤ 8 * n := by omega
                have HG := Aside0.mk (And.intro hst1 hcc)
                clear htm htm0 hcc hj hc2 hst0 hst1
                go_upto_if 288 with (go_at_call 61; (with_reducible refine HST.out.mono ?_); rintro e w5 ⟨b, rfl, hch, hls⟩; have HTR3 := Aside0.mk (HTR.out.mach hch); have HLS := Aside0.mk hls; clear hch hls)
                have hls := HLS.out
                clear HLS HST HMW HTR
                cases hls with
                | goes t' ss' M' q1 q2 q3 q4 q5 =>
                  have Q := Aside0.mk (And.intro q1 (And.intro q2 (And.intro q3 q4)))
                  have HM5 := Aside0.mk q5
                  clear q1 q2 q3 q4 q5
                  go_wp2
                  go_roundg (100 - (i2 + 1))
                  case measure => have := HKQ4.out; omega
                  case rel => exact ⟨i2 + 1, ss', s, M', some t', fv, fl, i'' + 1, st + 1, ⟨rfl⟩, by omega, by rw [show tkv (some t') = pt t'.y from rfl, Q.out.1], by simp, by omega, HM5, HTR3, HSN, ⟨fun t1 e => by cases e; have := Q.out.2.1; have := HG.out.2; omega⟩, ⟨TI.goes HTI.out Q.out.2.2.1 Q.out.2.2.2 hg4 (fun t1 e => by cases e; have := Q.out.2.1; have := HG.out.1; omega)⟩⟩
                | none_ ss' M' q3 q4 q5 q6 =>
                  have Q := Aside0.mk (And.intro q3 q4)
                  have HA := Aside0.mk q5
                  have HM5 := Aside0.mk q6
                  clear q3 q4 q5 q6
                  go_wp2_with (go_at_call 53; (with_reducible refine HA.out.ok_.mono ?_); rintro e w' ⟨rfl, rfl⟩)
                  go_roundg (100 - (i2 + 1))
                  case measure => have := HKQ4.out; omega
                  case rel => exact ⟨i2 + 1, ss', s, M', none, fv, fl, i'' + 1, st + 1, ⟨rfl⟩, by omega, rfl, by simp, by omega, HM5, HTR3, HSN, ⟨fun t1 e => by cases e⟩, ⟨TI.goes HTI.out Q.out.1 Q.out.2 hg4 (fun t1 e => by cases e)⟩⟩
                | one k v ss' s' M' q0 q1 q2 q3 q4 q5 q6 =>
                  have Q := Aside0.mk (And.intro q1 (And.intro q2 (And.intro q3 q4)))
                  have HA := Aside0.mk q5
                  have HM5 := Aside0.mk q6
                  have hkn : k < n := by have := HSN.out; omega
                  clear q0 q1 q2 q3 q4 q5 q6
                  have dk1 : decide ((k : Int) ≥ 0) = true := decide_eq_true (by omega)
                  have dk1b : decide (0 ≤ (k : Int)) = true := decide_eq_true (by omega)
                  have dk2 : decide ((k : Int) < (n : Int)) = true := decide_eq_true (by omega)
                  obtain ⟨A5, c5, hv5, hc5, hf5, hr5⟩ := HTR3.out.mt.cell true hkn
                  have hc5 : w5.cell? ⟨GB, k, none⟩ = _ := hc5
                  have hll5 := HTI.out.li true k hkn
                  have HV5 := Aside0.mk hv5
                  clear hr5 hv5
                  go_upto_region 59 with (first | (go_at_call 53; (with_reducible refine HA.out.ok_.mono ?_); rintro e w' ⟨rfl, rfl⟩) | (go_at_call 55; (with_reducible refine HA.out.from1.mono ?_); rintro e w' ⟨rfl, rfl⟩))
                  refine Held.begin_ (fun W => ActSt W t.y true v (k : Nat)) (fun W => W.cell? ⟨GB, k, none⟩ = some (.slice A5 (fl true k).length c5)) [13] (by kernel_rfl) ?_ ?_ (fun hHold => ?_)
                  · exact HA.out.drew
                  · exact hc5
                  have HTq := Aside0.mk HTR3.out.drew
                  have HMq := Aside0.mk HM5.out.drew
                  have HAq := Aside0.mk HA.out.drew
                  have hcq : w5.drew.cell? ⟨GB, k, none⟩ = some (.slice A5 (fl true k).length c5) := hc5
                  clear HTR3 HM5 HA hc5 hf5
                  generalize w5.drew = wq at *
                  refine Held.take (i := 0) (v := ?vq121_) [12, 13] rfl (by kernel_rfl) (by kernel_rfl) (by kernel_rfl) (by kernel_rfl) (by kernel_rfl) (by kernel_rfl) (fun _ _ _ h => h) (Or.inl ⟨by kernel_rfl, ?hyq121_⟩) hHold (fun hHold2 => ?restq121_)
                  case hyq121_ => (intro W hSw; refine Or.inl ?_; have hA := hSw.1; have hB := hSw.2; (try (obtain ⟨hS0⟩ := hA)); (try (obtain ⟨hT0⟩ := hB)); clear hSw; go_simp; try with_reducible rfl)
                  replace hHold := hHold2
                  clear hHold2
                  try simp only [Act.put, List.getElem_toArray, List.getElem_cons_zero, List.getElem_cons_succ, List.setIfInBounds_toArray, List.set_cons_zero, List.set_cons_succ]
                  refine Held.take (i := 1) (v := ?vq122_) [2, 12, 13] rfl (by kernel_rfl) (by kernel_rfl) (by kernel_rfl) (by kernel_rfl) (by kernel_rfl) (by kernel_rfl) (fun _ _ _ h => h) (Or.inl ⟨by kernel_rfl, ?hyq122_⟩) hHold (fun hHold2 => ?restq122_)
                  case hyq122_ => (intro W hSw; refine Or.inl ?_; have hA := hSw.1; have hB := hSw.2; (try (obtain ⟨hS0⟩ := hA)); (try (obtain ⟨hT0⟩ := hB)); clear hSw; go_simp; try with_reducible rfl)
                  replace hHold := hHold2
                  clear hHold2
                  try simp only [Act.put, List.getElem_toArray, List.getElem_cons_zero, List.getElem_cons_succ, List.setIfInBounds_toArray, List.set_cons_zero, List.set_cons_succ]
                  refine Held.take (i := 2) (v := .int .i64 ((k : Nat) : Int)) [12, 13] rfl (by kernel_rfl) (by kernel_rfl) (by kernel_rfl) (by kernel_rfl) (by kernel_rfl) (by kernel_rfl) (fun _ _ _ h => h) (Or.inl ⟨by kernel_rfl, ?hyq123_⟩) hHold (fun hHold2 => ?restq123_)
                  case hyq123_ => (intro W hSw; refine Or.inr ⟨_, _, ?_, hSw.1.from1⟩; go_simp; try with_reducible rfl)
                  replace hHold := hHold2
                  clear hHold2
                  try simp only [Act.put, List.getElem_toArray, List.getElem_cons_zero, List.getElem_cons_succ, List.setIfInBounds_toArray, List.set_cons_zero, List.set_cons_succ]
                  refine Held.take (i := 3) (v := ?vq124_) [6, 7, 11, 13] rfl (by kernel_rfl) (by kernel_rfl) (by kernel_rfl) (by kernel_rfl) (by kernel_rfl) (by kernel_rfl) (fun _ _ _ h => h) (Or.inl ⟨by kernel_rfl, ?hyq124_⟩) hHold (fun hHold2 => ?restq124_)
                  case hyq124_ => (intro W hSw; refine Or.inl ?_; have hA := hSw.1; have hB := hSw.2; (try (obtain ⟨hS0⟩ := hA)); (try (obtain ⟨hT0⟩ := hB)); clear hSw; go_simp; try with_reducible rfl)
                  replace hHold := hHold2
                  clear hHold2
                  try simp only [Act.put, List.getElem_toArray, List.getElem_cons_zero, List.getElem_cons_succ, List.setIfInBounds_toArray, List.set_cons_zero, List.set_cons_succ]
                  refine Held.take (i := 4) (v := ?vq125_) [5, 6, 7, 11, 13] rfl (by kernel_rfl) (by kernel_rfl) (by kernel_rfl) (by kernel_rfl) (by kernel_rfl) (by kernel_rfl) (fun _ _ _ h => h) (Or.inl ⟨by kernel_rfl, ?hyq125_⟩) hHold (fun hHold2 => ?restq125_)
                  case hyq125_ => (intro W hSw; refine Or.inl ?_; have hA := hSw.1; have hB := hSw.2; (try (obtain ⟨hS0⟩ := hA)); (try (obtain ⟨hT0⟩ := hB)); clear hSw; go_simp; try with_reducible rfl)
                  replace hHold := hHold2
                  clear hHold2
                  try simp only [Act.put, List.getElem_toArray, List.getElem_cons_zero, List.getElem_cons_succ, List.setIfInBounds_toArray, List.set_cons_zero, List.set_cons_succ]
                  refine Held.take (i := 5) (v := .int .i64 ((k : Nat) : Int)) [6, 7, 11, 13] rfl (by kernel_rfl) (by kernel_rfl) (by kernel_rfl) (by kernel_rfl) (by kernel_rfl) (by kernel_rfl) (fun _ _ _ h => h) (Or.inl ⟨by kernel_rfl, ?hyq126_⟩) hHold (fun hHold2 => ?restq126_)
                  case hyq126_ => (intro W hSw; refine Or.inr ⟨_, _, ?_, hSw.1.from1⟩; go_simp; try with_reducible rfl)
                  replace hHold := hHold2
                  clear hHold2
                  try simp only [Act.put, List.getElem_toArray, List.getElem_cons_zero, List.getElem_cons_succ, List.setIfInBounds_toArray, List.set_cons_zero, List.set_cons_succ]
                  refine Held.take (i := 6) (v := ?vq127_) [7, 11, 13] rfl (by kernel_rfl) (by kernel_rfl) (by kernel_rfl) (by kernel_rfl) (by kernel_rfl) (by kernel_rfl) (fun _ _ _ h => h) (Or.inl ⟨by kernel_rfl, ?hyq127_⟩) hHold (fun hHold2 => ?restq127_)
                  case hyq127_ => (intro W hSw; refine Or.inl ?_; have hA := hSw.1; have hB := hSw.2; (try (obtain ⟨hS0⟩ := hA)); (try (obtain ⟨hT0⟩ := hB)); clear hSw; go_simp; try with_reducible rfl)
                  replace hHold := hHold2
                  clear hHold2
                  try simp only [Act.put, List.getElem_toArray, List.getElem_cons_zero, List.getElem_cons_succ, List.setIfInBounds_toArray, List.set_cons_zero, List.set_cons_succ]
                  refine Held.take (i := 7) (v := ?vq128_) [11, 13] rfl (by kernel_rfl) (by kernel_rfl) (by kernel_rfl) (by kernel_rfl) (by kernel_rfl) (by kernel_rfl) (fun _ _ _ h => h) (Or.inl ⟨by kernel_rfl, ?hyq128_⟩) hHold (fun hHold2 => ?restq128_)
                  case hyq128_ => (intro W hSw; refine Or.inl ?_; have hA := hSw.1; have hB := hSw.2; (try (obtain ⟨hS0⟩ := hA)); (try (obtain ⟨hT0⟩ := hB)); clear hSw; go_simp; try with_reducible rfl)
                  replace hHold := hHold2
                  clear hHold2
                  try simp only [Act.put, List.getElem_toArray, List.getElem_cons_zero, List.getElem_cons_succ, List.setIfInBounds_toArray, List.set_cons_zero, List.set_cons_succ]
                  refine Held.take (i := 8) (v := ?vq129_) [9, 10, 11, 13] rfl (by kernel_rfl) (by kernel_rfl) (by kernel_rfl) (by kernel_rfl) (by kernel_rfl) (by kernel_rfl) (fun _ _ _ h => h) (Or.inl ⟨by kernel_rfl, ?hyq129_⟩) hHold (fun hHold2 => ?restq129_)
                  case hyq129_ => (intro W hSw; refine Or.inl ?_; have hA := hSw.1; have hB := hSw.2; (try (obtain ⟨hS0⟩ := hA)); (try (obtain ⟨hT0⟩ := hB)); clear hSw; go_simp; try with_reducible rfl)
                  replace hHold := hHold2
                  clear hHold2
                  try simp only [Act.put, List.getElem_toArray, List.getElem_cons_zero, List.getElem_cons_succ, List.setIfInBounds_toArray, List.set_cons_zero, List.set_cons_succ]
                  refine Held.take (i := 9) (v := .int .u64 v) [10, 11, 13] rfl (by kernel_rfl) (by kernel_rfl) (by kernel_rfl) (by kernel_rfl) (by kernel_rfl) (by kernel_rfl) (fun _ _ _ h => h) (Or.inl ⟨by kernel_rfl, ?hyq130_⟩) hHold (fun hHold2 => ?restq130_)
                  case hyq130_ => (intro W hSw; refine Or.inr ⟨_, _, ?_, hSw.1.value1⟩; go_simp; try with_reducible rfl)
                  replace hHold := hHold2
                  clear hHold2
                  try simp only [Act.put, List.getElem_toArray, List.getElem_cons_zero, List.getElem_cons_succ, List.setIfInBounds_toArray, List.set_cons_zero, List.set_cons_succ]
                  refine Held.ready (rs := [10]) (by kernel_rfl) (by simp) ?_
                  refine Held.AllG.cons rfl (fun K hK => ?_) Held.AllG.nil
                  go_simp
                  refine hK.out _ _ ?_ (fun hHold2 => ?_)
                  · exact ⟨HAq.out.chg (S := fun _ => False) (Chg.alloc (Chg.refl _ _) _) (fun _ _ => id), fun _ => (World.cell?_alloc_lt _ _ _ (World.block_lt_of_cell? wq _ hcq)).trans hcq⟩
                  clear hK K
                  replace hHold := hHold2
                  clear hHold2
                  try simp only [Act.put, List.getElem_toArray, List.getElem_cons_zero, List.getElem_cons_succ, List.setIfInBounds_toArray, List.set_cons_zero, List.set_cons_succ]
                  refine Held.ready (rs := [11]) (by kernel_rfl) (by simp) ?_
                  refine Held.AllG.cons rfl (fun K hK => ?_) Held.AllG.nil
                  refine step_append_cells (w0 := wq) (W := wq) B rfl (.tmp 309) (.tmp 312) 44 29 (.int .u64 0) 1 8 rfl Try.underlying44 info_u64 rfl (by decide) (by decide) (.slice A5 (fl true k).length c5) (fl true k).length (nums .u64 (fl true k)) [.int .u64 v] rfl rfl rfl (by intro q hq; simp at hq; subst hq; rfl) (by have q := HTq.out.mt.own true k hkn; rw [HV5.out] at q; exact q) (Below.refl B wq) HTq.out.bs (by omega) ?_
                  intro v1 w1 hown hBe hgr hat2
                  obtain ⟨A3, c3, e3⟩ := own_slice hown
                  subst e3
                  have HO1 := Aside0.mk (HTq.out.grown (a := true) hkn (L := fl true k ++ [v]) (by simpa [nums] using hown) (by rw [HV5.out]; exact hgr) (by rw [HV5.out]; exact hat2))
                  have hg2 : wq.grownBy w1 (fv true k).ownBlock := by rw [HV5.out]; exact hgr
                  have hf1 : w1.frozen? ⟨GB, k, none⟩ = false := by obtain ⟨cs5, hb5, hc5⟩ := HTq.out.mt.out true; exact Blk.frozen (HTq.out.mt.gblk hkn hg2 hb5 (by decide)) k
                  have hc1 : w1.cell? ⟨GB, k, none⟩ = some (.slice A5 (fl true k).length c5) := by obtain ⟨cs5, hb5, hc5⟩ := HTq.out.mt.out true; exact (Blk.cell (HTq.out.mt.gblk hkn hg2 hb5 (by decide)) k).trans (by rw [hc5 k hkn, HV5.out])
                  have HA1 := Aside0.mk (show ActSt w1 t.y true v (k : Nat) from HAq.out.chg (Chg.of_grown hgr) (fun hb ht e => by have q := own_ne (by have q := HTq.out.mt.own true k hkn; rw [HV5.out] at q; exact q) e.symm hb (by rcases ht with e | e <;> subst e <;> decide); exact q rfl))
                  clear hcq hgr hat2 hown hBe
                  refine hK.out _ _ ?_ (fun hHold2 => ?_)
                  · exact ⟨HA1.out, fun _ => hc1⟩
                  clear hK K
                  replace hHold := hHold2
                  clear hHold2
                  try simp only [Act.put, List.getElem_toArray, List.getElem_cons_zero, List.getElem_cons_succ, List.setIfInBounds_toArray, List.set_cons_zero, List.set_cons_succ]
                  refine Held.take (i := 12) (v := ?vq131_) [13] rfl (by kernel_rfl) (by kernel_rfl) (by kernel_rfl) (by kernel_rfl) (by kernel_rfl) (by kernel_rfl) (fun _ _ _ h => h) (Or.inl ⟨by kernel_rfl, ?hyq131_⟩) hHold (fun hHold2 => ?restq131_)
                  case hyq131_ => (intro W hSw; refine Or.inl ?_; have hA := hSw.1; have hB := hSw.2; (try (obtain ⟨hS0⟩ := hA)); (try (obtain ⟨hT0⟩ := hB)); clear hSw; go_simp; try with_reducible rfl)
                  replace hHold := hHold2
                  clear hHold2
                  try simp only [Act.put, List.getElem_toArray, List.getElem_cons_zero, List.getElem_cons_succ, List.setIfInBounds_toArray, List.set_cons_zero, List.set_cons_succ]
                  have HO2 := Aside0.mk (show TR w (w1.setCell ⟨GB, k, none⟩ (.slice A3 ((fl true k).length + 1) c3)) p n B B NW (fun a => if a then GB else PB) at_ (nwv nw) (updF fv true k (.slice A3 ((fl true k).length + 1) c3)) (updF fl true k (fl true k ++ [v])) ∧ Chg (RT B wq) wq (w1.setCell ⟨GB, k, none⟩ (.slice A3 ((fl true k).length + 1) c3)) from HO1.out)
                  clear HO1
                  refine Held.ready (rs := [13]) (by kernel_rfl) (by simp) ?_
                  refine Held.AllG.cons rfl (fun K hK => ?_) Held.AllG.nil
                  go_simp
                  refine hK.out _ _ ?_ (fun hHold2 => ?_)
                  · exact ⟨HAq.out.rt HO2.out.2, fun h => by have := h 13 (by simp); simp at this⟩
                  clear hK K
                  replace hHold := hHold2
                  clear hHold2
                  try simp only [Act.put, List.getElem_toArray, List.getElem_cons_zero, List.getElem_cons_succ, List.setIfInBounds_toArray, List.set_cons_zero, List.set_cons_succ]
                  refine Held.done (by kernel_rfl) ?_ _
                  have HM6 := Aside0.mk (HMq.out.rt HO2.out.2 HTq.out.pl)
                  have HT6 := Aside0.mk HO2.out.1
                  clear HO2 HMq HTq HAq HA1 hc1 hf1 hg2 hHold
                  generalize w1.setCell ⟨GB, k, none⟩ (.slice A3 ((fl true k).length + 1) c3) = w6 at *
                  go_wp2
                  go_roundg (100 - (i2 + 1))
                  case measure => have := HKQ4.out; omega
                  case rel => exact ⟨i2 + 1, ss', s', M', none, _, _, i'' + 1, st + 1, ⟨rfl⟩, by omega, rfl, by simp, by omega, HM6, HT6, ⟨by rw [Q.out.1]; exact HSN.out⟩, ⟨fun t1 e => by cases e⟩, ⟨TI.took HTI.out hkn Q.out.2.1 Q.out.2.2.1 Q.out.2.2.2 hg4⟩⟩
            | none =>
              have etk : (tka none).isNone = true := rfl
              go_wp2
              as_aux_lemma =>
                obtain ⟨wo, hwo⟩ : ∃ wo : World, wo = wr := ⟨_, rfl⟩
                subst hwo
                go_loopg [21] n (fun kq v21 wr => ∃ (k : Nat), Aside0 (kq = n - k) ∧ k ≤ n ∧ v21 = .int .i64 (k : Int) ∧ Aside0 (MW w.heap.size wr u p b2 c2 x gs ss s M nw none) ∧ Aside0 (TR w wr p n B B NW (fun a => if a then GB else PB) at_ (nwv nw) fv fl))
                case atStart => exact ⟨0, ⟨by omega⟩, by omega, rfl, HMW, HTR⟩
                case round =>
                  clear HMW HTR
                  obtain ⟨k, HKQ5, hk, rfl, HMW, HTR⟩ := hrel
                  by_cases hkn : k < n
                  · have d1 : decide ((k : Int) < (n : Int)) = true := decide_eq_true (by omega)
                    have hks : k < s.n := by rw [HSN.out]; exact hkn
                    have HPG := Aside0.mk (HTI.out.pg k hkn)
                    have u1 : wr.cell? ⟨u, 1, none⟩ = some (.slice (some ⟨b2, 0, none⟩) n c2) := (Blk.cell HMW.out.c.wd 1).trans (by rw [← HSN.out]; rfl)
                    have bc := (show wr.cell? ⟨b2, k, none⟩ = some (pt (gs k)) from HMW.out.c.row2.cell hks)
                    have HLI := Aside0.mk (list_ wr (gs k) p M (ss k) _ _ HMW.out.c.m (HMW.out.c.r k hks) (HMW.out.c.inv k hks))
                    have hlG := HTI.out.li true k hkn
                    have hlP := HTI.out.li false k hkn
                    obtain ⟨G, hG⟩ : ∃ G, fl true k = G := ⟨_, rfl⟩
                    obtain ⟨P, hP⟩ : ∃ P, fl false k = P := ⟨_, rfl⟩
                    obtain ⟨L, hL⟩ : ∃ L, (ss k).L = L := ⟨_, rfl⟩
                    rw [hG, hP, hL] at HPG
                    rw [hL] at HLI
                    rw [hG] at hlG
                    rw [hP] at hlP
                    have HGP := Aside0.mk (And.intro hG hP)
                    have hlen : (P.length : Int) = (G.length : Int) + (L.length : Int) := by rw [HPG.out]; simp
                    have hlenN : P.length = G.length + L.length := by rw [HPG.out]; simp
                    have HLEN := Aside0.mk (And.intro hlen hlenN)
                    clear hG hP hL hlen
                    go_upto_region 65 with (go_at_call 45; (with_reducible refine HLI.out.mono ?_); rintro e w4 ⟨v, rfl, ho, hb⟩; have HO := Aside0.mk ho; have HM4 := Aside0.mk (HMW.out.below hb); have HT4 := Aside0.mk (HTR.out.below hb); clear ho hb u1 bc)
                    obtain ⟨A6, c6, e6, hr6⟩ := own_reads HO.out
                    subst e6
                    have HR6 := Aside0.mk hr6
                    clear hr6 HMW HTR HO HLI
                    have nc := (HT4.out.now.cell hkn).1
                    rw [show nwv nw k = .pointer none from by unfold nwv; rw [nwa_none (HN.out k hkn)]] at nc
                    obtain ⟨A5, c5, hv5, hc5, _, hr5⟩ := HT4.out.mt.cell true hkn
                    obtain ⟨A7, c7, hv7, hc7, _, hr7⟩ := HT4.out.mt.cell false hkn
                    have hc5 : w4.cell? ⟨GB, k, none⟩ = _ := hc5
                    have hc7 : w4.cell? ⟨PB, k, none⟩ = _ := hc7
                    rw [HGP.out.1] at hc5 hr5
                    rw [HGP.out.2] at hc7 hr7
                    have HR5 := Aside0.mk hr5
                    have HR7 := Aside0.mk hr7
                    clear hv5 hv7 hr5 hr7
                    have ewl : IntKind.i64.wrap ((G.length : Int) + (L.length : Int)) = (P.length : Int) := by rw [i64_id (by have := HLEN.out.1; omega)]; exact HLEN.out.1.symm
                    have ebl : ((P.length : Int) != (P.length : Int)) = false := by simp
                    refine Held.begin_ (fun W => W.cell? ⟨NW, k, none⟩ = some (.pointer none) ∧ W.cell? ⟨GB, k, none⟩ = some (.slice A5 G.length c5) ∧ W.cell? ⟨PB, k, none⟩ = some (.slice A7 P.length c7)) (fun W => True) [] (by kernel_rfl) ?_ ?_ (fun hHold => ?_)
                    · exact ⟨nc, hc5, hc7⟩
                    · exact trivial
                    refine Held.take (i := 0) (v := ?vq132_) [] rfl (by kernel_rfl) (by kernel_rfl) (by kernel_rfl) (by kernel_rfl) (by kernel_rfl) (by kernel_rfl) (fun _ _ _ h => h) (Or.inl ⟨by kernel_rfl, ?hyq132_⟩) hHold (fun hHold2 => ?restq132_)
                    case hyq132_ => (intro W hSw; refine Or.inl ?_; have hA := hSw.1; have hB := hSw.2; (try (obtain ⟨hS0, hS1, hS2⟩ := hA)); (try (obtain ⟨hT0⟩ := hB)); clear hSw; go_simp; try with_reducible rfl)
                    replace hHold := hHold2
                    clear hHold2
                    try simp only [Act.put, List.getElem_toArray, List.getElem_cons_zero, List.getElem_cons_succ, List.setIfInBounds_toArray, List.set_cons_zero, List.set_cons_succ]
                    refine Held.take (i := 1) (v := ?vq133_) [] rfl (by kernel_rfl) (by kernel_rfl) (by kernel_rfl) (by kernel_rfl) (by kernel_rfl) (by kernel_rfl) (fun _ _ _ h => h) (Or.inl ⟨by kernel_rfl, ?hyq133_⟩) hHold (fun hHold2 => ?restq133_)
                    case hyq133_ => (intro W hSw; refine Or.inl ?_; have hA := hSw.1; have hB := hSw.2; (try (obtain ⟨hS0, hS1, hS2⟩ := hA)); (try (obtain ⟨hT0⟩ := hB)); clear hSw; go_simp; try with_reducible rfl)
                    replace hHold := hHold2
                    clear hHold2
                    try simp only [Act.put, List.getElem_toArray, List.getElem_cons_zero, List.getElem_cons_succ, List.setIfInBounds_toArray, List.set_cons_zero, List.set_cons_succ]
                    refine Held.take (i := 2) (v := ?vq134_) [] rfl (by kernel_rfl) (by kernel_rfl) (by kernel_rfl) (by kernel_rfl) (by kernel_rfl) (by kernel_rfl) (fun _ _ _ h => h) (Or.inl ⟨by kernel_rfl, ?hyq134_⟩) hHold (fun hHold2 => ?restq134_)
                    case hyq134_ => (intro W hSw; refine Or.inl ?_; have hA := hSw.1; have hB := hSw.2; (try (obtain ⟨hS0, hS1, hS2⟩ := hA)); (try (obtain ⟨hT0⟩ := hB)); clear hSw; go_simp; try with_reducible rfl)
                    replace hHold := hHold2
                    clear hHold2
                    try simp only [Act.put, List.getElem_toArray, List.getElem_cons_zero, List.getElem_cons_succ, List.setIfInBounds_toArray, List.set_cons_zero, List.set_cons_succ]
                    refine Held.take (i := 3) (v := ?vq135_) [] rfl (by kernel_rfl) (by kernel_rfl) (by kernel_rfl) (by kernel_rfl) (by kernel_rfl) (by kernel_rfl) (fun _ _ _ h => h) (Or.inl ⟨by kernel_rfl, ?hyq135_⟩) hHold (fun hHold2 => ?restq135_)
                    case hyq135_ => (intro W hSw; refine Or.inl ?_; have hA := hSw.1; have hB := hSw.2; (try (obtain ⟨hS0, hS1, hS2⟩ := hA)); (try (obtain ⟨hT0⟩ := hB)); clear hSw; go_simp; try with_reducible rfl)
                    replace hHold := hHold2
                    clear hHold2
                    try simp only [Act.put, List.getElem_toArray, List.getElem_cons_zero, List.getElem_cons_succ, List.setIfInBounds_toArray, List.set_cons_zero, List.set_cons_succ]
                    refine Held.take (i := 4) (v := ?vq136_) [] rfl (by kernel_rfl) (by kernel_rfl) (by kernel_rfl) (by kernel_rfl) (by kernel_rfl) (by kernel_rfl) (fun _ _ _ h => h) (Or.inl ⟨by kernel_rfl, ?hyq136_⟩) hHold (fun hHold2 => ?restq136_)
                    case hyq136_ => (intro W hSw; refine Or.inl ?_; have hA := hSw.1; have hB := hSw.2; (try (obtain ⟨hS0, hS1, hS2⟩ := hA)); (try (obtain ⟨hT0⟩ := hB)); clear hSw; go_simp; try with_reducible rfl)
                    replace hHold := hHold2
                    clear hHold2
                    try simp only [Act.put, List.getElem_toArray, List.getElem_cons_zero, List.getElem_cons_succ, List.setIfInBounds_toArray, List.set_cons_zero, List.set_cons_succ]
                    refine Held.take (i := 5) (v := ?vq137_) [] rfl (by kernel_rfl) (by kernel_rfl) (by kernel_rfl) (by kernel_rfl) (by kernel_rfl) (by kernel_rfl) (fun _ _ _ h => h) (Or.inl ⟨by kernel_rfl, ?hyq137_⟩) hHold (fun hHold2 => ?restq137_)
                    case hyq137_ => (intro W hSw; refine Or.inl ?_; have hA := hSw.1; have hB := hSw.2; (try (obtain ⟨hS0, hS1, hS2⟩ := hA)); (try (obtain ⟨hT0⟩ := hB)); clear hSw; go_simp; try with_reducible rfl)
                    replace hHold := hHold2
                    clear hHold2
                    try simp only [Act.put, List.getElem_toArray, List.getElem_cons_zero, List.getElem_cons_succ, List.setIfInBounds_toArray, List.set_cons_zero, List.set_cons_succ]
                    refine Held.take (i := 6) (v := ?vq138_) [] rfl (by kernel_rfl) (by kernel_rfl) (by kernel_rfl) (by kernel_rfl) (by kernel_rfl) (by kernel_rfl) (fun _ _ _ h => h) (Or.inl ⟨by kernel_rfl, ?hyq138_⟩) hHold (fun hHold2 => ?restq138_)
                    case hyq138_ => (intro W hSw; refine Or.inl ?_; have hA := hSw.1; have hB := hSw.2; (try (obtain ⟨hS0, hS1, hS2⟩ := hA)); (try (obtain ⟨hT0⟩ := hB)); clear hSw; go_simp; try with_reducible rfl)
                    replace hHold := hHold2
                    clear hHold2
                    try simp only [Act.put, List.getElem_toArray, List.getElem_cons_zero, List.getElem_cons_succ, List.setIfInBounds_toArray, List.set_cons_zero, List.set_cons_succ]
                    refine Held.take (i := 7) (v := ?vq139_) [] rfl (by kernel_rfl) (by kernel_rfl) (by kernel_rfl) (by kernel_rfl) (by kernel_rfl) (by kernel_rfl) (fun _ _ _ h => h) (Or.inl ⟨by kernel_rfl, ?hyq139_⟩) hHold (fun hHold2 => ?restq139_)
                    case hyq139_ => (intro W hSw; refine Or.inl ?_; have hA := hSw.1; have hB := hSw.2; (try (obtain ⟨hS0, hS1, hS2⟩ := hA)); (try (obtain ⟨hT0⟩ := hB)); clear hSw; go_simp; try with_reducible rfl)
                    replace hHold := hHold2
                    clear hHold2
                    try simp only [Act.put, List.getElem_toArray, List.getElem_cons_zero, List.getElem_cons_succ, List.setIfInBounds_toArray, List.set_cons_zero, List.set_cons_succ]
                    refine Held.take (i := 8) (v := ?vq140_) [] rfl (by kernel_rfl) (by kernel_rfl) (by kernel_rfl) (by kernel_rfl) (by kernel_rfl) (by kernel_rfl) (fun _ _ _ h => h) (Or.inl ⟨by kernel_rfl, ?hyq140_⟩) hHold (fun hHold2 => ?restq140_)
                    case hyq140_ => (intro W hSw; refine Or.inl ?_; have hA := hSw.1; have hB := hSw.2; (try (obtain ⟨hS0, hS1, hS2⟩ := hA)); (try (obtain ⟨hT0⟩ := hB)); clear hSw; go_simp; try with_reducible rfl)
                    replace hHold := hHold2
                    clear hHold2
                    try simp only [Act.put, List.getElem_toArray, List.getElem_cons_zero, List.getElem_cons_succ, List.setIfInBounds_toArray, List.set_cons_zero, List.set_cons_succ]
                    refine Held.take (i := 9) (v := ?vq141_) [] rfl (by kernel_rfl) (by kernel_rfl) (by kernel_rfl) (by kernel_rfl) (by kernel_rfl) (by kernel_rfl) (fun _ _ _ h => h) (Or.inl ⟨by kernel_rfl, ?hyq141_⟩) hHold (fun hHold2 => ?restq141_)
                    case hyq141_ => (intro W hSw; refine Or.inl ?_; have hA := hSw.1; have hB := hSw.2; (try (obtain ⟨hS0, hS1, hS2⟩ := hA)); (try (obtain ⟨hT0⟩ := hB)); clear hSw; go_simp; try with_reducible rfl)
                    replace hHold := hHold2
                    clear hHold2
                    try simp only [Act.put, List.getElem_toArray, List.getElem_cons_zero, List.getElem_cons_succ, List.setIfInBounds_toArray, List.set_cons_zero, List.set_cons_succ]
                    refine Held.take (i := 10) (v := ?vq142_) [] rfl (by kernel_rfl) (by kernel_rfl) (by kernel_rfl) (by kernel_rfl) (by kernel_rfl) (by kernel_rfl) (fun _ _ _ h => h) (Or.inl ⟨by kernel_rfl, ?hyq142_⟩) hHold (fun hHold2 => ?restq142_)
                    case hyq142_ => (intro W hSw; refine Or.inl ?_; have hA := hSw.1; have hB := hSw.2; (try (obtain ⟨hS0, hS1, hS2⟩ := hA)); (try (obtain ⟨hT0⟩ := hB)); clear hSw; go_simp; try with_reducible rfl)
                    replace hHold := hHold2
                    clear hHold2
                    try simp only [Act.put, List.getElem_toArray, List.getElem_cons_zero, List.getElem_cons_succ, List.setIfInBounds_toArray, List.set_cons_zero, List.set_cons_succ]
                    refine Held.take (i := 11) (v := ?vq143_) [] rfl (by kernel_rfl) (by kernel_rfl) (by kernel_rfl) (by kernel_rfl) (by kernel_rfl) (by kernel_rfl) (fun _ _ _ h => h) (Or.inl ⟨by kernel_rfl, ?hyq143_⟩) hHold (fun hHold2 => ?restq143_)
                    case hyq143_ => (intro W hSw; refine Or.inl ?_; have hA := hSw.1; have hB := hSw.2; (try (obtain ⟨hS0, hS1, hS2⟩ := hA)); (try (obtain ⟨hT0⟩ := hB)); clear hSw; go_simp; try with_reducible rfl)
                    replace hHold := hHold2
                    clear hHold2
                    try simp only [Act.put, List.getElem_toArray, List.getElem_cons_zero, List.getElem_cons_succ, List.setIfInBounds_toArray, List.set_cons_zero, List.set_cons_succ]
                    refine Held.take (i := 12) (v := ?vq144_) [] rfl (by kernel_rfl) (by kernel_rfl) (by kernel_rfl) (by kernel_rfl) (by kernel_rfl) (by kernel_rfl) (fun _ _ _ h => h) (Or.inl ⟨by kernel_rfl, ?hyq144_⟩) hHold (fun hHold2 => ?restq144_)
                    case hyq144_ => (intro W hSw; refine Or.inl ?_; have hA := hSw.1; have hB := hSw.2; (try (obtain ⟨hS0, hS1, hS2⟩ := hA)); (try (obtain ⟨hT0⟩ := hB)); clear hSw; go_simp; try with_reducible rfl)
                    replace hHold := hHold2
                    clear hHold2
                    try simp only [Act.put, List.getElem_toArray, List.getElem_cons_zero, List.getElem_cons_succ, List.setIfInBounds_toArray, List.set_cons_zero, List.set_cons_succ]
                    refine Held.take (i := 13) (v := ?vq145_) [] rfl (by kernel_rfl) (by kernel_rfl) (by kernel_rfl) (by kernel_rfl) (by kernel_rfl) (by kernel_rfl) (fun _ _ _ h => h) (Or.inl ⟨by kernel_rfl, ?hyq145_⟩) hHold (fun hHold2 => ?restq145_)
                    case hyq145_ => (intro W hSw; refine Or.inl ?_; have hA := hSw.1; have hB := hSw.2; (try (obtain ⟨hS0, hS1, hS2⟩ := hA)); (try (obtain ⟨hT0⟩ := hB)); clear hSw; go_simp; try with_reducible rfl)
                    replace hHold := hHold2
                    clear hHold2
                    try simp only [Act.put, List.getElem_toArray, List.getElem_cons_zero, List.getElem_cons_succ, List.setIfInBounds_toArray, List.set_cons_zero, List.set_cons_succ]
                    refine Held.take (i := 14) (v := ?vq146_) [] rfl (by kernel_rfl) (by kernel_rfl) (by kernel_rfl) (by kernel_rfl) (by kernel_rfl) (by kernel_rfl) (fun _ _ _ h => h) (Or.inl ⟨by kernel_rfl, ?hyq146_⟩) hHold (fun hHold2 => ?restq146_)
                    case hyq146_ => (intro W hSw; refine Or.inl ?_; have hA := hSw.1; have hB := hSw.2; (try (obtain ⟨hS0, hS1, hS2⟩ := hA)); (try (obtain ⟨hT0⟩ := hB)); clear hSw; go_simp; try with_reducible rfl)
                    replace hHold := hHold2
                    clear hHold2
                    try simp only [Act.put, List.getElem_toArray, List.getElem_cons_zero, List.getElem_cons_succ, List.setIfInBounds_toArray, List.set_cons_zero, List.set_cons_succ]
                    refine Held.take (i := 15) (v := ?vq147_) [] rfl (by kernel_rfl) (by kernel_rfl) (by kernel_rfl) (by kernel_rfl) (by kernel_rfl) (by kernel_rfl) (fun _ _ _ h => h) (Or.inl ⟨by kernel_rfl, ?hyq147_⟩) hHold (fun hHold2 => ?restq147_)
                    case hyq147_ => (intro W hSw; refine Or.inl ?_; have hA := hSw.1; have hB := hSw.2; (try (obtain ⟨hS0, hS1, hS2⟩ := hA)); (try (obtain ⟨hT0⟩ := hB)); clear hSw; go_simp; try with_reducible rfl)
                    replace hHold := hHold2
                    clear hHold2
                    try simp only [Act.put, List.getElem_toArray, List.getElem_cons_zero, List.getElem_cons_succ, List.setIfInBounds_toArray, List.set_cons_zero, List.set_cons_succ]
                    refine Held.take (i := 16) (v := ?vq148_) [] rfl (by kernel_rfl) (by kernel_rfl) (by kernel_rfl) (by kernel_rfl) (by kernel_rfl) (by kernel_rfl) (fun _ _ _ h => h) (Or.inl ⟨by kernel_rfl, ?hyq148_⟩) hHold (fun hHold2 => ?restq148_)
                    case hyq148_ => (intro W hSw; refine Or.inl ?_; have hA := hSw.1; have hB := hSw.2; (try (obtain ⟨hS0, hS1, hS2⟩ := hA)); (try (obtain ⟨hT0⟩ := hB)); clear hSw; go_simp; try with_reducible rfl)
                    replace hHold := hHold2
                    clear hHold2
                    try simp only [Act.put, List.getElem_toArray, List.getElem_cons_zero, List.getElem_cons_succ, List.setIfInBounds_toArray, List.set_cons_zero, List.set_cons_succ]
                    refine Held.take (i := 17) (v := ?vq149_) [] rfl (by kernel_rfl) (by kernel_rfl) (by kernel_rfl) (by kernel_rfl) (by kernel_rfl) (by kernel_rfl) (fun _ _ _ h => h) (Or.inl ⟨by kernel_rfl, ?hyq149_⟩) hHold (fun hHold2 => ?restq149_)
                    case hyq149_ => (intro W hSw; refine Or.inl ?_; have hA := hSw.1; have hB := hSw.2; (try (obtain ⟨hS0, hS1, hS2⟩ := hA)); (try (obtain ⟨hT0⟩ := hB)); clear hSw; go_simp; try with_reducible rfl)
                    replace hHold := hHold2
                    clear hHold2
                    try simp only [Act.put, List.getElem_toArray, List.getElem_cons_zero, List.getElem_cons_succ, List.setIfInBounds_toArray, List.set_cons_zero, List.set_cons_succ]
                    refine Held.take (i := 18) (v := ?vq150_) [] rfl (by kernel_rfl) (by kernel_rfl) (by kernel_rfl) (by kernel_rfl) (by kernel_rfl) (by kernel_rfl) (fun _ _ _ h => h) (Or.inl ⟨by kernel_rfl, ?hyq150_⟩) hHold (fun hHold2 => ?restq150_)
                    case hyq150_ => (intro W hSw; refine Or.inl ?_; have hA := hSw.1; have hB := hSw.2; (try (obtain ⟨hS0, hS1, hS2⟩ := hA)); (try (obtain ⟨hT0⟩ := hB)); clear hSw; go_simp; try with_reducible rfl)
                    replace hHold := hHold2
                    clear hHold2
                    try simp only [Act.put, List.getElem_toArray, List.getElem_cons_zero, List.getElem_cons_succ, List.setIfInBounds_toArray, List.set_cons_zero, List.set_cons_succ]
                    refine Held.take (i := 19) (v := ?vq151_) [] rfl (by kernel_rfl) (by kernel_rfl) (by kernel_rfl) (by kernel_rfl) (by kernel_rfl) (by kernel_rfl) (fun _ _ _ h => h) (Or.inl ⟨by kernel_rfl, ?hyq151_⟩) hHold (fun hHold2 => ?restq151_)
                    case hyq151_ => (intro W hSw; refine Or.inl ?_; have hA := hSw.1; have hB := hSw.2; (try (obtain ⟨hS0, hS1, hS2⟩ := hA)); (try (obtain ⟨hT0⟩ := hB)); clear hSw; go_simp; try with_reducible rfl)
                    replace hHold := hHold2
                    clear hHold2
                    try simp only [Act.put, List.getElem_toArray, List.getElem_cons_zero, List.getElem_cons_succ, List.setIfInBounds_toArray, List.set_cons_zero, List.set_cons_succ]
                    refine Held.take (i := 20) (v := ?vq152_) [] rfl (by kernel_rfl) (by kernel_rfl) (by kernel_rfl) (by kernel_rfl) (by kernel_rfl) (by kernel_rfl) (fun _ _ _ h => h) (Or.inl ⟨by kernel_rfl, ?hyq152_⟩) hHold (fun hHold2 => ?restq152_)
                    case hyq152_ => (intro W hSw; refine Or.inl ?_; have hA := hSw.1; have hB := hSw.2; (try (obtain ⟨hS0, hS1, hS2⟩ := hA)); (try (obtain ⟨hT0⟩ := hB)); clear hSw; go_simp; try with_reducible rfl)
                    replace hHold := hHold2
                    clear hHold2
                    try simp only [Act.put, List.getElem_toArray, List.getElem_cons_zero, List.getElem_cons_succ, List.setIfInBounds_toArray, List.set_cons_zero, List.set_cons_succ]
                    refine Held.take (i := 21) (v := ?vq153_) [] rfl (by kernel_rfl) (by kernel_rfl) (by kernel_rfl) (by kernel_rfl) (by kernel_rfl) (by kernel_rfl) (fun _ _ _ h => h) (Or.inl ⟨by kernel_rfl, ?hyq153_⟩) hHold (fun hHold2 => ?restq153_)
                    case hyq153_ => (intro W hSw; refine Or.inl ?_; have hA := hSw.1; have hB := hSw.2; (try (obtain ⟨hS0, hS1, hS2⟩ := hA)); (try (obtain ⟨hT0⟩ := hB)); clear hSw; go_simp; try with_reducible rfl)
                    replace hHold := hHold2
                    clear hHold2
                    try simp only [Act.put, List.getElem_toArray, List.getElem_cons_zero, List.getElem_cons_succ, List.setIfInBounds_toArray, List.set_cons_zero, List.set_cons_succ]
                    refine Held.take (i := 22) (v := ?vq154_) [] rfl (by kernel_rfl) (by kernel_rfl) (by kernel_rfl) (by kernel_rfl) (by kernel_rfl) (by kernel_rfl) (fun _ _ _ h => h) (Or.inl ⟨by kernel_rfl, ?hyq154_⟩) hHold (fun hHold2 => ?restq154_)
                    case hyq154_ => (intro W hSw; refine Or.inl ?_; have hA := hSw.1; have hB := hSw.2; (try (obtain ⟨hS0, hS1, hS2⟩ := hA)); (try (obtain ⟨hT0⟩ := hB)); clear hSw; go_simp; try with_reducible rfl)
                    replace hHold := hHold2
                    clear hHold2
                    try simp only [Act.put, List.getElem_toArray, List.getElem_cons_zero, List.getElem_cons_succ, List.setIfInBounds_toArray, List.set_cons_zero, List.set_cons_succ]
                    refine Held.take (i := 23) (v := ?vq155_) [] rfl (by kernel_rfl) (by kernel_rfl) (by kernel_rfl) (by kernel_rfl) (by kernel_rfl) (by kernel_rfl) (fun _ _ _ h => h) (Or.inl ⟨by kernel_rfl, ?hyq155_⟩) hHold (fun hHold2 => ?restq155_)
                    case hyq155_ => (intro W hSw; refine Or.inl ?_; have hA := hSw.1; have hB := hSw.2; (try (obtain ⟨hS0, hS1, hS2⟩ := hA)); (try (obtain ⟨hT0⟩ := hB)); clear hSw; go_simp; try with_reducible rfl)
                    replace hHold := hHold2
                    clear hHold2
                    try simp only [Act.put, List.getElem_toArray, List.getElem_cons_zero, List.getElem_cons_succ, List.setIfInBounds_toArray, List.set_cons_zero, List.set_cons_succ]
                    refine Held.take (i := 24) (v := ?vq156_) [] rfl (by kernel_rfl) (by kernel_rfl) (by kernel_rfl) (by kernel_rfl) (by kernel_rfl) (by kernel_rfl) (fun _ _ _ h => h) (Or.inl ⟨by kernel_rfl, ?hyq156_⟩) hHold (fun hHold2 => ?restq156_)
                    case hyq156_ => (intro W hSw; refine Or.inl ?_; have hA := hSw.1; have hB := hSw.2; (try (obtain ⟨hS0, hS1, hS2⟩ := hA)); (try (obtain ⟨hT0⟩ := hB)); clear hSw; go_simp; try with_reducible rfl)
                    replace hHold := hHold2
                    clear hHold2
                    try simp only [Act.put, List.getElem_toArray, List.getElem_cons_zero, List.getElem_cons_succ, List.setIfInBounds_toArray, List.set_cons_zero, List.set_cons_succ]
                    refine Held.done (by kernel_rfl) ?_ _
                    have HMq := Aside0.mk HM4.out.drew
                    have HTq := Aside0.mk HT4.out.drew
                    have hc5q : w4.drew.cell? ⟨GB, k, none⟩ = _ := hc5
                    have HR5q := Aside0.mk (show ReadsInt w4.drew .u64 A5 G.length G from HR5.out)
                    have HR6q := Aside0.mk (show ReadsInt w4.drew .u64 A6 L.length L from HR6.out)
                    have HR7q := Aside0.mk (show ReadsInt w4.drew .u64 A7 P.length P from HR7.out)
                    have hc7q : w4.drew.cell? ⟨PB, k, none⟩ = _ := hc7
                    clear HM4 HT4 hc5 hc7 HR5 HR6 HR7 nc hHold
                    generalize w4.drew = wq at *
                    clear ewl ebl
                    have hc5a : (wq.alloc (.cells #[] 29)).cell? ⟨GB, k, none⟩ = some (.slice A5 G.length c5) := (World.cell?_alloc_lt _ _ _ (World.block_lt_of_cell? wq _ hc5q)).trans hc5q
                    go_wp2_with (first | ((with_reducible refine gate_builtin (b := .append) (xs := #[.tmp 353, .tmp 357]) rfl ?_); at_builtin; refine print_append_row (w0 := wq) (W := wq.alloc (.cells #[] 29)) wq.heap.size rfl (.tmp 353) (.tmp 357) 44 29 .u64 8 rfl Try.underlying44 info_u64 (by decide) (.slice (some ⟨wq.heap.size, 0, none⟩) 0 0) [] G A5 G.length c5 rfl rfl (own_lit wq wq.heap.size 29 .u64 [] (Nat.le_refl _) (by simp)) (HR5q.out.allocS _) ((Below.refl _ _).alloc (Nat.le_refl _) _) (by simp) (by simp; omega) ?_; intro v1 w1 hown hBe hgr hat; rw [List.nil_append] at hown; obtain ⟨A8, c8, e8⟩ := own_slice hown; subst e8; have HOW := Aside0.mk hown; have HBE := Aside0.mk hBe; clear hown hBe hgr hat hc5a; have hlL := HLEN.out.2) | ((with_reducible refine gate_builtin (b := .append) (xs := #[.tmp 358, .tmp 359]) rfl ?_); at_builtin; refine print_append_row (w0 := wq) (W := w1) wq.heap.size rfl (.tmp 358) (.tmp 359) 44 29 .u64 8 rfl Try.underlying44 info_u64 (by decide) (.slice A8 G.length c8) G L A6 L.length c6 rfl rfl HOW.out (HR6q.out.below HBE.out) HBE.out HBE.out.size (by omega) ?_; intro v2 w2 hown2 hBe2 hgr2 hat2; rw [show G ++ L = P from HPG.out.symm] at hown2; obtain ⟨A9, c9, e9, hr9⟩ := own_reads hown2; subst e9; have HR9 := Aside0.mk hr9; have HB2 := Aside0.mk hBe2; clear hown2 hBe2 hgr2 hat2 hr9 HOW HBE))
                    have HM2 := Aside0.mk (HMq.out.below HB2.out)
                    have HT2 := Aside0.mk (HTq.out.below HB2.out)
                    have HR72 := Aside0.mk (HR7q.out.below HB2.out)
                    have hc72 := (HB2.out.cell (World.block_lt_of_cell? wq _ hc7q)).trans hc7q
                    clear HMq HTq HR7q HR5q HR6q HB2 hc7q hc5q
                    go_loopg [24] P.length (fun kq6 v24 wr6 => ∃ (j : Nat), Aside0 (kq6 = P.length - j) ∧ j ≤ P.length ∧ v24 = .int .i64 (j : Int) ∧ Aside0 (Below w2.heap.size w2 wr6))
                    case atStart => exact ⟨0, ⟨by omega⟩, by omega, rfl, ⟨Below.refl _ _⟩⟩
                    case round =>
                      obtain ⟨j, HKQ6, hj, rfl, HB6⟩ := hrel
                      have hpc := (HB6.out.cell (World.block_lt_of_cell? w2 _ hc72)).trans hc72
                      by_cases hjl : j < P.length
                      · obtain ⟨ad9, e9, x9⟩ := HR9.out.at_ (j : Int) (by omega) (by omega)
                        obtain ⟨ad7, e7, x7⟩ := HR72.out.at_ (j : Int) (by omega) (by omega)
                        rw [Int.toNat_natCast] at x9 x7
                        have y9 := (HB6.out.cell (World.block_lt_of_cell? w2 _ x9)).trans x9
                        have y7 := (HB6.out.cell (World.block_lt_of_cell? w2 _ x7)).trans x7
                        subst e9
                        subst e7
                        obtain ⟨xj, hxj⟩ : ∃ xj, rd P (j : Int) = xj := ⟨_, rfl⟩
                        rw [hxj] at y9 y7
                        clear x9 x7 hxj
                        have exx : (xj != xj) = false := by simp
                        have d6 : decide ((j : Int) < (P.length : Int)) = true := decide_eq_true (by omega)
                        go_upto_region 71 with fail
                        refine Held.begin_ (fun W => W.cell? ⟨PB, k, none⟩ = some (.slice (some ad7) P.length c7) ∧ W.cell? (ad9.add j) = some (.int .u64 xj) ∧ W.cell? (ad7.add j) = some (.int .u64 xj)) (fun W => True) [] (by kernel_rfl) ?_ ?_ (fun hHold => ?_)
                        · exact ⟨hpc, y9, y7⟩
                        · exact trivial
                        refine Held.take (i := 0) (v := ?vq157_) [] rfl (by kernel_rfl) (by kernel_rfl) (by kernel_rfl) (by kernel_rfl) (by kernel_rfl) (by kernel_rfl) (fun _ _ _ h => h) (Or.inl ⟨by kernel_rfl, ?hyq157_⟩) hHold (fun hHold2 => ?restq157_)
                        case hyq157_ => (intro W hSw; refine Or.inl ?_; have hA := hSw.1; have hB := hSw.2; (try (obtain ⟨hS0, hS1, hS2⟩ := hA)); (try (obtain ⟨hT0⟩ := hB)); clear hSw; go_simp; try with_reducible rfl)
                        replace hHold := hHold2
                        clear hHold2
                        try simp only [Act.put, List.getElem_toArray, List.getElem_cons_zero, List.getElem_cons_succ, List.setIfInBounds_toArray, List.set_cons_zero, List.set_cons_succ]
                        refine Held.take (i := 1) (v := ?vq158_) [] rfl (by kernel_rfl) (by kernel_rfl) (by kernel_rfl) (by kernel_rfl) (by kernel_rfl) (by kernel_rfl) (fun _ _ _ h => h) (Or.inl ⟨by kernel_rfl, ?hyq158_⟩) hHold (fun hHold2 => ?restq158_)
                        case hyq158_ => (intro W hSw; refine Or.inl ?_; have hA := hSw.1; have hB := hSw.2; (try (obtain ⟨hS0, hS1, hS2⟩ := hA)); (try (obtain ⟨hT0⟩ := hB)); clear hSw; go_simp; try with_reducible rfl)
                        replace hHold := hHold2
                        clear hHold2
                        try simp only [Act.put, List.getElem_toArray, List.getElem_cons_zero, List.getElem_cons_succ, List.setIfInBounds_toArray, List.set_cons_zero, List.set_cons_succ]
                        refine Held.take (i := 2) (v := ?vq159_) [] rfl (by kernel_rfl) (by kernel_rfl) (by kernel_rfl) (by kernel_rfl) (by kernel_rfl) (by kernel_rfl) (fun _ _ _ h => h) (Or.inl ⟨by kernel_rfl, ?hyq159_⟩) hHold (fun hHold2 => ?restq159_)
                        case hyq159_ => (intro W hSw; refine Or.inl ?_; have hA := hSw.1; have hB := hSw.2; (try (obtain ⟨hS0, hS1, hS2⟩ := hA)); (try (obtain ⟨hT0⟩ := hB)); clear hSw; go_simp; try with_reducible rfl)
                        replace hHold := hHold2
                        clear hHold2
                        try simp only [Act.put, List.getElem_toArray, List.getElem_cons_zero, List.getElem_cons_succ, List.setIfInBounds_toArray, List.set_cons_zero, List.set_cons_succ]
                        refine Held.take (i := 3) (v := ?vq160_) [] rfl (by kernel_rfl) (by kernel_rfl) (by kernel_rfl) (by kernel_rfl) (by kernel_rfl) (by kernel_rfl) (fun _ _ _ h => h) (Or.inl ⟨by kernel_rfl, ?hyq160_⟩) hHold (fun hHold2 => ?restq160_)
                        case hyq160_ => (intro W hSw; refine Or.inl ?_; have hA := hSw.1; have hB := hSw.2; (try (obtain ⟨hS0, hS1, hS2⟩ := hA)); (try (obtain ⟨hT0⟩ := hB)); clear hSw; go_simp; try with_reducible rfl)
                        replace hHold := hHold2
                        clear hHold2
                        try simp only [Act.put, List.getElem_toArray, List.getElem_cons_zero, List.getElem_cons_succ, List.setIfInBounds_toArray, List.set_cons_zero, List.set_cons_succ]
                        refine Held.take (i := 4) (v := ?vq161_) [] rfl (by kernel_rfl) (by kernel_rfl) (by kernel_rfl) (by kernel_rfl) (by kernel_rfl) (by kernel_rfl) (fun _ _ _ h => h) (Or.inl ⟨by kernel_rfl, ?hyq161_⟩) hHold (fun hHold2 => ?restq161_)
                        case hyq161_ => (intro W hSw; refine Or.inl ?_; have hA := hSw.1; have hB := hSw.2; (try (obtain ⟨hS0, hS1, hS2⟩ := hA)); (try (obtain ⟨hT0⟩ := hB)); clear hSw; go_simp; try with_reducible rfl)
                        replace hHold := hHold2
                        clear hHold2
                        try simp only [Act.put, List.getElem_toArray, List.getElem_cons_zero, List.getElem_cons_succ, List.setIfInBounds_toArray, List.set_cons_zero, List.set_cons_succ]
                        refine Held.take (i := 5) (v := ?vq162_) [] rfl (by kernel_rfl) (by kernel_rfl) (by kernel_rfl) (by kernel_rfl) (by kernel_rfl) (by kernel_rfl) (fun _ _ _ h => h) (Or.inl ⟨by kernel_rfl, ?hyq162_⟩) hHold (fun hHold2 => ?restq162_)
                        case hyq162_ => (intro W hSw; refine Or.inl ?_; have hA := hSw.1; have hB := hSw.2; (try (obtain ⟨hS0, hS1, hS2⟩ := hA)); (try (obtain ⟨hT0⟩ := hB)); clear hSw; go_simp; try with_reducible rfl)
                        replace hHold := hHold2
                        clear hHold2
                        try simp only [Act.put, List.getElem_toArray, List.getElem_cons_zero, List.getElem_cons_succ, List.setIfInBounds_toArray, List.set_cons_zero, List.set_cons_succ]
                        refine Held.take (i := 6) (v := ?vq163_) [] rfl (by kernel_rfl) (by kernel_rfl) (by kernel_rfl) (by kernel_rfl) (by kernel_rfl) (by kernel_rfl) (fun _ _ _ h => h) (Or.inl ⟨by kernel_rfl, ?hyq163_⟩) hHold (fun hHold2 => ?restq163_)
                        case hyq163_ => (intro W hSw; refine Or.inl ?_; have hA := hSw.1; have hB := hSw.2; (try (obtain ⟨hS0, hS1, hS2⟩ := hA)); (try (obtain ⟨hT0⟩ := hB)); clear hSw; go_simp; try with_reducible rfl)
                        replace hHold := hHold2
                        clear hHold2
                        try simp only [Act.put, List.getElem_toArray, List.getElem_cons_zero, List.getElem_cons_succ, List.setIfInBounds_toArray, List.set_cons_zero, List.set_cons_succ]
                        refine Held.take (i := 7) (v := ?vq164_) [] rfl (by kernel_rfl) (by kernel_rfl) (by kernel_rfl) (by kernel_rfl) (by kernel_rfl) (by kernel_rfl) (fun _ _ _ h => h) (Or.inl ⟨by kernel_rfl, ?hyq164_⟩) hHold (fun hHold2 => ?restq164_)
                        case hyq164_ => (intro W hSw; refine Or.inl ?_; have hA := hSw.1; have hB := hSw.2; (try (obtain ⟨hS0, hS1, hS2⟩ := hA)); (try (obtain ⟨hT0⟩ := hB)); clear hSw; go_simp; try with_reducible rfl)
                        replace hHold := hHold2
                        clear hHold2
                        try simp only [Act.put, List.getElem_toArray, List.getElem_cons_zero, List.getElem_cons_succ, List.setIfInBounds_toArray, List.set_cons_zero, List.set_cons_succ]
                        refine Held.take (i := 8) (v := ?vq165_) [] rfl (by kernel_rfl) (by kernel_rfl) (by kernel_rfl) (by kernel_rfl) (by kernel_rfl) (by kernel_rfl) (fun _ _ _ h => h) (Or.inl ⟨by kernel_rfl, ?hyq165_⟩) hHold (fun hHold2 => ?restq165_)
                        case hyq165_ => (intro W hSw; refine Or.inl ?_; have hA := hSw.1; have hB := hSw.2; (try (obtain ⟨hS0, hS1, hS2⟩ := hA)); (try (obtain ⟨hT0⟩ := hB)); clear hSw; go_simp; try with_reducible rfl)
                        replace hHold := hHold2
                        clear hHold2
                        try simp only [Act.put, List.getElem_toArray, List.getElem_cons_zero, List.getElem_cons_succ, List.setIfInBounds_toArray, List.set_cons_zero, List.set_cons_succ]
                        refine Held.take (i := 9) (v := ?vq166_) [] rfl (by kernel_rfl) (by kernel_rfl) (by kernel_rfl) (by kernel_rfl) (by kernel_rfl) (by kernel_rfl) (fun _ _ _ h => h) (Or.inl ⟨by kernel_rfl, ?hyq166_⟩) hHold (fun hHold2 => ?restq166_)
                        case hyq166_ => (intro W hSw; refine Or.inl ?_; have hA := hSw.1; have hB := hSw.2; (try (obtain ⟨hS0, hS1, hS2⟩ := hA)); (try (obtain ⟨hT0⟩ := hB)); clear hSw; go_simp; try with_reducible rfl)
                        replace hHold := hHold2
                        clear hHold2
                        try simp only [Act.put, List.getElem_toArray, List.getElem_cons_zero, List.getElem_cons_succ, List.setIfInBounds_toArray, List.set_cons_zero, List.set_cons_succ]
                        refine Held.take (i := 10) (v := ?vq167_) [] rfl (by kernel_rfl) (by kernel_rfl) (by kernel_rfl) (by kernel_rfl) (by kernel_rfl) (by kernel_rfl) (fun _ _ _ h => h) (Or.inl ⟨by kernel_rfl, ?hyq167_⟩) hHold (fun hHold2 => ?restq167_)
                        case hyq167_ => (intro W hSw; refine Or.inl ?_; have hA := hSw.1; have hB := hSw.2; (try (obtain ⟨hS0, hS1, hS2⟩ := hA)); (try (obtain ⟨hT0⟩ := hB)); clear hSw; go_simp; try with_reducible rfl)
                        replace hHold := hHold2
                        clear hHold2
                        try simp only [Act.put, List.getElem_toArray, List.getElem_cons_zero, List.getElem_cons_succ, List.setIfInBounds_toArray, List.set_cons_zero, List.set_cons_succ]
                        refine Held.take (i := 11) (v := ?vq168_) [] rfl (by kernel_rfl) (by kernel_rfl) (by kernel_rfl) (by kernel_rfl) (by kernel_rfl) (by kernel_rfl) (fun _ _ _ h => h) (Or.inl ⟨by kernel_rfl, ?hyq168_⟩) hHold (fun hHold2 => ?restq168_)
                        case hyq168_ => (intro W hSw; refine Or.inl ?_; have hA := hSw.1; have hB := hSw.2; (try (obtain ⟨hS0, hS1, hS2⟩ := hA)); (try (obtain ⟨hT0⟩ := hB)); clear hSw; go_simp; try with_reducible rfl)
                        replace hHold := hHold2
                        clear hHold2
                        try simp only [Act.put, List.getElem_toArray, List.getElem_cons_zero, List.getElem_cons_succ, List.setIfInBounds_toArray, List.set_cons_zero, List.set_cons_succ]
                        refine Held.done (by kernel_rfl) ?_ _
                        clear hHold
                        go_wp2
                        go_roundg (P.length - (j + 1))
                        case measure => have := HKQ6.out; omega
                        case rel => exact ⟨j + 1, ⟨rfl⟩, by omega, by simp, ⟨below_drew1 HB6.out⟩⟩
                      · obtain rfl : j = P.length := by omega
                        have d6 : decide ((P.length : Int) < (P.length : Int)) = false := decide_eq_false (by omega)
                        go_wp2
                        go_roundg (n - (k + 1))
                        case measure => have := HKQ5.out; omega
                        case rel => exact ⟨k + 1, ⟨rfl⟩, by omega, by simp, ⟨HM2.out.below HB6.out⟩, ⟨HT2.out.below HB6.out⟩⟩
                  · obtain rfl : k = n := by omega
                    have d1 : decide ((k : Int) < (k : Int)) = false := decide_eq_false (by omega)
                    go_wp2
                    go_ret
                    exact ⟨rfl, HTR.out.bel⟩
end Go.Proofs.Ytejplbeddcpmeaa.Lane
