/- The reference's lane: Next, where a queue has a number; no condition beyond bounds. -/
import Derived.Test.YtejplbeddcpmeaaLane14
namespace Go.Proofs.Ytejplbeddcpmeaa.Lane
open Go.RowKit Go.Proofs.YtejplbeddcpmeaaW.PrintWords Go.Proofs.Ytejplbeddcpmeaa.Heap Go.Proofs.Ytejplbeddcpmeaa.Mem Go.Proofs.Ytejplbeddcpmeaa.Ring
set_option linter.unusedVariables false
set_option linter.unusedSimpArgs false

section
variable {P : Program} {ops : Array Oper} {o : Oper} {a : Act} {Q : Exit → Act → World → Prop} {K : Act → World → Prop}
/-- append(v, ys...) as one step of a region that draws its order, ys a slice that is read. -/
theorem step_append_row {w0 W : World} (base : Nat) (hw : Region.wanted o (yielded ops a.tmps) = true) (s x : Operand) (t e : TypeId) (k : IntKind) (bytes : Nat)
    (ho : o.op = .call { callee := .builtin .append, args := #[s, x], argTypes := #[t, t] })
    (ht : P.underlying t = some (.slice e)) (hinfo : (P.info? e).map (fun i => (i.zero, i.size, i.bytes)) = some (some (.int k 0), 1, bytes)) (hb0 : 0 < bytes)
    (v : Value) (xs ys : List Int) (A : Option Addr) (m c : Nat) (hs : a.eval s = v) (hx : a.eval x = .slice A m c)
    (HO : W.ownsRow base e 1 v xs.length (nums k xs)) (HR : ReadsInt W k A m ys) (HB : Below base w0 W) (hbase : base ≤ W.heap.size) (hl : (xs.length + m) * bytes ≤ 140737488355328)
    (h : ∀ v1 w1, w1.ownsRow base e 1 v1 (xs ++ ys).length (nums k (xs ++ ys)) → Below base w0 w1 → W.grownBy w1 v.ownBlock → K (a.put o.dst v1) w1) :
    if Region.wanted o (yielded ops a.tmps) = true then Oper.wp P o a W K Q else K (a.put o.dst undef) W := by
  rw [if_pos hw]
  obtain ⟨i0, hi, hzz⟩ := Option.map_eq_some_iff.1 hinfo
  simp only [Prod.mk.injEq] at hzz
  obtain ⟨hz0, hz1, hz2⟩ := hzz
  have hm : ys.length = m := HR.1
  have hlen : xs.length + m ≤ 140737488355328 := Nat.le_trans (Nat.le_mul_of_pos_right _ hb0) hl
  have hrun : ∃ v1 w1, (Builtin.append_ #[t, t] o.type #[v, .slice A m c]).run P W = .ok v1 w1 ∧ w1.ownsRow base e 1 v1 (xs ++ ys).length (nums k (xs ++ ys)) ∧ W.grownBy w1 v.ownBlock := by
    rcases A with _ | ad
    · have h0 : m = 0 := by
        rcases Nat.eq_zero_or_pos m with h0 | h0
        · exact h0
        · obtain ⟨ad, h, _⟩ := HR.2.2 h0
          cases h
      subst h0
      obtain rfl : ys = [] := List.eq_nil_of_length_eq_zero hm
      refine ⟨v, W, ?_, by simpa using HO, World.grownBy.refl W _⟩
      rcases HO.2 with ⟨rfl, hn⟩ | ⟨g, cap, cur, rfl, _, _, hnc, _⟩
      · simp [Builtin.append_, run_underlying ht, sizeOf, typeInfo, hi, Builtin.lenOf, Builtin.firstCells]
      · simp [Builtin.append_, run_underlying ht, sizeOf, typeInfo, hi, Builtin.lenOf, Builtin.firstCells, hnc, storeCells]
    · have hcells : ∀ j u, (nums k ys)[j]? = some u → W.cell? (ad.add j) = some u := by
        intro j u hu
        have hj : j < ys.length := by
          rcases Nat.lt_or_ge j ys.length with h | h
          · exact h
          · simp [nums, List.getElem?_eq_none h] at hu
        obtain ⟨ad', h', hc⟩ := HR.2.2 (by omega)
        injection h' with h'
        subst h'
        have := hc j (by omega)
        simp [nums, List.getElem?_eq_getElem hj] at hu
        subst hu
        rw [this]
        simp [List.getD_eq_getElem?_getD, List.getElem?_eq_getElem hj]
      obtain ⟨v1, w1, hr, h2, h3, _, h5⟩ := run_append_own_at (P := P) W base t o.type e i0 (.int k 0) 1 bytes ht hi hz0 hz1 hz2 rfl (by omega) v xs.length (nums k xs) HO ad m c (nums k ys) (by simp [nums, hm]) hcells
        (by intro u hu; simp only [nums, List.mem_map] at hu; obtain ⟨q, _, rfl⟩ := hu; rfl) (by simp only [maxLen]; omega) hl hbase
      exact ⟨v1, w1, hr, by simpa [nums, hm] using h2, h3⟩
  obtain ⟨v1, w1, hr, hown, hg⟩ := hrun
  unfold Oper.wp execOp
  simp only [ho, resolve, invoke, builtin, Sem.run_bind, Sem.run_pure, Result.andThen_ok, List.map_toArray, List.map_cons, List.map_nil, hs, hx, hr]
  exact h v1 w1 hown (HB.grown hg hbase (own_base HO)) hg
end

def updV (vs : Nat → Value) (i : Nat) (v : Value) : Nat → Value := fun j => if j = i then v else vs j
theorem own_some {w : World} {B g : Nat} {v : Value} {n : Nat} {xs : List Value} (h : w.ownsRow B 29 1 v n xs) (e : v.ownBlock = some g) : g < w.heap.size ∧ ∃ cs, Blk w g cs 29 := by
  obtain ⟨cs, hc⟩ := own_typed h g e
  exact ⟨blk_lt hc, cs.toList, by unfold Blk; simpa using hc⟩
theorem RefAt.zlt {w : World} {B z b n at_ : Nat} {vs : Nat → Value} {Ls : Nat → List Int} (h : RefAt w B z b n at_ vs Ls) : z < w.heap.size := h.top.lt
/-- What the reference's lane is behind a row laid anew, and the cursor. -/
theorem RefAt.laid {w w1 : World} {B z b n at_ k at2 : Nat} {vs : Nat → Value} {Ls : Nat → List Int} (h : RefAt w B z b n at_ vs Ls) (hb : Below w.heap.size w w1) (hk : k < n) {v1 : Value} {L : List Int} (ho : w1.ownsRow w.heap.size 29 1 v1 L.length (nums .u64 L)) (hB : B ≤ w.heap.size) :
    RefAt ((w1.setCell ⟨b, k, none⟩ v1).setCell ⟨z, 1, none⟩ (.int .i64 at2)) B z b n at2 (updV vs k v1) (updL Ls k L) := by
  have h1 := h.below hb
  obtain ⟨cs, hbk, hcs⟩ := h1.out
  have hzb : z ≠ b := h1.top.ne hbk (by decide)
  have hkl : k < cs.length := by
    rcases Nat.lt_or_ge k cs.length with q | q
    · exact q
    · have := hcs k hk; rw [List.getElem?_eq_none q] at this; cases this
  refine ⟨(Blk.set (Blk.far h1.top hzb _) 1 _).eq rfl, ⟨cs.set k v1, Blk.far (Blk.set hbk k _) (Ne.symm hzb) _, fun i hi => ?_⟩, fun i hi => ?_, fun i j hi hj hij e => ?_, h.zb, h.bb⟩
  · unfold updV
    by_cases c : i = k
    · rw [if_pos c, c]; simp [hkl]
    · rw [if_neg c, List.getElem?_set_ne (fun e => c e.symm)]; exact hcs i hi
  · have far : ∀ {v : Value} {n : Nat} {xs : List Value}, w1.ownsRow B 29 1 v n xs → ((w1.setCell ⟨b, k, none⟩ v1).setCell ⟨z, 1, none⟩ (.int .i64 at2)).ownsRow B 29 1 v n xs := fun q => own_fr q (fun g gs hg _ _ => Blk.far (Blk.far hg (hg.ne hbk (by decide)) _) (hg.ne h1.top (by decide)) _)
    unfold updV updL
    by_cases c : i = k
    · rw [if_pos c, if_pos c]; exact far (own_weaken ho hB)
    · rw [if_neg c, if_neg c]; exact far (h1.own i hi)
  · have key : ∀ i, i < n → i ≠ k → (vs i).ownBlock = v1.ownBlock → (vs i).ownBlock = none := by
      intro i hi _ e
      rcases q : (vs i).ownBlock with _ | g
      · rfl
      · have h2 := (own_some (h.own i hi) q).1
        have h3 := own_base ho g (by rw [← e, q])
        omega
    unfold updV at e ⊢
    by_cases c : i = k
    · by_cases d : j = k
      · omega
      · rw [if_pos c] at e ⊢; rw [if_neg d] at e; rw [e]; exact key j hj d e.symm
    · rw [if_neg c] at e ⊢
      by_cases d : j = k
      · rw [if_pos d] at e; exact key i hi c e
      · rw [if_neg d] at e; exact h.ap i j hi hj hij e

set_option maxHeartbeats 8000000 in
set_option maxRecDepth 100000 in
/-- The first that has a number. -/
theorem rnext_one (w : World) (B z b n at_ : Nat) (vs : Nat → Value) (Ls : Nat → List Int) (h : RefAt w B z b n at_ vs Ls) (hB : B ≤ w.heap.size) (hn : 0 < n) (hn2 : n ≤ 1000) (hat : at_ < n) (m : Nat) (hm : m < n) (hE : ∀ j, j < m → Ls ((at_ + j) % n) = []) (r : Nat) (hr : (at_ + m) % n = r) (y : Int) (L : List Int) (hL : Ls r = y :: L) (hl : L.length ≤ 1000) :
    Calls Try.prog 52 #[pt z] w fun e w' => e = .returned (.tuple #[.int .u64 y, .int .i64 (r : Int)]) ∧ ∃ w1 v1, Below w.heap.size w w1 ∧ w1.ownsRow w.heap.size 29 1 v1 L.length (nums .u64 L) ∧ w' = (w1.setCell ⟨b, r, none⟩ v1).setCell ⟨z, 1, none⟩ (.int .i64 (((r + 1) % n : Nat) : Int)) := by
  have HR := Aside0.mk h
  have HE := Aside0.mk hE
  have HLE := Aside0.mk hL
  have HRE := Aside0.mk hr
  clear h hE hL hr
  have e3 : ((n : Int) == 0) = false := beq_eq_false_iff_ne.mpr (by omega)
  have e4 : ¬ n = 0 := by omega
  have e5 : ¬ (n : Int) = 0 := by omega
  have hrn : r < n := by rw [← HRE.out]; exact Nat.mod_lt _ hn
  go_enter Try.func52, Try.ntmps52
  go_wp2
  go_loopg [4] n (fun kq v4 wr => ∃ i : Nat, Aside0 (kq = n - i) ∧ i ≤ m ∧ v4 = .int .i64 (i : Int) ∧ Aside0 (Below w.heap.size w wr))
  case atStart => exact ⟨0, ⟨by omega⟩, by omega, rfl, ⟨Below.refl _ _⟩⟩
  case round =>
    obtain ⟨i, HKQ, hi, rfl, HB⟩ := hrel
    have HRr := Aside0.mk (HR.out.below HB.out)
    have z0 : wr.cell? ⟨z, 0, none⟩ = some (.slice (some ⟨b, 0, none⟩) n n) := (Blk.cell HRr.out.top 0).trans rfl
    have z1 : wr.cell? ⟨z, 1, none⟩ = some (.int .i64 at_) := (Blk.cell HRr.out.top 1).trans rfl
    have d1 : decide ((i : Int) < (n : Int)) = true := decide_eq_true (by omega)
    have e1 : IntKind.i64.wrap ((at_ : Int) + (i : Int)) = ((at_ : Int) + (i : Int)) := i64_id (by omega)
    obtain ⟨k, hk⟩ : ∃ k, (at_ + i) % n = k := ⟨_, rfl⟩
    have hkn : k < n := by rw [← hk]; exact Nat.mod_lt _ hn
    have e2 : ((at_ : Int) + (i : Int)).tmod (n : Int) = (k : Int) := by rw [Int.tmod_eq_emod_of_nonneg (by omega), ← hk]; norm_cast
    have e2b : ((at_ : Int) + (i : Int)) % (n : Int) = (k : Int) := by rw [← hk]; norm_cast
    have e2c : (at_ + i) % n = k := hk
    by_cases hlt : i < m
    · have hL : Ls k = [] := by rw [← hk]; exact HE.out i hlt
      obtain ⟨A, c, hv, hrd⟩ := HRr.out.at_ hkn
      rw [hL] at hv
      have bk : wr.cell? ⟨b, k, none⟩ = some (.slice A 0 c) := by
        obtain ⟨cs, hb, hc⟩ := HRr.out.out
        rw [Blk.cell hb k, hc k hkn, hv]; rfl
      clear hrd hv hL
      go_upto_region 4 with fail
      go_region_held3 (fun w' => w'.cell? ⟨z, 0, none⟩ = some (.slice (some ⟨b, 0, none⟩) n n) ∧ w'.cell? ⟨z, 1, none⟩ = some (.int .i64 at_)) (go_keep) (fail)
      go_wp2
      go_roundg (n - (i + 1))
      case measure => have := HKQ.out; omega
      case rel => exact ⟨i + 1, ⟨rfl⟩, by omega, by simp, ⟨below_drew1 HB.out⟩⟩
    · obtain rfl : i = m := by omega
      obtain rfl : k = r := by rw [← hk]; exact HRE.out
      have ho := HRr.out.own k hkn
      rw [HLE.out] at ho
      obtain ⟨A, c, hv⟩ := own_slice ho
      rw [hv] at ho
      have hcap := own_cap ho
      have hrd := own_reads' ho
      obtain ⟨i0, hi0, _, hsz, _⟩ := info_parts info_u64
      obtain ⟨A2, hcut, hA2⟩ := print_cut (P := Try.prog) 44 29 .i64 Try.underlying44 hi0 hsz A (y :: L).length c 1 (by simp)
      have hr2 := hA2 wr .u64 (y :: L) hcap hrd
      obtain ⟨ad, hA, hx⟩ := hrd.at_ 0 (Int.le_refl _) (by simp)
      subst hA
      have hx2 : wr.cell? ad = some (.int .u64 y) := by simpa [rd, Addr.add] using hx
      have e1' : (y :: L).length = L.length + 1 := rfl
      rw [e1'] at hcut hr2 hcap hv
      have e2' : L.length + 1 - 1 = L.length := by omega
      rw [e2'] at hcut hr2
      have bk : wr.cell? ⟨b, k, none⟩ = some (.slice (some ad) (L.length + 1) c) := by
        obtain ⟨cs, hb, hc⟩ := HRr.out.out
        rw [Blk.cell hb k, hc k hkn, hv]
      have HR2 := Aside0.mk (show ReadsInt wr .u64 A2 L.length L from hr2)
      have hcut1 : ∀ W : World, (Instr.slice 44 (.slice (some ad) (L.length + 1) c) (some (.int .i64 1)) none none).run Try.prog W = .ok (.slice A2 L.length (c - 1)) W := fun W => hcut W
      have e6 : IntKind.i64.wrap ((k : Int) + 1) = ((k : Int) + 1) := i64_id (by omega)
      obtain ⟨q, hq⟩ : ∃ q, (k + 1) % n = q := ⟨_, rfl⟩
      have e7 : ((k : Int) + 1).tmod (n : Int) = (q : Int) := by rw [Int.tmod_eq_emod_of_nonneg (by omega), ← hq]; norm_cast
      have e7b : ((k : Int) + 1) % (n : Int) = (q : Int) := by rw [← hq]; norm_cast
      have HQE := Aside0.mk hq
      have d2 : decide (((L.length : Int) + 1) > 0) = true := decide_eq_true (by omega)
      have d3 : decide (0 < ((L.length : Int) + 1)) = true := decide_eq_true (by omega)
      have HV := Aside0.mk hv
      clear ho hrd hA2 hr2 hx hi0 hsz hcut e1' e2' hv hcap
      go_upto_region 4 with fail
      go_region_held3 (fun w' => w'.cell? ⟨z, 0, none⟩ = some (.slice (some ⟨b, 0, none⟩) n n) ∧ w'.cell? ⟨z, 1, none⟩ = some (.int .i64 at_)) (go_keep) (fail)
      go_upto_region 7 with fail
      have Z0 := Aside0.mk (show ∀ w1, Below w.heap.size w w1 → w1.cell? ⟨z, 0, none⟩ = some (.slice (some ⟨b, 0, none⟩) n n) ∧ w1.frozen? ⟨b, k, none⟩ = false ∧ w1.cell? ⟨b, k, none⟩ = some (.slice (some ad) (L.length + 1) c) ∧ w1.frozen? ⟨z, 1, none⟩ = false from fun w1 hb => by
        have q := HR.out.below hb
        obtain ⟨cs, hb, hc⟩ := q.out
        refine ⟨(Blk.cell q.top 0).trans rfl, Blk.frozen hb k, ?_, Blk.frozen q.top 1⟩
        rw [Blk.cell hb k, hc k hkn, HV.out])
      have HZB := Aside0.mk (show b ≠ z from by
        obtain ⟨cs, hb, _⟩ := HR.out.out
        exact hb.ne HR.out.top (by decide))
      have HTOP := Aside0.mk (show ∀ w1, Below w.heap.size w w1 → Blk w1 z [.slice (some ⟨b, 0, none⟩) n n, .int .i64 at_] 80 from fun w1 h => (HR.out.below h).top)
      have hsz := HRr.out.top.lt
      have hB2 := below_size HB.out
      refine wp_region_held_drew (S := fun W => W.cell? ⟨z, 0, none⟩ = some (.slice (some ⟨b, 0, none⟩) n n)) (by kernel_rfl) ?_ (fun hHeld => ?_)
      · exact z0
      have HBn := Aside0.mk (below_drew1 (below_drew1 HB.out))
      have HR3 := Aside0.mk (show ReadsInt wr.drew.drew .u64 A2 L.length L from HR2.out.drewN 2)
      clear HB z0 z1 bk HR2 HRr hB2 hsz
      generalize wr.drew.drew = wq at *
      have HB := HBn
      clear HBn
      have hB2 := below_size HB.out
      obtain ⟨z0, f1, bk, f2⟩ := Z0.out wq HB.out
      refine wpAnyH_take (i := 0) (v := ?v1) rfl (by kernel_rfl) (by kernel_rfl) (by kernel_rfl) (fun _ _ _ h => h) (Or.inl ⟨by kernel_rfl, ?hy1⟩) (by assumption) ?rest1
      case hy1 => (intro w hS0; (try dsimp only at hS0); go_simp; try with_reducible rfl)
      try simp only [Act.put, List.getElem_toArray, List.getElem_cons_zero, List.getElem_cons_succ, List.setIfInBounds_toArray, List.set_cons_zero, List.set_cons_succ]
      refine wpAnyH_take (i := 1) (v := ?v2) rfl (by kernel_rfl) (by kernel_rfl) (by kernel_rfl) (fun _ _ _ h => h) (Or.inl ⟨by kernel_rfl, ?hy2⟩) (by assumption) ?rest2
      case hy2 => (intro w hS0; (try dsimp only at hS0); go_simp; try with_reducible rfl)
      try simp only [Act.put, List.getElem_toArray, List.getElem_cons_zero, List.getElem_cons_succ, List.setIfInBounds_toArray, List.set_cons_zero, List.set_cons_succ]
      refine wpAnyH_take (i := 2) (v := ?v3) rfl (by kernel_rfl) (by kernel_rfl) (by kernel_rfl) (fun _ _ _ h => h) (Or.inl ⟨by kernel_rfl, ?hy3⟩) (by assumption) ?rest3
      case hy3 => (intro w hS0; (try dsimp only at hS0); go_simp; try with_reducible rfl)
      try simp only [Act.put, List.getElem_toArray, List.getElem_cons_zero, List.getElem_cons_succ, List.setIfInBounds_toArray, List.set_cons_zero, List.set_cons_succ]
      refine wpAnyH_take (i := 3) (v := ?v4) rfl (by kernel_rfl) (by kernel_rfl) (by kernel_rfl) (fun _ _ _ h => h) (Or.inl ⟨by kernel_rfl, ?hy4⟩) (by assumption) ?rest4
      case hy4 => (intro w hS0; (try dsimp only at hS0); go_simp; try with_reducible rfl)
      try simp only [Act.put, List.getElem_toArray, List.getElem_cons_zero, List.getElem_cons_succ, List.setIfInBounds_toArray, List.set_cons_zero, List.set_cons_succ]
      refine wpAnyH_take (i := 4) (v := ?v5) rfl (by kernel_rfl) (by kernel_rfl) (by kernel_rfl) (fun _ _ _ h => h) (Or.inl ⟨by kernel_rfl, ?hy5⟩) (by assumption) ?rest5
      case hy5 => (intro w hS0; (try dsimp only at hS0); go_simp; try with_reducible rfl)
      try simp only [Act.put, List.getElem_toArray, List.getElem_cons_zero, List.getElem_cons_succ, List.setIfInBounds_toArray, List.set_cons_zero, List.set_cons_succ]
      refine wpAnyH_take (i := 6) (v := ?v6) rfl (by kernel_rfl) (by kernel_rfl) (by kernel_rfl) (fun _ _ _ h => h) (Or.inl ⟨by kernel_rfl, ?hy6⟩) (by assumption) ?rest6
      case hy6 => (intro w hS0; (try dsimp only at hS0); go_simp; try with_reducible rfl)
      try simp only [Act.put, List.getElem_toArray, List.getElem_cons_zero, List.getElem_cons_succ, List.setIfInBounds_toArray, List.set_cons_zero, List.set_cons_succ]
      refine wpAnyH_take (i := 7) (v := ?v7) rfl (by kernel_rfl) (by kernel_rfl) (by kernel_rfl) (fun _ _ _ h => h) (Or.inl ⟨by kernel_rfl, ?hy7⟩) (by assumption) ?rest7
      case hy7 => (intro w hS0; (try dsimp only at hS0); go_simp; try with_reducible rfl)
      try simp only [Act.put, List.getElem_toArray, List.getElem_cons_zero, List.getElem_cons_succ, List.setIfInBounds_toArray, List.set_cons_zero, List.set_cons_succ]
      refine wpAnyH_take (i := 8) (v := ?v8) rfl (by kernel_rfl) (by kernel_rfl) (by kernel_rfl) (fun _ _ _ h => h) (Or.inl ⟨by kernel_rfl, ?hy8⟩) (by assumption) ?rest8
      case hy8 => (intro w hS0; (try dsimp only at hS0); go_simp; try with_reducible rfl)
      try simp only [Act.put, List.getElem_toArray, List.getElem_cons_zero, List.getElem_cons_succ, List.setIfInBounds_toArray, List.set_cons_zero, List.set_cons_succ]
      refine wpAnyH_take (i := 9) (v := ?v9) rfl (by kernel_rfl) (by kernel_rfl) (by kernel_rfl) (fun _ _ _ h => h) (Or.inl ⟨by kernel_rfl, ?hy9⟩) (by assumption) ?rest9
      case hy9 => (intro w hS0; (try dsimp only at hS0); go_simp; try with_reducible rfl)
      try simp only [Act.put, List.getElem_toArray, List.getElem_cons_zero, List.getElem_cons_succ, List.setIfInBounds_toArray, List.set_cons_zero, List.set_cons_succ]
      refine wpAnyH_take (i := 10) (v := ?v10) rfl (by kernel_rfl) (by kernel_rfl) (by kernel_rfl) (fun _ _ _ h => h) (Or.inl ⟨by kernel_rfl, ?hy10⟩) (by assumption) ?rest10
      case hy10 => (intro w hS0; (try dsimp only at hS0); go_simp; try with_reducible rfl)
      try simp only [Act.put, List.getElem_toArray, List.getElem_cons_zero, List.getElem_cons_succ, List.setIfInBounds_toArray, List.set_cons_zero, List.set_cons_succ]
      refine wpAnyH_take (i := 11) (v := ?v11) rfl (by kernel_rfl) (by kernel_rfl) (by kernel_rfl) (fun _ _ _ h => h) (Or.inl ⟨by kernel_rfl, ?hy11⟩) (by assumption) ?rest11
      case hy11 => (intro w hS0; (try dsimp only at hS0); go_simp; try with_reducible rfl)
      try simp only [Act.put, List.getElem_toArray, List.getElem_cons_zero, List.getElem_cons_succ, List.setIfInBounds_toArray, List.set_cons_zero, List.set_cons_succ]
      refine wpAnyH_ready (rs := [5, 12]) (by kernel_rfl) (by simp) ?_
      refine AllReadyH.cons rfl (fun K hK => ?_) (AllReadyH.cons rfl (fun K hK => ?_) AllReadyH.nil)
      · skip
        go_simp
        refine hK.out _ _ ?_ (fun hHeld => ?_)
        · exact (World.cell?_alloc_lt _ _ _ (World.block_lt_of_cell? wq _ z0)).trans z0
        clear hK K
        try simp only [Act.put, List.getElem_toArray, List.getElem_cons_zero, List.getElem_cons_succ, List.setIfInBounds_toArray, List.set_cons_zero, List.set_cons_succ]
        have HBn := Aside0.mk (HB.out.alloc hB2 (.cells #[] 29))
        obtain ⟨z0a, f1a, bka, f2a⟩ := Z0.out _ HBn.out
        refine wpAnyH_ready (rs := [12]) (by kernel_rfl) (by simp) ?_
        refine AllReadyH.cons rfl (fun K hK => ?_) AllReadyH.nil
        go_simp
        refine hK.out _ _ ?_ (fun hHeld => ?_)
        · exact z0a
        clear hK K
        try simp only [Act.put, List.getElem_toArray, List.getElem_cons_zero, List.getElem_cons_succ, List.setIfInBounds_toArray, List.set_cons_zero, List.set_cons_succ]
        refine wpAnyH_take (i := 13) (v := ?v12) rfl (by kernel_rfl) (by kernel_rfl) (by kernel_rfl) (fun _ _ _ h => h) (Or.inl ⟨by kernel_rfl, ?hy12⟩) (by assumption) ?rest12
        case hy12 => (intro w hS0; (try dsimp only at hS0); go_simp; try with_reducible rfl)
        try simp only [Act.put, List.getElem_toArray, List.getElem_cons_zero, List.getElem_cons_succ, List.setIfInBounds_toArray, List.set_cons_zero, List.set_cons_succ]
        refine wpAnyH_ready (rs := [14]) (by kernel_rfl) (by simp) ?_
        refine AllReadyH.cons (o := { dst := some 60, op := Op.call { callee := Callee.builtin Builtin.append, args := #[Operand.tmp 51, Operand.tmp 59], argTypes := #[44, 44] }, type := 44, pos := "ref.go:16", after := #[{ on := 5, ground := Ground.data }, { on := 13, ground := Ground.data }], guard := none }) rfl (fun K hK => ?_) AllReadyH.nil
        refine step_append_row (w0 := w) (W := wq.alloc (.cells #[] 29)) w.heap.size rfl (.tmp 51) (.tmp 59) 44 29 .u64 8 rfl Try.underlying44 info_u64 (by decide) (.slice (some ⟨wq.heap.size, 0, none⟩) 0 0) [] L A2 L.length (c - 1) rfl rfl (own_lit wq w.heap.size 29 .u64 [] hB2 (by simp)) (HR3.out.allocS _) HBn.out (Nat.le_trans hB2 (by simp)) (by simp; omega) ?_
        intro v1 w1 hown hBe hgr
        obtain ⟨A1, c1, e1⟩ := own_slice hown
        subst e1
        rw [show (([] : List Int) ++ L).length = L.length from by simp, List.nil_append] at hown
        have HO1 := Aside0.mk hown
        have HB1 := Aside0.mk hBe
        clear z0 f1 bk f2 z0a f1a bka f2a
        obtain ⟨z0, f1, bk, f2⟩ := Z0.out w1 hBe
        have hlt1 := own_one HO1.out
        have hzb := HZB.out
        clear hown hBe hgr
        refine hK.out _ _ ?_ (fun hHeld => ?_)
        · exact z0
        clear hK K
        try simp only [Act.put, List.getElem_toArray, List.getElem_cons_zero, List.getElem_cons_succ, List.setIfInBounds_toArray, List.set_cons_zero, List.set_cons_succ]
        refine wpAnyH_take (i := 15) (v := ?v13) rfl (by kernel_rfl) (by kernel_rfl) (by kernel_rfl) (fun _ _ _ h => h) (Or.inl ⟨by kernel_rfl, ?hy13⟩) (by assumption) ?rest13
        case hy13 => (intro w hS0; (try dsimp only at hS0); go_simp; try with_reducible rfl)
        try simp only [Act.put, List.getElem_toArray, List.getElem_cons_zero, List.getElem_cons_succ, List.setIfInBounds_toArray, List.set_cons_zero, List.set_cons_succ]
        refine wpAnyH_ready (rs := [16]) (by kernel_rfl) (by simp) ?_
        refine AllReadyH.cons rfl (fun K hK => ?_) AllReadyH.nil
        go_simp
        refine hK.out _ _ ?_ (fun hHeld => ?_)
        · exact (World.cell?_setCell_far _ _ _ _ hzb).trans z0
        clear hK K
        try simp only [Act.put, List.getElem_toArray, List.getElem_cons_zero, List.getElem_cons_succ, List.setIfInBounds_toArray, List.set_cons_zero, List.set_cons_succ]
        refine wpAnyH_done (by kernel_rfl) ?_ _
        have z0b := (World.cell?_setCell_far w1 ⟨b, k, none⟩ ⟨z, 0, none⟩ (.slice A1 L.length c1) hzb).trans z0
        have f2b : (w1.setCell ⟨b, k, none⟩ (.slice A1 L.length c1)).frozen? ⟨z, 1, none⟩ = false := Blk.frozen (Blk.far (HTOP.out w1 HB1.out) (Ne.symm hzb) _) 1
        have z1b : (w1.setCell ⟨b, k, none⟩ (.slice A1 L.length c1)).cell? ⟨z, 1, none⟩ = some (.int .i64 at_) := (Blk.cell (Blk.far (HTOP.out w1 HB1.out) (Ne.symm hzb) _) 1).trans rfl
        clear z0 f1 bk f2
        generalize hw1 : w1.setCell ⟨b, k, none⟩ (.slice A1 L.length c1) = w2 at *
        have HW2 := Aside0.mk hw1
        clear hw1
        go_wp2
        go_ret2
        exact ⟨rfl, w1, _, HB1.out, HO1.out, by rw [HW2.out, HQE.out]⟩
      · skip
        go_simp
        refine hK.out _ _ ?_ (fun hHeld => ?_)
        · exact z0
        clear hK K
        try simp only [Act.put, List.getElem_toArray, List.getElem_cons_zero, List.getElem_cons_succ, List.setIfInBounds_toArray, List.set_cons_zero, List.set_cons_succ]
        refine wpAnyH_take (i := 13) (v := ?v14) rfl (by kernel_rfl) (by kernel_rfl) (by kernel_rfl) (fun _ _ _ h => h) (Or.inl ⟨by kernel_rfl, ?hy14⟩) (by assumption) ?rest14
        case hy14 => (intro w hS0; (try dsimp only at hS0); go_simp; try with_reducible rfl)
        try simp only [Act.put, List.getElem_toArray, List.getElem_cons_zero, List.getElem_cons_succ, List.setIfInBounds_toArray, List.set_cons_zero, List.set_cons_succ]
        refine wpAnyH_ready (rs := [5]) (by kernel_rfl) (by simp) ?_
        refine AllReadyH.cons rfl (fun K hK => ?_) AllReadyH.nil
        go_simp
        refine hK.out _ _ ?_ (fun hHeld => ?_)
        · exact (World.cell?_alloc_lt _ _ _ (World.block_lt_of_cell? wq _ z0)).trans z0
        clear hK K
        try simp only [Act.put, List.getElem_toArray, List.getElem_cons_zero, List.getElem_cons_succ, List.setIfInBounds_toArray, List.set_cons_zero, List.set_cons_succ]
        have HBn := Aside0.mk (HB.out.alloc hB2 (.cells #[] 29))
        obtain ⟨z0a, f1a, bka, f2a⟩ := Z0.out _ HBn.out
        refine wpAnyH_ready (rs := [14]) (by kernel_rfl) (by simp) ?_
        refine AllReadyH.cons (o := { dst := some 60, op := Op.call { callee := Callee.builtin Builtin.append, args := #[Operand.tmp 51, Operand.tmp 59], argTypes := #[44, 44] }, type := 44, pos := "ref.go:16", after := #[{ on := 5, ground := Ground.data }, { on := 13, ground := Ground.data }], guard := none }) rfl (fun K hK => ?_) AllReadyH.nil
        refine step_append_row (w0 := w) (W := wq.alloc (.cells #[] 29)) w.heap.size rfl (.tmp 51) (.tmp 59) 44 29 .u64 8 rfl Try.underlying44 info_u64 (by decide) (.slice (some ⟨wq.heap.size, 0, none⟩) 0 0) [] L A2 L.length (c - 1) rfl rfl (own_lit wq w.heap.size 29 .u64 [] hB2 (by simp)) (HR3.out.allocS _) HBn.out (Nat.le_trans hB2 (by simp)) (by simp; omega) ?_
        intro v1 w1 hown hBe hgr
        obtain ⟨A1, c1, e1⟩ := own_slice hown
        subst e1
        rw [show (([] : List Int) ++ L).length = L.length from by simp, List.nil_append] at hown
        have HO1 := Aside0.mk hown
        have HB1 := Aside0.mk hBe
        clear z0 f1 bk f2 z0a f1a bka f2a
        obtain ⟨z0, f1, bk, f2⟩ := Z0.out w1 hBe
        have hlt1 := own_one HO1.out
        have hzb := HZB.out
        clear hown hBe hgr
        refine hK.out _ _ ?_ (fun hHeld => ?_)
        · exact z0
        clear hK K
        try simp only [Act.put, List.getElem_toArray, List.getElem_cons_zero, List.getElem_cons_succ, List.setIfInBounds_toArray, List.set_cons_zero, List.set_cons_succ]
        refine wpAnyH_take (i := 15) (v := ?v15) rfl (by kernel_rfl) (by kernel_rfl) (by kernel_rfl) (fun _ _ _ h => h) (Or.inl ⟨by kernel_rfl, ?hy15⟩) (by assumption) ?rest15
        case hy15 => (intro w hS0; (try dsimp only at hS0); go_simp; try with_reducible rfl)
        try simp only [Act.put, List.getElem_toArray, List.getElem_cons_zero, List.getElem_cons_succ, List.setIfInBounds_toArray, List.set_cons_zero, List.set_cons_succ]
        refine wpAnyH_ready (rs := [16]) (by kernel_rfl) (by simp) ?_
        refine AllReadyH.cons rfl (fun K hK => ?_) AllReadyH.nil
        go_simp
        refine hK.out _ _ ?_ (fun hHeld => ?_)
        · exact (World.cell?_setCell_far _ _ _ _ hzb).trans z0
        clear hK K
        try simp only [Act.put, List.getElem_toArray, List.getElem_cons_zero, List.getElem_cons_succ, List.setIfInBounds_toArray, List.set_cons_zero, List.set_cons_succ]
        refine wpAnyH_done (by kernel_rfl) ?_ _
        have z0b := (World.cell?_setCell_far w1 ⟨b, k, none⟩ ⟨z, 0, none⟩ (.slice A1 L.length c1) hzb).trans z0
        have f2b : (w1.setCell ⟨b, k, none⟩ (.slice A1 L.length c1)).frozen? ⟨z, 1, none⟩ = false := Blk.frozen (Blk.far (HTOP.out w1 HB1.out) (Ne.symm hzb) _) 1
        have z1b : (w1.setCell ⟨b, k, none⟩ (.slice A1 L.length c1)).cell? ⟨z, 1, none⟩ = some (.int .i64 at_) := (Blk.cell (Blk.far (HTOP.out w1 HB1.out) (Ne.symm hzb) _) 1).trans rfl
        clear z0 f1 bk f2
        generalize hw1 : w1.setCell ⟨b, k, none⟩ (.slice A1 L.length c1) = w2 at *
        have HW2 := Aside0.mk hw1
        clear hw1
        go_wp2
        go_ret2
        exact ⟨rfl, w1, _, HB1.out, HO1.out, by rw [HW2.out, HQE.out]⟩
end Go.Proofs.Ytejplbeddcpmeaa.Lane
