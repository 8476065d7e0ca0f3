/- LaneAlone. -/
import Derived.Test.YtejplbeddcpmeaaLane17
import Derived.Test.YtejplbeddcpmeaaOpen
namespace Go.Proofs.Ytejplbeddcpmeaa.Lane
open Go.RowKit Go.Proofs.YtejplbeddcpmeaaW.PrintWords Go.Proofs.Ytejplbeddcpmeaa.Heap Go.Proofs.Ytejplbeddcpmeaa.Mem Go.Proofs.Ytejplbeddcpmeaa.Ring
set_option linter.unusedVariables false
set_option linter.unusedSimpArgs false

theorem bkcell {w : World} {B z b n at_ j : Nat} {vs : Nat → Value} {Ls : Nat → List Int} (h : RefAt w B z b n at_ vs Ls) (hj : j < n) {v : Value} (hv : vs j = v) : w.cell? ⟨b, j, none⟩ = some v ∧ w.frozen? ⟨b, j, none⟩ = false := by
  obtain ⟨cs, hb, hc⟩ := h.out
  exact ⟨by rw [Blk.cell hb j, hc j hj, hv], Blk.frozen hb j⟩
theorem info_sl : (Try.prog.info? 44).map (fun i => (i.zero, i.size, i.bytes)) = some (some (.slice none 0 0), 1, 24) := by kernel_rfl
theorem sum_nil : ∀ n, sumLs (fun _ => []) n = 0
  | 0 => rfl
  | n + 1 => by simp only [sumLs]; rw [sum_nil n]; simp
theorem LC.time {w0 w : World} {u n k T T' at_ rat B z b : Nat} {Ls Rs : Nat → List Int} (h : LC w0 w u n k T at_ Ls rat Rs B z b) (ht : T ≤ T') : LC w0 w u n k T' at_ Ls rat Rs B z b := by
  obtain ⟨p, b2, c2, x, gs, s, ⟨ss, M, h1, h2, h3⟩, hr⟩ := h.ex
  exact ⟨⟨p, b2, c2, x, gs, s, ⟨ss, M, h1, h2, by omega⟩, hr⟩, h.rf, h.below, h.lo, h.hi⟩
set_option maxHeartbeats 16000000 in
set_option maxRecDepth 100000 in
theorem LaneAlone_calls (a0 a1 : Int) (A0 : Option Addr) (c0 : Nat) (l : List JobT) (w : World) (h : Opens.RowC (Opens.flatK jobEnc) 3 w A0 l.length l) (g0 : l.length ≤ 9223372036854775807) (hq : ∀ x ∈ l, jobQ x) :
    Calls Try.prog 11 #[.int .i64 a0, .int .i64 a1, .slice A0 l.length c0] w fun e w' => e = .returned (.bool true) ∧ Below w.heap.size w w' := by
  obtain ⟨m8, hm8, hm8l⟩ := u64_mod a0 8 (by decide)
  have hm8' : (IntKind.u64.wrap a0).tmod 8 = (m8 : Int) := hm8
  obtain ⟨n, hn⟩ : ∃ n, m8 + 1 = n := ⟨_, rfl⟩
  have ew0 : IntKind.i64.wrap (m8 : Int) = (m8 : Int) := i64_id (by omega)
  have ew1 : IntKind.i64.wrap (1 + (m8 : Int)) = (n : Int) := by rw [i64_id (by omega)]; omega
  obtain ⟨k8, hk8, hk8l⟩ := u64_mod a1 8 (by decide)
  have hk8' : (IntKind.u64.wrap a1).tmod 8 = (k8 : Int) := hk8
  obtain ⟨k, hk⟩ : ∃ k, k8 + 1 = k := ⟨_, rfl⟩
  have ek0 : IntKind.i64.wrap (k8 : Int) = (k8 : Int) := i64_id (by omega)
  have ek1 : IntKind.i64.wrap (1 + (k8 : Int)) = (k : Int) := by rw [i64_id (by omega)]; omega
  have hn1 : 1 ≤ n := by omega
  have hn8 : n ≤ 8 := by omega
  have hkk : k ≤ 8 := by omega
  have ewn : IntKind.u64.wrap (n : Int) = (n : Int) := u64_id (by omega)
  have ez0 : ((n : Int) == 0) = false := beq_eq_false_iff_ne.mpr (by omega)
  have ez1 : ¬ (n : Int) = 0 := by omega
  have ez2 : ¬ n = 0 := by omega
  have HX := Aside0.mk h
  have HQ := Aside0.mk hq
  have HBG := Aside0.mk (show Calls Try.prog 49 #[.int .i64 (n : Int), .int .i64 (k : Int)] w fun e w' => ∃ u, e = .returned (pt u) ∧ LB w w' u n k 1000 0 (fun _ => []) from LB.begin_ w n k hn1 (by omega) (by omega) (by omega))
  have hmk : ∀ W : World, (Instr.makeSlice 78 (.int .i64 (n : Int)) (.int .i64 (n : Int))).run Try.prog W = .ok (.slice (some ⟨W.heap.size, 0, none⟩) n n) (W.alloc (.cells (madeCells #[.slice none 0 0] n) 44)) := print_make_of 78 44 (.slice none 0 0) 24 Try.underlying78 info_sl rfl (by decide) n (by omega)
  clear h hq hm8 hk8 hn hk
  go_enter Try.func11, Try.ntmps11
  go_wp2_with (first | (go_at_call 49; (with_reducible refine HBG.out.mono ?_); rintro e w' ⟨u, rfl, hl⟩; have HL := Aside0.mk hl; clear hl) | (go_at_call 50; (with_reducible refine (told_ _).mono ?_); rintro e w2 ⟨rfl, hb⟩; have HLn := Aside0.mk (HL.out.more hb); clear HL hb; have HL := HLn; clear HLn) | ((with_reducible refine gate_dst (N := 40) rfl ?_); go_loud (refine box_event ?hg (N := 40) ?hd (cs := #[.slice (some ⟨w2.heap.size, 0, none⟩) n n, .int .i64 0]) (t := 80) ?hr ?_; (case hd => rfl); (case hg => rfl); (case hr => first | (go_simp; done) | (go_simp; rfl)); intro z hz wb hbb hb; have HZ := Aside0.mk hbb; have HLC := Aside0.mk (LC.make HL.out (below_step ((Below.refl _ _).alloc (Nat.le_refl _) _) hb) ⟨_, refNew w2 wb n z hb hz hbb⟩); clear hbb hb hz HL)))
  obtain ⟨B, hB⟩ : ∃ B, w2.heap.size = B := ⟨_, rfl⟩
  have HLC2 := Aside0.mk (show LC w wb u n k 1000 0 (fun _ => []) 0 (fun _ => []) B z B from by rw [← hB]; exact HLC.out)
  clear HLC HZ hmk
  simp only [hB] at *
  go_loopg [11, 12] l.length (fun kq v11 v12 wr => ∃ (i at_ : Nat) (Ls : Nat → List Int), Aside0 (kq = l.length - i) ∧ i ≤ l.length ∧ i ≤ 200 ∧ v12 = .int .i64 (i : Int) ∧ v11 = .int .i64 (sumLs Ls n) ∧ Aside0 (LC w wr u n k (1000 + 1008 * i) at_ Ls at_ Ls B z B) ∧ Aside0 (sumLs Ls n ≤ i))
  case atStart => exact ⟨0, 0, fun _ => [], ⟨by omega⟩, by omega, by omega, rfl, by rw [sum_nil], HLC2, ⟨by rw [sum_nil]; omega⟩⟩
  case round =>
    clear HLC2
    obtain ⟨i, at_, Ls, HKQ, hi, hi4, rfl, rfl, HL, HSM⟩ := hrel
    by_cases hlt : i < l.length ∧ i < 200
    · obtain ⟨hl0, hl4⟩ := hlt
      obtain ⟨ad, e0, x0, x1⟩ := HX.out.field i hl0
      cases e0
      have q := HQ.out _ (List.getElem_mem hl0)
      generalize l[i] = op at *
      obtain ⟨o0, o1, o2⟩ := op
      have X0 := Aside0.mk (And.intro (x0 _ rfl) (And.intro (x1 1 _ (by decide) rfl) (x1 2 _ (by decide) rfl)))
      clear x0 x1
      have HV := Aside0.mk (bounds_u64 q.2)
      clear q
      obtain ⟨j, hj, hjn⟩ := u64_mod o1 n hn1
      have ewj : IntKind.i64.wrap (j : Int) = (j : Int) := i64_id (by omega)
      have hat := HL.out.at_lt
      have y0 := (HL.out.below.cell (World.block_lt_of_cell? w _ X0.out.1)).trans X0.out.1
      have y1 := (HL.out.below.cell (World.block_lt_of_cell? w _ X0.out.2.1)).trans X0.out.2.1
      have y2 := (HL.out.below.cell (World.block_lt_of_cell? w _ X0.out.2.2)).trans X0.out.2.2
      have d1 : decide ((i : Int) < (l.length : Int)) = true := decide_eq_true (by omega)
      have d2 : decide ((i : Int) < 200) = true := decide_eq_true (by omega)
      obtain ⟨sm, hsm⟩ : ∃ sm, sumLs Ls n = sm := ⟨_, rfl⟩
      have hs0 : 0 ≤ sm := by rw [← hsm]; exact sum_nn Ls n
      have hs1 : sm ≤ i := by rw [← hsm]; exact HSM.out
      rw [hsm]
      have HSE := Aside0.mk hsm
      have HLL := Aside0.mk (HL.out.len_le j hjn)
      have hw1 : IntKind.i64.wrap (sm - 1) = sm - 1 := i64_id (by omega)
      have hw2 : IntKind.i64.wrap (sm + 1) = sm + 1 := i64_id (by omega)
      clear hsm HSM
      cases o0 with
      | true =>
        rcases hx : nx Ls n at_ n 0 with _ | r
        · have HNX := Aside0.mk hx
          clear hx
          go_wp2_with (first | (go_at_call 51; (with_reducible refine (LC.take0 HL.out (by omega) HNX.out).mono ?_); rintro e w3 ⟨y, rfl, hl, ha⟩; have HL3 := Aside0.mk hl; have HA := Aside0.mk ha; clear y0 y1 y2 hl ha) | (go_at_call 52; (with_reducible refine (LC.next0 HL3.out hat (by omega) HNX.out).mono ?_); rintro e w4 ⟨rfl, hl, hc⟩; have HL4 := Aside0.mk hl; have HA2 := Aside0.mk (HA.out.rs hc); obtain ⟨x, hx2, hln⟩ := hl.lb.lane; rw [HSE.out] at hln; have HLN := Aside0.mk hln; clear hln hl hc HA) | (go_at_call 53; (with_reducible refine HA2.out.ok_.mono ?_); rintro e w' ⟨rfl, rfl⟩) | (go_at_call 54; (with_reducible refine HA2.out.value0.mono ?_); rintro e w' ⟨rfl, rfl⟩) | (go_at_call 55; (with_reducible refine HA2.out.from0.mono ?_); rintro e w' ⟨rfl, rfl⟩) | (go_at_call 56; (with_reducible refine HA2.out.mark_.mono ?_); rintro e w' ⟨⟨mk, rfl, hmk⟩, rfl⟩; have hmk2 : decide (mk < 1) = false := decide_eq_false (by omega)) | (go_at_call 58; (with_reducible refine HLN.out.mono ?_); rintro e w5 ⟨rfl, md, rfl⟩; have HL5 := Aside0.mk (HL4.out.drewN md)))
          go_roundg (l.length - (i + 1))
          case measure => have := HKQ.out; omega
          case rel => exact ⟨i + 1, at_, Ls, ⟨rfl⟩, by omega, by omega, by simp, by rw [HSE.out], ⟨by have h := HL5.out; exact h.time (by omega)⟩, ⟨by rw [HSE.out]; omega⟩⟩
        · obtain ⟨hrn, v, L, hrL⟩ := nx_some_r (by omega) hx
          have HNX := Aside0.mk hx
          have HRL := Aside0.mk hrL
          have es := sum_upd (Ls := Ls) (n := n) (r := r) (l := L) hrn
          rw [HSE.out, hrL] at es
          have es2 : sumLs (updL Ls r L) n = sm - 1 := by rw [es]; simp; omega
          have HSE2 := Aside0.mk es2
          have hs2 : 0 ≤ sm - 1 := by rw [← es2]; exact sum_nn _ n
          have HLr := Aside0.mk (show L.length ≤ 1000 from by have q := HL.out.len_le r hrn; rw [hrL] at q; simp at q; omega)
          have d3 : decide ((r : Int) ≥ 0) = true := decide_eq_true (by omega)
          have d4 : decide (0 ≤ (r : Int)) = true := decide_eq_true (by omega)
          clear hx hrL es es2
          go_wp2_with (first | (go_at_call 51; (with_reducible refine (LC.take1 HL.out (by omega) HNX.out HRL.out).mono ?_); rintro e w3 ⟨y, rfl, hl, ha⟩; have HL3 := Aside0.mk hl; have HA := Aside0.mk ha; clear y0 y1 y2 hl ha) | (go_at_call 52; (with_reducible refine (LC.next1 HL3.out hat (by omega) HNX.out HRL.out HLr.out).mono ?_); rintro e w4 ⟨rfl, hl, hc⟩; have HL4 := Aside0.mk hl; have HA2 := Aside0.mk (HA.out.rs hc); obtain ⟨x, hx2, hln⟩ := hl.lb.lane; rw [HSE2.out] at hln; have HLN := Aside0.mk hln; clear hln hl hc HA) | (go_at_call 53; (with_reducible refine HA2.out.ok_.mono ?_); rintro e w' ⟨rfl, rfl⟩) | (go_at_call 54; (with_reducible refine HA2.out.value1.mono ?_); rintro e w' ⟨rfl, rfl⟩) | (go_at_call 55; (with_reducible refine HA2.out.from1.mono ?_); rintro e w' ⟨rfl, rfl⟩) | (go_at_call 56; (with_reducible refine HA2.out.mark_.mono ?_); rintro e w' ⟨⟨mk, rfl, hmk⟩, rfl⟩; have hmk2 : decide (mk < 1) = false := decide_eq_false (by omega)) | (go_at_call 58; (with_reducible refine HLN.out.mono ?_); rintro e w5 ⟨rfl, md, rfl⟩; have HL5 := Aside0.mk (HL4.out.drewN md)))
          go_roundg (l.length - (i + 1))
          case measure => have := HKQ.out; omega
          case rel => exact ⟨i + 1, (r + 1) % n, updL Ls r L, ⟨rfl⟩, by omega, by omega, by simp, by rw [HSE2.out], ⟨by have h := HL5.out; exact h.time (by omega)⟩, ⟨by rw [HSE2.out]; omega⟩⟩
      | false =>
        obtain ⟨vs, hr⟩ := HL.out.rf
        have HR := Aside0.mk hr
        obtain ⟨A2, c2, hv2⟩ := own_slice (hr.own j hjn)
        have HV2 := Aside0.mk hv2
        have z0 : wr.cell? ⟨z, 0, none⟩ = some (.slice (some ⟨B, 0, none⟩) n n) := (Blk.cell hr.top 0).trans rfl
        have bk := (bkcell hr hjn hv2).1
        clear hr hv2
        by_cases hf : (Ls j).length < k
        · have d3 : decide (((Ls j).length : Int) < (k : Int)) = true := decide_eq_true (by omega)
          have d3n : decide ((Ls j).length < k) = true := decide_eq_true hf
          have HP := Aside0.mk (show Calls Try.prog 57 #[pt u, .int .i64 (j : Int), .int .u64 o2] wr fun e w' => e = .returned (.bool true) ∧ LC w w' u n k (1000 + 1008 * i + 3) at_ (updL Ls j (Ls j ++ [o2])) at_ Ls B z B from (LC.put_ HL.out (by omega) j hjn o2 HV.out).mono fun e w' ⟨he, hl⟩ => by
            unfold putL at hl
            rw [if_pos hf] at hl
            rw [decide_eq_true hf] at he
            exact ⟨he, hl⟩)
          have HSE2 := Aside0.mk (show sumLs (updL Ls j (Ls j ++ [o2])) n = sm + 1 from by rw [sum_upd hjn, HSE.out]; simp; omega)
          clear hf HR HV2
          go_upto_region 22 with (go_at_call 57; (with_reducible refine HP.out.mono ?_); rintro e w3 ⟨rfl, hl⟩; have HL3 := Aside0.mk hl; clear hl y0 y1 y2 z0 bk)
          obtain ⟨vs, hr⟩ := HL3.out.rf
          obtain ⟨A2, c2, hv2⟩ := own_slice (hr.own j hjn)
          have HV2 := Aside0.mk hv2
          have z0 : w3.cell? ⟨z, 0, none⟩ = some (.slice (some ⟨B, 0, none⟩) n n) := (Blk.cell hr.top 0).trans rfl
          have bk := (bkcell hr hjn hv2).1
          have HR3 := Aside0.mk hr
          have y2 := (HL3.out.below.cell (World.block_lt_of_cell? w _ X0.out.2.2)).trans X0.out.2.2
          have HY := Aside0.mk (show (ad.add (i * 3)).block < B from Nat.lt_of_lt_of_le (World.block_lt_of_cell? w ⟨(ad.add (i * 3)).block, (ad.add (i * 3)).off + 2, none⟩ X0.out.2.2) HL3.out.lo)
          have HYB := Aside0.mk (show B ≠ (ad.add (i * 3)).block from Nat.ne_of_gt HY.out)
          have HZB := Aside0.mk (show B ≠ z from by
            obtain ⟨cs, hb, _⟩ := hr.out
            exact hb.ne hr.top (by decide))
          clear hr hv2
          refine wp_region_held_drew (S := fun W => W.cell? ⟨z, 0, none⟩ = some (.slice (some ⟨B, 0, none⟩) n n) ∧ W.cell? ⟨(ad.add (i * 3)).block, (ad.add (i * 3)).off + 2, none⟩ = some (.int .u64 o2)) (by kernel_rfl) ?_ (fun hHeld => ?_)
          · exact ⟨z0, y2⟩
          have HL4 := Aside0.mk HL3.out.drew
          have z0q : w3.drew.cell? ⟨z, 0, none⟩ = _ := z0
          have y2q : w3.drew.cell? ⟨(ad.add (i * 3)).block, (ad.add (i * 3)).off + 2, none⟩ = _ := y2
          have bkq : w3.drew.cell? ⟨B, j, none⟩ = some (.slice A2 (Ls j).length c2) := bk
          have HRq := Aside0.mk (show RefAt w3.drew B z B n at_ vs Ls from HR3.out.fr (fun _ _ _ h _ _ _ => h))
          clear HL3 z0 y2 bk HR3
          generalize w3.drew = wq at *
          have z0 := z0q
          have y2 := y2q
          have bk := bkq
          clear z0q y2q bkq
          refine wpAnyH_take (i := 0) (v := ?v1) rfl (by kernel_rfl) (by kernel_rfl) (by kernel_rfl) (fun _ _ _ h => h) (Or.inl ⟨by kernel_rfl, ?hy1⟩) (by assumption) ?rest1
          case hy1 => (intro w hS0; (try dsimp only at hS0); obtain ⟨hS1, hS2⟩ := hS0; go_simp; try with_reducible rfl)
          try simp only [Act.put, List.getElem_toArray, List.getElem_cons_zero, List.getElem_cons_succ, List.setIfInBounds_toArray, List.set_cons_zero, List.set_cons_succ]
          refine wpAnyH_take (i := 1) (v := ?v2) rfl (by kernel_rfl) (by kernel_rfl) (by kernel_rfl) (fun _ _ _ h => h) (Or.inl ⟨by kernel_rfl, ?hy2⟩) (by assumption) ?rest2
          case hy2 => (intro w hS0; (try dsimp only at hS0); obtain ⟨hS1, hS2⟩ := hS0; go_simp; try with_reducible rfl)
          try simp only [Act.put, List.getElem_toArray, List.getElem_cons_zero, List.getElem_cons_succ, List.setIfInBounds_toArray, List.set_cons_zero, List.set_cons_succ]
          refine wpAnyH_take (i := 2) (v := ?v3) rfl (by kernel_rfl) (by kernel_rfl) (by kernel_rfl) (fun _ _ _ h => h) (Or.inl ⟨by kernel_rfl, ?hy3⟩) (by assumption) ?rest3
          case hy3 => (intro w hS0; (try dsimp only at hS0); obtain ⟨hS1, hS2⟩ := hS0; go_simp; try with_reducible rfl)
          try simp only [Act.put, List.getElem_toArray, List.getElem_cons_zero, List.getElem_cons_succ, List.setIfInBounds_toArray, List.set_cons_zero, List.set_cons_succ]
          refine wpAnyH_take (i := 3) (v := ?v4) rfl (by kernel_rfl) (by kernel_rfl) (by kernel_rfl) (fun _ _ _ h => h) (Or.inl ⟨by kernel_rfl, ?hy4⟩) (by assumption) ?rest4
          case hy4 => (intro w hS0; (try dsimp only at hS0); obtain ⟨hS1, hS2⟩ := hS0; go_simp; try with_reducible rfl)
          try simp only [Act.put, List.getElem_toArray, List.getElem_cons_zero, List.getElem_cons_succ, List.setIfInBounds_toArray, List.set_cons_zero, List.set_cons_succ]
          refine wpAnyH_take (i := 4) (v := ?v5) rfl (by kernel_rfl) (by kernel_rfl) (by kernel_rfl) (fun _ _ _ h => h) (Or.inl ⟨by kernel_rfl, ?hy5⟩) (by assumption) ?rest5
          case hy5 => (intro w hS0; (try dsimp only at hS0); obtain ⟨hS1, hS2⟩ := hS0; go_simp; try with_reducible rfl)
          try simp only [Act.put, List.getElem_toArray, List.getElem_cons_zero, List.getElem_cons_succ, List.setIfInBounds_toArray, List.set_cons_zero, List.set_cons_succ]
          refine wpAnyH_take (i := 5) (v := ?v6) rfl (by kernel_rfl) (by kernel_rfl) (by kernel_rfl) (fun _ _ _ h => h) (Or.inl ⟨by kernel_rfl, ?hy6⟩) (by assumption) ?rest6
          case hy6 => (intro w hS0; (try dsimp only at hS0); obtain ⟨hS1, hS2⟩ := hS0; go_simp; try with_reducible rfl)
          try simp only [Act.put, List.getElem_toArray, List.getElem_cons_zero, List.getElem_cons_succ, List.setIfInBounds_toArray, List.set_cons_zero, List.set_cons_succ]
          refine wpAnyH_take (i := 6) (v := ?v7) rfl (by kernel_rfl) (by kernel_rfl) (by kernel_rfl) (fun _ _ _ h => h) (Or.inl ⟨by kernel_rfl, ?hy7⟩) (by assumption) ?rest7
          case hy7 => (intro w hS0; (try dsimp only at hS0); obtain ⟨hS1, hS2⟩ := hS0; go_simp; try with_reducible rfl)
          try simp only [Act.put, List.getElem_toArray, List.getElem_cons_zero, List.getElem_cons_succ, List.setIfInBounds_toArray, List.set_cons_zero, List.set_cons_succ]
          refine wpAnyH_take (i := 7) (v := ?v8) rfl (by kernel_rfl) (by kernel_rfl) (by kernel_rfl) (fun _ _ _ h => h) (Or.inl ⟨by kernel_rfl, ?hy8⟩) (by assumption) ?rest8
          case hy8 => (intro w hS0; (try dsimp only at hS0); obtain ⟨hS1, hS2⟩ := hS0; go_simp; try with_reducible rfl)
          try simp only [Act.put, List.getElem_toArray, List.getElem_cons_zero, List.getElem_cons_succ, List.setIfInBounds_toArray, List.set_cons_zero, List.set_cons_succ]
          refine wpAnyH_take (i := 8) (v := ?v9) rfl (by kernel_rfl) (by kernel_rfl) (by kernel_rfl) (fun _ _ _ h => h) (Or.inl ⟨by kernel_rfl, ?hy9⟩) (by assumption) ?rest9
          case hy9 => (intro w hS0; (try dsimp only at hS0); obtain ⟨hS1, hS2⟩ := hS0; go_simp; try with_reducible rfl)
          try simp only [Act.put, List.getElem_toArray, List.getElem_cons_zero, List.getElem_cons_succ, List.setIfInBounds_toArray, List.set_cons_zero, List.set_cons_succ]
          refine wpAnyH_take (i := 9) (v := ?v10) rfl (by kernel_rfl) (by kernel_rfl) (by kernel_rfl) (fun _ _ _ h => h) (Or.inl ⟨by kernel_rfl, ?hy10⟩) (by assumption) ?rest10
          case hy10 => (intro w hS0; (try dsimp only at hS0); obtain ⟨hS1, hS2⟩ := hS0; go_simp; try with_reducible rfl)
          try simp only [Act.put, List.getElem_toArray, List.getElem_cons_zero, List.getElem_cons_succ, List.setIfInBounds_toArray, List.set_cons_zero, List.set_cons_succ]
          refine wpAnyH_take (i := 10) (v := ?v11) rfl (by kernel_rfl) (by kernel_rfl) (by kernel_rfl) (fun _ _ _ h => h) (Or.inl ⟨by kernel_rfl, ?hy11⟩) (by assumption) ?rest11
          case hy11 => (intro w hS0; (try dsimp only at hS0); obtain ⟨hS1, hS2⟩ := hS0; go_simp; try with_reducible rfl)
          try simp only [Act.put, List.getElem_toArray, List.getElem_cons_zero, List.getElem_cons_succ, List.setIfInBounds_toArray, List.set_cons_zero, List.set_cons_succ]
          refine wpAnyH_take (i := 12) (v := ?v12) rfl (by kernel_rfl) (by kernel_rfl) (by kernel_rfl) (fun _ _ _ h => h) (Or.inl ⟨by kernel_rfl, ?hy12⟩) (by assumption) ?rest12
          case hy12 => (intro w hS0; (try dsimp only at hS0); obtain ⟨hS1, hS2⟩ := hS0; go_simp; try with_reducible rfl)
          try simp only [Act.put, List.getElem_toArray, List.getElem_cons_zero, List.getElem_cons_succ, List.setIfInBounds_toArray, List.set_cons_zero, List.set_cons_succ]
          refine wpAnyH_take (i := 13) (v := ?v13) rfl (by kernel_rfl) (by kernel_rfl) (by kernel_rfl) (fun _ _ _ h => h) (Or.inl ⟨by kernel_rfl, ?hy13⟩) (by assumption) ?rest13
          case hy13 => (intro w hS0; (try dsimp only at hS0); obtain ⟨hS1, hS2⟩ := hS0; go_simp; try with_reducible rfl)
          try simp only [Act.put, List.getElem_toArray, List.getElem_cons_zero, List.getElem_cons_succ, List.setIfInBounds_toArray, List.set_cons_zero, List.set_cons_succ]
          refine wpAnyH_take (i := 14) (v := ?v14) rfl (by kernel_rfl) (by kernel_rfl) (by kernel_rfl) (fun _ _ _ h => h) (Or.inl ⟨by kernel_rfl, ?hy14⟩) (by assumption) ?rest14
          case hy14 => (intro w hS0; (try dsimp only at hS0); obtain ⟨hS1, hS2⟩ := hS0; go_simp; try with_reducible rfl)
          try simp only [Act.put, List.getElem_toArray, List.getElem_cons_zero, List.getElem_cons_succ, List.setIfInBounds_toArray, List.set_cons_zero, List.set_cons_succ]
          refine wpAnyH_take (i := 15) (v := ?v15) rfl (by kernel_rfl) (by kernel_rfl) (by kernel_rfl) (fun _ _ _ h => h) (Or.inl ⟨by kernel_rfl, ?hy15⟩) (by assumption) ?rest15
          case hy15 => (intro w hS0; (try dsimp only at hS0); obtain ⟨hS1, hS2⟩ := hS0; go_simp; try with_reducible rfl)
          try simp only [Act.put, List.getElem_toArray, List.getElem_cons_zero, List.getElem_cons_succ, List.setIfInBounds_toArray, List.set_cons_zero, List.set_cons_succ]
          refine wpAnyH_take (i := 16) (v := ?v16) rfl (by kernel_rfl) (by kernel_rfl) (by kernel_rfl) (fun _ _ _ h => h) (Or.inl ⟨by kernel_rfl, ?hy16⟩) (by assumption) ?rest16
          case hy16 => (intro w hS0; (try dsimp only at hS0); obtain ⟨hS1, hS2⟩ := hS0; go_simp; try with_reducible rfl)
          try simp only [Act.put, List.getElem_toArray, List.getElem_cons_zero, List.getElem_cons_succ, List.setIfInBounds_toArray, List.set_cons_zero, List.set_cons_succ]
          refine wpAnyH_ready (rs := [11, 17]) (by kernel_rfl) (by simp) ?_
          refine AllReadyH.cons rfl (fun K hK => ?_) (AllReadyH.cons rfl (fun K hK => ?_) AllReadyH.nil)
          · skip
            go_simp
            refine hK.out _ _ ?_ (fun hHeld => ?_)
            · exact ⟨z0, y2⟩
            clear hK K
            try simp only [Act.put, List.getElem_toArray, List.getElem_cons_zero, List.getElem_cons_succ, List.setIfInBounds_toArray, List.set_cons_zero, List.set_cons_succ]
            refine wpAnyH_ready (rs := [17]) (by kernel_rfl) (by simp) ?_
            refine AllReadyH.cons rfl (fun K hK => ?_) AllReadyH.nil
            go_simp
            refine hK.out _ _ ?_ (fun hHeld => ?_)
            · exact ⟨(World.cell?_alloc_lt _ _ _ (World.block_lt_of_cell? wq _ z0)).trans z0, (World.cell?_alloc_lt _ _ _ (World.block_lt_of_cell? wq _ y2)).trans y2⟩
            clear hK K
            try simp only [Act.put, List.getElem_toArray, List.getElem_cons_zero, List.getElem_cons_succ, List.setIfInBounds_toArray, List.set_cons_zero, List.set_cons_succ]
            refine wpAnyH_ready (rs := [18]) (by kernel_rfl) (by simp) ?_
            refine AllReadyH.cons (o := { dst := some 142, op := Op.call { callee := Callee.builtin Builtin.append, args := #[Operand.tmp 135, Operand.tmp 141], argTypes := #[44, 44] }, type := 44, pos := "law.go:100", after := #[{ on := 11, ground := Ground.data }, { on := 17, ground := Ground.data }], guard := none }) rfl (fun K hK => ?_) AllReadyH.nil
            refine step_append_cells (w0 := wq) (W := wq) B rfl (.tmp 135) (.tmp 141) 44 29 (.int .u64 0) 1 8 rfl Try.underlying44 info_u64 rfl (by decide) (by decide) (.slice A2 (Ls j).length c2) (Ls j).length (nums .u64 (Ls j)) [.int .u64 o2] rfl rfl rfl (by intro q hq; simp at hq; subst hq; rfl) (by have q := HRq.out.own j hjn; rw [HV2.out] at q; exact q) (Below.refl B wq) HL4.out.hi (by have q := HLL.out; omega) ?_
            intro v1 w1 hown hBe hgr hat2
            obtain ⟨A3, c3, e3⟩ := own_slice hown
            subst e3
            have HO1 := Aside0.mk (RefAt.grown HRq.out hjn (L := Ls j ++ [o2]) (by simpa [nums] using hown) (by rw [HV2.out]; exact hgr) (by rw [HV2.out]; exact hat2))
            have hg2 : wq.grownBy w1 (vs j).ownBlock := by rw [HV2.out]; exact hgr
            have ht1 := HRq.out.gblk hjn hg2 HRq.out.top (by decide)
            have z1 : w1.cell? ⟨z, 0, none⟩ = some (.slice (some ⟨B, 0, none⟩) n n) := (Blk.cell ht1 0).trans rfl
            obtain ⟨cs5, hb5, hc5⟩ := HRq.out.out
            have hb6 := HRq.out.gblk hjn hg2 hb5 (by decide)
            have F1 := Aside0.mk (Blk.frozen hb6 j)
            have B1 := Aside0.mk (show w1.cell? ⟨B, j, none⟩ = some (.slice A2 (Ls j).length c2) from by rw [Blk.cell hb6 j, hc5 j hjn, HV2.out])
            have y3 := (hBe.cell (p := ⟨(ad.add (i * 3)).block, (ad.add (i * 3)).off + 2, none⟩) HY.out).trans y2
            have hlt1 : (Value.slice A3 ((Ls j).length + 1) c3).oneCell' = true := rfl
            have hzb := HZB.out
            have hyb := HYB.out
            clear hown hBe hgr hat2 ht1 hb5 hc5 hb6 hg2 z0 y2 bk
            refine hK.out _ _ ?_ (fun hHeld => ?_)
            · exact ⟨z1, y3⟩
            clear hK K
            try simp only [Act.put, List.getElem_toArray, List.getElem_cons_zero, List.getElem_cons_succ, List.setIfInBounds_toArray, List.set_cons_zero, List.set_cons_succ]
            refine wpAnyH_take (i := 19) (v := ?v18) rfl (by kernel_rfl) (by kernel_rfl) (by kernel_rfl) (fun _ _ _ h => h) (Or.inl ⟨by kernel_rfl, ?hy18⟩) (by assumption) ?rest18
            case hy18 => (intro w hS0; (try dsimp only at hS0); obtain ⟨hS1, hS2⟩ := hS0; go_simp; try with_reducible rfl)
            try simp only [Act.put, List.getElem_toArray, List.getElem_cons_zero, List.getElem_cons_succ, List.setIfInBounds_toArray, List.set_cons_zero, List.set_cons_succ]
            refine wpAnyH_ready (rs := [20]) (by kernel_rfl) (by simp) ?_
            refine AllReadyH.cons rfl (fun K hK => ?_) AllReadyH.nil
            have f1 : w1.frozen? ⟨B, j, none⟩ = false := F1.out
            have bk1 := B1.out
            go_simp
            refine hK.out _ _ ?_ (fun hHeld => ?_)
            · exact ⟨(World.cell?_setCell_far _ _ _ _ hzb).trans z1, (World.cell?_setCell_far _ _ _ _ hyb).trans y3⟩
            clear hK K
            try simp only [Act.put, List.getElem_toArray, List.getElem_cons_zero, List.getElem_cons_succ, List.setIfInBounds_toArray, List.set_cons_zero, List.set_cons_succ]
            refine wpAnyH_done (by kernel_rfl) ?_ _
            clear z1 y3 f1 bk1
            generalize hw1 : w1.setCell ⟨B, j, none⟩ (.slice A3 ((Ls j).length + 1) c3) = w4 at *
            have HL5 := Aside0.mk (show LC w w4 u n k (1000 + 1008 * i + 3) at_ (updL Ls j (Ls j ++ [o2])) at_ (updL Ls j (Ls j ++ [o2])) B z B from HL4.out.rs HO1.out.2 ⟨_, HO1.out.1⟩)
            clear hw1 HO1
            obtain ⟨x, hx2, hln⟩ := HL5.out.lb.lane
            rw [HSE2.out] at hln
            have HLN := Aside0.mk hln
            clear hln
            go_wp2_with (go_at_call 58; (with_reducible refine HLN.out.mono ?_); rintro e w5 ⟨rfl, md, rfl⟩; have HL6 := Aside0.mk (HL5.out.drewN md))
            go_roundg (l.length - (i + 1))
            case measure => have := HKQ.out; omega
            case rel => exact ⟨i + 1, at_, updL Ls j (Ls j ++ [o2]), ⟨rfl⟩, by omega, by omega, by simp, by rw [HSE2.out], ⟨by have h := HL6.out; exact h.time (by omega)⟩, ⟨by rw [HSE2.out]; omega⟩⟩
          · skip
            go_simp
            refine hK.out _ _ ?_ (fun hHeld => ?_)
            · exact ⟨(World.cell?_alloc_lt _ _ _ (World.block_lt_of_cell? wq _ z0)).trans z0, (World.cell?_alloc_lt _ _ _ (World.block_lt_of_cell? wq _ y2)).trans y2⟩
            clear hK K
            try simp only [Act.put, List.getElem_toArray, List.getElem_cons_zero, List.getElem_cons_succ, List.setIfInBounds_toArray, List.set_cons_zero, List.set_cons_succ]
            refine wpAnyH_ready (rs := [11]) (by kernel_rfl) (by simp) ?_
            refine AllReadyH.cons rfl (fun K hK => ?_) AllReadyH.nil
            have bka : (wq.alloc (.cells #[.int .u64 o2] 29)).cell? ⟨B, j, none⟩ = _ := (World.cell?_alloc_lt _ _ _ (World.block_lt_of_cell? wq _ bk)).trans bk
            go_simp
            refine hK.out _ _ ?_ (fun hHeld => ?_)
            · exact ⟨(World.cell?_alloc_lt _ _ _ (World.block_lt_of_cell? wq _ z0)).trans z0, (World.cell?_alloc_lt _ _ _ (World.block_lt_of_cell? wq _ y2)).trans y2⟩
            clear hK K
            try simp only [Act.put, List.getElem_toArray, List.getElem_cons_zero, List.getElem_cons_succ, List.setIfInBounds_toArray, List.set_cons_zero, List.set_cons_succ]
            refine wpAnyH_ready (rs := [18]) (by kernel_rfl) (by simp) ?_
            refine AllReadyH.cons (o := { dst := some 142, op := Op.call { callee := Callee.builtin Builtin.append, args := #[Operand.tmp 135, Operand.tmp 141], argTypes := #[44, 44] }, type := 44, pos := "law.go:100", after := #[{ on := 11, ground := Ground.data }, { on := 17, ground := Ground.data }], guard := none }) rfl (fun K hK => ?_) AllReadyH.nil
            refine step_append_cells (w0 := wq) (W := wq) B rfl (.tmp 135) (.tmp 141) 44 29 (.int .u64 0) 1 8 rfl Try.underlying44 info_u64 rfl (by decide) (by decide) (.slice A2 (Ls j).length c2) (Ls j).length (nums .u64 (Ls j)) [.int .u64 o2] rfl rfl rfl (by intro q hq; simp at hq; subst hq; rfl) (by have q := HRq.out.own j hjn; rw [HV2.out] at q; exact q) (Below.refl B wq) HL4.out.hi (by have q := HLL.out; omega) ?_
            intro v1 w1 hown hBe hgr hat2
            obtain ⟨A3, c3, e3⟩ := own_slice hown
            subst e3
            have HO1 := Aside0.mk (RefAt.grown HRq.out hjn (L := Ls j ++ [o2]) (by simpa [nums] using hown) (by rw [HV2.out]; exact hgr) (by rw [HV2.out]; exact hat2))
            have hg2 : wq.grownBy w1 (vs j).ownBlock := by rw [HV2.out]; exact hgr
            have ht1 := HRq.out.gblk hjn hg2 HRq.out.top (by decide)
            have z1 : w1.cell? ⟨z, 0, none⟩ = some (.slice (some ⟨B, 0, none⟩) n n) := (Blk.cell ht1 0).trans rfl
            obtain ⟨cs5, hb5, hc5⟩ := HRq.out.out
            have hb6 := HRq.out.gblk hjn hg2 hb5 (by decide)
            have F1 := Aside0.mk (Blk.frozen hb6 j)
            have B1 := Aside0.mk (show w1.cell? ⟨B, j, none⟩ = some (.slice A2 (Ls j).length c2) from by rw [Blk.cell hb6 j, hc5 j hjn, HV2.out])
            have y3 := (hBe.cell (p := ⟨(ad.add (i * 3)).block, (ad.add (i * 3)).off + 2, none⟩) HY.out).trans y2
            have hlt1 : (Value.slice A3 ((Ls j).length + 1) c3).oneCell' = true := rfl
            have hzb := HZB.out
            have hyb := HYB.out
            clear hown hBe hgr hat2 ht1 hb5 hc5 hb6 hg2 z0 y2 bk
            refine hK.out _ _ ?_ (fun hHeld => ?_)
            · exact ⟨z1, y3⟩
            clear hK K
            try simp only [Act.put, List.getElem_toArray, List.getElem_cons_zero, List.getElem_cons_succ, List.setIfInBounds_toArray, List.set_cons_zero, List.set_cons_succ]
            refine wpAnyH_take (i := 19) (v := ?v17) rfl (by kernel_rfl) (by kernel_rfl) (by kernel_rfl) (fun _ _ _ h => h) (Or.inl ⟨by kernel_rfl, ?hy17⟩) (by assumption) ?rest17
            case hy17 => (intro w hS0; (try dsimp only at hS0); obtain ⟨hS1, hS2⟩ := hS0; go_simp; try with_reducible rfl)
            try simp only [Act.put, List.getElem_toArray, List.getElem_cons_zero, List.getElem_cons_succ, List.setIfInBounds_toArray, List.set_cons_zero, List.set_cons_succ]
            refine wpAnyH_ready (rs := [20]) (by kernel_rfl) (by simp) ?_
            refine AllReadyH.cons rfl (fun K hK => ?_) AllReadyH.nil
            have f1 : w1.frozen? ⟨B, j, none⟩ = false := F1.out
            have bk1 := B1.out
            go_simp
            refine hK.out _ _ ?_ (fun hHeld => ?_)
            · exact ⟨(World.cell?_setCell_far _ _ _ _ hzb).trans z1, (World.cell?_setCell_far _ _ _ _ hyb).trans y3⟩
            clear hK K
            try simp only [Act.put, List.getElem_toArray, List.getElem_cons_zero, List.getElem_cons_succ, List.setIfInBounds_toArray, List.set_cons_zero, List.set_cons_succ]
            refine wpAnyH_done (by kernel_rfl) ?_ _
            clear z1 y3 f1 bk1
            generalize hw1 : w1.setCell ⟨B, j, none⟩ (.slice A3 ((Ls j).length + 1) c3) = w4 at *
            have HL5 := Aside0.mk (show LC w w4 u n k (1000 + 1008 * i + 3) at_ (updL Ls j (Ls j ++ [o2])) at_ (updL Ls j (Ls j ++ [o2])) B z B from HL4.out.rs HO1.out.2 ⟨_, HO1.out.1⟩)
            clear hw1 HO1
            obtain ⟨x, hx2, hln⟩ := HL5.out.lb.lane
            rw [HSE2.out] at hln
            have HLN := Aside0.mk hln
            clear hln
            go_wp2_with (go_at_call 58; (with_reducible refine HLN.out.mono ?_); rintro e w5 ⟨rfl, md, rfl⟩; have HL6 := Aside0.mk (HL5.out.drewN md))
            go_roundg (l.length - (i + 1))
            case measure => have := HKQ.out; omega
            case rel => exact ⟨i + 1, at_, updL Ls j (Ls j ++ [o2]), ⟨rfl⟩, by omega, by omega, by simp, by rw [HSE2.out], ⟨by have h := HL6.out; exact h.time (by omega)⟩, ⟨by rw [HSE2.out]; omega⟩⟩
        · have d3 : decide (((Ls j).length : Int) < (k : Int)) = false := decide_eq_false (by omega)
          have d3n : decide ((Ls j).length < k) = false := decide_eq_false hf
          have HP := Aside0.mk (show Calls Try.prog 57 #[pt u, .int .i64 (j : Int), .int .u64 o2] wr fun e w' => e = .returned (.bool false) ∧ LC w w' u n k (1000 + 1008 * i + 3) at_ Ls at_ Ls B z B from (LC.put_ HL.out (by omega) j hjn o2 HV.out).mono fun e w' ⟨he, hl⟩ => by
            unfold putL at hl
            rw [if_neg hf] at hl
            rw [decide_eq_false hf] at he
            exact ⟨he, hl⟩)
          clear hf HR HV2
          go_wp2_with (first | (go_at_call 57; (with_reducible refine HP.out.mono ?_); rintro e w4 ⟨rfl, hl⟩; have HL4 := Aside0.mk hl; obtain ⟨x, hx2, hln⟩ := hl.lb.lane; rw [HSE.out] at hln; have HLN := Aside0.mk hln; clear hln hl y0 y1 y2 z0 bk) | (go_at_call 58; (with_reducible refine HLN.out.mono ?_); rintro e w5 ⟨rfl, md, rfl⟩; have HL5 := Aside0.mk (HL4.out.drewN md)))
          go_roundg (l.length - (i + 1))
          case measure => have := HKQ.out; omega
          case rel => exact ⟨i + 1, at_, Ls, ⟨rfl⟩, by omega, by omega, by simp, by rw [HSE.out], ⟨by have h := HL5.out; exact h.time (by omega)⟩, ⟨by rw [HSE.out]; omega⟩⟩
    · have hge : l.length ≤ i ∨ 200 ≤ i := by omega
      clear hlt
      rcases hge with hge | hge
      all_goals (by_cases a0 : i < l.length <;> try omega)
      all_goals (go_wp2; go_ret; exact ⟨rfl, HL.out.below⟩)
end Go.Proofs.Ytejplbeddcpmeaa.Lane
