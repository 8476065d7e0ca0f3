/- The law VlanAccepts: its walk, where the three answers of vlan.Class are as the law says; no condition beyond these. -/
import Derived.Test.YtfgdjljbdghdgaaPVlanx9
namespace Go.Proofs.Ytfgdjljbdghdgaa.PVlan
open Go.RowKit Go.Proofs.YtfgdjljbdghdgaaW.PrintWords Go.Proofs.YtfgdjljbdghdgaaW.PrintLast Go.Proofs.YtfgdjljbdghdgaaW.PrintMore
attribute [local go_sem] max2_int min2_int max_two min_two max_three min_three max_four min_four
set_option linter.unusedVariables false
set_option linter.unusedSimpArgs false

def a3 (x y z : Int) : Nat → Array Value
  | 0 => #[.int .i64 0, .int .i64 0, .int .i64 0]
  | 1 => #[.int .i64 x, .int .i64 0, .int .i64 0]
  | 2 => #[.int .i64 x, .int .i64 y, .int .i64 0]
  | _ => #[.int .i64 x, .int .i64 y, .int .i64 z]

set_option maxHeartbeats 8000000 in
set_option maxRecDepth 100000 in
theorem accepts_ (k : Nat) (A0 : Option Addr) (c0 : Nat) (l0 m : List Int) (pv p V0 V1 V2 W0 W1 W2 : Int) (w : World) (hr0 : Kd.C (Kd.int .u8) w A0 l0.length l0) (hc0 : l0.length ≤ c0) (hm : l0.take (min l0.length 1600) = m) (hlen : l0.length < 140737488355328)
    (h0 : vlan_Class.f k m p 0 = some (V0, W0)) (h1 : vlan_Class.f k m p 1 = some (V1, W1)) (h2 : vlan_Class.f k m p 2 = some (V2, W2)) (hT : patchbaylaw03_told.f k = some true)
    (hp : wrap64 (1 + wrap64 ((IntKind.u64.wrap pv).tmod 4094)) = p)
    (hv : (if W0 ≠ 0 ∧ W0 ≠ 7 then W1 = W0 ∧ W2 = W0 else if W0 = 7 then W1 = 7 ∧ W2 = 6 else if W1 = 0 then V1 = V0 ∧ W2 = 6 else W1 = 6 ∧ W2 = 0 ∧ V2 = p ∧ V0 = p)) :
    Calls Try.prog 10 #[.slice A0 l0.length c0, .int .i64 pv] w fun e w' => e = .returned (.bool true) ∧ Below w.heap.size w w' := by
  have hml : m.length = min l0.length 1600 := by rw [← hm, List.length_take]; omega
  have hji : (if (1600 : Int) < (l0.length : Int) then (1600 : Int) else (l0.length : Int)) = (m.length : Int) := by rw [hml]; split <;> omega
  obtain ⟨i0, hi0, _, hsz, _⟩ := info_parts info5
  have hcut : ∀ W : World, (Instr.slice 37 (.slice A0 l0.length c0) none (some (.int .i64 (m.length : Int))) none).run Try.prog W = .ok (.slice A0 m.length c0) W := by
    have h := (print_take_of (P := Try.prog) (Value.int .u8) 0 37 5 .i64 Try.underlying37 hi0 hsz A0 c0 l0 (m.length : Int) (by omega) (by omega) hc0).1
    rw [Int.toNat_natCast, show l0.take m.length = m from by rw [hml]; exact hm] at h
    exact h
  have HM := Aside0.mk (show Kd.C (Kd.int .u8) w A0 m.length m from by
    have h := (print_take_of (P := Try.prog) (Value.int .u8) 0 37 5 .i64 Try.underlying37 hi0 hsz A0 c0 l0 (m.length : Int) (by omega) (by omega) hc0).2.1 w (Kd.reads_of_C hr0)
    rw [Int.toNat_natCast, show l0.take m.length = m from by rw [hml]; exact hm] at h
    exact Kd.C_of_reads (h1 := fun _ => rfl) h)
  have HC := Aside0.mk (show m.length ≤ c0 by omega)
  have H0 := Aside0.mk h0
  have H1 := Aside0.mk h1
  have H2 := Aside0.mk h2
  have HT := Aside0.mk hT
  have HV := Aside0.mk hv
  have HB := Aside0.mk (Below.refl w.heap.size w)
  clear hr0 hc0 hm hlen h0 h1 h2 hT hv hi0 hsz hml
  go_enter Try.func10, Try.ntmps10
  go_wp2_with (first
    | ((with_reducible refine gate_dst (N := 6) rfl ?_); refine box_event ?hg (N := 6) ?hd (cs := #[.int .i64 0, .int .i64 0, .int .i64 0]) (t := 59) ?hr ?_; (case hd => rfl); (case hg => rfl); (case hr => first | (go_simp; done) | (go_simp; rfl)); intro gv hgv wv hbv0 hb; have gev := Aside0.mk (by rw [hgv]; exact below_size HB.out : w.heap.size ≤ gv); have HBn := Aside0.mk (below_step HB.out hb); clear HB; have HB := HBn; clear HBn; have hbv := Aside0.mk hbv0; clear hb hbv0 hgv)
    | ((with_reducible refine gate_dst (N := 7) rfl ?_); refine box_event ?hg (N := 7) ?hd (cs := #[.int .i64 0, .int .i64 0, .int .i64 0]) (t := 59) ?hr ?_; (case hd => rfl); (case hg => rfl); (case hr => first | (go_simp; done) | (go_simp; rfl)); intro gw hgw ww hbw0 hb; have gew := Aside0.mk (by rw [hgw]; exact below_size HB.out : w.heap.size ≤ gw); have hvw := Aside0.mk (show gv ≠ gw from by rw [hgw]; exact Nat.ne_of_lt (blk_lt hbv.out)); have HBn := Aside0.mk (below_step HB.out hb); have hbvn := Aside0.mk (blk_below hbv.out hb); clear HB hbv; have HB := HBn; have hbv := hbvn; clear HBn hbvn; have hbw := Aside0.mk hbw0; clear hb hbw0 hgw))
  go_loopg [8] 3 (fun kq v8 wr => ∃ i : Nat, Aside0 (kq = 3 - i) ∧ i ≤ 3 ∧ v8 = .int .i64 (i : Int) ∧ Aside0 (wr.heap[gv]? = some (.cells (a3 V0 V1 V2 i) 59 (0, 0))) ∧ Aside0 (wr.heap[gw]? = some (.cells (a3 W0 W1 W2 i) 59 (0, 0))) ∧ Aside0 (Below w.heap.size w wr))
  case atStart => exact ⟨0, ⟨by omega⟩, by omega, rfl, hbv, hbw, HB⟩
  case round =>
    clear HB hbv hbw
    obtain ⟨i, HKQ, hi, rfl, hbv, hbw, HB⟩ := hrel
    have hne1 := hvw.out
    have hne2 : gw ≠ gv := fun e => hvw.out e.symm
    rcases (by omega : i = 0 ∨ i = 1 ∨ i = 2 ∨ i = 3) with rfl | rfl | rfl | rfl
    · have hbvn : Aside0 (wr.heap[gv]? = some (.cells #[.int .i64 (0), .int .i64 (0), .int .i64 (0)] 59 (0, 0))) := hbv
      have hbwn : Aside0 (wr.heap[gw]? = some (.cells #[.int .i64 (0), .int .i64 (0), .int .i64 (0)] 59 (0, 0))) := hbw
      clear hbv hbw
      have hbv := hbvn
      have hbw := hbwn
      clear hbvn hbwn
      have xv0 : wr.cell? ⟨gv, 0, none⟩ = some (.int .i64 (0)) := (blk_cell hbv.out 0).trans rfl
      have fv0 := blk_frozen hbv.out 0
      have xv1 : wr.cell? ⟨gv, 1, none⟩ = some (.int .i64 (0)) := (blk_cell hbv.out 1).trans rfl
      have fv1 := blk_frozen hbv.out 1
      have xv2 : wr.cell? ⟨gv, 2, none⟩ = some (.int .i64 (0)) := (blk_cell hbv.out 2).trans rfl
      have fv2 := blk_frozen hbv.out 2
      have xw0 : wr.cell? ⟨gw, 0, none⟩ = some (.int .i64 (0)) := (blk_cell hbw.out 0).trans rfl
      have fw0 := blk_frozen hbw.out 0
      have xw1 : wr.cell? ⟨gw, 1, none⟩ = some (.int .i64 (0)) := (blk_cell hbw.out 1).trans rfl
      have fw1 := blk_frozen hbw.out 1
      have xw2 : wr.cell? ⟨gw, 2, none⟩ = some (.int .i64 (0)) := (blk_cell hbw.out 2).trans rfl
      have fw2 := blk_frozen hbw.out 2
      go_wp2_with (go_at_call 26; (with_reducible refine (vlan_Class.calls k A0 c0 m p 0 V0 W0 _ (Kd.C_below HM.out HB.out) HC.out H0.out).mono ?_); rintro e w' ⟨rfl, hb⟩; have HBn := Aside0.mk (below_step HB.out hb); have hbvn := Aside0.mk (blk_below hbv.out hb); have hbwn := Aside0.mk (blk_below hbw.out hb); clear HB hbv hbw xv0 fv0 xv1 fv1 xv2 fv2 xw0 fw0 xw1 fw1 xw2 fw2; have HB := HBn; have hbv := hbvn; have hbw := hbwn; clear HBn hbvn hbwn hb; have xv0 : w'.cell? ⟨gv, 0, none⟩ = some (.int .i64 (0)) := (blk_cell hbv.out 0).trans rfl; have fv0 := blk_frozen hbv.out 0; have xv1 : w'.cell? ⟨gv, 1, none⟩ = some (.int .i64 (0)) := (blk_cell hbv.out 1).trans rfl; have fv1 := blk_frozen hbv.out 1; have xv2 : w'.cell? ⟨gv, 2, none⟩ = some (.int .i64 (0)) := (blk_cell hbv.out 2).trans rfl; have fv2 := blk_frozen hbv.out 2; have xw0 : w'.cell? ⟨gw, 0, none⟩ = some (.int .i64 (0)) := (blk_cell hbw.out 0).trans rfl; have fw0 := blk_frozen hbw.out 0; have xw1 : w'.cell? ⟨gw, 1, none⟩ = some (.int .i64 (0)) := (blk_cell hbw.out 1).trans rfl; have fw1 := blk_frozen hbw.out 1; have xw2 : w'.cell? ⟨gw, 2, none⟩ = some (.int .i64 (0)) := (blk_cell hbw.out 2).trans rfl; have fw2 := blk_frozen hbw.out 2)
      go_roundg (2)
      case measure => have := HKQ.out; omega
      case rel => exact ⟨1, ⟨rfl⟩, by omega, by simp, ⟨blk_far (blk_set hbv.out 0 _) hvw.out _⟩, ⟨blk_set (blk_far hbw.out (fun e => hvw.out e.symm) _) 0 _⟩, ⟨below_set (below_set HB.out gev.out) gew.out⟩⟩
    · have hbvn : Aside0 (wr.heap[gv]? = some (.cells #[.int .i64 (V0), .int .i64 (0), .int .i64 (0)] 59 (0, 0))) := hbv
      have hbwn : Aside0 (wr.heap[gw]? = some (.cells #[.int .i64 (W0), .int .i64 (0), .int .i64 (0)] 59 (0, 0))) := hbw
      clear hbv hbw
      have hbv := hbvn
      have hbw := hbwn
      clear hbvn hbwn
      have xv0 : wr.cell? ⟨gv, 0, none⟩ = some (.int .i64 (V0)) := (blk_cell hbv.out 0).trans rfl
      have fv0 := blk_frozen hbv.out 0
      have xv1 : wr.cell? ⟨gv, 1, none⟩ = some (.int .i64 (0)) := (blk_cell hbv.out 1).trans rfl
      have fv1 := blk_frozen hbv.out 1
      have xv2 : wr.cell? ⟨gv, 2, none⟩ = some (.int .i64 (0)) := (blk_cell hbv.out 2).trans rfl
      have fv2 := blk_frozen hbv.out 2
      have xw0 : wr.cell? ⟨gw, 0, none⟩ = some (.int .i64 (W0)) := (blk_cell hbw.out 0).trans rfl
      have fw0 := blk_frozen hbw.out 0
      have xw1 : wr.cell? ⟨gw, 1, none⟩ = some (.int .i64 (0)) := (blk_cell hbw.out 1).trans rfl
      have fw1 := blk_frozen hbw.out 1
      have xw2 : wr.cell? ⟨gw, 2, none⟩ = some (.int .i64 (0)) := (blk_cell hbw.out 2).trans rfl
      have fw2 := blk_frozen hbw.out 2
      go_wp2_with (go_at_call 26; (with_reducible refine (vlan_Class.calls k A0 c0 m p 1 V1 W1 _ (Kd.C_below HM.out HB.out) HC.out H1.out).mono ?_); rintro e w' ⟨rfl, hb⟩; have HBn := Aside0.mk (below_step HB.out hb); have hbvn := Aside0.mk (blk_below hbv.out hb); have hbwn := Aside0.mk (blk_below hbw.out hb); clear HB hbv hbw xv0 fv0 xv1 fv1 xv2 fv2 xw0 fw0 xw1 fw1 xw2 fw2; have HB := HBn; have hbv := hbvn; have hbw := hbwn; clear HBn hbvn hbwn hb; have xv0 : w'.cell? ⟨gv, 0, none⟩ = some (.int .i64 (V0)) := (blk_cell hbv.out 0).trans rfl; have fv0 := blk_frozen hbv.out 0; have xv1 : w'.cell? ⟨gv, 1, none⟩ = some (.int .i64 (0)) := (blk_cell hbv.out 1).trans rfl; have fv1 := blk_frozen hbv.out 1; have xv2 : w'.cell? ⟨gv, 2, none⟩ = some (.int .i64 (0)) := (blk_cell hbv.out 2).trans rfl; have fv2 := blk_frozen hbv.out 2; have xw0 : w'.cell? ⟨gw, 0, none⟩ = some (.int .i64 (W0)) := (blk_cell hbw.out 0).trans rfl; have fw0 := blk_frozen hbw.out 0; have xw1 : w'.cell? ⟨gw, 1, none⟩ = some (.int .i64 (0)) := (blk_cell hbw.out 1).trans rfl; have fw1 := blk_frozen hbw.out 1; have xw2 : w'.cell? ⟨gw, 2, none⟩ = some (.int .i64 (0)) := (blk_cell hbw.out 2).trans rfl; have fw2 := blk_frozen hbw.out 2)
      go_roundg (1)
      case measure => have := HKQ.out; omega
      case rel => exact ⟨2, ⟨rfl⟩, by omega, by simp, ⟨blk_far (blk_set hbv.out 1 _) hvw.out _⟩, ⟨blk_set (blk_far hbw.out (fun e => hvw.out e.symm) _) 1 _⟩, ⟨below_set (below_set HB.out gev.out) gew.out⟩⟩
    · have hbvn : Aside0 (wr.heap[gv]? = some (.cells #[.int .i64 (V0), .int .i64 (V1), .int .i64 (0)] 59 (0, 0))) := hbv
      have hbwn : Aside0 (wr.heap[gw]? = some (.cells #[.int .i64 (W0), .int .i64 (W1), .int .i64 (0)] 59 (0, 0))) := hbw
      clear hbv hbw
      have hbv := hbvn
      have hbw := hbwn
      clear hbvn hbwn
      have xv0 : wr.cell? ⟨gv, 0, none⟩ = some (.int .i64 (V0)) := (blk_cell hbv.out 0).trans rfl
      have fv0 := blk_frozen hbv.out 0
      have xv1 : wr.cell? ⟨gv, 1, none⟩ = some (.int .i64 (V1)) := (blk_cell hbv.out 1).trans rfl
      have fv1 := blk_frozen hbv.out 1
      have xv2 : wr.cell? ⟨gv, 2, none⟩ = some (.int .i64 (0)) := (blk_cell hbv.out 2).trans rfl
      have fv2 := blk_frozen hbv.out 2
      have xw0 : wr.cell? ⟨gw, 0, none⟩ = some (.int .i64 (W0)) := (blk_cell hbw.out 0).trans rfl
      have fw0 := blk_frozen hbw.out 0
      have xw1 : wr.cell? ⟨gw, 1, none⟩ = some (.int .i64 (W1)) := (blk_cell hbw.out 1).trans rfl
      have fw1 := blk_frozen hbw.out 1
      have xw2 : wr.cell? ⟨gw, 2, none⟩ = some (.int .i64 (0)) := (blk_cell hbw.out 2).trans rfl
      have fw2 := blk_frozen hbw.out 2
      go_wp2_with (go_at_call 26; (with_reducible refine (vlan_Class.calls k A0 c0 m p 2 V2 W2 _ (Kd.C_below HM.out HB.out) HC.out H2.out).mono ?_); rintro e w' ⟨rfl, hb⟩; have HBn := Aside0.mk (below_step HB.out hb); have hbvn := Aside0.mk (blk_below hbv.out hb); have hbwn := Aside0.mk (blk_below hbw.out hb); clear HB hbv hbw xv0 fv0 xv1 fv1 xv2 fv2 xw0 fw0 xw1 fw1 xw2 fw2; have HB := HBn; have hbv := hbvn; have hbw := hbwn; clear HBn hbvn hbwn hb; have xv0 : w'.cell? ⟨gv, 0, none⟩ = some (.int .i64 (V0)) := (blk_cell hbv.out 0).trans rfl; have fv0 := blk_frozen hbv.out 0; have xv1 : w'.cell? ⟨gv, 1, none⟩ = some (.int .i64 (V1)) := (blk_cell hbv.out 1).trans rfl; have fv1 := blk_frozen hbv.out 1; have xv2 : w'.cell? ⟨gv, 2, none⟩ = some (.int .i64 (0)) := (blk_cell hbv.out 2).trans rfl; have fv2 := blk_frozen hbv.out 2; have xw0 : w'.cell? ⟨gw, 0, none⟩ = some (.int .i64 (W0)) := (blk_cell hbw.out 0).trans rfl; have fw0 := blk_frozen hbw.out 0; have xw1 : w'.cell? ⟨gw, 1, none⟩ = some (.int .i64 (W1)) := (blk_cell hbw.out 1).trans rfl; have fw1 := blk_frozen hbw.out 1; have xw2 : w'.cell? ⟨gw, 2, none⟩ = some (.int .i64 (0)) := (blk_cell hbw.out 2).trans rfl; have fw2 := blk_frozen hbw.out 2)
      go_roundg (0)
      case measure => have := HKQ.out; omega
      case rel => exact ⟨3, ⟨rfl⟩, by omega, by simp, ⟨blk_far (blk_set hbv.out 2 _) hvw.out _⟩, ⟨blk_set (blk_far hbw.out (fun e => hvw.out e.symm) _) 2 _⟩, ⟨below_set (below_set HB.out gev.out) gew.out⟩⟩
    · have hbvn : Aside0 (wr.heap[gv]? = some (.cells #[.int .i64 (V0), .int .i64 (V1), .int .i64 (V2)] 59 (0, 0))) := hbv
      have hbwn : Aside0 (wr.heap[gw]? = some (.cells #[.int .i64 (W0), .int .i64 (W1), .int .i64 (W2)] 59 (0, 0))) := hbw
      clear hbv hbw
      have hbv := hbvn
      have hbw := hbwn
      clear hbvn hbwn
      clear H0 H1 H2
      have hv := HV.out
      clear HV
      by_cases c1 : W0 ≠ 0 ∧ W0 ≠ 7
      · rw [if_pos c1] at hv
        obtain ⟨e1, e2⟩ := hv
        obtain ⟨ca, cb⟩ := c1
        have d1 : (W0 != 0) = true := bne_iff_ne.mpr ca
        have d2 : (W0 != 7) = true := bne_iff_ne.mpr cb
        have d3 : (W1 == W0) = true := beq_iff_eq.mpr e1
        have d4 : (W2 == W0) = true := beq_iff_eq.mpr e2
        clear e1 e2 ca cb
        have xv0 : wr.cell? ⟨gv, 0, none⟩ = some (.int .i64 (V0)) := (blk_cell hbv.out 0).trans rfl
        have fv0 := blk_frozen hbv.out 0
        have xv1 : wr.cell? ⟨gv, 1, none⟩ = some (.int .i64 (V1)) := (blk_cell hbv.out 1).trans rfl
        have fv1 := blk_frozen hbv.out 1
        have xv2 : wr.cell? ⟨gv, 2, none⟩ = some (.int .i64 (V2)) := (blk_cell hbv.out 2).trans rfl
        have fv2 := blk_frozen hbv.out 2
        have xw0 : wr.cell? ⟨gw, 0, none⟩ = some (.int .i64 (W0)) := (blk_cell hbw.out 0).trans rfl
        have fw0 := blk_frozen hbw.out 0
        have xw1 : wr.cell? ⟨gw, 1, none⟩ = some (.int .i64 (W1)) := (blk_cell hbw.out 1).trans rfl
        have fw1 := blk_frozen hbw.out 1
        have xw2 : wr.cell? ⟨gw, 2, none⟩ = some (.int .i64 (W2)) := (blk_cell hbw.out 2).trans rfl
        have fw2 := blk_frozen hbw.out 2
        go_wp2_with (go_at_call 28; (with_reducible refine (patchbaylaw03_told.calls k true _ HT.out).mono ?_); rintro e w' ⟨rfl, hb⟩; have HBn := Aside0.mk (below_step HB.out hb); have hbvn := Aside0.mk (blk_below hbv.out hb); have hbwn := Aside0.mk (blk_below hbw.out hb); clear HB hbv hbw xv0 fv0 xv1 fv1 xv2 fv2 xw0 fw0 xw1 fw1 xw2 fw2; have HB := HBn; have hbv := hbvn; have hbw := hbwn; clear HBn hbvn hbwn hb; have xv0 : w'.cell? ⟨gv, 0, none⟩ = some (.int .i64 (V0)) := (blk_cell hbv.out 0).trans rfl; have fv0 := blk_frozen hbv.out 0; have xv1 : w'.cell? ⟨gv, 1, none⟩ = some (.int .i64 (V1)) := (blk_cell hbv.out 1).trans rfl; have fv1 := blk_frozen hbv.out 1; have xv2 : w'.cell? ⟨gv, 2, none⟩ = some (.int .i64 (V2)) := (blk_cell hbv.out 2).trans rfl; have fv2 := blk_frozen hbv.out 2; have xw0 : w'.cell? ⟨gw, 0, none⟩ = some (.int .i64 (W0)) := (blk_cell hbw.out 0).trans rfl; have fw0 := blk_frozen hbw.out 0; have xw1 : w'.cell? ⟨gw, 1, none⟩ = some (.int .i64 (W1)) := (blk_cell hbw.out 1).trans rfl; have fw1 := blk_frozen hbw.out 1; have xw2 : w'.cell? ⟨gw, 2, none⟩ = some (.int .i64 (W2)) := (blk_cell hbw.out 2).trans rfl; have fw2 := blk_frozen hbw.out 2)
        go_ret
        exact ⟨rfl, HB.out⟩
      · rw [if_neg c1] at hv
        by_cases c2 : W0 = 7
        · rw [if_pos c2] at hv
          obtain ⟨rfl, rfl⟩ := hv
          subst c2
          clear c1
          have xv0 : wr.cell? ⟨gv, 0, none⟩ = some (.int .i64 (V0)) := (blk_cell hbv.out 0).trans rfl
          have fv0 := blk_frozen hbv.out 0
          have xv1 : wr.cell? ⟨gv, 1, none⟩ = some (.int .i64 (V1)) := (blk_cell hbv.out 1).trans rfl
          have fv1 := blk_frozen hbv.out 1
          have xv2 : wr.cell? ⟨gv, 2, none⟩ = some (.int .i64 (V2)) := (blk_cell hbv.out 2).trans rfl
          have fv2 := blk_frozen hbv.out 2
          have xw0 : wr.cell? ⟨gw, 0, none⟩ = some (.int .i64 (7)) := (blk_cell hbw.out 0).trans rfl
          have fw0 := blk_frozen hbw.out 0
          have xw1 : wr.cell? ⟨gw, 1, none⟩ = some (.int .i64 (7)) := (blk_cell hbw.out 1).trans rfl
          have fw1 := blk_frozen hbw.out 1
          have xw2 : wr.cell? ⟨gw, 2, none⟩ = some (.int .i64 (6)) := (blk_cell hbw.out 2).trans rfl
          have fw2 := blk_frozen hbw.out 2
          go_wp2_with (go_at_call 28; (with_reducible refine (patchbaylaw03_told.calls k true _ HT.out).mono ?_); rintro e w' ⟨rfl, hb⟩; have HBn := Aside0.mk (below_step HB.out hb); have hbvn := Aside0.mk (blk_below hbv.out hb); have hbwn := Aside0.mk (blk_below hbw.out hb); clear HB hbv hbw xv0 fv0 xv1 fv1 xv2 fv2 xw0 fw0 xw1 fw1 xw2 fw2; have HB := HBn; have hbv := hbvn; have hbw := hbwn; clear HBn hbvn hbwn hb; have xv0 : w'.cell? ⟨gv, 0, none⟩ = some (.int .i64 (V0)) := (blk_cell hbv.out 0).trans rfl; have fv0 := blk_frozen hbv.out 0; have xv1 : w'.cell? ⟨gv, 1, none⟩ = some (.int .i64 (V1)) := (blk_cell hbv.out 1).trans rfl; have fv1 := blk_frozen hbv.out 1; have xv2 : w'.cell? ⟨gv, 2, none⟩ = some (.int .i64 (V2)) := (blk_cell hbv.out 2).trans rfl; have fv2 := blk_frozen hbv.out 2; have xw0 : w'.cell? ⟨gw, 0, none⟩ = some (.int .i64 (7)) := (blk_cell hbw.out 0).trans rfl; have fw0 := blk_frozen hbw.out 0; have xw1 : w'.cell? ⟨gw, 1, none⟩ = some (.int .i64 (7)) := (blk_cell hbw.out 1).trans rfl; have fw1 := blk_frozen hbw.out 1; have xw2 : w'.cell? ⟨gw, 2, none⟩ = some (.int .i64 (6)) := (blk_cell hbw.out 2).trans rfl; have fw2 := blk_frozen hbw.out 2)
          go_ret
          exact ⟨rfl, HB.out⟩
        · rw [if_neg c2] at hv
          obtain rfl : W0 = 0 := by omega
          clear c1 c2
          by_cases c3 : W1 = 0
          · rw [if_pos c3] at hv
            obtain ⟨e1, rfl⟩ := hv
            subst c3
            have d1 : (V1 == V0) = true := beq_iff_eq.mpr e1
            clear e1
            have xv0 : wr.cell? ⟨gv, 0, none⟩ = some (.int .i64 (V0)) := (blk_cell hbv.out 0).trans rfl
            have fv0 := blk_frozen hbv.out 0
            have xv1 : wr.cell? ⟨gv, 1, none⟩ = some (.int .i64 (V1)) := (blk_cell hbv.out 1).trans rfl
            have fv1 := blk_frozen hbv.out 1
            have xv2 : wr.cell? ⟨gv, 2, none⟩ = some (.int .i64 (V2)) := (blk_cell hbv.out 2).trans rfl
            have fv2 := blk_frozen hbv.out 2
            have xw0 : wr.cell? ⟨gw, 0, none⟩ = some (.int .i64 (0)) := (blk_cell hbw.out 0).trans rfl
            have fw0 := blk_frozen hbw.out 0
            have xw1 : wr.cell? ⟨gw, 1, none⟩ = some (.int .i64 (0)) := (blk_cell hbw.out 1).trans rfl
            have fw1 := blk_frozen hbw.out 1
            have xw2 : wr.cell? ⟨gw, 2, none⟩ = some (.int .i64 (6)) := (blk_cell hbw.out 2).trans rfl
            have fw2 := blk_frozen hbw.out 2
            go_wp2_with (go_at_call 28; (with_reducible refine (patchbaylaw03_told.calls k true _ HT.out).mono ?_); rintro e w' ⟨rfl, hb⟩; have HBn := Aside0.mk (below_step HB.out hb); have hbvn := Aside0.mk (blk_below hbv.out hb); have hbwn := Aside0.mk (blk_below hbw.out hb); clear HB hbv hbw xv0 fv0 xv1 fv1 xv2 fv2 xw0 fw0 xw1 fw1 xw2 fw2; have HB := HBn; have hbv := hbvn; have hbw := hbwn; clear HBn hbvn hbwn hb; have xv0 : w'.cell? ⟨gv, 0, none⟩ = some (.int .i64 (V0)) := (blk_cell hbv.out 0).trans rfl; have fv0 := blk_frozen hbv.out 0; have xv1 : w'.cell? ⟨gv, 1, none⟩ = some (.int .i64 (V1)) := (blk_cell hbv.out 1).trans rfl; have fv1 := blk_frozen hbv.out 1; have xv2 : w'.cell? ⟨gv, 2, none⟩ = some (.int .i64 (V2)) := (blk_cell hbv.out 2).trans rfl; have fv2 := blk_frozen hbv.out 2; have xw0 : w'.cell? ⟨gw, 0, none⟩ = some (.int .i64 (0)) := (blk_cell hbw.out 0).trans rfl; have fw0 := blk_frozen hbw.out 0; have xw1 : w'.cell? ⟨gw, 1, none⟩ = some (.int .i64 (0)) := (blk_cell hbw.out 1).trans rfl; have fw1 := blk_frozen hbw.out 1; have xw2 : w'.cell? ⟨gw, 2, none⟩ = some (.int .i64 (6)) := (blk_cell hbw.out 2).trans rfl; have fw2 := blk_frozen hbw.out 2)
            go_ret
            exact ⟨rfl, HB.out⟩
          · rw [if_neg c3] at hv
            obtain ⟨rfl, rfl, e1, e2⟩ := hv
            have d1 : (V2 == p) = true := beq_iff_eq.mpr e1
            have d2 : (V0 == p) = true := beq_iff_eq.mpr e2
            clear e1 e2 c3
            have xv0 : wr.cell? ⟨gv, 0, none⟩ = some (.int .i64 (V0)) := (blk_cell hbv.out 0).trans rfl
            have fv0 := blk_frozen hbv.out 0
            have xv1 : wr.cell? ⟨gv, 1, none⟩ = some (.int .i64 (V1)) := (blk_cell hbv.out 1).trans rfl
            have fv1 := blk_frozen hbv.out 1
            have xv2 : wr.cell? ⟨gv, 2, none⟩ = some (.int .i64 (V2)) := (blk_cell hbv.out 2).trans rfl
            have fv2 := blk_frozen hbv.out 2
            have xw0 : wr.cell? ⟨gw, 0, none⟩ = some (.int .i64 (0)) := (blk_cell hbw.out 0).trans rfl
            have fw0 := blk_frozen hbw.out 0
            have xw1 : wr.cell? ⟨gw, 1, none⟩ = some (.int .i64 (6)) := (blk_cell hbw.out 1).trans rfl
            have fw1 := blk_frozen hbw.out 1
            have xw2 : wr.cell? ⟨gw, 2, none⟩ = some (.int .i64 (0)) := (blk_cell hbw.out 2).trans rfl
            have fw2 := blk_frozen hbw.out 2
            go_wp2_with (go_at_call 28; (with_reducible refine (patchbaylaw03_told.calls k true _ HT.out).mono ?_); rintro e w' ⟨rfl, hb⟩; have HBn := Aside0.mk (below_step HB.out hb); have hbvn := Aside0.mk (blk_below hbv.out hb); have hbwn := Aside0.mk (blk_below hbw.out hb); clear HB hbv hbw xv0 fv0 xv1 fv1 xv2 fv2 xw0 fw0 xw1 fw1 xw2 fw2; have HB := HBn; have hbv := hbvn; have hbw := hbwn; clear HBn hbvn hbwn hb; have xv0 : w'.cell? ⟨gv, 0, none⟩ = some (.int .i64 (V0)) := (blk_cell hbv.out 0).trans rfl; have fv0 := blk_frozen hbv.out 0; have xv1 : w'.cell? ⟨gv, 1, none⟩ = some (.int .i64 (V1)) := (blk_cell hbv.out 1).trans rfl; have fv1 := blk_frozen hbv.out 1; have xv2 : w'.cell? ⟨gv, 2, none⟩ = some (.int .i64 (V2)) := (blk_cell hbv.out 2).trans rfl; have fv2 := blk_frozen hbv.out 2; have xw0 : w'.cell? ⟨gw, 0, none⟩ = some (.int .i64 (0)) := (blk_cell hbw.out 0).trans rfl; have fw0 := blk_frozen hbw.out 0; have xw1 : w'.cell? ⟨gw, 1, none⟩ = some (.int .i64 (6)) := (blk_cell hbw.out 1).trans rfl; have fw1 := blk_frozen hbw.out 1; have xw2 : w'.cell? ⟨gw, 2, none⟩ = some (.int .i64 (0)) := (blk_cell hbw.out 2).trans rfl; have fw2 := blk_frozen hbw.out 2)
            go_ret
            exact ⟨rfl, HB.out⟩
/-- What the law answers where its true way is gone. -/
def patchbaylaw03_VlanAccepts.f (k : Nat) (l0 : List Int) (a1 : Int) : Option Bool :=
  if l0.length < 140737488355328 then
    (vlan_Class.f k (l0.take (min l0.length 1600)) (wrap64 (1 + wrap64 ((IntKind.u64.wrap a1).tmod 4094))) 0).bind fun x => (vlan_Class.f k (l0.take (min l0.length 1600)) (wrap64 (1 + wrap64 ((IntKind.u64.wrap a1).tmod 4094))) 1).bind fun y => (vlan_Class.f k (l0.take (min l0.length 1600)) (wrap64 (1 + wrap64 ((IntKind.u64.wrap a1).tmod 4094))) 2).bind fun z => (patchbaylaw03_told.f k).bind fun t =>
      if t = true ∧ (if x.2 ≠ 0 ∧ x.2 ≠ 7 then y.2 = x.2 ∧ z.2 = x.2 else if x.2 = 7 then y.2 = 7 ∧ z.2 = 6 else if y.2 = 0 then y.1 = x.1 ∧ z.2 = 6 else y.2 = 6 ∧ z.2 = 0 ∧ z.1 = wrap64 (1 + wrap64 ((IntKind.u64.wrap a1).tmod 4094)) ∧ x.1 = wrap64 (1 + wrap64 ((IntKind.u64.wrap a1).tmod 4094))) then some true else none
  else none

theorem ite_some {c : Prop} [Decidable c] {r : Bool} (h : (if c then some true else none) = some r) : c ∧ true = r := by
  by_cases hc : c
  · rw [if_pos hc] at h
    exact ⟨hc, Option.some.inj h⟩
  · rw [if_neg hc] at h
    cases h

theorem patchbaylaw03_VlanAccepts.calls (k : Nat) (A0 : Option Addr) (c0 : Nat) (l0 : List Int) (a1 : Int) (r : Bool) (w : World) (hr0 : Kd.C (Kd.int .u8) w A0 l0.length l0) (hc0 : l0.length ≤ c0) (h : patchbaylaw03_VlanAccepts.f k l0 a1 = some r) :
    Calls Try.prog 10 #[.slice A0 l0.length c0, .int .i64 a1] w fun e w' => e = .returned (.bool r) ∧ Below w.heap.size w w' := by
  unfold patchbaylaw03_VlanAccepts.f at h
  by_cases c : l0.length < 140737488355328
  · rw [if_pos c] at h
    obtain ⟨⟨V0, W0⟩, h0, h⟩ := Option.bind_eq_some_iff.mp h
    obtain ⟨⟨V1, W1⟩, h1, h⟩ := Option.bind_eq_some_iff.mp h
    obtain ⟨⟨V2, W2⟩, h2, h⟩ := Option.bind_eq_some_iff.mp h
    obtain ⟨t, hT, h⟩ := Option.bind_eq_some_iff.mp h
    obtain ⟨⟨rfl, hv⟩, rfl⟩ := ite_some h
    exact accepts_ k A0 c0 l0 _ a1 _ V0 V1 V2 W0 W1 W2 w hr0 hc0 rfl c h0 h1 h2 hT rfl hv
  · rw [if_neg c] at h
    cases h
end Go.Proofs.Ytfgdjljbdghdgaa.PVlan
