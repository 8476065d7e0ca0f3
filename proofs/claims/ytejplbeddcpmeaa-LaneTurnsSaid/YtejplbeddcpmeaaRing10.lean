/- Which numbers wait in a ring; no condition. -/
import Derived.Test.YtejplbeddcpmeaaRing8
namespace Go.Proofs.Ytejplbeddcpmeaa.Ring
open Go.RowKit Go.Proofs.YtejplbeddcpmeaaW.PrintWords Go.Proofs.Ytejplbeddcpmeaa.Heap Go.Proofs.Ytejplbeddcpmeaa.Mem
set_option linter.unusedVariables false
set_option linter.unusedSimpArgs false

theorem take_snoc_rd (l : List Int) (k : Nat) (h : k < l.length) : l.take k ++ [rd l (k : Int)] = l.take (k + 1) := by
  rw [List.take_add_one]
  simp [rd, List.getD_eq_getElem?_getD, List.getElem?_eq_getElem h]
theorem RingAt.below {w w' : World} {g : Nat} {p : Mp} {R : RingS} (h : RingAt w g p R) (hb : Below w.heap.size w w') : RingAt w' g p R := Blk.below h hb
theorem MemAt.below {T : TypeId} {w w' : World} {p : Mp} {M : MemS} (h : MemAt T w p M) (hb : Below w.heap.size w w') : MemAt T w' p M := h.chg (S := fun _ => False) (Chg.of_below hb) (fun _ _ => id)
/-- A row of numbers of the call's own. -/
def OwnU (base : Nat) (w : World) (v : Value) (L : List Int) : Prop := w.ownsRow base 29 1 v L.length (nums .u64 L)
set_option maxHeartbeats 4000000 in
set_option maxRecDepth 100000 in
theorem list_ (w : World) (g : Nat) (p : Mp) (M : MemS) (s : LR) (ib ob : Bool) (hm : MemAt 97 w p M) (hr : RingAt w g p (s.ring ib ob)) (hI : s.Inv M) :
    Calls Try.prog 45 #[pt g] w fun e w' => ∃ v, e = .returned v ∧ OwnU w.heap.size w' v s.L ∧ Below w.heap.size w w' := by
  have HM := Aside0.mk hm
  have HR := Aside0.mk hr
  have HI := Aside0.mk hI
  have hg := Blk.lt hr
  have hx0 : w.cell? ⟨g, 0, none⟩ = some (pa p) := (Blk.cell hr 0).trans rfl
  have hx1 : w.cell? ⟨g, 1, none⟩ = some (.int .i64 s.base) := (Blk.cell hr 1).trans rfl
  have hx2 : w.cell? ⟨g, 2, none⟩ = some (.int .i64 s.size) := (Blk.cell hr 2).trans rfl
  have X := Aside0.mk (And.intro hx0 (And.intro hx1 hx2))
  have HLN := Aside0.mk (show IntKind.u64.wrap (M.peek (s.ring ib ob).base - M.peek ((s.ring ib ob).base + 1)) = s.len from by rw [show M.peek (s.ring ib ob).base = _ from hI.put, show M.peek ((s.ring ib ob).base + 1) = _ from hI.tak, waits hI])
  have HB := Aside0.mk (Below.refl w.heap.size w)
  have hln : s.len = (s.L.length : Int) := rfl
  have hll : s.L.length ≤ 64 := by have := hI.len; have := hI.s1; omega
  rw [hln] at HLN
  clear hm hr hI hx0 hx1 hx2 hln
  go_enter Try.func45, Try.ntmps45
  go_wp2_with (go_at_call 34; (refine (len_ _ g p M (s.ring ib ob) HM.out HR.out (ring_ok HI.out _ _) _ HLN.out (by omega)).mono ?_); rintro e w2 ⟨rfl, ⟨nd, hnd⟩⟩; have HBn := Aside0.mk (show Below w.heap.size w w2 from hnd ▸ pw_below_drewN HB.out nd); clear HB hnd; have HB := HBn; clear HBn)
  go_loopg [3, 7] s.L.length (fun kq v3 v7 w' => ∃ k : Nat, Aside0 (kq = s.L.length - k) ∧ k ≤ s.L.length ∧ v7 = .int .i64 (k : Int) ∧ Aside0 (OwnU w.heap.size w' v3 (s.L.take k)) ∧ Aside0 (Below w.heap.size w w'))
  case atStart => exact ⟨0, ⟨by omega⟩, Nat.zero_le _, rfl, ⟨own_nil _ _ _ _⟩, HB⟩
  case round =>
    clear HB
    obtain ⟨k, HKQ, hk, rfl, HO, HB⟩ := hrel
    by_cases hlt : k < s.L.length
    · have hmod := mod_in (s.a + (k : Int)) HI.out.s0
      have hsi := HI.out.s0
      have ha0 := HI.out.a0
      have ha1 := HI.out.a1
      have hs1 := HI.out.s1
      have hb0 := HI.out.b0
      have hb1 := HI.out.b1
      have hb2 := HI.out.b2
      have HPK := Aside0.mk (show ∀ W, MemAt 97 W p M → Calls Try.prog 22 #[pa p, .int .i64 (s.base + 2 + (s.a + (k : Int)) % s.size)] W fun e w' => e = .returned (.int .u64 (rd s.L (k : Int))) ∧ W = w' from fun W h => by have := peek_ W p M (s.slot (k : Int)) h; rw [HI.out.at_ k hlt] at this; exact this)
      have HFI := Aside0.mk (show ∀ W, RingAt W g p (s.ring ib ob) → Calls Try.prog 76 #[pt g] W fun e w' => e = .returned (.int .i64 s.a) ∧ W = w' from fun W h => first_ W g p _ h)
      have HTK := Aside0.mk (take_snoc_rd s.L k hlt)
      have hx0 := (HB.out.cell (p := ⟨g, 0, none⟩) hg).trans X.out.1
      have hx1 := (HB.out.cell (p := ⟨g, 1, none⟩) hg).trans X.out.2.1
      have hx2 := (HB.out.cell (p := ⟨g, 2, none⟩) hg).trans X.out.2.2
      obtain ⟨y, hy⟩ : ∃ y, rd s.L (k : Int) = y := ⟨_, rfl⟩
      rw [hy] at HPK HTK
      have hlk : (s.L.take k).length = k := by rw [List.length_take]; omega
      have HLK := Aside0.mk hlk
      obtain ⟨m, hm⟩ : ∃ m, (s.a + (k : Int)) % s.size = m := ⟨_, rfl⟩
      rw [hm] at hmod HPK
      have hw1 : IntKind.i64.wrap (s.base + 2) = s.base + 2 := i64_id (by omega)
      have hw2 : IntKind.i64.wrap (s.a + (k : Int)) = s.a + (k : Int) := i64_id (by omega)
      have hw3 : (s.a + (k : Int)).tmod s.size = m := by rw [Int.tmod_eq_emod_of_nonneg (by omega)]; exact hm
      have hw5 : IntKind.i64.wrap m = m := i64_id (by omega)
      have hw4 : IntKind.i64.wrap (s.base + 2 + m) = s.base + 2 + m := i64_id (by omega)
      have hz0 : (s.size == 0) = false := beq_eq_false_iff_ne.mpr (by omega)
      have hz1 : (s.size = 0) = False := eq_false (by omega)
      clear hm hy hlk hmod hsi ha0 ha1 hs1 hb0 hb1 hb2
      go_wp2_with fail
      go_region_held3 (fun w' => w'.cell? ⟨g, 0, none⟩ = some (pa p) ∧ w'.cell? ⟨g, 1, none⟩ = some (.int .i64 s.base) ∧ w'.cell? ⟨g, 2, none⟩ = some (.int .i64 s.size)) (first | go_keep | exact ⟨hx0, hx1, hx2⟩)
        (first
          | (go_at_call 22; (with_reducible refine (HPK.out _ (MemAt.below HM.out (by repeat (first | exact HB.out | apply below_alloc | apply pw_below_drewN | apply below_drew1)))).mono ?_); rintro e w' ⟨rfl, rfl⟩)
          | (go_at_call 76; (with_reducible refine (HFI.out _ (RingAt.below HR.out (by repeat (first | exact HB.out | apply below_alloc | apply pw_below_drewN | apply below_drew1)))).mono ?_); rintro e w' ⟨rfl, rfl⟩)
          | (rw [← World.alloc_drew]; refine step_append_cells (w0 := w) w.heap.size rfl (.tmp 10) (.tmp 31) 44 29 (.int .u64 0) 1 8 rfl Try.underlying44 info_u64 rfl (by decide) (by decide) _ (s.L.take k).length (nums .u64 (s.L.take k)) [.int .u64 y] rfl rfl rfl (by intro u hu; simp at hu; subst hu; rfl) (World.ownsRow.drew HO.out) (by repeat (first | exact HB.out | apply below_alloc | apply pw_below_drewN | apply below_drew1)) (below_size (by repeat (first | exact HB.out | apply below_alloc | apply pw_below_drewN | apply below_drew1))) (by rw [HLK.out]; omega) ?_; intro v1 w1 hown hB hgr hat; have HO1 := Aside0.mk hown; have HB1 := Aside0.mk hB; have hx0 := (hB.cell (p := ⟨g, 0, none⟩) hg).trans X.out.1; have hx1 := (hB.cell (p := ⟨g, 1, none⟩) hg).trans X.out.2.1; have hx2 := (hB.cell (p := ⟨g, 2, none⟩) hg).trans X.out.2.2; clear hown hB hgr hat))
      clear hw1 hw2 hw3 hw4 hw5
      go_wp2
      go_roundg (s.L.length - (k + 1))
      case measure => have := HKQ.out; omega
      case rel => exact ⟨k + 1, ⟨rfl⟩, by omega, by simp, ⟨by have h := HO1.out; unfold OwnU; rw [← HTK.out]; simpa [nums] using h⟩, HB1⟩
    · have hkm : k = s.L.length := by omega
      subst hkm
      go_wp2
      go_ret
      exact ⟨_, rfl, by have h := HO.out; rwa [List.take_length] at h, HB.out⟩

end Go.Proofs.Ytejplbeddcpmeaa.Ring
