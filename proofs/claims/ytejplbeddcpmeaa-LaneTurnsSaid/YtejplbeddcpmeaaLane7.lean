/- Rows of rings, slices.Contains and slices.Clone of them, lane.New, a lane's Len; no condition beyond bounds. -/
import Derived.Test.YtejplbeddcpmeaaLane6
import Derived.Lib.SliceRun
namespace Go.Proofs.Ytejplbeddcpmeaa.Lane
open Go.RowKit Go.Proofs.YtejplbeddcpmeaaW.PrintWords Go.Proofs.Ytejplbeddcpmeaa.Heap Go.Proofs.Ytejplbeddcpmeaa.Mem Go.Proofs.Ytejplbeddcpmeaa.Ring
set_option linter.unusedVariables false
set_option linter.unusedSimpArgs false

theorem nil_eql {P : Program} (w : World) (t : TypeId) (p : Addr) (h : P.underlying t = some (.pointer (P.pointee t))) : (binOp .eql t (.pointer none) (.pointer (some p))).run P w = .ok (.bool false) w := by
  have h1 : ∀ d : Nat, (Op.equalIn (d + 1) t (.pointer none) (.pointer (some p))).run P w = .ok false w := fun d => by simp [Op.equalIn, run_underlying h]
  simp only [binOp]
  simp [Op.equal, Op.maxDepth, h1 9999]
def ptr (o : Option Nat) : Value := .pointer (o.map fun g => ⟨g, 0, none⟩)
theorem ptr_one (o : Option Nat) : (ptr o).oneCell' = true := rfl
/-- A row of rings of the call's own. -/
def OwnP (base : Nat) (w : World) (v : Value) (L : List (Option Nat)) : Prop := w.ownsRow base 52 1 v L.length (encs ptr L)
def RdP (w : World) (A : Option Addr) (L : List (Option Nat)) : Prop := ReadsOf ptr none w A L.length L
theorem OwnP.reads {base : Nat} {w : World} {v : Value} {L : List (Option Nat)} (h : OwnP base w v L) : ∃ A c, v = .slice A L.length c ∧ RdP w A L ∧ L.length ≤ c := by
  obtain ⟨A, c, e, h1, h2⟩ := own_reads_of_le (d := none) h
  exact ⟨A, c, e, h2, h1⟩
theorem OwnP.chg {S : Nat → Prop} {base : Nat} {w w' : World} {v : Value} {L : List (Option Nat)} (h : OwnP base w v L) (hc : Chg S w w') (hn : ∀ k cs, Blk w k cs 52 → ¬ S k) : OwnP base w' v L := by
  refine ⟨h.1, ?_⟩
  rcases h.2 with q | ⟨g, cap, cur, e, hb, hg, h1, h2, h3, h4⟩
  · exact .inl q
  · refine .inr ⟨g, cap, cur, e, hb, ?_, h1, h2, h3, h4⟩
    have hB : Blk w g cur.toList 52 := by unfold Blk; simpa using hg
    have := Blk.chg hB hc (hn g _ hB)
    unfold Blk at this
    simpa using this
/-- A row of rings that are there: where it stands. -/
theorem OwnP.row {base : Nat} {w : World} {v : Value} {n : Nat} {gs : Nat → Nat} (h : OwnP base w v ((List.range n).map fun i => some (gs i))) (hn : 0 < n) : ∃ b c, v = .slice (some ⟨b, 0, none⟩) n c ∧ Row w b n gs ∧ base ≤ b := by
  have hl : ((List.range n).map fun i => some (gs i)).length = n := by simp
  rcases h.2 with ⟨e, h0⟩ | ⟨g, cap, cur, e, hb, hg, h1, h2, h3, h4⟩
  · omega
  · refine ⟨g, cap, by rw [e, hl], ⟨cur.toList, by unfold Blk; simpa using hg, fun i hi => ?_⟩, hb⟩
    have h5 := congrArg (fun l => l[i]?) h4
    simp only [Nat.mul_one] at h5
    rw [List.getElem?_take_of_lt (by omega)] at h5
    rw [h5, encs_get (d := none) _ i (by omega)]
    simp [ptr, hi]

set_option maxHeartbeats 1600000 in
set_option maxRecDepth 100000 in
theorem index_ (w : World) (A : Option Addr) (c : Nat) (L : List (Option Nat)) (h : RdP w A L) (hn : L.length ≤ 1000) : Calls Try.prog 83 #[.slice A L.length c, .pointer none] w fun e w' => (∃ r : Int, e = .returned (.int .i64 r) ∧ (decide (0 ≤ r) = L.contains none)) ∧ w = w' := by
  have HR := Aside0.mk h
  clear h
  go_enter Try.func83, Try.ntmps83
  go_wp2
  go_loopg [8] L.length (fun kq v8 wr => ∃ k : Nat, Aside0 (kq = L.length - k) ∧ k ≤ L.length ∧ v8 = .int .i64 (k : Int) ∧ Aside0 (∀ j, j < k → L.getD j none ≠ none) ∧ w = wr)
  case atStart => exact ⟨0, ⟨by omega⟩, by omega, rfl, ⟨fun j hj => absurd hj (by omega)⟩, rfl⟩
  case round =>
    obtain ⟨k, HKQ, hk, rfl, HN, rfl⟩ := hrel
    by_cases hlt : k < L.length
    · obtain ⟨ad, e0, hx⟩ := ReadsOf.at_ HR.out (k : Int) (by omega) (by omega)
      cases e0
      rw [Int.toNat_natCast] at hx
      have hrd : rdOf none L (k : Int) = L.getD k none := by unfold rdOf; rw [Int.toNat_natCast]
      rw [hrd] at hx
      cases ho : L.getD k none with
      | none =>
        rw [ho] at hx
        have hx2 : w.cell? (ad.add k) = some (.pointer none) := hx
        clear hx
        have HIN := Aside0.mk (show L.contains none = true from by
          rw [List.contains_iff_mem]
          rw [List.getD_eq_getElem?_getD, List.getElem?_eq_getElem hlt, Option.getD_some] at ho
          rw [← ho]
          exact List.getElem_mem hlt)
        clear ho hrd
        go_wp2
        go_ret
        exact ⟨⟨(k : Int), rfl, by rw [HIN.out]; exact decide_eq_true (by omega)⟩, rfl⟩
      | some g =>
        rw [ho] at hx
        have hx2 : w.cell? (ad.add k) = some (.pointer (some ⟨g, 0, none⟩)) := hx
        have HG := Aside0.mk ho
        have heq : ∀ W : World, (binOp .eql 52 (.pointer none) (.pointer (some ⟨g, 0, none⟩))).run Try.prog W = .ok (.bool false) W := fun W => nil_eql W 52 _ (by kernel_rfl)
        clear hx ho hrd
        go_wp2
        go_roundg (L.length - (k + 1))
        case measure => have := HKQ.out; omega
        case rel => exact ⟨k + 1, ⟨rfl⟩, by omega, by simp, ⟨fun j hj => by
          by_cases e : j = k
          · rw [e, HG.out]; simp
          · exact HN.out j (by omega)⟩, rfl⟩
    · obtain rfl : k = L.length := by omega
      have HIN := Aside0.mk (show L.contains none = false from by
        rw [Bool.eq_false_iff]
        intro hc
        rw [List.contains_iff_mem] at hc
        obtain ⟨j, hj, e⟩ := List.getElem_of_mem hc
        refine HN.out j hj ?_
        rw [List.getD_eq_getElem?_getD, List.getElem?_eq_getElem hj, Option.getD_some]
        exact e)
      go_wp2
      go_ret
      exact ⟨⟨-1, rfl, by rw [HIN.out]; rfl⟩, rfl⟩
theorem contains_ (w : World) (A : Option Addr) (c : Nat) (L : List (Option Nat)) (h : RdP w A L) (hn : L.length ≤ 1000) : Calls Try.prog 77 #[.slice A L.length c, .pointer none] w fun e w' => e = .returned (.bool (L.contains none)) ∧ w = w' := by
  have HI := Aside0.mk (index_ w A c L h hn)
  clear h
  obtain ⟨b, hb⟩ : ∃ b, L.contains none = b := ⟨_, rfl⟩
  rw [hb] at HI ⊢
  go_enter Try.func77, Try.ntmps77
  go_wp2_with (go_at_call 83; (with_reducible refine HI.out.mono ?_); rintro e w' ⟨⟨r, rfl, hr⟩, rfl⟩)
  go_ret
  exact ⟨by rw [← hr]; rfl, rfl⟩

set_option maxHeartbeats 1600000 in
set_option maxRecDepth 100000 in
theorem clone_ (w : World) (A : Option Addr) (c : Nat) (L : List (Option Nat)) (h : RdP w A L) (hn : L.length ≤ 1000) (h0 : 0 < L.length) : Calls Try.prog 78 #[.slice A L.length c] w fun e w' => ∃ v, e = .returned v ∧ OwnP w.heap.size w' v L ∧ Below w.heap.size w w' := by
  obtain ⟨ad, hA, _⟩ := h.2.2 h0
  subst hA
  have HR := Aside0.mk h
  have HB := Aside0.mk (Below.refl w.heap.size w)
  have hq := fun wx => Lib.run_eql_slice_nil (P := Try.prog) wx 88 52 (some ad) L.length c 0 0 Try.underlying88
  clear h
  go_enter Try.func78, Try.ntmps78
  go_wp2_with (at_builtin; refine print_append_row_of (w0 := w) (W := w.alloc (.cells #[] 52)) ptr none w.heap.size rfl (.tmp 5) (.tmp 6) 88 52 (.pointer none) 8 rfl Try.underlying88 (by kernel_rfl) rfl (by omega) ptr_one (.slice (some ⟨w.heap.size, 0, none⟩) 0 0) [] L (some ad) L.length c rfl rfl ?own (HR.out.below (below_alloc (Below.refl _ _) _)) (below_alloc HB.out _) ?sz (by simp; omega) ?_; (case own => exact (by have h := World.ownsRow_lit (base := w.heap.size) (e := 52) (size := 1) w #[] 0 (Nat.le_refl _) (by simp [maxLen]) (by simp); simpa [encs] using h)); (case sz => exact below_size (below_alloc HB.out _)); intro v1 w1 hown hb hgr hat; have HO := Aside0.mk hown; have HB1 := Aside0.mk hb; clear hown hb hgr hat)
  go_ret
  exact ⟨v1, rfl, by have h := HO.out; simpa [OwnP] using h, HB1.out⟩
end Go.Proofs.Ytejplbeddcpmeaa.Lane
