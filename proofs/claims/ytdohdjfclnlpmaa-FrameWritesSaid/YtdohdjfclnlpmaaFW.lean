/- slices.Grow of a row that isn't there, and slices.Concat of two rows of bytes: contracts, by hand; no condition beyond the sum's bound. -/
import Derived.Test.YtdohdjfclnlpmaaPFramex8
namespace Go.Proofs.Ytdohdjfclnlpmaa.PFrame
open Go.RowKit Go.Proofs.YtdohdjfclnlpmaaW.PrintWords Go.Proofs.YtdohdjfclnlpmaaW.PrintLast Go.Proofs.YtdohdjfclnlpmaaW.PrintMore
set_option linter.unusedVariables false
set_option linter.unusedSimpArgs false

set_option maxHeartbeats 8000000 in
set_option maxRecDepth 100000 in
theorem grow_ (n : Nat) (hn : n < 140737488355328) (w : World) :
    Calls Try.prog 62 #[.slice none 0 0, .int .i64 n] w fun e w' => ∃ (A : Option Addr) (c : Nat), e = .returned (.slice A 0 c) ∧ Kd.R (Kd.int .u8) 5 w' w.heap.size (fun _ => True) (.slice A 0 c) ([] : List Int) ∧ Below w.heap.size w w' := by
  have h1 : ¬ ((n : Int) < 0) := by omega
  have h2 : IntKind.i64.wrap (n : Int) = (n : Int) := by rw [IntKind.wrap_i64]; omega
  have h5 : decide ((n : Int) < 0) = false := decide_eq_false (by omega)
  have h0 : ((0 : Int) ≤ (n : Int)) := by omega
  have HB := Aside0.mk (Below.refl w.heap.size w)
  have HO := Aside0.mk (Kd.R_nil (Kd.int .u8) 5 w w.heap.size (fun _ => True))
  have HN := Aside0.mk hn
  have HN0 := Aside0.mk h0
  clear hn h0
  by_cases hn0 : 0 < n
  · have h4 : decide ((n : Int) > 0) = true := decide_eq_true (by omega)
    go_enter Try.func62, Try.ntmps62
    go_wp2_with (at_builtin; refine Kd.R_append_zeros (Kd.int .u8) (w0 := w) w.heap.size rfl (.tmp 20) (.tmp 21) 22 3 5 (.int .u8 0) 1 rfl Try.underlying22 Try.underlying3 info5 rfl (by decide) (by omega) (.slice none 0 0) ([] : List Int) 0 (n : Int) (fun _ => True) rfl rfl rfl ?aF ?aO HN0.out ?aB ?aS ?aL ?_; (case aB => exact HB.out); (case aF => exact (fun _ _ => trivial)); (case aO => exact HO.out); (case aS => exact (below_size HB.out)); (case aL => have := HN.out; simp; omega); intro v w6 ho hb hg hat; have HB2 := Aside0.mk hb; have HO2 := Aside0.mk ho; clear HB HO ho hb hg hat; have HB := HB2; clear HB2; obtain ⟨A1, c1, e1⟩ := Kd.R_slice HO2.out; subst e1; obtain ⟨i0, hi0, _, hsz, _⟩ := info_parts info5; have hcut := (print_take_of (P := Try.prog) (Value.int .u8) 0 22 5 .i64 Try.underlying22 hi0 hsz A1 c1 ([] ++ List.replicate ((n : Int)).toNat (0 : Int)) 0 (by omega) (by omega) (Kd.R_reads' HO2.out).2.1).1; have HO3 := Aside0.mk (Kd.R_take HO2.out (m := 0) (Nat.zero_le _)); simp only [Int.toNat_zero, List.take_zero, List.length_nil] at hcut HO3; clear HO2 hi0 hsz)
    go_ret
    exact ⟨A1, c1, rfl, HO3.out, HB.out⟩
  · have h4 : decide ((n : Int) > 0) = false := decide_eq_false (by omega)
    go_enter Try.func62, Try.ntmps62
    go_wp2
    go_ret
    exact ⟨none, 0, rfl, HO.out, HB.out⟩

def sumk (n1 n2 : Nat) : Nat → Nat
  | 0 => 0
  | 1 => n1
  | _ => n1 + n2
def catk (l1 l2 : List Int) : Nat → List Int
  | 0 => []
  | 1 => l1
  | _ => l1 ++ l2

set_option maxHeartbeats 8000000 in
set_option maxRecDepth 100000 in
theorem concat_ (g : Nat) (A1 A2 : Option Addr) (c1 c2 : Nat) (l1 l2 : List Int) (w : World) (hb : w.heap[g]? = some (.cells #[.slice A1 l1.length c1, .slice A2 l2.length c2] 22 (0, 0))) (h1 : Kd.C (Kd.int .u8) w A1 l1.length l1) (h2 : Kd.C (Kd.int .u8) w A2 l2.length l2) (hn : l1.length + l2.length < 140737488355328) :
    Calls Try.prog 59 #[.slice (some ⟨g, 0, none⟩) 2 2] w fun e w' => ∃ v : Value, e = .returned v ∧ Kd.R (Kd.int .u8) 5 w' w.heap.size (fun _ => True) v (l1 ++ l2) ∧ Below w.heap.size w w' := by
  have HB := Aside0.mk (Below.refl w.heap.size w)
  have H1 := Aside0.mk h1
  have H2 := Aside0.mk h2
  have HN := Aside0.mk hn
  have HS := Aside0.mk (show sumk l1.length l2.length 2 < 140737488355328 from hn)
  have X0 := Aside0.mk ((blk_cell hb 0).trans rfl : w.cell? ⟨g, 0, none⟩ = some (.slice A1 l1.length c1))
  have X1 := Aside0.mk ((blk_cell hb 1).trans rfl : w.cell? ⟨g, 1, none⟩ = some (.slice A2 l2.length c2))
  have x0 := X0.out
  have x1 := X1.out
  clear h1 h2 hb hn
  go_enter Try.func59, Try.ntmps59
  go_wp2
  go_loopg [3, 11] 2 (fun kq v3 v11 wr => ∃ k : Nat, Aside0 (kq = 2 - k) ∧ k ≤ 2 ∧ v3 = .int .i64 (sumk l1.length l2.length k : Nat) ∧ v11 = .int .i64 (k : Int) ∧ Aside0 (Below w.heap.size w wr))
  case atStart => exact ⟨0, ⟨by omega⟩, by omega, rfl, rfl, HB⟩
  case round =>
    clear x0 x1 HB
    obtain ⟨k, HKQ, hk, rfl, rfl, HB⟩ := hrel
    have x0 := (HB.out.cell (World.block_lt_of_cell? w _ X0.out)).trans X0.out
    have x1 := (HB.out.cell (World.block_lt_of_cell? w _ X1.out)).trans X1.out
    rcases (by omega : k = 0 ∨ k = 1 ∨ k = 2) with rfl | rfl | rfl
    · have e1 : IntKind.i64.wrap ((sumk l1.length l2.length 0 : Nat) + (l1.length : Int)) = (sumk l1.length l2.length 1 : Nat) := by rw [IntKind.wrap_i64]; have := HN.out; have s0 : sumk l1.length l2.length 0 = 0 := rfl; have s1 : sumk l1.length l2.length 1 = l1.length := rfl; have s2 : sumk l1.length l2.length 2 = l1.length + l2.length := rfl; omega
      have e2 : decide (((sumk l1.length l2.length 1 : Nat) : Int) < 0) = false := decide_eq_false (by omega)
      go_wp2
      go_roundg (1)
      case measure => have := HKQ.out; omega
      case rel => exact ⟨1, ⟨rfl⟩, by omega, by simp [*], by simp, HB⟩
    · have e1 : IntKind.i64.wrap ((sumk l1.length l2.length 1 : Nat) + (l2.length : Int)) = (sumk l1.length l2.length 2 : Nat) := by rw [IntKind.wrap_i64]; have := HN.out; have s0 : sumk l1.length l2.length 0 = 0 := rfl; have s1 : sumk l1.length l2.length 1 = l1.length := rfl; have s2 : sumk l1.length l2.length 2 = l1.length + l2.length := rfl; omega
      have e2 : decide (((sumk l1.length l2.length 2 : Nat) : Int) < 0) = false := decide_eq_false (by omega)
      go_wp2
      go_roundg (0)
      case measure => have := HKQ.out; omega
      case rel => exact ⟨2, ⟨rfl⟩, by omega, by simp [*], by simp, HB⟩
    · go_wp2_with (go_at_call 62; (with_reducible refine (grow_ (sumk l1.length l2.length 2) HS.out _).mono ?_); rintro e w' ⟨A3, c3, rfl, ho, hb⟩; have HBn := Aside0.mk (below_step HB.out hb); have HO := Aside0.mk (Kd.R_lower ho (below_size HB.out)); clear HB; have HB := HBn; clear HBn x0 x1 ho hb; have x0 := (HB.out.cell (World.block_lt_of_cell? w _ X0.out)).trans X0.out; have x1 := (HB.out.cell (World.block_lt_of_cell? w _ X1.out)).trans X1.out)
      go_loopg [6, 27] 2 (fun kq v6 v27 wr => ∃ (k : Nat) (A : Option Addr) (c : Nat), Aside0 (kq = 2 - k) ∧ k ≤ 2 ∧ v6 = .slice A (catk l1 l2 k).length c ∧ v27 = .int .i64 (k : Int) ∧ Aside0 (Kd.R (Kd.int .u8) 5 wr w.heap.size (fun _ => True) (.slice A (catk l1 l2 k).length c) (catk l1 l2 k)) ∧ Aside0 (Below w.heap.size w wr))
      case atStart => exact ⟨0, A3, c3, ⟨by omega⟩, by omega, rfl, rfl, HO, HB⟩
      case round =>
        clear x0 x1 HB HO HKQ
        obtain ⟨k, A, c, HKQ, hk, rfl, rfl, HO, HB⟩ := hrel
        have x0 := (HB.out.cell (World.block_lt_of_cell? w _ X0.out)).trans X0.out
        have x1 := (HB.out.cell (World.block_lt_of_cell? w _ X1.out)).trans X1.out
        rcases (by omega : k = 0 ∨ k = 1 ∨ k = 2) with rfl | rfl | rfl
        · go_wp2_with ((with_reducible refine gate_builtin (b := .append) (xs := #[.tmp 31, .tmp 32]) rfl ?_); at_builtin; refine Kd.R_append_rows (Kd.int .u8) (w0 := w) w.heap.size rfl (.tmp 31) (.tmp 32) 22 5 (.int .u8 0) 1 rfl Try.underlying22 info5 rfl (by decide) (by omega) (.slice A (catk l1 l2 0).length c) (catk l1 l2 0) l1 _ _ _ (fun _ => True) (fun _ => False) rfl rfl ?aO ?aR (fun _ _ h => h) (fun _ h => h.elim) ?aF ?aB ?aS ?aL ?_; (case aR => exact (Kd.C_below H1.out HB.out)); (case aB => exact HB.out); (case aF => exact (fun _ _ => trivial)); (case aO => exact HO.out); (case aS => exact (below_size HB.out)); (case aL => have := HN.out; simp [catk]; omega); intro v w5 ho hb hg hat; have HB2 := Aside0.mk hb; have HO2 := Aside0.mk ho; clear HB HO ho hb hg hat; have HB := HB2; clear HB2; obtain ⟨A5, c5, e5⟩ := Kd.R_slice HO2.out; subst e5)
          go_roundg (1)
          case measure => have := HKQ.out; omega
          case rel => exact ⟨1, A5, c5, ⟨rfl⟩, by omega, by simp [catk], by simp, HO2, HB⟩
        · go_wp2_with ((with_reducible refine gate_builtin (b := .append) (xs := #[.tmp 31, .tmp 32]) rfl ?_); at_builtin; refine Kd.R_append_rows (Kd.int .u8) (w0 := w) w.heap.size rfl (.tmp 31) (.tmp 32) 22 5 (.int .u8 0) 1 rfl Try.underlying22 info5 rfl (by decide) (by omega) (.slice A (catk l1 l2 1).length c) (catk l1 l2 1) l2 _ _ _ (fun _ => True) (fun _ => False) rfl rfl ?aO ?aR (fun _ _ h => h) (fun _ h => h.elim) ?aF ?aB ?aS ?aL ?_; (case aR => exact (Kd.C_below H2.out HB.out)); (case aB => exact HB.out); (case aF => exact (fun _ _ => trivial)); (case aO => exact HO.out); (case aS => exact (below_size HB.out)); (case aL => have := HN.out; simp [catk]; omega); intro v w5 ho hb hg hat; have HB2 := Aside0.mk hb; have HO2 := Aside0.mk ho; clear HB HO ho hb hg hat; have HB := HB2; clear HB2; obtain ⟨A5, c5, e5⟩ := Kd.R_slice HO2.out; subst e5)
          go_roundg (0)
          case measure => have := HKQ.out; omega
          case rel => exact ⟨2, A5, c5, ⟨rfl⟩, by omega, by simp [catk], by simp, HO2, HB⟩
        · go_wp2
          go_ret
          exact ⟨_, rfl, HO.out, HB.out⟩
end Go.Proofs.Ytdohdjfclnlpmaa.PFrame
