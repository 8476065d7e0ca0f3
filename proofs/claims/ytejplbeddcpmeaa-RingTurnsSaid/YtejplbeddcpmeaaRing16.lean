/- Two that put and take by turns: what holds of their acts, and of each one's next step; no condition. -/
import Derived.Test.YtejplbeddcpmeaaRing15
namespace Go.Proofs.Ytejplbeddcpmeaa.Ring
open Go.RowKit Go.Proofs.YtejplbeddcpmeaaW.PrintWords Go.Proofs.Ytejplbeddcpmeaa.Heap Go.Proofs.Ytejplbeddcpmeaa.Mem
set_option linter.unusedVariables false
set_option linter.unusedSimpArgs false

theorem store_ge (M : MemS) (i v : Int) : M.time ≤ (M.store i v).time := by unfold MemS.store; split <;> (try simp only []) <;> omega
theorem int_get {w : World} {A : Option Addr} {n : Nat} {xs : List Int} (h : Kd.C (Kd.int .i64) w A n xs) {i : Nat} (hi : i < n) : ∃ ad, A = some ad ∧ w.cell? (ad.add i) = some (.int .i64 (rd xs (i : Int))) := by
  obtain ⟨ad, c, hA, hl, hK, hc⟩ := Kd.C_get h 0 (i : Int) (by omega) (by omega)
  have hK' : c = [.int .i64 (xs.getD (i : Int).toNat 0)] := hK
  subst hK'
  refine ⟨ad, hA, ?_⟩
  have h_ := hc 0 _ rfl
  have e : (i : Int).toNat * (Kd.int .i64).sz + 0 = i := by show (i : Int).toNat * 1 + 0 = i; omega
  rw [e] at h_
  exact h_
/-- Things without a like, all below n: n at the most. -/
theorem few_below : ∀ (n : Nat) (H : List Nat), H.Nodup → (∀ i, i ∈ H → i < n) → H.length ≤ n := by
  intro n
  induction n with
  | zero => intro H _ h; cases H with
    | nil => exact Nat.le_refl _
    | cons a l => have := h a (by simp); omega
  | succ n ih =>
    intro H hn h
    have h1 := ih (H.erase n) (hn.erase n) (fun i hi => by
      have := (hn.mem_erase_iff).1 hi
      have := h i this.2
      omega)
    have h2 : H.length ≤ (H.erase n).length + 1 := by rw [List.length_erase]; split <;> omega
    omega
theorem Hist.few {n : Int} {vs : List Int} {As : List ActS} {ps : List Int} {H : List Nat} {Ls : Nat → List Int} {L : List Int} {T : Int} (h : Hist n vs As ps H Ls L T) {m : Nat} (hm : As.length ≤ m) : H.length ≤ m := by
  have hnd : H.Nodup := h.so.imp (fun {a b} hab e => by subst e; omega)
  exact Nat.le_trans (few_below _ H hnd h.lt) hm
structure TI (n : Int) (vs : List Int) (M : MemS) (s : LR) (ib ob : Bool) (As : List ActS) (ps fs : List Int) (st0 st1 n0 n1 : Int) (H : List Nat) (Ls : Nat → List Int) : Prop where
  hist : Hist n vs As ps H Ls s.L M.time
  fl : fs.length = As.length
  ft : ∀ (i : Nat) (f : Int), fs[i]? = some f → f ≤ M.time
  sz : s.size = n
  t0 : 0 ≤ M.time
  e0 : (n0 = -1 ∧ ib = false) ∨ ∃ (d : Nat) (A : ActS) (q : Int), n0 = d ∧ ib = true ∧ As[d]? = some A ∧ ps[d]? = some q ∧ 0 ≤ q ∧ PP s A st0 (rd vs q)
  e1 : (n1 = -1 ∧ ob = false) ∨ ∃ (d : Nat) (A : ActS), n1 = d ∧ ob = true ∧ As[d]? = some A ∧ ps[d]? = some (-1) ∧ GP s A st1
theorem PP.over {s : LR} {A : ActS} {c v : Int} (h : PP s A c v) : A.over = false ∧ A.mark = 0 ∧ A.push = true ∧ c ≤ 2 ∧ 0 ≤ c := by
  rcases h with ⟨rfl, rfl⟩ | ⟨rfl, _, rfl⟩ | ⟨rfl, _, rfl⟩ <;> exact ⟨rfl, rfl, rfl, by decide, by decide⟩
theorem GP.over {s : LR} {A : ActS} {c : Int} (h : GP s A c) : A.over = false ∧ A.mark = 0 ∧ A.push = false ∧ c ≤ 2 ∧ 0 ≤ c := by
  rcases h with ⟨rfl, rfl⟩ | ⟨rfl, _, rfl⟩ | ⟨_, _, rfl, _, rfl⟩ <;> exact ⟨rfl, rfl, rfl, by decide, by decide⟩
section
variable {n : Int} {vs : List Int} {M : MemS} {s : LR} {ib ob : Bool} {As : List ActS} {ps fs : List Int} {st0 st1 n0 n1 : Int} {H : List Nat} {Ls : Nat → List Int}
theorem app_old {α : Type} {l : List α} {d : Nat} {a b : α} (h : l[d]? = some a) : (l ++ [b])[d]? = some a := by
  rw [List.getElem?_append_left (List.getElem?_eq_some_iff.1 h).1]; exact h
theorem TI.begin0 (h : TI n vs M s ib ob As ps fs st0 st1 n0 n1 H Ls) (k : Nat) : TI n vs M s true ob (As ++ [⟨true, 74, rd vs (k : Int), false, 0, false⟩]) (ps ++ [(k : Int)]) (fs ++ [M.time]) 0 st1 (As.length : Int) n1 H Ls := by
  refine ⟨h.hist.begin _ _ rfl rfl, by simp [h.fl], fun i f hf => ?_, h.sz, h.t0, .inr ⟨As.length, _, _, rfl, rfl, List.getElem?_concat_length, ?_, by omega, .inl ⟨rfl, rfl⟩⟩, ?_⟩
  · rcases app_get hf with ⟨_, rfl⟩ | ⟨_, hf⟩
    · exact Int.le_refl _
    · exact h.ft i f hf
  · rw [← h.hist.len]; exact List.getElem?_concat_length
  · rcases h.e1 with e | ⟨d, A, h1, h2, h3, h4, h5⟩
    · exact .inl e
    · exact .inr ⟨d, A, h1, h2, app_old h3, app_old h4, h5⟩
theorem TI.begin1 (h : TI n vs M s ib ob As ps fs st0 st1 n0 n1 H Ls) : TI n vs M s ib true (As ++ [⟨false, 75, 0, false, 0, false⟩]) (ps ++ [-1]) (fs ++ [M.time]) st0 0 n0 (As.length : Int) H Ls := by
  refine ⟨h.hist.begin _ _ rfl rfl, by simp [h.fl], fun i f hf => ?_, h.sz, h.t0, ?_, .inr ⟨As.length, _, rfl, rfl, List.getElem?_concat_length, ?_, .inl ⟨rfl, rfl⟩⟩⟩
  · rcases app_get hf with ⟨_, rfl⟩ | ⟨_, hf⟩
    · exact Int.le_refl _
    · exact h.ft i f hf
  · rcases h.e0 with e | ⟨d, A, q, h1, h2, h3, h4, h5, h6⟩
    · exact .inl e
    · exact .inr ⟨d, A, q, h1, h2, app_old h3, app_old h4, h5, h6⟩
  · rw [← h.hist.len]; exact List.getElem?_concat_length

theorem set_old {α : Type} {l : List α} {d e : Nat} {a b : α} (h : l[e]? = some a) (hne : d ≠ e) : (l.set d b)[e]? = some a := by
  rw [List.getElem?_set_ne hne]; exact h

/-- The next step of who puts. -/
theorem t_step0 {w0 w : World} {p : Mp} {g B : Nat} {xs ys : List Nat} {v12 v13 v14 : Value} {sb nb : Nat} {c0 c1 m1 : Int} {d : Nat} {A : ActS} {q : Int} {x : Nat}
    (h : TW w0 w p g B M s true ob xs ys As v12 v13 v14 ps fs sb nb c0 c1 (d : Int) m1) (hi : TI n vs M s true ob As ps fs st0 st1 (d : Int) n1 H Ls) (ht : M.time < 4611686018427387900)
    (hx : xs[d]? = some x) (hA : As[d]? = some A) (hq : ps[d]? = some q) (hq0 : 0 ≤ q) (hp : PP s A st0 (rd vs q)) :
    Calls Try.prog 36 #[pt x] w fun e w' => ∃ (b : Bool) (M' : MemS) (s' : LR) (A' : ActS), e = .returned (.bool b) ∧ M'.time = M.time + 1 ∧ (As.set d A')[d]? = some A' ∧
      TW w0 w' p g B M' s' (!b) ob xs ys (As.set d A') v12 v13 v14 ps fs sb nb c0 c1 (d : Int) m1 ∧
      (b = false → TI n vs M' s' true ob (As.set d A') ps fs (st0 + 1) st1 (d : Int) n1 H Ls) ∧
      (b = true → A'.mark = M.time + 1 ∧ ∃ Ls', ∀ c, TI n vs M' s' false ob (As.set d A') ps fs c st1 (-1) n1 (H ++ [d]) Ls') := by
  have hax := h.a d x A hx hA
  have hlt : d < As.length := (List.getElem?_eq_some_iff.1 hA).1
  have hall : All w p g x M (s.ring true ob) A := ⟨h.m, h.r, hax.1, ring_ok h.i _ _, hax.2.2⟩
  have ho := PP.over hp
  refine (push_step w p g x M s ob A st0 (rd vs q) hall h.i ht hp).mono ?_
  rintro e w' ⟨M', s', A', ⟨rfl, hr, hL, hp'⟩ | ⟨rfl, hr, a1, a2, a3, hL⟩⟩
  · have ho' := PP.over hp'
    have hT : M'.time = M.time + 1 := hr.t
    refine ⟨false, M', s', A', rfl, hT, List.getElem?_set_self hlt, h.step hx hA hr.all hr.inv hr.chg, fun _ => ?_, fun e => by cases e⟩
    refine ⟨by rw [hL]; exact (hi.hist.goes hA ho.1 ho'.1 ho'.2.1).more (by omega), by simpa using hi.fl, fun i f hf => by have := hi.ft i f hf; omega, by rw [hr.sz]; exact hi.sz, by have := hi.t0; omega, .inr ⟨d, A', q, rfl, rfl, List.getElem?_set_self hlt, hq, hq0, hp'⟩, ?_⟩
    rcases hi.e1 with e | ⟨d1, A1, h1, h2, h3, h4, h5⟩
    · exact .inl e
    · have hne : d ≠ d1 := fun e => by subst e; rw [hA] at h3; cases h3; have := (GP.over h5).2.2.1; rw [ho.2.2.1] at this; cases this
      exact .inr ⟨d1, A1, h1, h2, set_old h3 hne, h4, h5.same hL⟩
  · have hT : M'.time = M.time + 1 := hr.t
    have hln : (s.L.length : Int) = s.len := rfl
    refine ⟨true, M', s', A', rfl, hT, List.getElem?_set_self hlt, h.step hx hA hr.all hr.inv hr.chg, (fun e => by cases e), fun _ => ⟨a2, (fun j => if j ≤ H.length then Ls j else s'.L), fun c => ⟨?_, by simpa using hi.fl, fun i f hf => by have := hi.ft i f hf; omega, by rw [hr.sz]; exact hi.sz, by have := hi.t0; omega, .inl ⟨rfl, rfl⟩, ?_⟩⟩⟩
    · rw [hT]
      refine hi.hist.done hi.t0 hA hq ho.1 a1 a2 ?_
      unfold RSt
      rw [if_pos hq0]
      rcases hL with ⟨b1, b2, b3⟩ | ⟨b1, b2, b3⟩
      · exact .inl ⟨by rw [hln]; have := hi.sz; omega, b1, a3, b3⟩
      · exact .inr ⟨by rw [hln]; have := hi.sz; omega, b1, b3⟩
    · rcases hi.e1 with e | ⟨d1, A1, h1, h2, h3, h4, h5⟩
      · exact .inl e
      · have hne : d ≠ d1 := fun e => by subst e; rw [hA] at h3; cases h3; have := (GP.over h5).2.2.1; rw [ho.2.2.1] at this; cases this
        refine .inr ⟨d1, A1, h1, h2, set_old h3 hne, h4, ?_⟩
        rcases hL with ⟨b1, b2, b3⟩ | ⟨b1, b2, b3⟩
        · exact h5.push b3
        · exact h5.same b3
/-- The next step of who takes. -/
theorem t_step1 {w0 w : World} {p : Mp} {g B : Nat} {xs ys : List Nat} {v12 v13 v14 : Value} {sb nb : Nat} {c0 c1 m0 : Int} {d : Nat} {A : ActS} {x : Nat}
    (h : TW w0 w p g B M s ib true xs ys As v12 v13 v14 ps fs sb nb c0 c1 m0 (d : Int)) (hi : TI n vs M s ib true As ps fs st0 st1 n0 (d : Int) H Ls) (ht : M.time < 4611686018427387900)
    (hx : xs[d]? = some x) (hA : As[d]? = some A) (hq : ps[d]? = some (-1)) (hp : GP s A st1) :
    Calls Try.prog 36 #[pt x] w fun e w' => ∃ (b : Bool) (M' : MemS) (s' : LR) (A' : ActS), e = .returned (.bool b) ∧ M'.time = M.time + 1 ∧ (As.set d A')[d]? = some A' ∧
      TW w0 w' p g B M' s' ib (!b) xs ys (As.set d A') v12 v13 v14 ps fs sb nb c0 c1 m0 (d : Int) ∧
      (b = false → TI n vs M' s' ib true (As.set d A') ps fs st0 (st1 + 1) n0 (d : Int) H Ls) ∧
      (b = true → A'.mark = M.time + 1 ∧ ∃ Ls', ∀ c, TI n vs M' s' ib false (As.set d A') ps fs st0 c n0 (-1) (H ++ [d]) Ls') := by
  have hax := h.a d x A hx hA
  have hlt : d < As.length := (List.getElem?_eq_some_iff.1 hA).1
  have hall : All w p g x M (s.ring ib true) A := ⟨h.m, h.r, hax.1, ring_ok h.i _ _, hax.2.2⟩
  have ho := GP.over hp
  refine (pop_step w p g x M s ib A st1 hall h.i ht hp).mono ?_
  rintro e w' ⟨M', s', A', ⟨rfl, hr, hL, hp'⟩ | ⟨rfl, hr, a1, a2, a3, hL⟩⟩
  · have ho' := GP.over hp'
    have hT : M'.time = M.time + 1 := hr.t
    refine ⟨false, M', s', A', rfl, hT, List.getElem?_set_self hlt, h.step hx hA hr.all hr.inv hr.chg, fun _ => ?_, fun e => by cases e⟩
    refine ⟨by rw [hL.1]; exact (hi.hist.goes hA ho.1 ho'.1 ho'.2.1).more (by omega), by simpa using hi.fl, fun i f hf => by have := hi.ft i f hf; omega, by rw [hr.sz]; exact hi.sz, by have := hi.t0; omega, ?_, .inr ⟨d, A', rfl, rfl, List.getElem?_set_self hlt, hq, hp'⟩⟩
    rcases hi.e0 with e | ⟨d1, A1, q1, h1, h2, h3, h4, h5, h6⟩
    · exact .inl e
    · have hne : d ≠ d1 := fun e => by subst e; rw [hA] at h3; cases h3; have := (PP.over h6).2.2.1; rw [ho.2.2.1] at this; cases this
      exact .inr ⟨d1, A1, q1, h1, h2, set_old h3 hne, h4, h5, h6.keep (by unfold LR.len; rw [hL.1]; exact Int.le_refl _) hr.sz hL.2⟩
  · have hT : M'.time = M.time + 1 := hr.t
    refine ⟨true, M', s', A', rfl, hT, List.getElem?_set_self hlt, h.step hx hA hr.all hr.inv hr.chg, (fun e => by cases e), fun _ => ⟨a2, (fun j => if j ≤ H.length then Ls j else s'.L), fun c => ⟨?_, by simpa using hi.fl, fun i f hf => by have := hi.ft i f hf; omega, by rw [hr.sz]; exact hi.sz, by have := hi.t0; omega, ?_, .inl ⟨rfl, rfl⟩⟩⟩⟩
    · rw [hT]
      refine hi.hist.done hi.t0 hA hq ho.1 a1 a2 ?_
      unfold RSt
      rw [if_neg (by decide)]
      rcases hL with ⟨b1, b2⟩ | ⟨b1, b2, b3⟩
      · exact .inl ⟨b2, b1⟩
      · exact .inr ⟨b2, b1, b3⟩
    · rcases hi.e0 with e | ⟨d1, A1, q1, h1, h2, h3, h4, h5, h6⟩
      · exact .inl e
      · have hne : d ≠ d1 := fun e => by subst e; rw [hA] at h3; cases h3; have := (PP.over h6).2.2.1; rw [ho.2.2.1] at this; cases this
        refine .inr ⟨d1, A1, q1, h1, h2, set_old h3 hne, h4, h5, h6.keep ?_ hr.sz a3⟩
        unfold LR.len
        rcases hL with ⟨b1, b2⟩ | ⟨b1, b2, b3⟩
        · rw [b2, List.length_cons]; omega
        · rw [b2, b3]; exact Int.le_refl _
end

section
variable {w0 w : World} {p : Mp} {g B : Nat} {M : MemS} {s : LR} {ib ob : Bool} {xs ys : List Nat} {As : List ActS} {v12 v13 v14 : Value} {ps fs : List Int} {sb nb : Nat} {st0 st1 n0 n1 : Int}
theorem t_time (w : World) (h : TW w0 w p g B M s ib ob xs ys As v12 v13 v14 ps fs sb nb st0 st1 n0 n1) (t : Int) (ht : M.time = t) : Calls Try.prog 27 #[pa p] w fun e w' => e = .returned (.int .i64 t) ∧ w = w' := ht ▸ time_ w p M h.m
theorem t_over (w : World) (h : TW w0 w p g B M s ib ob xs ys As v12 v13 v14 ps fs sb nb st0 st1 n0 n1) {d x : Nat} {A : ActS} (hx : xs[d]? = some x) (hA : As[d]? = some A) (b : Bool) (hb : A.over = b) : Calls Try.prog 38 #[pt x] w fun e w' => e = .returned (.bool b) ∧ w = w' := hb ▸ over_ w x g A (h.a d x A hx hA).1
theorem t_mark (w : World) (h : TW w0 w p g B M s ib ob xs ys As v12 v13 v14 ps fs sb nb st0 st1 n0 n1) {d x : Nat} {A : ActS} (hx : xs[d]? = some x) (hA : As[d]? = some A) (t : Int) (ht : A.mark = t) : Calls Try.prog 39 #[pt x] w fun e w' => e = .returned (.int .i64 t) ∧ w = w' := ht ▸ mark_ w x g A (h.a d x A hx hA).1
theorem t_ok (w : World) (h : TW w0 w p g B M s ib ob xs ys As v12 v13 v14 ps fs sb nb st0 st1 n0 n1) {d x : Nat} {A : ActS} (hx : xs[d]? = some x) (hA : As[d]? = some A) (b : Bool) (hb : A.ok = b) : Calls Try.prog 37 #[pt x] w fun e w' => e = .returned (.bool b) ∧ w = w' := hb ▸ ok_ w x g A (h.a d x A hx hA).1
theorem t_value (w : World) (h : TW w0 w p g B M s ib ob xs ys As v12 v13 v14 ps fs sb nb st0 st1 n0 n1) {d x : Nat} {A : ActS} (hx : xs[d]? = some x) (hA : As[d]? = some A) (v : Int) (hv : (if A.ok then A.value else 0) = v) : Calls Try.prog 42 #[pt x] w fun e w' => e = .returned (.int .u64 v) ∧ w = w' := hv ▸ value_ w x g A (h.a d x A hx hA).1
theorem t_push (w : World) (h : TW w0 w p g B M s false ob xs ys As v12 v13 v14 ps fs sb nb st0 st1 n0 n1) (v : Int) (hv : 0 ≤ v ∧ v ≤ 18446744073709551615) : Calls Try.prog 33 #[pt g, .int .u64 v] w fun e w' => ∃ x, e = .returned (pt x) ∧
    TW w0 w' p g B M s true ob (xs ++ [x]) ys (As ++ [⟨true, 74, v, false, 0, false⟩]) v12 v13 v14 ps fs sb nb st0 st1 n0 n1 := by
  refine (push_new w g p M (s.ring false ob) h.m h.r (ring_ok h.i _ _) rfl v hv).mono ?_
  rintro e w' ⟨x, rfl, ha, hc, hx⟩
  exact ⟨x, rfl, h.ring1 ha hc hx⟩
theorem t_pop (w : World) (h : TW w0 w p g B M s ib false xs ys As v12 v13 v14 ps fs sb nb st0 st1 n0 n1) : Calls Try.prog 35 #[pt g] w fun e w' => ∃ x, e = .returned (pt x) ∧
    TW w0 w' p g B M s ib true (xs ++ [x]) ys (As ++ [⟨false, 75, 0, false, 0, false⟩]) v12 v13 v14 ps fs sb nb st0 st1 n0 n1 := by
  refine (pop_new w g p M (s.ring ib false) h.m h.r (ring_ok h.i _ _) rfl).mono ?_
  rintro e w' ⟨x, rfl, ha, hc, hx⟩
  exact ⟨x, rfl, h.ring1 ha hc hx⟩
end

end Go.Proofs.Ytejplbeddcpmeaa.Ring
