/- rodl's law RodlRound. -/
import Derived.Test.YtadbmmdmibiikaaRodl11
namespace Go.Proofs.Ytadbmmdmibiikaa.Rodl
set_option linter.unusedSimpArgs false
set_option linter.unusedVariables false
open Go Go.AX Go.Proofs Ty Go.Proofs.Ytadbmmdmibiikaa.File Go.Proofs.Ytadbmmdmibiikaa.Rose
set_option maxHeartbeats 4000000
set_option maxRecDepth 10000

theorem take_put {k s f r b : Int} (h : goodE (k, s, f, r, b) = true) : takeE (putR (k, s, f, r, b)) = (k, s, f, r, b) := by
  have := goodE_range h
  simp only [putR, takeE, Prod.mk.injEq, true_and]
  omega
theorem put_take {a b c d : Int} (h : RcOk (a, b, c, d)) : putR (takeE (a, b, c, d)) = (a, b, c, d) := by
  have := h.1
  simp only at this
  simp only [putR, takeE, Prod.mk.injEq, and_true]
  omega
theorem pR_ok (x : En) : RcOk (pR x) := by
  obtain ⟨k, s, f, r, b⟩ := x
  unfold pR
  split
  · rename_i g
    have := goodE_range g
    exact ⟨by simp only [putR]; omega, by simp only [putR]; omega, by simp only [putR]; omega, by simp only [putR]; omega⟩
  · exact ⟨by decide, by decide, by decide, by decide⟩
theorem chk_of {L : List En} (h : mayB L = true) {i : Nat} {x : En} (hx : L[i]? = some x) : goodE x = true ∧ ¬ x.1 = 4 ∧ prv L i < x.2.1 := by
  simp only [mayB, Bool.and_eq_true, List.all_eq_true, List.mem_range] at h
  have := h.1 i (lt_of_get hx)
  rw [chk, hx] at this
  simp only [Bool.and_eq_true, Bool.not_eq_true', decide_eq_false_iff_not, decide_eq_true_eq] at this
  exact ⟨this.1.1, this.1.2, this.2⟩
theorem walk_file : ∀ (L : List En), (∀ x ∈ L, goodE x = true ∧ ¬ x.1 = 4) → walk (L.map pR ++ [er]) = some L
  | [], _ => by decide
  | x :: L, h => by
    have h0 := h x (List.mem_cons_self ..)
    have h1 : takeE (pR x) = x := by rw [pR, if_pos h0.1]; exact take_put h0.1
    rw [List.map_cons, List.cons_append, walk, h1, if_neg (by rw [h0.1]; decide), if_neg h0.2, walk_file L fun y hy => h y (List.mem_cons_of_mem _ hy)]
    rfl
theorem tab_file {M : List En} (h : mayB M = true) : tO 3 (fileE M) = M ∧ tN 3 (fileE M) = 0 := by
  have hl := mayB_len h
  have g : goodF 3 (fileE M) = true := by
    have : (M.map pR ++ [er]).length = M.length + 1 := by simp
    simp only [goodF, fileE, this, Bool.and_eq_true, decide_eq_true_eq]
    exact ⟨⟨⟨by omega, by omega⟩, by omega⟩, trivial⟩
  have hw : walk (M.map pR ++ [er]) = some M := walk_file M fun x hx => by
    obtain ⟨i, hi⟩ := List.mem_iff_getElem?.1 hx
    have := chk_of h hi
    exact ⟨this.1, this.2.1⟩
  constructor
  · rw [fileE, tO_of g hw, if_pos h]
  · rw [fileE, tN_of g hw, if_pos h]
theorem slot_up {L : List En} (h : mayB L = true) : ∀ (i : Nat) (x : En), L[i]? = some x → (i : Int) + 1 ≤ x.2.1
  | 0, x, hx => by
    have := (chk_of h hx).2.2
    rw [prv, if_pos rfl] at this
    omega
  | i + 1, x, hx => by
    obtain ⟨y, hy⟩ := get_some (l := L) (i := i) (by have := lt_of_get hx; omega)
    have h1 := slot_up h i y hy
    have h2 := (chk_of h hx).2.2
    rw [prv_succ hy] at h2
    omega
theorem mayB_16 {L : List En} (h : mayB L = true) : L.length ≤ 16 := by
  rcases Nat.lt_or_ge 16 L.length with hl | hl
  · obtain ⟨⟨k, s, f, r, b⟩, hx⟩ := get_some (l := L) (i := 16) hl
    have h1 := slot_up h 16 _ hx
    have h2 := goodE_range (chk_of h hx).1
    simp only at h1
    omega
  · exact hl
theorem tO_may (p : Int) (R : List Rc) : (tN p R = 0 ∧ mayB (tO p R) = true) ∨ (¬ tN p R = 0 ∧ tO p R = []) := by
  unfold tO tN
  split
  · split
    · exact .inr ⟨by decide, rfl⟩
    · split
      · rename_i h; exact .inl ⟨rfl, h⟩
      · exact .inr ⟨by decide, rfl⟩
  · exact .inr ⟨by decide, rfl⟩
theorem RodlRound_c (k s f r b x0 x1 x2 x3 : Int) (w0 : 0 ≤ x0 ∧ x0 < 256) (w1 : 0 ≤ x1 ∧ x1 < 256) (w2 : 0 ≤ x2 ∧ x2 < 256) (w3 : 0 ≤ x3 ∧ x3 < 256) (L : List En) (base : Option Addr) (cap : Nat) (p : Int) (R : List Rc) (bf : Option Addr) (cf : Nat) (H : AH) (hs : SlcIn H 5 base cap (L.map encE)) (ht : SlcIn H 4 bf cf (R.map enc)) (hw : ∀ r ∈ R, WfR r) :
    ACalls Try.prog 12 #[.agg #[.int .i64 k, .int .i64 s, .int .i64 f, .int .i64 r, .int .i64 b], .agg #[.int .u8 x0, .int .u8 x1, .int .u8 x2, .int .u8 x3], .slice base L.length cap, fv p bf R.length cf] H (fun v H' => v = .bool true ∧ H = H') := by
  have hok : RcOk (x0, x1, x2, x3) := ⟨⟨by simp only; omega, by simp only; omega⟩, ⟨by simp only; omega, by simp only; omega⟩, ⟨by simp only; omega, by simp only; omega⟩, ⟨by simp only; omega, by simp only; omega⟩⟩
  unfold fv
  have hs2 : SlcIn H 5 base cap ((L.take 70).map encE) := by rw [List.map_take]; exact hs.take
  have ht2 : SlcIn H 4 bf cf ((R.take 260).map enc) := by rw [List.map_take]; exact ht.take
  have hw2 : ∀ r ∈ R.take 260, RcOk r := fun r hr => (hw r (List.mem_of_mem_take hr)).ok
  generalize hM : L.take 70 = M at hs2
  generalize hS : R.take 260 = S at ht2 hw2
  have ex : .agg #[.int .i64 k, .int .i64 s, .int .i64 f, .int .i64 r, .int .i64 b] = Value.agg (encE (k, s, f, r, b)).toArray := rfl
  have ev : .agg #[.int .u8 x0, .int .u8 x1, .int .u8 x2, .int .u8 x3] = Value.agg (enc (x0, x1, x2, x3)).toArray := rfl
  rw [ex, ev]
  refine ACalls.enter2 Try.func12 rfl Try.ntmps12 Try.results12 (by simp) ?_; simp (dsimp := false) (maxSteps := 4000000) only [enc_len, enc_scal, enc_take, enc_z4, encE_len, encE_scal, encE_z5, encE_take, neqRc, neqE, go_sem, ↓reduceIte, Nat.reduceEqDiff, Nat.reduceLT, Nat.reduceLeDiff, Nat.reduceAdd, Nat.reduceMul, Nat.reduceSub, reduceCtorEq, Int.reduceToNat, Int.reduceLT, Int.reduceLE, Int.reduceEq, Int.reduceNe, Int.reduceBEq, Nat.reduceBEq, Int.reduceBNe, Nat.reduceBNe, Int.reduceAdd, Int.reduceSub, Int.reduceMul, Int.reduceNeg]
  refine AllB.mk fun b4 h_b4 => ?_; have hn_b4 := h_b4; (try simp only [fresh_add, fresh_set, ne_eq] at hn_b4); have hr_b4 := hn_b4; (try simp only [@eq_comm Nat b4] at hr_b4); simp (dsimp := false) (maxSteps := 4000000) only [enc_len, enc_scal, enc_take, enc_z4, encE_len, encE_scal, encE_z5, encE_take, neqRc, neqE, hn_b4, hr_b4, go_sem, ↓reduceIte, Nat.reduceEqDiff, Nat.reduceLT, Nat.reduceLeDiff, Nat.reduceAdd, Nat.reduceMul, Nat.reduceSub, reduceCtorEq, Int.reduceToNat, Int.reduceLT, Int.reduceLE, Int.reduceEq, Int.reduceNe, Int.reduceBEq, Nat.reduceBEq, Int.reduceBNe, Nat.reduceBNe, Int.reduceAdd, Int.reduceSub, Int.reduceMul, Int.reduceNeg]
  refine AllB.mk fun b5 h_b5 => ?_; have hn_b5 := h_b5; (try simp only [fresh_add, fresh_set, ne_eq] at hn_b5); have hr_b5 := hn_b5; (try simp only [@eq_comm Nat b5] at hr_b5); simp (dsimp := false) (maxSteps := 4000000) only [enc_len, enc_scal, enc_take, enc_z4, encE_len, encE_scal, encE_z5, encE_take, neqRc, neqE, hn_b4, hr_b4, hn_b5, hr_b5, go_sem, ↓reduceIte, Nat.reduceEqDiff, Nat.reduceLT, Nat.reduceLeDiff, Nat.reduceAdd, Nat.reduceMul, Nat.reduceSub, reduceCtorEq, Int.reduceToNat, Int.reduceLT, Int.reduceLE, Int.reduceEq, Int.reduceNe, Int.reduceBEq, Nat.reduceBEq, Int.reduceBNe, Nat.reduceBNe, Int.reduceAdd, Int.reduceSub, Int.reduceMul, Int.reduceNeg]
  refine AllB.mk fun b7 h_b7 => ?_; have hn_b7 := h_b7; (try simp only [fresh_add, fresh_set, ne_eq] at hn_b7); have hr_b7 := hn_b7; (try simp only [@eq_comm Nat b7] at hr_b7); simp (dsimp := false) (maxSteps := 4000000) only [enc_len, enc_scal, enc_take, enc_z4, encE_len, encE_scal, encE_z5, encE_take, neqRc, neqE, hn_b4, hr_b4, hn_b5, hr_b5, hn_b7, hr_b7, go_sem, ↓reduceIte, Nat.reduceEqDiff, Nat.reduceLT, Nat.reduceLeDiff, Nat.reduceAdd, Nat.reduceMul, Nat.reduceSub, reduceCtorEq, Int.reduceToNat, Int.reduceLT, Int.reduceLE, Int.reduceEq, Int.reduceNe, Int.reduceBEq, Nat.reduceBEq, Int.reduceBNe, Nat.reduceBNe, Int.reduceAdd, Int.reduceSub, Int.reduceMul, Int.reduceNeg]
  refine (Put_v (k, s, f, r, b) _).mono ?_; rintro _ _ ⟨rfl, rfl⟩
  simp (dsimp := false) (maxSteps := 4000000) only [enc_len, enc_scal, enc_take, enc_z4, encE_len, encE_scal, encE_z5, encE_take, neqRc, neqE, hn_b4, hr_b4, hn_b5, hr_b5, hn_b7, hr_b7, go_sem, ↓reduceIte, Nat.reduceEqDiff, Nat.reduceLT, Nat.reduceLeDiff, Nat.reduceAdd, Nat.reduceMul, Nat.reduceSub, reduceCtorEq, Int.reduceToNat, Int.reduceLT, Int.reduceLE, Int.reduceEq, Int.reduceNe, Int.reduceBEq, Nat.reduceBEq, Int.reduceBNe, Nat.reduceBNe, Int.reduceAdd, Int.reduceSub, Int.reduceMul, Int.reduceNeg]
  refine AllB.mk fun b9 h_b9 => ?_; have hn_b9 := h_b9; (try simp only [fresh_add, fresh_set, ne_eq] at hn_b9); have hr_b9 := hn_b9; (try simp only [@eq_comm Nat b9] at hr_b9); simp (dsimp := false) (maxSteps := 4000000) only [enc_len, enc_scal, enc_take, enc_z4, encE_len, encE_scal, encE_z5, encE_take, neqRc, neqE, hn_b4, hr_b4, hn_b5, hr_b5, hn_b7, hr_b7, hn_b9, hr_b9, go_sem, ↓reduceIte, Nat.reduceEqDiff, Nat.reduceLT, Nat.reduceLeDiff, Nat.reduceAdd, Nat.reduceMul, Nat.reduceSub, reduceCtorEq, Int.reduceToNat, Int.reduceLT, Int.reduceLE, Int.reduceEq, Int.reduceNe, Int.reduceBEq, Nat.reduceBEq, Int.reduceBNe, Nat.reduceBNe, Int.reduceAdd, Int.reduceSub, Int.reduceMul, Int.reduceNeg]
  cases gx : goodE (k, s, f, r, b) with
  | true =>
    have p1 : takeE (pR (k, s, f, r, b)) = (k, s, f, r, b) := by rw [pR, if_pos gx]; exact take_put gx
    have p2 : pE (k, s, f, r, b) = 0 := by rw [pE, if_pos gx]
    have p3 : tX (pR (k, s, f, r, b)) = (k, s, f, r, b) := by rw [tX, p1, if_pos gx]
    have p4 : tE (pR (k, s, f, r, b)) = 0 := by rw [tE, p1, if_pos gx]
    rw [p2]
    
    simp (dsimp := false) (maxSteps := 4000000) only [enc_len, enc_scal, enc_take, enc_z4, encE_len, encE_scal, encE_z5, encE_take, neqRc, neqE, hn_b4, hr_b4, hn_b5, hr_b5, hn_b7, hr_b7, hn_b9, hr_b9, go_sem, ↓reduceIte, Nat.reduceEqDiff, Nat.reduceLT, Nat.reduceLeDiff, Nat.reduceAdd, Nat.reduceMul, Nat.reduceSub, reduceCtorEq, Int.reduceToNat, Int.reduceLT, Int.reduceLE, Int.reduceEq, Int.reduceNe, Int.reduceBEq, Nat.reduceBEq, Int.reduceBNe, Nat.reduceBNe, Int.reduceAdd, Int.reduceSub, Int.reduceMul, Int.reduceNeg]
    refine (Take_v (pR_ok (k, s, f, r, b)) _).mono ?_; rintro _ _ ⟨rfl, rfl⟩
    rw [p3, p4]
    simp (dsimp := false) (maxSteps := 4000000) only [enc_len, enc_scal, enc_take, enc_z4, encE_len, encE_scal, encE_z5, encE_take, neqRc, neqE, hn_b4, hr_b4, hn_b5, hr_b5, hn_b7, hr_b7, hn_b9, hr_b9, go_sem, ↓reduceIte, Nat.reduceEqDiff, Nat.reduceLT, Nat.reduceLeDiff, Nat.reduceAdd, Nat.reduceMul, Nat.reduceSub, reduceCtorEq, Int.reduceToNat, Int.reduceLT, Int.reduceLE, Int.reduceEq, Int.reduceNe, Int.reduceBEq, Nat.reduceBEq, Int.reduceBNe, Nat.reduceBNe, Int.reduceAdd, Int.reduceSub, Int.reduceMul, Int.reduceNeg]
    refine AllB.mk fun b11 h_b11 => ?_; have hn_b11 := h_b11; (try simp only [fresh_add, fresh_set, ne_eq] at hn_b11); have hr_b11 := hn_b11; (try simp only [@eq_comm Nat b11] at hr_b11); simp (dsimp := false) (maxSteps := 4000000) only [enc_len, enc_scal, enc_take, enc_z4, encE_len, encE_scal, encE_z5, encE_take, neqRc, neqE, hn_b4, hr_b4, hn_b5, hr_b5, hn_b7, hr_b7, hn_b9, hr_b9, hn_b11, hr_b11, go_sem, ↓reduceIte, Nat.reduceEqDiff, Nat.reduceLT, Nat.reduceLeDiff, Nat.reduceAdd, Nat.reduceMul, Nat.reduceSub, reduceCtorEq, Int.reduceToNat, Int.reduceLT, Int.reduceLE, Int.reduceEq, Int.reduceNe, Int.reduceBEq, Nat.reduceBEq, Int.reduceBNe, Nat.reduceBNe, Int.reduceAdd, Int.reduceSub, Int.reduceMul, Int.reduceNeg]
    refine (Take_v (r := (x0, x1, x2, x3)) hok _).mono ?_; rintro _ _ ⟨rfl, rfl⟩
    simp (dsimp := false) (maxSteps := 4000000) only [enc_len, enc_scal, enc_take, enc_z4, encE_len, encE_scal, encE_z5, encE_take, neqRc, neqE, hn_b4, hr_b4, hn_b5, hr_b5, hn_b7, hr_b7, hn_b9, hr_b9, hn_b11, hr_b11, go_sem, ↓reduceIte, Nat.reduceEqDiff, Nat.reduceLT, Nat.reduceLeDiff, Nat.reduceAdd, Nat.reduceMul, Nat.reduceSub, reduceCtorEq, Int.reduceToNat, Int.reduceLT, Int.reduceLE, Int.reduceEq, Int.reduceNe, Int.reduceBEq, Nat.reduceBEq, Int.reduceBNe, Nat.reduceBNe, Int.reduceAdd, Int.reduceSub, Int.reduceMul, Int.reduceNeg]
    refine AllB.mk fun b13 h_b13 => ?_; have hn_b13 := h_b13; (try simp only [fresh_add, fresh_set, ne_eq] at hn_b13); have hr_b13 := hn_b13; (try simp only [@eq_comm Nat b13] at hr_b13); simp (dsimp := false) (maxSteps := 4000000) only [enc_len, enc_scal, enc_take, enc_z4, encE_len, encE_scal, encE_z5, encE_take, neqRc, neqE, hn_b4, hr_b4, hn_b5, hr_b5, hn_b7, hr_b7, hn_b9, hr_b9, hn_b11, hr_b11, hn_b13, hr_b13, go_sem, ↓reduceIte, Nat.reduceEqDiff, Nat.reduceLT, Nat.reduceLeDiff, Nat.reduceAdd, Nat.reduceMul, Nat.reduceSub, reduceCtorEq, Int.reduceToNat, Int.reduceLT, Int.reduceLE, Int.reduceEq, Int.reduceNe, Int.reduceBEq, Nat.reduceBEq, Int.reduceBNe, Nat.reduceBNe, Int.reduceAdd, Int.reduceSub, Int.reduceMul, Int.reduceNeg]
    cases gv : goodE (takeE (x0, x1, x2, x3)) with
    | true =>
      have t1 : tX (x0, x1, x2, x3) = takeE (x0, x1, x2, x3) := by simp [tX, gv]
      have t2 : tE (x0, x1, x2, x3) = 0 := by simp [tE, gv]
      have u1 : pR (takeE (x0, x1, x2, x3)) = (x0, x1, x2, x3) := by rw [pR, if_pos gv, put_take hok]
      have u2 : pE (takeE (x0, x1, x2, x3)) = 0 := by rw [pE, if_pos gv]
      rw [t1, t2]
      
      simp (dsimp := false) (maxSteps := 4000000) only [enc_len, enc_scal, enc_take, enc_z4, encE_len, encE_scal, encE_z5, encE_take, neqRc, neqE, hn_b4, hr_b4, hn_b5, hr_b5, hn_b7, hr_b7, hn_b9, hr_b9, hn_b11, hr_b11, hn_b13, hr_b13, go_sem, ↓reduceIte, Nat.reduceEqDiff, Nat.reduceLT, Nat.reduceLeDiff, Nat.reduceAdd, Nat.reduceMul, Nat.reduceSub, reduceCtorEq, Int.reduceToNat, Int.reduceLT, Int.reduceLE, Int.reduceEq, Int.reduceNe, Int.reduceBEq, Nat.reduceBEq, Int.reduceBNe, Nat.reduceBNe, Int.reduceAdd, Int.reduceSub, Int.reduceMul, Int.reduceNeg]
      refine (Put_v (takeE (x0, x1, x2, x3)) _).mono ?_; rintro _ _ ⟨rfl, rfl⟩
      rw [u1, u2]
      simp (dsimp := false) (maxSteps := 4000000) only [enc_len, enc_scal, enc_take, enc_z4, encE_len, encE_scal, encE_z5, encE_take, neqRc, neqE, hn_b4, hr_b4, hn_b5, hr_b5, hn_b7, hr_b7, hn_b9, hr_b9, hn_b11, hr_b11, hn_b13, hr_b13, go_sem, ↓reduceIte, Nat.reduceEqDiff, Nat.reduceLT, Nat.reduceLeDiff, Nat.reduceAdd, Nat.reduceMul, Nat.reduceSub, reduceCtorEq, Int.reduceToNat, Int.reduceLT, Int.reduceLE, Int.reduceEq, Int.reduceNe, Int.reduceBEq, Nat.reduceBEq, Int.reduceBNe, Nat.reduceBNe, Int.reduceAdd, Int.reduceSub, Int.reduceMul, Int.reduceNeg]
      refine AllB.mk fun b15 h_b15 => ?_; have hn_b15 := h_b15; (try simp only [fresh_add, fresh_set, ne_eq] at hn_b15); have hr_b15 := hn_b15; (try simp only [@eq_comm Nat b15] at hr_b15); simp (dsimp := false) (maxSteps := 4000000) only [enc_len, enc_scal, enc_take, enc_z4, encE_len, encE_scal, encE_z5, encE_take, neqRc, neqE, hn_b4, hr_b4, hn_b5, hr_b5, hn_b7, hr_b7, hn_b9, hr_b9, hn_b11, hr_b11, hn_b13, hr_b13, hn_b15, hr_b15, go_sem, ↓reduceIte, Nat.reduceEqDiff, Nat.reduceLT, Nat.reduceLeDiff, Nat.reduceAdd, Nat.reduceMul, Nat.reduceSub, reduceCtorEq, Int.reduceToNat, Int.reduceLT, Int.reduceLE, Int.reduceEq, Int.reduceNe, Int.reduceBEq, Nat.reduceBEq, Int.reduceBNe, Nat.reduceBNe, Int.reduceAdd, Int.reduceSub, Int.reduceMul, Int.reduceNeg]
      refine (some_x (((((((hs.add (by simp only [fresh_add, ne_eq, hn_b4, not_false_eq_true, and_self] : Fresh _ b4)).add (by simp only [fresh_add, ne_eq, hn_b5, not_false_eq_true, and_self] : Fresh _ b5)).add (by simp only [fresh_add, ne_eq, hn_b7, not_false_eq_true, and_self] : Fresh _ b7)).add (by simp only [fresh_add, ne_eq, hn_b9, not_false_eq_true, and_self] : Fresh _ b9)).add (by simp only [fresh_add, ne_eq, hn_b11, not_false_eq_true, and_self] : Fresh _ b11)).add (by simp only [fresh_add, ne_eq, hn_b13, not_false_eq_true, and_self] : Fresh _ b13)).add (by simp only [fresh_add, ne_eq, hn_b15, not_false_eq_true, and_self] : Fresh _ b15)) hM).mono ?_; rintro _ _ ⟨rfl, rfl⟩
      simp (dsimp := false) (maxSteps := 4000000) only [enc_len, enc_scal, enc_take, enc_z4, encE_len, encE_scal, encE_z5, encE_take, neqRc, neqE, hn_b4, hr_b4, hn_b5, hr_b5, hn_b7, hr_b7, hn_b9, hr_b9, hn_b11, hr_b11, hn_b13, hr_b13, hn_b15, hr_b15, go_sem, ↓reduceIte, Nat.reduceEqDiff, Nat.reduceLT, Nat.reduceLeDiff, Nat.reduceAdd, Nat.reduceMul, Nat.reduceSub, reduceCtorEq, Int.reduceToNat, Int.reduceLT, Int.reduceLE, Int.reduceEq, Int.reduceNe, Int.reduceBEq, Nat.reduceBEq, Int.reduceBNe, Nat.reduceBNe, Int.reduceAdd, Int.reduceSub, Int.reduceMul, Int.reduceNeg]
      refine (File_u (((((((hs2.add (by simp only [fresh_add, ne_eq, hn_b4, not_false_eq_true, and_self] : Fresh _ b4)).add (by simp only [fresh_add, ne_eq, hn_b5, not_false_eq_true, and_self] : Fresh _ b5)).add (by simp only [fresh_add, ne_eq, hn_b7, not_false_eq_true, and_self] : Fresh _ b7)).add (by simp only [fresh_add, ne_eq, hn_b9, not_false_eq_true, and_self] : Fresh _ b9)).add (by simp only [fresh_add, ne_eq, hn_b11, not_false_eq_true, and_self] : Fresh _ b11)).add (by simp only [fresh_add, ne_eq, hn_b13, not_false_eq_true, and_self] : Fresh _ b13)).add (by simp only [fresh_add, ne_eq, hn_b15, not_false_eq_true, and_self] : Fresh _ b15)) rfl).mono ?_; rintro _ A1 ⟨bc, cc, rfl, hG1⟩
      have q7 : A1.find b7 = some (ABlk.cells [.int .i64 p, .slice bf R.length cf] 25 2) := hG1.keep.find (fun h => h) (by (show AH.find _ _ = _; simp only [find_add_self, find_add_ne, find_fresh, fresh_add, ne_eq, not_false_eq_true, true_and, and_true, and_self, enc_len, enc_scal, enc_take, enc_z4, encE_len, encE_scal, encE_z5, encE_take, neqRc, neqE, hn_b4, hr_b4, hn_b5, hr_b5, hn_b7, hr_b7, hn_b9, hr_b9, hn_b11, hr_b11, hn_b13, hr_b13, hn_b15, hr_b15]))
      have sL1 : SlcIn A1 5 base cap (L.map encE) := SlcIn.keep (((((((hs.add (by simp only [fresh_add, ne_eq, hn_b4, not_false_eq_true, and_self] : Fresh _ b4)).add (by simp only [fresh_add, ne_eq, hn_b5, not_false_eq_true, and_self] : Fresh _ b5)).add (by simp only [fresh_add, ne_eq, hn_b7, not_false_eq_true, and_self] : Fresh _ b7)).add (by simp only [fresh_add, ne_eq, hn_b9, not_false_eq_true, and_self] : Fresh _ b9)).add (by simp only [fresh_add, ne_eq, hn_b11, not_false_eq_true, and_self] : Fresh _ b11)).add (by simp only [fresh_add, ne_eq, hn_b13, not_false_eq_true, and_self] : Fresh _ b13)).add (by simp only [fresh_add, ne_eq, hn_b15, not_false_eq_true, and_self] : Fresh _ b15)) hG1.keep fun _ _ h => h
      have sM1 : SlcIn A1 5 base cap (M.map encE) := SlcIn.keep (((((((hs2.add (by simp only [fresh_add, ne_eq, hn_b4, not_false_eq_true, and_self] : Fresh _ b4)).add (by simp only [fresh_add, ne_eq, hn_b5, not_false_eq_true, and_self] : Fresh _ b5)).add (by simp only [fresh_add, ne_eq, hn_b7, not_false_eq_true, and_self] : Fresh _ b7)).add (by simp only [fresh_add, ne_eq, hn_b9, not_false_eq_true, and_self] : Fresh _ b9)).add (by simp only [fresh_add, ne_eq, hn_b11, not_false_eq_true, and_self] : Fresh _ b11)).add (by simp only [fresh_add, ne_eq, hn_b13, not_false_eq_true, and_self] : Fresh _ b13)).add (by simp only [fresh_add, ne_eq, hn_b15, not_false_eq_true, and_self] : Fresh _ b15)) hG1.keep fun _ _ h => h
      have sR1 : SlcIn A1 4 bf cf (R.map enc) := SlcIn.keep (((((((ht.add (by simp only [fresh_add, ne_eq, hn_b4, not_false_eq_true, and_self] : Fresh _ b4)).add (by simp only [fresh_add, ne_eq, hn_b5, not_false_eq_true, and_self] : Fresh _ b5)).add (by simp only [fresh_add, ne_eq, hn_b7, not_false_eq_true, and_self] : Fresh _ b7)).add (by simp only [fresh_add, ne_eq, hn_b9, not_false_eq_true, and_self] : Fresh _ b9)).add (by simp only [fresh_add, ne_eq, hn_b11, not_false_eq_true, and_self] : Fresh _ b11)).add (by simp only [fresh_add, ne_eq, hn_b13, not_false_eq_true, and_self] : Fresh _ b13)).add (by simp only [fresh_add, ne_eq, hn_b15, not_false_eq_true, and_self] : Fresh _ b15)) hG1.keep fun _ _ h => h
      have sS1 : SlcIn A1 4 bf cf (S.map enc) := SlcIn.keep (((((((ht2.add (by simp only [fresh_add, ne_eq, hn_b4, not_false_eq_true, and_self] : Fresh _ b4)).add (by simp only [fresh_add, ne_eq, hn_b5, not_false_eq_true, and_self] : Fresh _ b5)).add (by simp only [fresh_add, ne_eq, hn_b7, not_false_eq_true, and_self] : Fresh _ b7)).add (by simp only [fresh_add, ne_eq, hn_b9, not_false_eq_true, and_self] : Fresh _ b9)).add (by simp only [fresh_add, ne_eq, hn_b11, not_false_eq_true, and_self] : Fresh _ b11)).add (by simp only [fresh_add, ne_eq, hn_b13, not_false_eq_true, and_self] : Fresh _ b13)).add (by simp only [fresh_add, ne_eq, hn_b15, not_false_eq_true, and_self] : Fresh _ b15)) hG1.keep fun _ _ h => h
      have l1 : H.le A1 := AH.le_trans (by (repeat (first | exact AH.le_refl _ | refine AH.le_add ?_ ?_)); all_goals (first | exact AH.le_refl _ | (show AH.find _ _ = _; simp only [find_add_self, find_add_ne, find_fresh, fresh_add, ne_eq, not_false_eq_true, true_and, and_true, and_self, enc_len, enc_scal, enc_take, enc_z4, encE_len, encE_scal, encE_z5, encE_take, neqRc, neqE, hn_b4, hr_b4, hn_b5, hr_b5, hn_b7, hr_b7, hn_b9, hr_b9, hn_b11, hr_b11, hn_b13, hr_b13, hn_b15, hr_b15]))) hG1.keep.all
      
      simp (dsimp := false) (maxSteps := 4000000) only [enc_len, enc_scal, enc_take, enc_z4, encE_len, encE_scal, encE_z5, encE_take, neqRc, neqE, go_sem, ↓reduceIte, Nat.reduceEqDiff, Nat.reduceLT, Nat.reduceLeDiff, Nat.reduceAdd, Nat.reduceMul, Nat.reduceSub, reduceCtorEq, Int.reduceToNat, Int.reduceLT, Int.reduceLE, Int.reduceEq, Int.reduceNe, Int.reduceBEq, Nat.reduceBEq, Int.reduceBNe, Nat.reduceBNe, Int.reduceAdd, Int.reduceSub, Int.reduceMul, Int.reduceNeg]
      refine AllB.mk fun b17 h_b17 => ?_; have hn_b17 := h_b17; (try simp only [fresh_add, fresh_set, ne_eq] at hn_b17); have hr_b17 := hn_b17; (try simp only [@eq_comm Nat b17] at hr_b17); simp (dsimp := false) (maxSteps := 4000000) only [enc_len, enc_scal, enc_take, enc_z4, encE_len, encE_scal, encE_z5, encE_take, neqRc, neqE, hn_b17, hr_b17, go_sem, ↓reduceIte, Nat.reduceEqDiff, Nat.reduceLT, Nat.reduceLeDiff, Nat.reduceAdd, Nat.reduceMul, Nat.reduceSub, reduceCtorEq, Int.reduceToNat, Int.reduceLT, Int.reduceLE, Int.reduceEq, Int.reduceNe, Int.reduceBEq, Nat.reduceBEq, Int.reduceBNe, Nat.reduceBNe, Int.reduceAdd, Int.reduceSub, Int.reduceMul, Int.reduceNeg]
      have m7 := hn_b17.ne_find q7
      cases gm : mayB M with
      | true =>
        have f1 : fR M = fileE M := by simp [fR, gm]
        have f2 : fP M = 3 := by simp [fP, gm]
        have f3 : fE M = 0 := by simp [fE, gm]
        obtain ⟨f4, f5⟩ := tab_file gm
        have hfo := fR_ok M
        rw [f1] at hG1 hfo ⊢
        rw [f2, f3]
        
        simp (dsimp := false) (maxSteps := 4000000) only [enc_len, enc_scal, enc_take, enc_z4, encE_len, encE_scal, encE_z5, encE_take, neqRc, neqE, hn_b17, hr_b17, go_sem, ↓reduceIte, Nat.reduceEqDiff, Nat.reduceLT, Nat.reduceLeDiff, Nat.reduceAdd, Nat.reduceMul, Nat.reduceSub, reduceCtorEq, Int.reduceToNat, Int.reduceLT, Int.reduceLE, Int.reduceEq, Int.reduceNe, Int.reduceBEq, Nat.reduceBEq, Int.reduceBNe, Nat.reduceBNe, Int.reduceAdd, Int.reduceSub, Int.reduceMul, Int.reduceNeg]
        refine (Table_u (p := 3) (R := fileE M) (hG1.slc.add h_b17) hfo rfl).mono ?_; rintro _ A2 ⟨bd, cd, rfl, hG2⟩
        rw [f4] at hG2 ⊢
        rw [f5]
        have w7 : A2.find b7 = some (ABlk.cells [.int .i64 p, .slice bf R.length cf] 25 2) := hG2.keep.find (fun h => h) (by rw [find_add_ne _ m7]; exact q7)
        have sL2 : SlcIn A2 5 base cap (L.map encE) := (sL1.add h_b17).keep hG2.keep fun _ _ h => h
        have sM2 : SlcIn A2 5 base cap (M.map encE) := (sM1.add h_b17).keep hG2.keep fun _ _ h => h
        have sR2 : SlcIn A2 4 bf cf (R.map enc) := (sR1.add h_b17).keep hG2.keep fun _ _ h => h
        have sS2 : SlcIn A2 4 bf cf (S.map enc) := (sS1.add h_b17).keep hG2.keep fun _ _ h => h
        have l2 : H.le A2 := AH.le_trans (AH.le_add l1 h_b17.2) hG2.keep.all
        have r7 := (Keep.refl (ex := fun _ => False)).row w7 (n := 2) rfl
        
        simp (dsimp := false) (maxSteps := 4000000) only [enc_len, enc_scal, enc_take, enc_z4, encE_len, encE_scal, encE_z5, encE_take, neqRc, neqE, go_sem, ↓reduceIte, Nat.reduceEqDiff, Nat.reduceLT, Nat.reduceLeDiff, Nat.reduceAdd, Nat.reduceMul, Nat.reduceSub, reduceCtorEq, Int.reduceToNat, Int.reduceLT, Int.reduceLE, Int.reduceEq, Int.reduceNe, Int.reduceBEq, Nat.reduceBEq, Int.reduceBNe, Nat.reduceBNe, Int.reduceAdd, Int.reduceSub, Int.reduceMul, Int.reduceNeg]
        refine (some_x sL2 hM).mono ?_; rintro _ _ ⟨rfl, rfl⟩
        simp (dsimp := false) (maxSteps := 4000000) only [enc_len, enc_scal, enc_take, enc_z4, encE_len, encE_scal, encE_z5, encE_take, neqRc, neqE, go_sem, ↓reduceIte, Nat.reduceEqDiff, Nat.reduceLT, Nat.reduceLeDiff, Nat.reduceAdd, Nat.reduceMul, Nat.reduceSub, reduceCtorEq, Int.reduceToNat, Int.reduceLT, Int.reduceLE, Int.reduceEq, Int.reduceNe, Int.reduceBEq, Nat.reduceBEq, Int.reduceBNe, Nat.reduceBNe, Int.reduceAdd, Int.reduceSub, Int.reduceMul, Int.reduceNeg]
        refine (same_x hG2.slc sM2).mono ?_; rintro _ _ ⟨rfl, rfl⟩
        simp (dsimp := false) (maxSteps := 4000000) only [r7, enc_len, enc_scal, enc_take, enc_z4, encE_len, encE_scal, encE_z5, encE_take, neqRc, neqE, go_sem, ↓reduceIte, Nat.reduceEqDiff, Nat.reduceLT, Nat.reduceLeDiff, Nat.reduceAdd, Nat.reduceMul, Nat.reduceSub, reduceCtorEq, Int.reduceToNat, Int.reduceLT, Int.reduceLE, Int.reduceEq, Int.reduceNe, Int.reduceBEq, Nat.reduceBEq, Int.reduceBNe, Nat.reduceBNe, Int.reduceAdd, Int.reduceSub, Int.reduceMul, Int.reduceNeg]
        refine (Rodl.few_x (sR2) hS).mono ?_; rintro _ _ ⟨rfl, rfl⟩
        simp (dsimp := false) (maxSteps := 4000000) only [enc_len, enc_scal, enc_take, enc_z4, encE_len, encE_scal, encE_z5, encE_take, neqRc, neqE, go_sem, ↓reduceIte, Nat.reduceEqDiff, Nat.reduceLT, Nat.reduceLeDiff, Nat.reduceAdd, Nat.reduceMul, Nat.reduceSub, reduceCtorEq, Int.reduceToNat, Int.reduceLT, Int.reduceLE, Int.reduceEq, Int.reduceNe, Int.reduceBEq, Nat.reduceBEq, Int.reduceBNe, Nat.reduceBNe, Int.reduceAdd, Int.reduceSub, Int.reduceMul, Int.reduceNeg]
        refine (Table_u (sS2) hw2 rfl).mono ?_; rintro _ A9 ⟨be, ce, rfl, hG9⟩
        have l9 : H.le A9 := AH.le_trans l2 hG9.keep.all
        have sT := hG9.slc
        
        have hcase := tO_may p S
        have h16 : (tO p S).length ≤ 16 := by
          rcases hcase with ⟨_, h⟩ | ⟨_, h⟩
          · exact mayB_16 h
          · rw [h]; simp
        have h16' : ((tO p S).length : Int) ≤ 16 := by omega
        simp (dsimp := false) (maxSteps := 4000000) only [enc_len, enc_scal, enc_take, enc_z4, encE_len, encE_scal, encE_z5, encE_take, neqRc, neqE, go_sem, ↓reduceIte, Nat.reduceEqDiff, Nat.reduceLT, Nat.reduceLeDiff, Nat.reduceAdd, Nat.reduceMul, Nat.reduceSub, reduceCtorEq, Int.reduceToNat, Int.reduceLT, Int.reduceLE, Int.reduceEq, Int.reduceNe, Int.reduceBEq, Nat.reduceBEq, Int.reduceBNe, Nat.reduceBNe, Int.reduceAdd, Int.reduceSub, Int.reduceMul, Int.reduceNeg]
        refine AWp.loopo (ι := Nat) (fun i => i ≤ (tO p S).length) (fun i => [(23, .int .i64 ((i + 1 : Nat) : Int)), (21, .slice be (tO p S).length ce), (22, .int .i64 (tN p S))])
          (fun _ => A9) (fun i => (tO p S).length - i) 0 (by omega) (FrLe.of_lks ?_) (AH.le_refl _) fun i hi Q again out => ?_
        · simp (dsimp := false) (maxSteps := 4000000) only [enc_len, enc_scal, enc_take, enc_z4, encE_len, encE_scal, encE_z5, encE_take, neqRc, neqE, go_sem, ↓reduceIte, Nat.reduceEqDiff, Nat.reduceLT, Nat.reduceLeDiff, Nat.reduceAdd, Nat.reduceMul, Nat.reduceSub, reduceCtorEq, Int.reduceToNat, Int.reduceLT, Int.reduceLE, Int.reduceEq, Int.reduceNe, Int.reduceBEq, Nat.reduceBEq, Int.reduceBNe, Nat.reduceBNe, Int.reduceAdd, Int.reduceSub, Int.reduceMul, Int.reduceNeg]
        · by_cases h : i + 1 < (tO p S).length
          · have h' : ((i + 1 : Nat) : Int) < (tO p S).length := by omega
            have hm : mayB (tO p S) = true := by
              rcases hcase with ⟨_, h⟩ | ⟨_, h0⟩
              · exact h
              · rw [h0] at h; simp at h
            obtain ⟨y, hy⟩ := get_some (l := tO p S) (i := i + 1) (by omega)
            obtain ⟨z, hz⟩ := get_some (l := tO p S) (i := i) (by omega)
            obtain ⟨q, o, rfl, _, rdy⟩ := sT.get (map_get (f := encE) hy)
            obtain ⟨q', o', hb', _, rdz⟩ := sT.get (map_get (f := encE) hz)
            cases hb'
            have ry := rdy 1 _ rfl
            have rz := rdz 1 _ rfl
            have hup := (chk_of hm hy).2.2
            rw [prv_succ hz] at hup
            have hup' : ¬ y.2.1 ≤ z.2.1 := by omega
            have em : IntKind.i64.wrap (((i + 1 : Nat) : Int) - 1) = (i : Int) := by rw [i64_eq (by omega) (by omega)]; omega
            have hi' : (i : Int) < (tO p S).length := by omega
            have ee := i64_succ (i := i + 1) (by omega)
            simp (dsimp := false) (maxSteps := 4000000) only [h', enc_len, enc_scal, enc_take, enc_z4, encE_len, encE_scal, encE_z5, encE_take, neqRc, neqE, go_sem, ↓reduceIte, Nat.reduceEqDiff, Nat.reduceLT, Nat.reduceLeDiff, Nat.reduceAdd, Nat.reduceMul, Nat.reduceSub, reduceCtorEq, Int.reduceToNat, Int.reduceLT, Int.reduceLE, Int.reduceEq, Int.reduceNe, Int.reduceBEq, Nat.reduceBEq, Int.reduceBNe, Nat.reduceBNe, Int.reduceAdd, Int.reduceSub, Int.reduceMul, Int.reduceNeg]
            refine AWp.quiet mixed (by kernel_rfl) ?_
            simp (dsimp := false) (maxSteps := 4000000) only [h', hi', em, ry, rz, hup', enc_len, enc_scal, enc_take, enc_z4, encE_len, encE_scal, encE_z5, encE_take, neqRc, neqE, go_sem, ↓reduceIte, Nat.reduceEqDiff, Nat.reduceLT, Nat.reduceLeDiff, Nat.reduceAdd, Nat.reduceMul, Nat.reduceSub, reduceCtorEq, Int.reduceToNat, Int.reduceLT, Int.reduceLE, Int.reduceEq, Int.reduceNe, Int.reduceBEq, Nat.reduceBEq, Int.reduceBNe, Nat.reduceBNe, Int.reduceAdd, Int.reduceSub, Int.reduceMul, Int.reduceNeg]
            simp (dsimp := false) (maxSteps := 4000000) only [ee, enc_len, enc_scal, enc_take, enc_z4, encE_len, encE_scal, encE_z5, encE_take, neqRc, neqE, go_sem, ↓reduceIte, Nat.reduceEqDiff, Nat.reduceLT, Nat.reduceLeDiff, Nat.reduceAdd, Nat.reduceMul, Nat.reduceSub, reduceCtorEq, Int.reduceToNat, Int.reduceLT, Int.reduceLE, Int.reduceEq, Int.reduceNe, Int.reduceBEq, Nat.reduceBEq, Int.reduceBNe, Nat.reduceBNe, Int.reduceAdd, Int.reduceSub, Int.reduceMul, Int.reduceNeg]
            exact again (i + 1) _ _ (by omega) (FrLe.of_lks (by simp (dsimp := false) (maxSteps := 4000000) only [enc_len, enc_scal, enc_take, enc_z4, encE_len, encE_scal, encE_z5, encE_take, neqRc, neqE, go_sem, ↓reduceIte, Nat.reduceEqDiff, Nat.reduceLT, Nat.reduceLeDiff, Nat.reduceAdd, Nat.reduceMul, Nat.reduceSub, reduceCtorEq, Int.reduceToNat, Int.reduceLT, Int.reduceLE, Int.reduceEq, Int.reduceNe, Int.reduceBEq, Nat.reduceBEq, Int.reduceBNe, Nat.reduceBNe, Int.reduceAdd, Int.reduceSub, Int.reduceMul, Int.reduceNeg])) (AH.le_refl _) (by omega)
          · have h' : ¬ ((i + 1 : Nat) : Int) < (tO p S).length := by omega
            simp (dsimp := false) (maxSteps := 4000000) only [h', enc_len, enc_scal, enc_take, enc_z4, encE_len, encE_scal, encE_z5, encE_take, neqRc, neqE, go_sem, ↓reduceIte, Nat.reduceEqDiff, Nat.reduceLT, Nat.reduceLeDiff, Nat.reduceAdd, Nat.reduceMul, Nat.reduceSub, reduceCtorEq, Int.reduceToNat, Int.reduceLT, Int.reduceLE, Int.reduceEq, Int.reduceNe, Int.reduceBEq, Nat.reduceBEq, Int.reduceBNe, Nat.reduceBNe, Int.reduceAdd, Int.reduceSub, Int.reduceMul, Int.reduceNeg]
            refine out _ _ _ (by simp) ?_
            simp (dsimp := false) (maxSteps := 4000000) only [enc_len, enc_scal, enc_take, enc_z4, encE_len, encE_scal, encE_z5, encE_take, neqRc, neqE, go_sem, ↓reduceIte, Nat.reduceEqDiff, Nat.reduceLT, Nat.reduceLeDiff, Nat.reduceAdd, Nat.reduceMul, Nat.reduceSub, reduceCtorEq, Int.reduceToNat, Int.reduceLT, Int.reduceLE, Int.reduceEq, Int.reduceNe, Int.reduceBEq, Nat.reduceBEq, Int.reduceBNe, Nat.reduceBNe, Int.reduceAdd, Int.reduceSub, Int.reduceMul, Int.reduceNeg]
            refine (awake_c _).mono ?_; rintro _ _ ⟨rfl, rfl⟩
            rcases hcase with ⟨h0, _⟩ | ⟨h0, hn⟩
            · simp (dsimp := false) (maxSteps := 4000000) only [h0, h16', enc_len, enc_scal, enc_take, enc_z4, encE_len, encE_scal, encE_z5, encE_take, neqRc, neqE, go_sem, ↓reduceIte, Nat.reduceEqDiff, Nat.reduceLT, Nat.reduceLeDiff, Nat.reduceAdd, Nat.reduceMul, Nat.reduceSub, reduceCtorEq, Int.reduceToNat, Int.reduceLT, Int.reduceLE, Int.reduceEq, Int.reduceNe, Int.reduceBEq, Nat.reduceBEq, Int.reduceBNe, Nat.reduceBNe, Int.reduceAdd, Int.reduceSub, Int.reduceMul, Int.reduceNeg]
              exact ⟨H, l9, rfl⟩
            · have hn' : ((tO p S).length : Int) = 0 := by rw [hn]; rfl
              simp (dsimp := false) (maxSteps := 4000000) only [h0, hn', h16', enc_len, enc_scal, enc_take, enc_z4, encE_len, encE_scal, encE_z5, encE_take, neqRc, neqE, go_sem, ↓reduceIte, Nat.reduceEqDiff, Nat.reduceLT, Nat.reduceLeDiff, Nat.reduceAdd, Nat.reduceMul, Nat.reduceSub, reduceCtorEq, Int.reduceToNat, Int.reduceLT, Int.reduceLE, Int.reduceEq, Int.reduceNe, Int.reduceBEq, Nat.reduceBEq, Int.reduceBNe, Nat.reduceBNe, Int.reduceAdd, Int.reduceSub, Int.reduceMul, Int.reduceNeg]
              exact ⟨H, l9, rfl⟩
        
      | false =>
        have f3 : fE M = 1 := by simp [fE, gm]
        have r7 := (Keep.refl (ex := fun _ => False)).row q7 (n := 2) rfl
        rw [f3]
        
        simp (dsimp := false) (maxSteps := 4000000) only [r7, m7, enc_len, enc_scal, enc_take, enc_z4, encE_len, encE_scal, encE_z5, encE_take, neqRc, neqE, hn_b17, hr_b17, go_sem, ↓reduceIte, Nat.reduceEqDiff, Nat.reduceLT, Nat.reduceLeDiff, Nat.reduceAdd, Nat.reduceMul, Nat.reduceSub, reduceCtorEq, Int.reduceToNat, Int.reduceLT, Int.reduceLE, Int.reduceEq, Int.reduceNe, Int.reduceBEq, Nat.reduceBEq, Int.reduceBNe, Nat.reduceBNe, Int.reduceAdd, Int.reduceSub, Int.reduceMul, Int.reduceNeg]
        refine (Rodl.few_x (sR1.add h_b17) hS).mono ?_; rintro _ _ ⟨rfl, rfl⟩
        simp (dsimp := false) (maxSteps := 4000000) only [enc_len, enc_scal, enc_take, enc_z4, encE_len, encE_scal, encE_z5, encE_take, neqRc, neqE, hn_b17, hr_b17, go_sem, ↓reduceIte, Nat.reduceEqDiff, Nat.reduceLT, Nat.reduceLeDiff, Nat.reduceAdd, Nat.reduceMul, Nat.reduceSub, reduceCtorEq, Int.reduceToNat, Int.reduceLT, Int.reduceLE, Int.reduceEq, Int.reduceNe, Int.reduceBEq, Nat.reduceBEq, Int.reduceBNe, Nat.reduceBNe, Int.reduceAdd, Int.reduceSub, Int.reduceMul, Int.reduceNeg]
        refine (Table_u (sS1.add h_b17) hw2 rfl).mono ?_; rintro _ A9 ⟨be, ce, rfl, hG9⟩
        have l9 : H.le A9 := AH.le_trans (AH.le_add l1 h_b17.2) hG9.keep.all
        have sT := hG9.slc
        
        have hcase := tO_may p S
        have h16 : (tO p S).length ≤ 16 := by
          rcases hcase with ⟨_, h⟩ | ⟨_, h⟩
          · exact mayB_16 h
          · rw [h]; simp
        have h16' : ((tO p S).length : Int) ≤ 16 := by omega
        simp (dsimp := false) (maxSteps := 4000000) only [enc_len, enc_scal, enc_take, enc_z4, encE_len, encE_scal, encE_z5, encE_take, neqRc, neqE, go_sem, ↓reduceIte, Nat.reduceEqDiff, Nat.reduceLT, Nat.reduceLeDiff, Nat.reduceAdd, Nat.reduceMul, Nat.reduceSub, reduceCtorEq, Int.reduceToNat, Int.reduceLT, Int.reduceLE, Int.reduceEq, Int.reduceNe, Int.reduceBEq, Nat.reduceBEq, Int.reduceBNe, Nat.reduceBNe, Int.reduceAdd, Int.reduceSub, Int.reduceMul, Int.reduceNeg]
        refine AWp.loopo (ι := Nat) (fun i => i ≤ (tO p S).length) (fun i => [(23, .int .i64 ((i + 1 : Nat) : Int)), (21, .slice be (tO p S).length ce), (22, .int .i64 (tN p S))])
          (fun _ => A9) (fun i => (tO p S).length - i) 0 (by omega) (FrLe.of_lks ?_) (AH.le_refl _) fun i hi Q again out => ?_
        · simp (dsimp := false) (maxSteps := 4000000) only [enc_len, enc_scal, enc_take, enc_z4, encE_len, encE_scal, encE_z5, encE_take, neqRc, neqE, go_sem, ↓reduceIte, Nat.reduceEqDiff, Nat.reduceLT, Nat.reduceLeDiff, Nat.reduceAdd, Nat.reduceMul, Nat.reduceSub, reduceCtorEq, Int.reduceToNat, Int.reduceLT, Int.reduceLE, Int.reduceEq, Int.reduceNe, Int.reduceBEq, Nat.reduceBEq, Int.reduceBNe, Nat.reduceBNe, Int.reduceAdd, Int.reduceSub, Int.reduceMul, Int.reduceNeg]
        · by_cases h : i + 1 < (tO p S).length
          · have h' : ((i + 1 : Nat) : Int) < (tO p S).length := by omega
            have hm : mayB (tO p S) = true := by
              rcases hcase with ⟨_, h⟩ | ⟨_, h0⟩
              · exact h
              · rw [h0] at h; simp at h
            obtain ⟨y, hy⟩ := get_some (l := tO p S) (i := i + 1) (by omega)
            obtain ⟨z, hz⟩ := get_some (l := tO p S) (i := i) (by omega)
            obtain ⟨q, o, rfl, _, rdy⟩ := sT.get (map_get (f := encE) hy)
            obtain ⟨q', o', hb', _, rdz⟩ := sT.get (map_get (f := encE) hz)
            cases hb'
            have ry := rdy 1 _ rfl
            have rz := rdz 1 _ rfl
            have hup := (chk_of hm hy).2.2
            rw [prv_succ hz] at hup
            have hup' : ¬ y.2.1 ≤ z.2.1 := by omega
            have em : IntKind.i64.wrap (((i + 1 : Nat) : Int) - 1) = (i : Int) := by rw [i64_eq (by omega) (by omega)]; omega
            have hi' : (i : Int) < (tO p S).length := by omega
            have ee := i64_succ (i := i + 1) (by omega)
            simp (dsimp := false) (maxSteps := 4000000) only [h', enc_len, enc_scal, enc_take, enc_z4, encE_len, encE_scal, encE_z5, encE_take, neqRc, neqE, go_sem, ↓reduceIte, Nat.reduceEqDiff, Nat.reduceLT, Nat.reduceLeDiff, Nat.reduceAdd, Nat.reduceMul, Nat.reduceSub, reduceCtorEq, Int.reduceToNat, Int.reduceLT, Int.reduceLE, Int.reduceEq, Int.reduceNe, Int.reduceBEq, Nat.reduceBEq, Int.reduceBNe, Nat.reduceBNe, Int.reduceAdd, Int.reduceSub, Int.reduceMul, Int.reduceNeg]
            refine AWp.quiet mixed (by kernel_rfl) ?_
            simp (dsimp := false) (maxSteps := 4000000) only [h', hi', em, ry, rz, hup', enc_len, enc_scal, enc_take, enc_z4, encE_len, encE_scal, encE_z5, encE_take, neqRc, neqE, go_sem, ↓reduceIte, Nat.reduceEqDiff, Nat.reduceLT, Nat.reduceLeDiff, Nat.reduceAdd, Nat.reduceMul, Nat.reduceSub, reduceCtorEq, Int.reduceToNat, Int.reduceLT, Int.reduceLE, Int.reduceEq, Int.reduceNe, Int.reduceBEq, Nat.reduceBEq, Int.reduceBNe, Nat.reduceBNe, Int.reduceAdd, Int.reduceSub, Int.reduceMul, Int.reduceNeg]
            simp (dsimp := false) (maxSteps := 4000000) only [ee, enc_len, enc_scal, enc_take, enc_z4, encE_len, encE_scal, encE_z5, encE_take, neqRc, neqE, go_sem, ↓reduceIte, Nat.reduceEqDiff, Nat.reduceLT, Nat.reduceLeDiff, Nat.reduceAdd, Nat.reduceMul, Nat.reduceSub, reduceCtorEq, Int.reduceToNat, Int.reduceLT, Int.reduceLE, Int.reduceEq, Int.reduceNe, Int.reduceBEq, Nat.reduceBEq, Int.reduceBNe, Nat.reduceBNe, Int.reduceAdd, Int.reduceSub, Int.reduceMul, Int.reduceNeg]
            exact again (i + 1) _ _ (by omega) (FrLe.of_lks (by simp (dsimp := false) (maxSteps := 4000000) only [enc_len, enc_scal, enc_take, enc_z4, encE_len, encE_scal, encE_z5, encE_take, neqRc, neqE, go_sem, ↓reduceIte, Nat.reduceEqDiff, Nat.reduceLT, Nat.reduceLeDiff, Nat.reduceAdd, Nat.reduceMul, Nat.reduceSub, reduceCtorEq, Int.reduceToNat, Int.reduceLT, Int.reduceLE, Int.reduceEq, Int.reduceNe, Int.reduceBEq, Nat.reduceBEq, Int.reduceBNe, Nat.reduceBNe, Int.reduceAdd, Int.reduceSub, Int.reduceMul, Int.reduceNeg])) (AH.le_refl _) (by omega)
          · have h' : ¬ ((i + 1 : Nat) : Int) < (tO p S).length := by omega
            simp (dsimp := false) (maxSteps := 4000000) only [h', enc_len, enc_scal, enc_take, enc_z4, encE_len, encE_scal, encE_z5, encE_take, neqRc, neqE, go_sem, ↓reduceIte, Nat.reduceEqDiff, Nat.reduceLT, Nat.reduceLeDiff, Nat.reduceAdd, Nat.reduceMul, Nat.reduceSub, reduceCtorEq, Int.reduceToNat, Int.reduceLT, Int.reduceLE, Int.reduceEq, Int.reduceNe, Int.reduceBEq, Nat.reduceBEq, Int.reduceBNe, Nat.reduceBNe, Int.reduceAdd, Int.reduceSub, Int.reduceMul, Int.reduceNeg]
            refine out _ _ _ (by simp) ?_
            simp (dsimp := false) (maxSteps := 4000000) only [enc_len, enc_scal, enc_take, enc_z4, encE_len, encE_scal, encE_z5, encE_take, neqRc, neqE, go_sem, ↓reduceIte, Nat.reduceEqDiff, Nat.reduceLT, Nat.reduceLeDiff, Nat.reduceAdd, Nat.reduceMul, Nat.reduceSub, reduceCtorEq, Int.reduceToNat, Int.reduceLT, Int.reduceLE, Int.reduceEq, Int.reduceNe, Int.reduceBEq, Nat.reduceBEq, Int.reduceBNe, Nat.reduceBNe, Int.reduceAdd, Int.reduceSub, Int.reduceMul, Int.reduceNeg]
            refine (awake_c _).mono ?_; rintro _ _ ⟨rfl, rfl⟩
            rcases hcase with ⟨h0, _⟩ | ⟨h0, hn⟩
            · simp (dsimp := false) (maxSteps := 4000000) only [h0, h16', enc_len, enc_scal, enc_take, enc_z4, encE_len, encE_scal, encE_z5, encE_take, neqRc, neqE, go_sem, ↓reduceIte, Nat.reduceEqDiff, Nat.reduceLT, Nat.reduceLeDiff, Nat.reduceAdd, Nat.reduceMul, Nat.reduceSub, reduceCtorEq, Int.reduceToNat, Int.reduceLT, Int.reduceLE, Int.reduceEq, Int.reduceNe, Int.reduceBEq, Nat.reduceBEq, Int.reduceBNe, Nat.reduceBNe, Int.reduceAdd, Int.reduceSub, Int.reduceMul, Int.reduceNeg]
              exact ⟨H, l9, rfl⟩
            · have hn' : ((tO p S).length : Int) = 0 := by rw [hn]; rfl
              simp (dsimp := false) (maxSteps := 4000000) only [h0, hn', h16', enc_len, enc_scal, enc_take, enc_z4, encE_len, encE_scal, encE_z5, encE_take, neqRc, neqE, go_sem, ↓reduceIte, Nat.reduceEqDiff, Nat.reduceLT, Nat.reduceLeDiff, Nat.reduceAdd, Nat.reduceMul, Nat.reduceSub, reduceCtorEq, Int.reduceToNat, Int.reduceLT, Int.reduceLE, Int.reduceEq, Int.reduceNe, Int.reduceBEq, Nat.reduceBEq, Int.reduceBNe, Nat.reduceBNe, Int.reduceAdd, Int.reduceSub, Int.reduceMul, Int.reduceNeg]
              exact ⟨H, l9, rfl⟩
        
      
    | false =>
      have t2 : tE (x0, x1, x2, x3) = 2 := by simp [tE, gv]
      rw [t2]
      
      simp (dsimp := false) (maxSteps := 4000000) only [enc_len, enc_scal, enc_take, enc_z4, encE_len, encE_scal, encE_z5, encE_take, neqRc, neqE, hn_b4, hr_b4, hn_b5, hr_b5, hn_b7, hr_b7, hn_b9, hr_b9, hn_b11, hr_b11, hn_b13, hr_b13, go_sem, ↓reduceIte, Nat.reduceEqDiff, Nat.reduceLT, Nat.reduceLeDiff, Nat.reduceAdd, Nat.reduceMul, Nat.reduceSub, reduceCtorEq, Int.reduceToNat, Int.reduceLT, Int.reduceLE, Int.reduceEq, Int.reduceNe, Int.reduceBEq, Nat.reduceBEq, Int.reduceBNe, Nat.reduceBNe, Int.reduceAdd, Int.reduceSub, Int.reduceMul, Int.reduceNeg]
      refine (some_x ((((((hs.add (by simp only [fresh_add, ne_eq, hn_b4, not_false_eq_true, and_self] : Fresh _ b4)).add (by simp only [fresh_add, ne_eq, hn_b5, not_false_eq_true, and_self] : Fresh _ b5)).add (by simp only [fresh_add, ne_eq, hn_b7, not_false_eq_true, and_self] : Fresh _ b7)).add (by simp only [fresh_add, ne_eq, hn_b9, not_false_eq_true, and_self] : Fresh _ b9)).add (by simp only [fresh_add, ne_eq, hn_b11, not_false_eq_true, and_self] : Fresh _ b11)).add (by simp only [fresh_add, ne_eq, hn_b13, not_false_eq_true, and_self] : Fresh _ b13)) hM).mono ?_; rintro _ _ ⟨rfl, rfl⟩
      simp (dsimp := false) (maxSteps := 4000000) only [enc_len, enc_scal, enc_take, enc_z4, encE_len, encE_scal, encE_z5, encE_take, neqRc, neqE, hn_b4, hr_b4, hn_b5, hr_b5, hn_b7, hr_b7, hn_b9, hr_b9, hn_b11, hr_b11, hn_b13, hr_b13, go_sem, ↓reduceIte, Nat.reduceEqDiff, Nat.reduceLT, Nat.reduceLeDiff, Nat.reduceAdd, Nat.reduceMul, Nat.reduceSub, reduceCtorEq, Int.reduceToNat, Int.reduceLT, Int.reduceLE, Int.reduceEq, Int.reduceNe, Int.reduceBEq, Nat.reduceBEq, Int.reduceBNe, Nat.reduceBNe, Int.reduceAdd, Int.reduceSub, Int.reduceMul, Int.reduceNeg]
      refine (File_u ((((((hs2.add (by simp only [fresh_add, ne_eq, hn_b4, not_false_eq_true, and_self] : Fresh _ b4)).add (by simp only [fresh_add, ne_eq, hn_b5, not_false_eq_true, and_self] : Fresh _ b5)).add (by simp only [fresh_add, ne_eq, hn_b7, not_false_eq_true, and_self] : Fresh _ b7)).add (by simp only [fresh_add, ne_eq, hn_b9, not_false_eq_true, and_self] : Fresh _ b9)).add (by simp only [fresh_add, ne_eq, hn_b11, not_false_eq_true, and_self] : Fresh _ b11)).add (by simp only [fresh_add, ne_eq, hn_b13, not_false_eq_true, and_self] : Fresh _ b13)) rfl).mono ?_; rintro _ A1 ⟨bc, cc, rfl, hG1⟩
      have q7 : A1.find b7 = some (ABlk.cells [.int .i64 p, .slice bf R.length cf] 25 2) := hG1.keep.find (fun h => h) (by (show AH.find _ _ = _; simp only [find_add_self, find_add_ne, find_fresh, fresh_add, ne_eq, not_false_eq_true, true_and, and_true, and_self, enc_len, enc_scal, enc_take, enc_z4, encE_len, encE_scal, encE_z5, encE_take, neqRc, neqE, hn_b4, hr_b4, hn_b5, hr_b5, hn_b7, hr_b7, hn_b9, hr_b9, hn_b11, hr_b11, hn_b13, hr_b13]))
      have sL1 : SlcIn A1 5 base cap (L.map encE) := SlcIn.keep ((((((hs.add (by simp only [fresh_add, ne_eq, hn_b4, not_false_eq_true, and_self] : Fresh _ b4)).add (by simp only [fresh_add, ne_eq, hn_b5, not_false_eq_true, and_self] : Fresh _ b5)).add (by simp only [fresh_add, ne_eq, hn_b7, not_false_eq_true, and_self] : Fresh _ b7)).add (by simp only [fresh_add, ne_eq, hn_b9, not_false_eq_true, and_self] : Fresh _ b9)).add (by simp only [fresh_add, ne_eq, hn_b11, not_false_eq_true, and_self] : Fresh _ b11)).add (by simp only [fresh_add, ne_eq, hn_b13, not_false_eq_true, and_self] : Fresh _ b13)) hG1.keep fun _ _ h => h
      have sM1 : SlcIn A1 5 base cap (M.map encE) := SlcIn.keep ((((((hs2.add (by simp only [fresh_add, ne_eq, hn_b4, not_false_eq_true, and_self] : Fresh _ b4)).add (by simp only [fresh_add, ne_eq, hn_b5, not_false_eq_true, and_self] : Fresh _ b5)).add (by simp only [fresh_add, ne_eq, hn_b7, not_false_eq_true, and_self] : Fresh _ b7)).add (by simp only [fresh_add, ne_eq, hn_b9, not_false_eq_true, and_self] : Fresh _ b9)).add (by simp only [fresh_add, ne_eq, hn_b11, not_false_eq_true, and_self] : Fresh _ b11)).add (by simp only [fresh_add, ne_eq, hn_b13, not_false_eq_true, and_self] : Fresh _ b13)) hG1.keep fun _ _ h => h
      have sR1 : SlcIn A1 4 bf cf (R.map enc) := SlcIn.keep ((((((ht.add (by simp only [fresh_add, ne_eq, hn_b4, not_false_eq_true, and_self] : Fresh _ b4)).add (by simp only [fresh_add, ne_eq, hn_b5, not_false_eq_true, and_self] : Fresh _ b5)).add (by simp only [fresh_add, ne_eq, hn_b7, not_false_eq_true, and_self] : Fresh _ b7)).add (by simp only [fresh_add, ne_eq, hn_b9, not_false_eq_true, and_self] : Fresh _ b9)).add (by simp only [fresh_add, ne_eq, hn_b11, not_false_eq_true, and_self] : Fresh _ b11)).add (by simp only [fresh_add, ne_eq, hn_b13, not_false_eq_true, and_self] : Fresh _ b13)) hG1.keep fun _ _ h => h
      have sS1 : SlcIn A1 4 bf cf (S.map enc) := SlcIn.keep ((((((ht2.add (by simp only [fresh_add, ne_eq, hn_b4, not_false_eq_true, and_self] : Fresh _ b4)).add (by simp only [fresh_add, ne_eq, hn_b5, not_false_eq_true, and_self] : Fresh _ b5)).add (by simp only [fresh_add, ne_eq, hn_b7, not_false_eq_true, and_self] : Fresh _ b7)).add (by simp only [fresh_add, ne_eq, hn_b9, not_false_eq_true, and_self] : Fresh _ b9)).add (by simp only [fresh_add, ne_eq, hn_b11, not_false_eq_true, and_self] : Fresh _ b11)).add (by simp only [fresh_add, ne_eq, hn_b13, not_false_eq_true, and_self] : Fresh _ b13)) hG1.keep fun _ _ h => h
      have l1 : H.le A1 := AH.le_trans (by (repeat (first | exact AH.le_refl _ | refine AH.le_add ?_ ?_)); all_goals (first | exact AH.le_refl _ | (show AH.find _ _ = _; simp only [find_add_self, find_add_ne, find_fresh, fresh_add, ne_eq, not_false_eq_true, true_and, and_true, and_self, enc_len, enc_scal, enc_take, enc_z4, encE_len, encE_scal, encE_z5, encE_take, neqRc, neqE, hn_b4, hr_b4, hn_b5, hr_b5, hn_b7, hr_b7, hn_b9, hr_b9, hn_b11, hr_b11, hn_b13, hr_b13]))) hG1.keep.all
      
      simp (dsimp := false) (maxSteps := 4000000) only [enc_len, enc_scal, enc_take, enc_z4, encE_len, encE_scal, encE_z5, encE_take, neqRc, neqE, go_sem, ↓reduceIte, Nat.reduceEqDiff, Nat.reduceLT, Nat.reduceLeDiff, Nat.reduceAdd, Nat.reduceMul, Nat.reduceSub, reduceCtorEq, Int.reduceToNat, Int.reduceLT, Int.reduceLE, Int.reduceEq, Int.reduceNe, Int.reduceBEq, Nat.reduceBEq, Int.reduceBNe, Nat.reduceBNe, Int.reduceAdd, Int.reduceSub, Int.reduceMul, Int.reduceNeg]
      refine AllB.mk fun b17 h_b17 => ?_; have hn_b17 := h_b17; (try simp only [fresh_add, fresh_set, ne_eq] at hn_b17); have hr_b17 := hn_b17; (try simp only [@eq_comm Nat b17] at hr_b17); simp (dsimp := false) (maxSteps := 4000000) only [enc_len, enc_scal, enc_take, enc_z4, encE_len, encE_scal, encE_z5, encE_take, neqRc, neqE, hn_b17, hr_b17, go_sem, ↓reduceIte, Nat.reduceEqDiff, Nat.reduceLT, Nat.reduceLeDiff, Nat.reduceAdd, Nat.reduceMul, Nat.reduceSub, reduceCtorEq, Int.reduceToNat, Int.reduceLT, Int.reduceLE, Int.reduceEq, Int.reduceNe, Int.reduceBEq, Nat.reduceBEq, Int.reduceBNe, Nat.reduceBNe, Int.reduceAdd, Int.reduceSub, Int.reduceMul, Int.reduceNeg]
      have m7 := hn_b17.ne_find q7
      cases gm : mayB M with
      | true =>
        have f1 : fR M = fileE M := by simp [fR, gm]
        have f2 : fP M = 3 := by simp [fP, gm]
        have f3 : fE M = 0 := by simp [fE, gm]
        obtain ⟨f4, f5⟩ := tab_file gm
        have hfo := fR_ok M
        rw [f1] at hG1 hfo ⊢
        rw [f2, f3]
        
        simp (dsimp := false) (maxSteps := 4000000) only [enc_len, enc_scal, enc_take, enc_z4, encE_len, encE_scal, encE_z5, encE_take, neqRc, neqE, hn_b17, hr_b17, go_sem, ↓reduceIte, Nat.reduceEqDiff, Nat.reduceLT, Nat.reduceLeDiff, Nat.reduceAdd, Nat.reduceMul, Nat.reduceSub, reduceCtorEq, Int.reduceToNat, Int.reduceLT, Int.reduceLE, Int.reduceEq, Int.reduceNe, Int.reduceBEq, Nat.reduceBEq, Int.reduceBNe, Nat.reduceBNe, Int.reduceAdd, Int.reduceSub, Int.reduceMul, Int.reduceNeg]
        refine (Table_u (p := 3) (R := fileE M) (hG1.slc.add h_b17) hfo rfl).mono ?_; rintro _ A2 ⟨bd, cd, rfl, hG2⟩
        rw [f4] at hG2 ⊢
        rw [f5]
        have w7 : A2.find b7 = some (ABlk.cells [.int .i64 p, .slice bf R.length cf] 25 2) := hG2.keep.find (fun h => h) (by rw [find_add_ne _ m7]; exact q7)
        have sL2 : SlcIn A2 5 base cap (L.map encE) := (sL1.add h_b17).keep hG2.keep fun _ _ h => h
        have sM2 : SlcIn A2 5 base cap (M.map encE) := (sM1.add h_b17).keep hG2.keep fun _ _ h => h
        have sR2 : SlcIn A2 4 bf cf (R.map enc) := (sR1.add h_b17).keep hG2.keep fun _ _ h => h
        have sS2 : SlcIn A2 4 bf cf (S.map enc) := (sS1.add h_b17).keep hG2.keep fun _ _ h => h
        have l2 : H.le A2 := AH.le_trans (AH.le_add l1 h_b17.2) hG2.keep.all
        have r7 := (Keep.refl (ex := fun _ => False)).row w7 (n := 2) rfl
        
        simp (dsimp := false) (maxSteps := 4000000) only [enc_len, enc_scal, enc_take, enc_z4, encE_len, encE_scal, encE_z5, encE_take, neqRc, neqE, go_sem, ↓reduceIte, Nat.reduceEqDiff, Nat.reduceLT, Nat.reduceLeDiff, Nat.reduceAdd, Nat.reduceMul, Nat.reduceSub, reduceCtorEq, Int.reduceToNat, Int.reduceLT, Int.reduceLE, Int.reduceEq, Int.reduceNe, Int.reduceBEq, Nat.reduceBEq, Int.reduceBNe, Nat.reduceBNe, Int.reduceAdd, Int.reduceSub, Int.reduceMul, Int.reduceNeg]
        refine (some_x sL2 hM).mono ?_; rintro _ _ ⟨rfl, rfl⟩
        simp (dsimp := false) (maxSteps := 4000000) only [enc_len, enc_scal, enc_take, enc_z4, encE_len, encE_scal, encE_z5, encE_take, neqRc, neqE, go_sem, ↓reduceIte, Nat.reduceEqDiff, Nat.reduceLT, Nat.reduceLeDiff, Nat.reduceAdd, Nat.reduceMul, Nat.reduceSub, reduceCtorEq, Int.reduceToNat, Int.reduceLT, Int.reduceLE, Int.reduceEq, Int.reduceNe, Int.reduceBEq, Nat.reduceBEq, Int.reduceBNe, Nat.reduceBNe, Int.reduceAdd, Int.reduceSub, Int.reduceMul, Int.reduceNeg]
        refine (same_x hG2.slc sM2).mono ?_; rintro _ _ ⟨rfl, rfl⟩
        simp (dsimp := false) (maxSteps := 4000000) only [r7, enc_len, enc_scal, enc_take, enc_z4, encE_len, encE_scal, encE_z5, encE_take, neqRc, neqE, go_sem, ↓reduceIte, Nat.reduceEqDiff, Nat.reduceLT, Nat.reduceLeDiff, Nat.reduceAdd, Nat.reduceMul, Nat.reduceSub, reduceCtorEq, Int.reduceToNat, Int.reduceLT, Int.reduceLE, Int.reduceEq, Int.reduceNe, Int.reduceBEq, Nat.reduceBEq, Int.reduceBNe, Nat.reduceBNe, Int.reduceAdd, Int.reduceSub, Int.reduceMul, Int.reduceNeg]
        refine (Rodl.few_x (sR2) hS).mono ?_; rintro _ _ ⟨rfl, rfl⟩
        simp (dsimp := false) (maxSteps := 4000000) only [enc_len, enc_scal, enc_take, enc_z4, encE_len, encE_scal, encE_z5, encE_take, neqRc, neqE, go_sem, ↓reduceIte, Nat.reduceEqDiff, Nat.reduceLT, Nat.reduceLeDiff, Nat.reduceAdd, Nat.reduceMul, Nat.reduceSub, reduceCtorEq, Int.reduceToNat, Int.reduceLT, Int.reduceLE, Int.reduceEq, Int.reduceNe, Int.reduceBEq, Nat.reduceBEq, Int.reduceBNe, Nat.reduceBNe, Int.reduceAdd, Int.reduceSub, Int.reduceMul, Int.reduceNeg]
        refine (Table_u (sS2) hw2 rfl).mono ?_; rintro _ A9 ⟨be, ce, rfl, hG9⟩
        have l9 : H.le A9 := AH.le_trans l2 hG9.keep.all
        have sT := hG9.slc
        
        have hcase := tO_may p S
        have h16 : (tO p S).length ≤ 16 := by
          rcases hcase with ⟨_, h⟩ | ⟨_, h⟩
          · exact mayB_16 h
          · rw [h]; simp
        have h16' : ((tO p S).length : Int) ≤ 16 := by omega
        simp (dsimp := false) (maxSteps := 4000000) only [enc_len, enc_scal, enc_take, enc_z4, encE_len, encE_scal, encE_z5, encE_take, neqRc, neqE, go_sem, ↓reduceIte, Nat.reduceEqDiff, Nat.reduceLT, Nat.reduceLeDiff, Nat.reduceAdd, Nat.reduceMul, Nat.reduceSub, reduceCtorEq, Int.reduceToNat, Int.reduceLT, Int.reduceLE, Int.reduceEq, Int.reduceNe, Int.reduceBEq, Nat.reduceBEq, Int.reduceBNe, Nat.reduceBNe, Int.reduceAdd, Int.reduceSub, Int.reduceMul, Int.reduceNeg]
        refine AWp.loopo (ι := Nat) (fun i => i ≤ (tO p S).length) (fun i => [(23, .int .i64 ((i + 1 : Nat) : Int)), (21, .slice be (tO p S).length ce), (22, .int .i64 (tN p S))])
          (fun _ => A9) (fun i => (tO p S).length - i) 0 (by omega) (FrLe.of_lks ?_) (AH.le_refl _) fun i hi Q again out => ?_
        · simp (dsimp := false) (maxSteps := 4000000) only [enc_len, enc_scal, enc_take, enc_z4, encE_len, encE_scal, encE_z5, encE_take, neqRc, neqE, go_sem, ↓reduceIte, Nat.reduceEqDiff, Nat.reduceLT, Nat.reduceLeDiff, Nat.reduceAdd, Nat.reduceMul, Nat.reduceSub, reduceCtorEq, Int.reduceToNat, Int.reduceLT, Int.reduceLE, Int.reduceEq, Int.reduceNe, Int.reduceBEq, Nat.reduceBEq, Int.reduceBNe, Nat.reduceBNe, Int.reduceAdd, Int.reduceSub, Int.reduceMul, Int.reduceNeg]
        · by_cases h : i + 1 < (tO p S).length
          · have h' : ((i + 1 : Nat) : Int) < (tO p S).length := by omega
            have hm : mayB (tO p S) = true := by
              rcases hcase with ⟨_, h⟩ | ⟨_, h0⟩
              · exact h
              · rw [h0] at h; simp at h
            obtain ⟨y, hy⟩ := get_some (l := tO p S) (i := i + 1) (by omega)
            obtain ⟨z, hz⟩ := get_some (l := tO p S) (i := i) (by omega)
            obtain ⟨q, o, rfl, _, rdy⟩ := sT.get (map_get (f := encE) hy)
            obtain ⟨q', o', hb', _, rdz⟩ := sT.get (map_get (f := encE) hz)
            cases hb'
            have ry := rdy 1 _ rfl
            have rz := rdz 1 _ rfl
            have hup := (chk_of hm hy).2.2
            rw [prv_succ hz] at hup
            have hup' : ¬ y.2.1 ≤ z.2.1 := by omega
            have em : IntKind.i64.wrap (((i + 1 : Nat) : Int) - 1) = (i : Int) := by rw [i64_eq (by omega) (by omega)]; omega
            have hi' : (i : Int) < (tO p S).length := by omega
            have ee := i64_succ (i := i + 1) (by omega)
            simp (dsimp := false) (maxSteps := 4000000) only [h', enc_len, enc_scal, enc_take, enc_z4, encE_len, encE_scal, encE_z5, encE_take, neqRc, neqE, go_sem, ↓reduceIte, Nat.reduceEqDiff, Nat.reduceLT, Nat.reduceLeDiff, Nat.reduceAdd, Nat.reduceMul, Nat.reduceSub, reduceCtorEq, Int.reduceToNat, Int.reduceLT, Int.reduceLE, Int.reduceEq, Int.reduceNe, Int.reduceBEq, Nat.reduceBEq, Int.reduceBNe, Nat.reduceBNe, Int.reduceAdd, Int.reduceSub, Int.reduceMul, Int.reduceNeg]
            refine AWp.quiet mixed (by kernel_rfl) ?_
            simp (dsimp := false) (maxSteps := 4000000) only [h', hi', em, ry, rz, hup', enc_len, enc_scal, enc_take, enc_z4, encE_len, encE_scal, encE_z5, encE_take, neqRc, neqE, go_sem, ↓reduceIte, Nat.reduceEqDiff, Nat.reduceLT, Nat.reduceLeDiff, Nat.reduceAdd, Nat.reduceMul, Nat.reduceSub, reduceCtorEq, Int.reduceToNat, Int.reduceLT, Int.reduceLE, Int.reduceEq, Int.reduceNe, Int.reduceBEq, Nat.reduceBEq, Int.reduceBNe, Nat.reduceBNe, Int.reduceAdd, Int.reduceSub, Int.reduceMul, Int.reduceNeg]
            simp (dsimp := false) (maxSteps := 4000000) only [ee, enc_len, enc_scal, enc_take, enc_z4, encE_len, encE_scal, encE_z5, encE_take, neqRc, neqE, go_sem, ↓reduceIte, Nat.reduceEqDiff, Nat.reduceLT, Nat.reduceLeDiff, Nat.reduceAdd, Nat.reduceMul, Nat.reduceSub, reduceCtorEq, Int.reduceToNat, Int.reduceLT, Int.reduceLE, Int.reduceEq, Int.reduceNe, Int.reduceBEq, Nat.reduceBEq, Int.reduceBNe, Nat.reduceBNe, Int.reduceAdd, Int.reduceSub, Int.reduceMul, Int.reduceNeg]
            exact again (i + 1) _ _ (by omega) (FrLe.of_lks (by simp (dsimp := false) (maxSteps := 4000000) only [enc_len, enc_scal, enc_take, enc_z4, encE_len, encE_scal, encE_z5, encE_take, neqRc, neqE, go_sem, ↓reduceIte, Nat.reduceEqDiff, Nat.reduceLT, Nat.reduceLeDiff, Nat.reduceAdd, Nat.reduceMul, Nat.reduceSub, reduceCtorEq, Int.reduceToNat, Int.reduceLT, Int.reduceLE, Int.reduceEq, Int.reduceNe, Int.reduceBEq, Nat.reduceBEq, Int.reduceBNe, Nat.reduceBNe, Int.reduceAdd, Int.reduceSub, Int.reduceMul, Int.reduceNeg])) (AH.le_refl _) (by omega)
          · have h' : ¬ ((i + 1 : Nat) : Int) < (tO p S).length := by omega
            simp (dsimp := false) (maxSteps := 4000000) only [h', enc_len, enc_scal, enc_take, enc_z4, encE_len, encE_scal, encE_z5, encE_take, neqRc, neqE, go_sem, ↓reduceIte, Nat.reduceEqDiff, Nat.reduceLT, Nat.reduceLeDiff, Nat.reduceAdd, Nat.reduceMul, Nat.reduceSub, reduceCtorEq, Int.reduceToNat, Int.reduceLT, Int.reduceLE, Int.reduceEq, Int.reduceNe, Int.reduceBEq, Nat.reduceBEq, Int.reduceBNe, Nat.reduceBNe, Int.reduceAdd, Int.reduceSub, Int.reduceMul, Int.reduceNeg]
            refine out _ _ _ (by simp) ?_
            simp (dsimp := false) (maxSteps := 4000000) only [enc_len, enc_scal, enc_take, enc_z4, encE_len, encE_scal, encE_z5, encE_take, neqRc, neqE, go_sem, ↓reduceIte, Nat.reduceEqDiff, Nat.reduceLT, Nat.reduceLeDiff, Nat.reduceAdd, Nat.reduceMul, Nat.reduceSub, reduceCtorEq, Int.reduceToNat, Int.reduceLT, Int.reduceLE, Int.reduceEq, Int.reduceNe, Int.reduceBEq, Nat.reduceBEq, Int.reduceBNe, Nat.reduceBNe, Int.reduceAdd, Int.reduceSub, Int.reduceMul, Int.reduceNeg]
            refine (awake_c _).mono ?_; rintro _ _ ⟨rfl, rfl⟩
            rcases hcase with ⟨h0, _⟩ | ⟨h0, hn⟩
            · simp (dsimp := false) (maxSteps := 4000000) only [h0, h16', enc_len, enc_scal, enc_take, enc_z4, encE_len, encE_scal, encE_z5, encE_take, neqRc, neqE, go_sem, ↓reduceIte, Nat.reduceEqDiff, Nat.reduceLT, Nat.reduceLeDiff, Nat.reduceAdd, Nat.reduceMul, Nat.reduceSub, reduceCtorEq, Int.reduceToNat, Int.reduceLT, Int.reduceLE, Int.reduceEq, Int.reduceNe, Int.reduceBEq, Nat.reduceBEq, Int.reduceBNe, Nat.reduceBNe, Int.reduceAdd, Int.reduceSub, Int.reduceMul, Int.reduceNeg]
              exact ⟨H, l9, rfl⟩
            · have hn' : ((tO p S).length : Int) = 0 := by rw [hn]; rfl
              simp (dsimp := false) (maxSteps := 4000000) only [h0, hn', h16', enc_len, enc_scal, enc_take, enc_z4, encE_len, encE_scal, encE_z5, encE_take, neqRc, neqE, go_sem, ↓reduceIte, Nat.reduceEqDiff, Nat.reduceLT, Nat.reduceLeDiff, Nat.reduceAdd, Nat.reduceMul, Nat.reduceSub, reduceCtorEq, Int.reduceToNat, Int.reduceLT, Int.reduceLE, Int.reduceEq, Int.reduceNe, Int.reduceBEq, Nat.reduceBEq, Int.reduceBNe, Nat.reduceBNe, Int.reduceAdd, Int.reduceSub, Int.reduceMul, Int.reduceNeg]
              exact ⟨H, l9, rfl⟩
        
      | false =>
        have f3 : fE M = 1 := by simp [fE, gm]
        have r7 := (Keep.refl (ex := fun _ => False)).row q7 (n := 2) rfl
        rw [f3]
        
        simp (dsimp := false) (maxSteps := 4000000) only [r7, m7, enc_len, enc_scal, enc_take, enc_z4, encE_len, encE_scal, encE_z5, encE_take, neqRc, neqE, hn_b17, hr_b17, go_sem, ↓reduceIte, Nat.reduceEqDiff, Nat.reduceLT, Nat.reduceLeDiff, Nat.reduceAdd, Nat.reduceMul, Nat.reduceSub, reduceCtorEq, Int.reduceToNat, Int.reduceLT, Int.reduceLE, Int.reduceEq, Int.reduceNe, Int.reduceBEq, Nat.reduceBEq, Int.reduceBNe, Nat.reduceBNe, Int.reduceAdd, Int.reduceSub, Int.reduceMul, Int.reduceNeg]
        refine (Rodl.few_x (sR1.add h_b17) hS).mono ?_; rintro _ _ ⟨rfl, rfl⟩
        simp (dsimp := false) (maxSteps := 4000000) only [enc_len, enc_scal, enc_take, enc_z4, encE_len, encE_scal, encE_z5, encE_take, neqRc, neqE, hn_b17, hr_b17, go_sem, ↓reduceIte, Nat.reduceEqDiff, Nat.reduceLT, Nat.reduceLeDiff, Nat.reduceAdd, Nat.reduceMul, Nat.reduceSub, reduceCtorEq, Int.reduceToNat, Int.reduceLT, Int.reduceLE, Int.reduceEq, Int.reduceNe, Int.reduceBEq, Nat.reduceBEq, Int.reduceBNe, Nat.reduceBNe, Int.reduceAdd, Int.reduceSub, Int.reduceMul, Int.reduceNeg]
        refine (Table_u (sS1.add h_b17) hw2 rfl).mono ?_; rintro _ A9 ⟨be, ce, rfl, hG9⟩
        have l9 : H.le A9 := AH.le_trans (AH.le_add l1 h_b17.2) hG9.keep.all
        have sT := hG9.slc
        
        have hcase := tO_may p S
        have h16 : (tO p S).length ≤ 16 := by
          rcases hcase with ⟨_, h⟩ | ⟨_, h⟩
          · exact mayB_16 h
          · rw [h]; simp
        have h16' : ((tO p S).length : Int) ≤ 16 := by omega
        simp (dsimp := false) (maxSteps := 4000000) only [enc_len, enc_scal, enc_take, enc_z4, encE_len, encE_scal, encE_z5, encE_take, neqRc, neqE, go_sem, ↓reduceIte, Nat.reduceEqDiff, Nat.reduceLT, Nat.reduceLeDiff, Nat.reduceAdd, Nat.reduceMul, Nat.reduceSub, reduceCtorEq, Int.reduceToNat, Int.reduceLT, Int.reduceLE, Int.reduceEq, Int.reduceNe, Int.reduceBEq, Nat.reduceBEq, Int.reduceBNe, Nat.reduceBNe, Int.reduceAdd, Int.reduceSub, Int.reduceMul, Int.reduceNeg]
        refine AWp.loopo (ι := Nat) (fun i => i ≤ (tO p S).length) (fun i => [(23, .int .i64 ((i + 1 : Nat) : Int)), (21, .slice be (tO p S).length ce), (22, .int .i64 (tN p S))])
          (fun _ => A9) (fun i => (tO p S).length - i) 0 (by omega) (FrLe.of_lks ?_) (AH.le_refl _) fun i hi Q again out => ?_
        · simp (dsimp := false) (maxSteps := 4000000) only [enc_len, enc_scal, enc_take, enc_z4, encE_len, encE_scal, encE_z5, encE_take, neqRc, neqE, go_sem, ↓reduceIte, Nat.reduceEqDiff, Nat.reduceLT, Nat.reduceLeDiff, Nat.reduceAdd, Nat.reduceMul, Nat.reduceSub, reduceCtorEq, Int.reduceToNat, Int.reduceLT, Int.reduceLE, Int.reduceEq, Int.reduceNe, Int.reduceBEq, Nat.reduceBEq, Int.reduceBNe, Nat.reduceBNe, Int.reduceAdd, Int.reduceSub, Int.reduceMul, Int.reduceNeg]
        · by_cases h : i + 1 < (tO p S).length
          · have h' : ((i + 1 : Nat) : Int) < (tO p S).length := by omega
            have hm : mayB (tO p S) = true := by
              rcases hcase with ⟨_, h⟩ | ⟨_, h0⟩
              · exact h
              · rw [h0] at h; simp at h
            obtain ⟨y, hy⟩ := get_some (l := tO p S) (i := i + 1) (by omega)
            obtain ⟨z, hz⟩ := get_some (l := tO p S) (i := i) (by omega)
            obtain ⟨q, o, rfl, _, rdy⟩ := sT.get (map_get (f := encE) hy)
            obtain ⟨q', o', hb', _, rdz⟩ := sT.get (map_get (f := encE) hz)
            cases hb'
            have ry := rdy 1 _ rfl
            have rz := rdz 1 _ rfl
            have hup := (chk_of hm hy).2.2
            rw [prv_succ hz] at hup
            have hup' : ¬ y.2.1 ≤ z.2.1 := by omega
            have em : IntKind.i64.wrap (((i + 1 : Nat) : Int) - 1) = (i : Int) := by rw [i64_eq (by omega) (by omega)]; omega
            have hi' : (i : Int) < (tO p S).length := by omega
            have ee := i64_succ (i := i + 1) (by omega)
            simp (dsimp := false) (maxSteps := 4000000) only [h', enc_len, enc_scal, enc_take, enc_z4, encE_len, encE_scal, encE_z5, encE_take, neqRc, neqE, go_sem, ↓reduceIte, Nat.reduceEqDiff, Nat.reduceLT, Nat.reduceLeDiff, Nat.reduceAdd, Nat.reduceMul, Nat.reduceSub, reduceCtorEq, Int.reduceToNat, Int.reduceLT, Int.reduceLE, Int.reduceEq, Int.reduceNe, Int.reduceBEq, Nat.reduceBEq, Int.reduceBNe, Nat.reduceBNe, Int.reduceAdd, Int.reduceSub, Int.reduceMul, Int.reduceNeg]
            refine AWp.quiet mixed (by kernel_rfl) ?_
            simp (dsimp := false) (maxSteps := 4000000) only [h', hi', em, ry, rz, hup', enc_len, enc_scal, enc_take, enc_z4, encE_len, encE_scal, encE_z5, encE_take, neqRc, neqE, go_sem, ↓reduceIte, Nat.reduceEqDiff, Nat.reduceLT, Nat.reduceLeDiff, Nat.reduceAdd, Nat.reduceMul, Nat.reduceSub, reduceCtorEq, Int.reduceToNat, Int.reduceLT, Int.reduceLE, Int.reduceEq, Int.reduceNe, Int.reduceBEq, Nat.reduceBEq, Int.reduceBNe, Nat.reduceBNe, Int.reduceAdd, Int.reduceSub, Int.reduceMul, Int.reduceNeg]
            simp (dsimp := false) (maxSteps := 4000000) only [ee, enc_len, enc_scal, enc_take, enc_z4, encE_len, encE_scal, encE_z5, encE_take, neqRc, neqE, go_sem, ↓reduceIte, Nat.reduceEqDiff, Nat.reduceLT, Nat.reduceLeDiff, Nat.reduceAdd, Nat.reduceMul, Nat.reduceSub, reduceCtorEq, Int.reduceToNat, Int.reduceLT, Int.reduceLE, Int.reduceEq, Int.reduceNe, Int.reduceBEq, Nat.reduceBEq, Int.reduceBNe, Nat.reduceBNe, Int.reduceAdd, Int.reduceSub, Int.reduceMul, Int.reduceNeg]
            exact again (i + 1) _ _ (by omega) (FrLe.of_lks (by simp (dsimp := false) (maxSteps := 4000000) only [enc_len, enc_scal, enc_take, enc_z4, encE_len, encE_scal, encE_z5, encE_take, neqRc, neqE, go_sem, ↓reduceIte, Nat.reduceEqDiff, Nat.reduceLT, Nat.reduceLeDiff, Nat.reduceAdd, Nat.reduceMul, Nat.reduceSub, reduceCtorEq, Int.reduceToNat, Int.reduceLT, Int.reduceLE, Int.reduceEq, Int.reduceNe, Int.reduceBEq, Nat.reduceBEq, Int.reduceBNe, Nat.reduceBNe, Int.reduceAdd, Int.reduceSub, Int.reduceMul, Int.reduceNeg])) (AH.le_refl _) (by omega)
          · have h' : ¬ ((i + 1 : Nat) : Int) < (tO p S).length := by omega
            simp (dsimp := false) (maxSteps := 4000000) only [h', enc_len, enc_scal, enc_take, enc_z4, encE_len, encE_scal, encE_z5, encE_take, neqRc, neqE, go_sem, ↓reduceIte, Nat.reduceEqDiff, Nat.reduceLT, Nat.reduceLeDiff, Nat.reduceAdd, Nat.reduceMul, Nat.reduceSub, reduceCtorEq, Int.reduceToNat, Int.reduceLT, Int.reduceLE, Int.reduceEq, Int.reduceNe, Int.reduceBEq, Nat.reduceBEq, Int.reduceBNe, Nat.reduceBNe, Int.reduceAdd, Int.reduceSub, Int.reduceMul, Int.reduceNeg]
            refine out _ _ _ (by simp) ?_
            simp (dsimp := false) (maxSteps := 4000000) only [enc_len, enc_scal, enc_take, enc_z4, encE_len, encE_scal, encE_z5, encE_take, neqRc, neqE, go_sem, ↓reduceIte, Nat.reduceEqDiff, Nat.reduceLT, Nat.reduceLeDiff, Nat.reduceAdd, Nat.reduceMul, Nat.reduceSub, reduceCtorEq, Int.reduceToNat, Int.reduceLT, Int.reduceLE, Int.reduceEq, Int.reduceNe, Int.reduceBEq, Nat.reduceBEq, Int.reduceBNe, Nat.reduceBNe, Int.reduceAdd, Int.reduceSub, Int.reduceMul, Int.reduceNeg]
            refine (awake_c _).mono ?_; rintro _ _ ⟨rfl, rfl⟩
            rcases hcase with ⟨h0, _⟩ | ⟨h0, hn⟩
            · simp (dsimp := false) (maxSteps := 4000000) only [h0, h16', enc_len, enc_scal, enc_take, enc_z4, encE_len, encE_scal, encE_z5, encE_take, neqRc, neqE, go_sem, ↓reduceIte, Nat.reduceEqDiff, Nat.reduceLT, Nat.reduceLeDiff, Nat.reduceAdd, Nat.reduceMul, Nat.reduceSub, reduceCtorEq, Int.reduceToNat, Int.reduceLT, Int.reduceLE, Int.reduceEq, Int.reduceNe, Int.reduceBEq, Nat.reduceBEq, Int.reduceBNe, Nat.reduceBNe, Int.reduceAdd, Int.reduceSub, Int.reduceMul, Int.reduceNeg]
              exact ⟨H, l9, rfl⟩
            · have hn' : ((tO p S).length : Int) = 0 := by rw [hn]; rfl
              simp (dsimp := false) (maxSteps := 4000000) only [h0, hn', h16', enc_len, enc_scal, enc_take, enc_z4, encE_len, encE_scal, encE_z5, encE_take, neqRc, neqE, go_sem, ↓reduceIte, Nat.reduceEqDiff, Nat.reduceLT, Nat.reduceLeDiff, Nat.reduceAdd, Nat.reduceMul, Nat.reduceSub, reduceCtorEq, Int.reduceToNat, Int.reduceLT, Int.reduceLE, Int.reduceEq, Int.reduceNe, Int.reduceBEq, Nat.reduceBEq, Int.reduceBNe, Nat.reduceBNe, Int.reduceAdd, Int.reduceSub, Int.reduceMul, Int.reduceNeg]
              exact ⟨H, l9, rfl⟩
        
      
    
  | false =>
    have p2 : pE (k, s, f, r, b) = 1 := by simp [pE, gx]
    rw [p2]
    
    simp (dsimp := false) (maxSteps := 4000000) only [enc_len, enc_scal, enc_take, enc_z4, encE_len, encE_scal, encE_z5, encE_take, neqRc, neqE, hn_b4, hr_b4, hn_b5, hr_b5, hn_b7, hr_b7, hn_b9, hr_b9, go_sem, ↓reduceIte, Nat.reduceEqDiff, Nat.reduceLT, Nat.reduceLeDiff, Nat.reduceAdd, Nat.reduceMul, Nat.reduceSub, reduceCtorEq, Int.reduceToNat, Int.reduceLT, Int.reduceLE, Int.reduceEq, Int.reduceNe, Int.reduceBEq, Nat.reduceBEq, Int.reduceBNe, Nat.reduceBNe, Int.reduceAdd, Int.reduceSub, Int.reduceMul, Int.reduceNeg]
    refine (Take_v (r := (x0, x1, x2, x3)) hok _).mono ?_; rintro _ _ ⟨rfl, rfl⟩
    simp (dsimp := false) (maxSteps := 4000000) only [enc_len, enc_scal, enc_take, enc_z4, encE_len, encE_scal, encE_z5, encE_take, neqRc, neqE, hn_b4, hr_b4, hn_b5, hr_b5, hn_b7, hr_b7, hn_b9, hr_b9, go_sem, ↓reduceIte, Nat.reduceEqDiff, Nat.reduceLT, Nat.reduceLeDiff, Nat.reduceAdd, Nat.reduceMul, Nat.reduceSub, reduceCtorEq, Int.reduceToNat, Int.reduceLT, Int.reduceLE, Int.reduceEq, Int.reduceNe, Int.reduceBEq, Nat.reduceBEq, Int.reduceBNe, Nat.reduceBNe, Int.reduceAdd, Int.reduceSub, Int.reduceMul, Int.reduceNeg]
    refine AllB.mk fun b13 h_b13 => ?_; have hn_b13 := h_b13; (try simp only [fresh_add, fresh_set, ne_eq] at hn_b13); have hr_b13 := hn_b13; (try simp only [@eq_comm Nat b13] at hr_b13); simp (dsimp := false) (maxSteps := 4000000) only [enc_len, enc_scal, enc_take, enc_z4, encE_len, encE_scal, encE_z5, encE_take, neqRc, neqE, hn_b4, hr_b4, hn_b5, hr_b5, hn_b7, hr_b7, hn_b9, hr_b9, hn_b13, hr_b13, go_sem, ↓reduceIte, Nat.reduceEqDiff, Nat.reduceLT, Nat.reduceLeDiff, Nat.reduceAdd, Nat.reduceMul, Nat.reduceSub, reduceCtorEq, Int.reduceToNat, Int.reduceLT, Int.reduceLE, Int.reduceEq, Int.reduceNe, Int.reduceBEq, Nat.reduceBEq, Int.reduceBNe, Nat.reduceBNe, Int.reduceAdd, Int.reduceSub, Int.reduceMul, Int.reduceNeg]
    cases gv : goodE (takeE (x0, x1, x2, x3)) with
    | true =>
      have t1 : tX (x0, x1, x2, x3) = takeE (x0, x1, x2, x3) := by simp [tX, gv]
      have t2 : tE (x0, x1, x2, x3) = 0 := by simp [tE, gv]
      have u1 : pR (takeE (x0, x1, x2, x3)) = (x0, x1, x2, x3) := by rw [pR, if_pos gv, put_take hok]
      have u2 : pE (takeE (x0, x1, x2, x3)) = 0 := by rw [pE, if_pos gv]
      rw [t1, t2]
      
      simp (dsimp := false) (maxSteps := 4000000) only [enc_len, enc_scal, enc_take, enc_z4, encE_len, encE_scal, encE_z5, encE_take, neqRc, neqE, hn_b4, hr_b4, hn_b5, hr_b5, hn_b7, hr_b7, hn_b9, hr_b9, hn_b13, hr_b13, go_sem, ↓reduceIte, Nat.reduceEqDiff, Nat.reduceLT, Nat.reduceLeDiff, Nat.reduceAdd, Nat.reduceMul, Nat.reduceSub, reduceCtorEq, Int.reduceToNat, Int.reduceLT, Int.reduceLE, Int.reduceEq, Int.reduceNe, Int.reduceBEq, Nat.reduceBEq, Int.reduceBNe, Nat.reduceBNe, Int.reduceAdd, Int.reduceSub, Int.reduceMul, Int.reduceNeg]
      refine (Put_v (takeE (x0, x1, x2, x3)) _).mono ?_; rintro _ _ ⟨rfl, rfl⟩
      rw [u1, u2]
      simp (dsimp := false) (maxSteps := 4000000) only [enc_len, enc_scal, enc_take, enc_z4, encE_len, encE_scal, encE_z5, encE_take, neqRc, neqE, hn_b4, hr_b4, hn_b5, hr_b5, hn_b7, hr_b7, hn_b9, hr_b9, hn_b13, hr_b13, go_sem, ↓reduceIte, Nat.reduceEqDiff, Nat.reduceLT, Nat.reduceLeDiff, Nat.reduceAdd, Nat.reduceMul, Nat.reduceSub, reduceCtorEq, Int.reduceToNat, Int.reduceLT, Int.reduceLE, Int.reduceEq, Int.reduceNe, Int.reduceBEq, Nat.reduceBEq, Int.reduceBNe, Nat.reduceBNe, Int.reduceAdd, Int.reduceSub, Int.reduceMul, Int.reduceNeg]
      refine AllB.mk fun b15 h_b15 => ?_; have hn_b15 := h_b15; (try simp only [fresh_add, fresh_set, ne_eq] at hn_b15); have hr_b15 := hn_b15; (try simp only [@eq_comm Nat b15] at hr_b15); simp (dsimp := false) (maxSteps := 4000000) only [enc_len, enc_scal, enc_take, enc_z4, encE_len, encE_scal, encE_z5, encE_take, neqRc, neqE, hn_b4, hr_b4, hn_b5, hr_b5, hn_b7, hr_b7, hn_b9, hr_b9, hn_b13, hr_b13, hn_b15, hr_b15, go_sem, ↓reduceIte, Nat.reduceEqDiff, Nat.reduceLT, Nat.reduceLeDiff, Nat.reduceAdd, Nat.reduceMul, Nat.reduceSub, reduceCtorEq, Int.reduceToNat, Int.reduceLT, Int.reduceLE, Int.reduceEq, Int.reduceNe, Int.reduceBEq, Nat.reduceBEq, Int.reduceBNe, Nat.reduceBNe, Int.reduceAdd, Int.reduceSub, Int.reduceMul, Int.reduceNeg]
      refine (some_x ((((((hs.add (by simp only [fresh_add, ne_eq, hn_b4, not_false_eq_true, and_self] : Fresh _ b4)).add (by simp only [fresh_add, ne_eq, hn_b5, not_false_eq_true, and_self] : Fresh _ b5)).add (by simp only [fresh_add, ne_eq, hn_b7, not_false_eq_true, and_self] : Fresh _ b7)).add (by simp only [fresh_add, ne_eq, hn_b9, not_false_eq_true, and_self] : Fresh _ b9)).add (by simp only [fresh_add, ne_eq, hn_b13, not_false_eq_true, and_self] : Fresh _ b13)).add (by simp only [fresh_add, ne_eq, hn_b15, not_false_eq_true, and_self] : Fresh _ b15)) hM).mono ?_; rintro _ _ ⟨rfl, rfl⟩
      simp (dsimp := false) (maxSteps := 4000000) only [enc_len, enc_scal, enc_take, enc_z4, encE_len, encE_scal, encE_z5, encE_take, neqRc, neqE, hn_b4, hr_b4, hn_b5, hr_b5, hn_b7, hr_b7, hn_b9, hr_b9, hn_b13, hr_b13, hn_b15, hr_b15, go_sem, ↓reduceIte, Nat.reduceEqDiff, Nat.reduceLT, Nat.reduceLeDiff, Nat.reduceAdd, Nat.reduceMul, Nat.reduceSub, reduceCtorEq, Int.reduceToNat, Int.reduceLT, Int.reduceLE, Int.reduceEq, Int.reduceNe, Int.reduceBEq, Nat.reduceBEq, Int.reduceBNe, Nat.reduceBNe, Int.reduceAdd, Int.reduceSub, Int.reduceMul, Int.reduceNeg]
      refine (File_u ((((((hs2.add (by simp only [fresh_add, ne_eq, hn_b4, not_false_eq_true, and_self] : Fresh _ b4)).add (by simp only [fresh_add, ne_eq, hn_b5, not_false_eq_true, and_self] : Fresh _ b5)).add (by simp only [fresh_add, ne_eq, hn_b7, not_false_eq_true, and_self] : Fresh _ b7)).add (by simp only [fresh_add, ne_eq, hn_b9, not_false_eq_true, and_self] : Fresh _ b9)).add (by simp only [fresh_add, ne_eq, hn_b13, not_false_eq_true, and_self] : Fresh _ b13)).add (by simp only [fresh_add, ne_eq, hn_b15, not_false_eq_true, and_self] : Fresh _ b15)) rfl).mono ?_; rintro _ A1 ⟨bc, cc, rfl, hG1⟩
      have q7 : A1.find b7 = some (ABlk.cells [.int .i64 p, .slice bf R.length cf] 25 2) := hG1.keep.find (fun h => h) (by (show AH.find _ _ = _; simp only [find_add_self, find_add_ne, find_fresh, fresh_add, ne_eq, not_false_eq_true, true_and, and_true, and_self, enc_len, enc_scal, enc_take, enc_z4, encE_len, encE_scal, encE_z5, encE_take, neqRc, neqE, hn_b4, hr_b4, hn_b5, hr_b5, hn_b7, hr_b7, hn_b9, hr_b9, hn_b13, hr_b13, hn_b15, hr_b15]))
      have sL1 : SlcIn A1 5 base cap (L.map encE) := SlcIn.keep ((((((hs.add (by simp only [fresh_add, ne_eq, hn_b4, not_false_eq_true, and_self] : Fresh _ b4)).add (by simp only [fresh_add, ne_eq, hn_b5, not_false_eq_true, and_self] : Fresh _ b5)).add (by simp only [fresh_add, ne_eq, hn_b7, not_false_eq_true, and_self] : Fresh _ b7)).add (by simp only [fresh_add, ne_eq, hn_b9, not_false_eq_true, and_self] : Fresh _ b9)).add (by simp only [fresh_add, ne_eq, hn_b13, not_false_eq_true, and_self] : Fresh _ b13)).add (by simp only [fresh_add, ne_eq, hn_b15, not_false_eq_true, and_self] : Fresh _ b15)) hG1.keep fun _ _ h => h
      have sM1 : SlcIn A1 5 base cap (M.map encE) := SlcIn.keep ((((((hs2.add (by simp only [fresh_add, ne_eq, hn_b4, not_false_eq_true, and_self] : Fresh _ b4)).add (by simp only [fresh_add, ne_eq, hn_b5, not_false_eq_true, and_self] : Fresh _ b5)).add (by simp only [fresh_add, ne_eq, hn_b7, not_false_eq_true, and_self] : Fresh _ b7)).add (by simp only [fresh_add, ne_eq, hn_b9, not_false_eq_true, and_self] : Fresh _ b9)).add (by simp only [fresh_add, ne_eq, hn_b13, not_false_eq_true, and_self] : Fresh _ b13)).add (by simp only [fresh_add, ne_eq, hn_b15, not_false_eq_true, and_self] : Fresh _ b15)) hG1.keep fun _ _ h => h
      have sR1 : SlcIn A1 4 bf cf (R.map enc) := SlcIn.keep ((((((ht.add (by simp only [fresh_add, ne_eq, hn_b4, not_false_eq_true, and_self] : Fresh _ b4)).add (by simp only [fresh_add, ne_eq, hn_b5, not_false_eq_true, and_self] : Fresh _ b5)).add (by simp only [fresh_add, ne_eq, hn_b7, not_false_eq_true, and_self] : Fresh _ b7)).add (by simp only [fresh_add, ne_eq, hn_b9, not_false_eq_true, and_self] : Fresh _ b9)).add (by simp only [fresh_add, ne_eq, hn_b13, not_false_eq_true, and_self] : Fresh _ b13)).add (by simp only [fresh_add, ne_eq, hn_b15, not_false_eq_true, and_self] : Fresh _ b15)) hG1.keep fun _ _ h => h
      have sS1 : SlcIn A1 4 bf cf (S.map enc) := SlcIn.keep ((((((ht2.add (by simp only [fresh_add, ne_eq, hn_b4, not_false_eq_true, and_self] : Fresh _ b4)).add (by simp only [fresh_add, ne_eq, hn_b5, not_false_eq_true, and_self] : Fresh _ b5)).add (by simp only [fresh_add, ne_eq, hn_b7, not_false_eq_true, and_self] : Fresh _ b7)).add (by simp only [fresh_add, ne_eq, hn_b9, not_false_eq_true, and_self] : Fresh _ b9)).add (by simp only [fresh_add, ne_eq, hn_b13, not_false_eq_true, and_self] : Fresh _ b13)).add (by simp only [fresh_add, ne_eq, hn_b15, not_false_eq_true, and_self] : Fresh _ b15)) hG1.keep fun _ _ h => h
      have l1 : H.le A1 := AH.le_trans (by (repeat (first | exact AH.le_refl _ | refine AH.le_add ?_ ?_)); all_goals (first | exact AH.le_refl _ | (show AH.find _ _ = _; simp only [find_add_self, find_add_ne, find_fresh, fresh_add, ne_eq, not_false_eq_true, true_and, and_true, and_self, enc_len, enc_scal, enc_take, enc_z4, encE_len, encE_scal, encE_z5, encE_take, neqRc, neqE, hn_b4, hr_b4, hn_b5, hr_b5, hn_b7, hr_b7, hn_b9, hr_b9, hn_b13, hr_b13, hn_b15, hr_b15]))) hG1.keep.all
      
      simp (dsimp := false) (maxSteps := 4000000) only [enc_len, enc_scal, enc_take, enc_z4, encE_len, encE_scal, encE_z5, encE_take, neqRc, neqE, go_sem, ↓reduceIte, Nat.reduceEqDiff, Nat.reduceLT, Nat.reduceLeDiff, Nat.reduceAdd, Nat.reduceMul, Nat.reduceSub, reduceCtorEq, Int.reduceToNat, Int.reduceLT, Int.reduceLE, Int.reduceEq, Int.reduceNe, Int.reduceBEq, Nat.reduceBEq, Int.reduceBNe, Nat.reduceBNe, Int.reduceAdd, Int.reduceSub, Int.reduceMul, Int.reduceNeg]
      refine AllB.mk fun b17 h_b17 => ?_; have hn_b17 := h_b17; (try simp only [fresh_add, fresh_set, ne_eq] at hn_b17); have hr_b17 := hn_b17; (try simp only [@eq_comm Nat b17] at hr_b17); simp (dsimp := false) (maxSteps := 4000000) only [enc_len, enc_scal, enc_take, enc_z4, encE_len, encE_scal, encE_z5, encE_take, neqRc, neqE, hn_b17, hr_b17, go_sem, ↓reduceIte, Nat.reduceEqDiff, Nat.reduceLT, Nat.reduceLeDiff, Nat.reduceAdd, Nat.reduceMul, Nat.reduceSub, reduceCtorEq, Int.reduceToNat, Int.reduceLT, Int.reduceLE, Int.reduceEq, Int.reduceNe, Int.reduceBEq, Nat.reduceBEq, Int.reduceBNe, Nat.reduceBNe, Int.reduceAdd, Int.reduceSub, Int.reduceMul, Int.reduceNeg]
      have m7 := hn_b17.ne_find q7
      cases gm : mayB M with
      | true =>
        have f1 : fR M = fileE M := by simp [fR, gm]
        have f2 : fP M = 3 := by simp [fP, gm]
        have f3 : fE M = 0 := by simp [fE, gm]
        obtain ⟨f4, f5⟩ := tab_file gm
        have hfo := fR_ok M
        rw [f1] at hG1 hfo ⊢
        rw [f2, f3]
        
        simp (dsimp := false) (maxSteps := 4000000) only [enc_len, enc_scal, enc_take, enc_z4, encE_len, encE_scal, encE_z5, encE_take, neqRc, neqE, hn_b17, hr_b17, go_sem, ↓reduceIte, Nat.reduceEqDiff, Nat.reduceLT, Nat.reduceLeDiff, Nat.reduceAdd, Nat.reduceMul, Nat.reduceSub, reduceCtorEq, Int.reduceToNat, Int.reduceLT, Int.reduceLE, Int.reduceEq, Int.reduceNe, Int.reduceBEq, Nat.reduceBEq, Int.reduceBNe, Nat.reduceBNe, Int.reduceAdd, Int.reduceSub, Int.reduceMul, Int.reduceNeg]
        refine (Table_u (p := 3) (R := fileE M) (hG1.slc.add h_b17) hfo rfl).mono ?_; rintro _ A2 ⟨bd, cd, rfl, hG2⟩
        rw [f4] at hG2 ⊢
        rw [f5]
        have w7 : A2.find b7 = some (ABlk.cells [.int .i64 p, .slice bf R.length cf] 25 2) := hG2.keep.find (fun h => h) (by rw [find_add_ne _ m7]; exact q7)
        have sL2 : SlcIn A2 5 base cap (L.map encE) := (sL1.add h_b17).keep hG2.keep fun _ _ h => h
        have sM2 : SlcIn A2 5 base cap (M.map encE) := (sM1.add h_b17).keep hG2.keep fun _ _ h => h
        have sR2 : SlcIn A2 4 bf cf (R.map enc) := (sR1.add h_b17).keep hG2.keep fun _ _ h => h
        have sS2 : SlcIn A2 4 bf cf (S.map enc) := (sS1.add h_b17).keep hG2.keep fun _ _ h => h
        have l2 : H.le A2 := AH.le_trans (AH.le_add l1 h_b17.2) hG2.keep.all
        have r7 := (Keep.refl (ex := fun _ => False)).row w7 (n := 2) rfl
        
        simp (dsimp := false) (maxSteps := 4000000) only [enc_len, enc_scal, enc_take, enc_z4, encE_len, encE_scal, encE_z5, encE_take, neqRc, neqE, go_sem, ↓reduceIte, Nat.reduceEqDiff, Nat.reduceLT, Nat.reduceLeDiff, Nat.reduceAdd, Nat.reduceMul, Nat.reduceSub, reduceCtorEq, Int.reduceToNat, Int.reduceLT, Int.reduceLE, Int.reduceEq, Int.reduceNe, Int.reduceBEq, Nat.reduceBEq, Int.reduceBNe, Nat.reduceBNe, Int.reduceAdd, Int.reduceSub, Int.reduceMul, Int.reduceNeg]
        refine (some_x sL2 hM).mono ?_; rintro _ _ ⟨rfl, rfl⟩
        simp (dsimp := false) (maxSteps := 4000000) only [enc_len, enc_scal, enc_take, enc_z4, encE_len, encE_scal, encE_z5, encE_take, neqRc, neqE, go_sem, ↓reduceIte, Nat.reduceEqDiff, Nat.reduceLT, Nat.reduceLeDiff, Nat.reduceAdd, Nat.reduceMul, Nat.reduceSub, reduceCtorEq, Int.reduceToNat, Int.reduceLT, Int.reduceLE, Int.reduceEq, Int.reduceNe, Int.reduceBEq, Nat.reduceBEq, Int.reduceBNe, Nat.reduceBNe, Int.reduceAdd, Int.reduceSub, Int.reduceMul, Int.reduceNeg]
        refine (same_x hG2.slc sM2).mono ?_; rintro _ _ ⟨rfl, rfl⟩
        simp (dsimp := false) (maxSteps := 4000000) only [r7, enc_len, enc_scal, enc_take, enc_z4, encE_len, encE_scal, encE_z5, encE_take, neqRc, neqE, go_sem, ↓reduceIte, Nat.reduceEqDiff, Nat.reduceLT, Nat.reduceLeDiff, Nat.reduceAdd, Nat.reduceMul, Nat.reduceSub, reduceCtorEq, Int.reduceToNat, Int.reduceLT, Int.reduceLE, Int.reduceEq, Int.reduceNe, Int.reduceBEq, Nat.reduceBEq, Int.reduceBNe, Nat.reduceBNe, Int.reduceAdd, Int.reduceSub, Int.reduceMul, Int.reduceNeg]
        refine (Rodl.few_x (sR2) hS).mono ?_; rintro _ _ ⟨rfl, rfl⟩
        simp (dsimp := false) (maxSteps := 4000000) only [enc_len, enc_scal, enc_take, enc_z4, encE_len, encE_scal, encE_z5, encE_take, neqRc, neqE, go_sem, ↓reduceIte, Nat.reduceEqDiff, Nat.reduceLT, Nat.reduceLeDiff, Nat.reduceAdd, Nat.reduceMul, Nat.reduceSub, reduceCtorEq, Int.reduceToNat, Int.reduceLT, Int.reduceLE, Int.reduceEq, Int.reduceNe, Int.reduceBEq, Nat.reduceBEq, Int.reduceBNe, Nat.reduceBNe, Int.reduceAdd, Int.reduceSub, Int.reduceMul, Int.reduceNeg]
        refine (Table_u (sS2) hw2 rfl).mono ?_; rintro _ A9 ⟨be, ce, rfl, hG9⟩
        have l9 : H.le A9 := AH.le_trans l2 hG9.keep.all
        have sT := hG9.slc
        
        have hcase := tO_may p S
        have h16 : (tO p S).length ≤ 16 := by
          rcases hcase with ⟨_, h⟩ | ⟨_, h⟩
          · exact mayB_16 h
          · rw [h]; simp
        have h16' : ((tO p S).length : Int) ≤ 16 := by omega
        simp (dsimp := false) (maxSteps := 4000000) only [enc_len, enc_scal, enc_take, enc_z4, encE_len, encE_scal, encE_z5, encE_take, neqRc, neqE, go_sem, ↓reduceIte, Nat.reduceEqDiff, Nat.reduceLT, Nat.reduceLeDiff, Nat.reduceAdd, Nat.reduceMul, Nat.reduceSub, reduceCtorEq, Int.reduceToNat, Int.reduceLT, Int.reduceLE, Int.reduceEq, Int.reduceNe, Int.reduceBEq, Nat.reduceBEq, Int.reduceBNe, Nat.reduceBNe, Int.reduceAdd, Int.reduceSub, Int.reduceMul, Int.reduceNeg]
        refine AWp.loopo (ι := Nat) (fun i => i ≤ (tO p S).length) (fun i => [(23, .int .i64 ((i + 1 : Nat) : Int)), (21, .slice be (tO p S).length ce), (22, .int .i64 (tN p S))])
          (fun _ => A9) (fun i => (tO p S).length - i) 0 (by omega) (FrLe.of_lks ?_) (AH.le_refl _) fun i hi Q again out => ?_
        · simp (dsimp := false) (maxSteps := 4000000) only [enc_len, enc_scal, enc_take, enc_z4, encE_len, encE_scal, encE_z5, encE_take, neqRc, neqE, go_sem, ↓reduceIte, Nat.reduceEqDiff, Nat.reduceLT, Nat.reduceLeDiff, Nat.reduceAdd, Nat.reduceMul, Nat.reduceSub, reduceCtorEq, Int.reduceToNat, Int.reduceLT, Int.reduceLE, Int.reduceEq, Int.reduceNe, Int.reduceBEq, Nat.reduceBEq, Int.reduceBNe, Nat.reduceBNe, Int.reduceAdd, Int.reduceSub, Int.reduceMul, Int.reduceNeg]
        · by_cases h : i + 1 < (tO p S).length
          · have h' : ((i + 1 : Nat) : Int) < (tO p S).length := by omega
            have hm : mayB (tO p S) = true := by
              rcases hcase with ⟨_, h⟩ | ⟨_, h0⟩
              · exact h
              · rw [h0] at h; simp at h
            obtain ⟨y, hy⟩ := get_some (l := tO p S) (i := i + 1) (by omega)
            obtain ⟨z, hz⟩ := get_some (l := tO p S) (i := i) (by omega)
            obtain ⟨q, o, rfl, _, rdy⟩ := sT.get (map_get (f := encE) hy)
            obtain ⟨q', o', hb', _, rdz⟩ := sT.get (map_get (f := encE) hz)
            cases hb'
            have ry := rdy 1 _ rfl
            have rz := rdz 1 _ rfl
            have hup := (chk_of hm hy).2.2
            rw [prv_succ hz] at hup
            have hup' : ¬ y.2.1 ≤ z.2.1 := by omega
            have em : IntKind.i64.wrap (((i + 1 : Nat) : Int) - 1) = (i : Int) := by rw [i64_eq (by omega) (by omega)]; omega
            have hi' : (i : Int) < (tO p S).length := by omega
            have ee := i64_succ (i := i + 1) (by omega)
            simp (dsimp := false) (maxSteps := 4000000) only [h', enc_len, enc_scal, enc_take, enc_z4, encE_len, encE_scal, encE_z5, encE_take, neqRc, neqE, go_sem, ↓reduceIte, Nat.reduceEqDiff, Nat.reduceLT, Nat.reduceLeDiff, Nat.reduceAdd, Nat.reduceMul, Nat.reduceSub, reduceCtorEq, Int.reduceToNat, Int.reduceLT, Int.reduceLE, Int.reduceEq, Int.reduceNe, Int.reduceBEq, Nat.reduceBEq, Int.reduceBNe, Nat.reduceBNe, Int.reduceAdd, Int.reduceSub, Int.reduceMul, Int.reduceNeg]
            refine AWp.quiet mixed (by kernel_rfl) ?_
            simp (dsimp := false) (maxSteps := 4000000) only [h', hi', em, ry, rz, hup', enc_len, enc_scal, enc_take, enc_z4, encE_len, encE_scal, encE_z5, encE_take, neqRc, neqE, go_sem, ↓reduceIte, Nat.reduceEqDiff, Nat.reduceLT, Nat.reduceLeDiff, Nat.reduceAdd, Nat.reduceMul, Nat.reduceSub, reduceCtorEq, Int.reduceToNat, Int.reduceLT, Int.reduceLE, Int.reduceEq, Int.reduceNe, Int.reduceBEq, Nat.reduceBEq, Int.reduceBNe, Nat.reduceBNe, Int.reduceAdd, Int.reduceSub, Int.reduceMul, Int.reduceNeg]
            simp (dsimp := false) (maxSteps := 4000000) only [ee, enc_len, enc_scal, enc_take, enc_z4, encE_len, encE_scal, encE_z5, encE_take, neqRc, neqE, go_sem, ↓reduceIte, Nat.reduceEqDiff, Nat.reduceLT, Nat.reduceLeDiff, Nat.reduceAdd, Nat.reduceMul, Nat.reduceSub, reduceCtorEq, Int.reduceToNat, Int.reduceLT, Int.reduceLE, Int.reduceEq, Int.reduceNe, Int.reduceBEq, Nat.reduceBEq, Int.reduceBNe, Nat.reduceBNe, Int.reduceAdd, Int.reduceSub, Int.reduceMul, Int.reduceNeg]
            exact again (i + 1) _ _ (by omega) (FrLe.of_lks (by simp (dsimp := false) (maxSteps := 4000000) only [enc_len, enc_scal, enc_take, enc_z4, encE_len, encE_scal, encE_z5, encE_take, neqRc, neqE, go_sem, ↓reduceIte, Nat.reduceEqDiff, Nat.reduceLT, Nat.reduceLeDiff, Nat.reduceAdd, Nat.reduceMul, Nat.reduceSub, reduceCtorEq, Int.reduceToNat, Int.reduceLT, Int.reduceLE, Int.reduceEq, Int.reduceNe, Int.reduceBEq, Nat.reduceBEq, Int.reduceBNe, Nat.reduceBNe, Int.reduceAdd, Int.reduceSub, Int.reduceMul, Int.reduceNeg])) (AH.le_refl _) (by omega)
          · have h' : ¬ ((i + 1 : Nat) : Int) < (tO p S).length := by omega
            simp (dsimp := false) (maxSteps := 4000000) only [h', enc_len, enc_scal, enc_take, enc_z4, encE_len, encE_scal, encE_z5, encE_take, neqRc, neqE, go_sem, ↓reduceIte, Nat.reduceEqDiff, Nat.reduceLT, Nat.reduceLeDiff, Nat.reduceAdd, Nat.reduceMul, Nat.reduceSub, reduceCtorEq, Int.reduceToNat, Int.reduceLT, Int.reduceLE, Int.reduceEq, Int.reduceNe, Int.reduceBEq, Nat.reduceBEq, Int.reduceBNe, Nat.reduceBNe, Int.reduceAdd, Int.reduceSub, Int.reduceMul, Int.reduceNeg]
            refine out _ _ _ (by simp) ?_
            simp (dsimp := false) (maxSteps := 4000000) only [enc_len, enc_scal, enc_take, enc_z4, encE_len, encE_scal, encE_z5, encE_take, neqRc, neqE, go_sem, ↓reduceIte, Nat.reduceEqDiff, Nat.reduceLT, Nat.reduceLeDiff, Nat.reduceAdd, Nat.reduceMul, Nat.reduceSub, reduceCtorEq, Int.reduceToNat, Int.reduceLT, Int.reduceLE, Int.reduceEq, Int.reduceNe, Int.reduceBEq, Nat.reduceBEq, Int.reduceBNe, Nat.reduceBNe, Int.reduceAdd, Int.reduceSub, Int.reduceMul, Int.reduceNeg]
            refine (awake_c _).mono ?_; rintro _ _ ⟨rfl, rfl⟩
            rcases hcase with ⟨h0, _⟩ | ⟨h0, hn⟩
            · simp (dsimp := false) (maxSteps := 4000000) only [h0, h16', enc_len, enc_scal, enc_take, enc_z4, encE_len, encE_scal, encE_z5, encE_take, neqRc, neqE, go_sem, ↓reduceIte, Nat.reduceEqDiff, Nat.reduceLT, Nat.reduceLeDiff, Nat.reduceAdd, Nat.reduceMul, Nat.reduceSub, reduceCtorEq, Int.reduceToNat, Int.reduceLT, Int.reduceLE, Int.reduceEq, Int.reduceNe, Int.reduceBEq, Nat.reduceBEq, Int.reduceBNe, Nat.reduceBNe, Int.reduceAdd, Int.reduceSub, Int.reduceMul, Int.reduceNeg]
              exact ⟨H, l9, rfl⟩
            · have hn' : ((tO p S).length : Int) = 0 := by rw [hn]; rfl
              simp (dsimp := false) (maxSteps := 4000000) only [h0, hn', h16', enc_len, enc_scal, enc_take, enc_z4, encE_len, encE_scal, encE_z5, encE_take, neqRc, neqE, go_sem, ↓reduceIte, Nat.reduceEqDiff, Nat.reduceLT, Nat.reduceLeDiff, Nat.reduceAdd, Nat.reduceMul, Nat.reduceSub, reduceCtorEq, Int.reduceToNat, Int.reduceLT, Int.reduceLE, Int.reduceEq, Int.reduceNe, Int.reduceBEq, Nat.reduceBEq, Int.reduceBNe, Nat.reduceBNe, Int.reduceAdd, Int.reduceSub, Int.reduceMul, Int.reduceNeg]
              exact ⟨H, l9, rfl⟩
        
      | false =>
        have f3 : fE M = 1 := by simp [fE, gm]
        have r7 := (Keep.refl (ex := fun _ => False)).row q7 (n := 2) rfl
        rw [f3]
        
        simp (dsimp := false) (maxSteps := 4000000) only [r7, m7, enc_len, enc_scal, enc_take, enc_z4, encE_len, encE_scal, encE_z5, encE_take, neqRc, neqE, hn_b17, hr_b17, go_sem, ↓reduceIte, Nat.reduceEqDiff, Nat.reduceLT, Nat.reduceLeDiff, Nat.reduceAdd, Nat.reduceMul, Nat.reduceSub, reduceCtorEq, Int.reduceToNat, Int.reduceLT, Int.reduceLE, Int.reduceEq, Int.reduceNe, Int.reduceBEq, Nat.reduceBEq, Int.reduceBNe, Nat.reduceBNe, Int.reduceAdd, Int.reduceSub, Int.reduceMul, Int.reduceNeg]
        refine (Rodl.few_x (sR1.add h_b17) hS).mono ?_; rintro _ _ ⟨rfl, rfl⟩
        simp (dsimp := false) (maxSteps := 4000000) only [enc_len, enc_scal, enc_take, enc_z4, encE_len, encE_scal, encE_z5, encE_take, neqRc, neqE, hn_b17, hr_b17, go_sem, ↓reduceIte, Nat.reduceEqDiff, Nat.reduceLT, Nat.reduceLeDiff, Nat.reduceAdd, Nat.reduceMul, Nat.reduceSub, reduceCtorEq, Int.reduceToNat, Int.reduceLT, Int.reduceLE, Int.reduceEq, Int.reduceNe, Int.reduceBEq, Nat.reduceBEq, Int.reduceBNe, Nat.reduceBNe, Int.reduceAdd, Int.reduceSub, Int.reduceMul, Int.reduceNeg]
        refine (Table_u (sS1.add h_b17) hw2 rfl).mono ?_; rintro _ A9 ⟨be, ce, rfl, hG9⟩
        have l9 : H.le A9 := AH.le_trans (AH.le_add l1 h_b17.2) hG9.keep.all
        have sT := hG9.slc
        
        have hcase := tO_may p S
        have h16 : (tO p S).length ≤ 16 := by
          rcases hcase with ⟨_, h⟩ | ⟨_, h⟩
          · exact mayB_16 h
          · rw [h]; simp
        have h16' : ((tO p S).length : Int) ≤ 16 := by omega
        simp (dsimp := false) (maxSteps := 4000000) only [enc_len, enc_scal, enc_take, enc_z4, encE_len, encE_scal, encE_z5, encE_take, neqRc, neqE, go_sem, ↓reduceIte, Nat.reduceEqDiff, Nat.reduceLT, Nat.reduceLeDiff, Nat.reduceAdd, Nat.reduceMul, Nat.reduceSub, reduceCtorEq, Int.reduceToNat, Int.reduceLT, Int.reduceLE, Int.reduceEq, Int.reduceNe, Int.reduceBEq, Nat.reduceBEq, Int.reduceBNe, Nat.reduceBNe, Int.reduceAdd, Int.reduceSub, Int.reduceMul, Int.reduceNeg]
        refine AWp.loopo (ι := Nat) (fun i => i ≤ (tO p S).length) (fun i => [(23, .int .i64 ((i + 1 : Nat) : Int)), (21, .slice be (tO p S).length ce), (22, .int .i64 (tN p S))])
          (fun _ => A9) (fun i => (tO p S).length - i) 0 (by omega) (FrLe.of_lks ?_) (AH.le_refl _) fun i hi Q again out => ?_
        · simp (dsimp := false) (maxSteps := 4000000) only [enc_len, enc_scal, enc_take, enc_z4, encE_len, encE_scal, encE_z5, encE_take, neqRc, neqE, go_sem, ↓reduceIte, Nat.reduceEqDiff, Nat.reduceLT, Nat.reduceLeDiff, Nat.reduceAdd, Nat.reduceMul, Nat.reduceSub, reduceCtorEq, Int.reduceToNat, Int.reduceLT, Int.reduceLE, Int.reduceEq, Int.reduceNe, Int.reduceBEq, Nat.reduceBEq, Int.reduceBNe, Nat.reduceBNe, Int.reduceAdd, Int.reduceSub, Int.reduceMul, Int.reduceNeg]
        · by_cases h : i + 1 < (tO p S).length
          · have h' : ((i + 1 : Nat) : Int) < (tO p S).length := by omega
            have hm : mayB (tO p S) = true := by
              rcases hcase with ⟨_, h⟩ | ⟨_, h0⟩
              · exact h
              · rw [h0] at h; simp at h
            obtain ⟨y, hy⟩ := get_some (l := tO p S) (i := i + 1) (by omega)
            obtain ⟨z, hz⟩ := get_some (l := tO p S) (i := i) (by omega)
            obtain ⟨q, o, rfl, _, rdy⟩ := sT.get (map_get (f := encE) hy)
            obtain ⟨q', o', hb', _, rdz⟩ := sT.get (map_get (f := encE) hz)
            cases hb'
            have ry := rdy 1 _ rfl
            have rz := rdz 1 _ rfl
            have hup := (chk_of hm hy).2.2
            rw [prv_succ hz] at hup
            have hup' : ¬ y.2.1 ≤ z.2.1 := by omega
            have em : IntKind.i64.wrap (((i + 1 : Nat) : Int) - 1) = (i : Int) := by rw [i64_eq (by omega) (by omega)]; omega
            have hi' : (i : Int) < (tO p S).length := by omega
            have ee := i64_succ (i := i + 1) (by omega)
            simp (dsimp := false) (maxSteps := 4000000) only [h', enc_len, enc_scal, enc_take, enc_z4, encE_len, encE_scal, encE_z5, encE_take, neqRc, neqE, go_sem, ↓reduceIte, Nat.reduceEqDiff, Nat.reduceLT, Nat.reduceLeDiff, Nat.reduceAdd, Nat.reduceMul, Nat.reduceSub, reduceCtorEq, Int.reduceToNat, Int.reduceLT, Int.reduceLE, Int.reduceEq, Int.reduceNe, Int.reduceBEq, Nat.reduceBEq, Int.reduceBNe, Nat.reduceBNe, Int.reduceAdd, Int.reduceSub, Int.reduceMul, Int.reduceNeg]
            refine AWp.quiet mixed (by kernel_rfl) ?_
            simp (dsimp := false) (maxSteps := 4000000) only [h', hi', em, ry, rz, hup', enc_len, enc_scal, enc_take, enc_z4, encE_len, encE_scal, encE_z5, encE_take, neqRc, neqE, go_sem, ↓reduceIte, Nat.reduceEqDiff, Nat.reduceLT, Nat.reduceLeDiff, Nat.reduceAdd, Nat.reduceMul, Nat.reduceSub, reduceCtorEq, Int.reduceToNat, Int.reduceLT, Int.reduceLE, Int.reduceEq, Int.reduceNe, Int.reduceBEq, Nat.reduceBEq, Int.reduceBNe, Nat.reduceBNe, Int.reduceAdd, Int.reduceSub, Int.reduceMul, Int.reduceNeg]
            simp (dsimp := false) (maxSteps := 4000000) only [ee, enc_len, enc_scal, enc_take, enc_z4, encE_len, encE_scal, encE_z5, encE_take, neqRc, neqE, go_sem, ↓reduceIte, Nat.reduceEqDiff, Nat.reduceLT, Nat.reduceLeDiff, Nat.reduceAdd, Nat.reduceMul, Nat.reduceSub, reduceCtorEq, Int.reduceToNat, Int.reduceLT, Int.reduceLE, Int.reduceEq, Int.reduceNe, Int.reduceBEq, Nat.reduceBEq, Int.reduceBNe, Nat.reduceBNe, Int.reduceAdd, Int.reduceSub, Int.reduceMul, Int.reduceNeg]
            exact again (i + 1) _ _ (by omega) (FrLe.of_lks (by simp (dsimp := false) (maxSteps := 4000000) only [enc_len, enc_scal, enc_take, enc_z4, encE_len, encE_scal, encE_z5, encE_take, neqRc, neqE, go_sem, ↓reduceIte, Nat.reduceEqDiff, Nat.reduceLT, Nat.reduceLeDiff, Nat.reduceAdd, Nat.reduceMul, Nat.reduceSub, reduceCtorEq, Int.reduceToNat, Int.reduceLT, Int.reduceLE, Int.reduceEq, Int.reduceNe, Int.reduceBEq, Nat.reduceBEq, Int.reduceBNe, Nat.reduceBNe, Int.reduceAdd, Int.reduceSub, Int.reduceMul, Int.reduceNeg])) (AH.le_refl _) (by omega)
          · have h' : ¬ ((i + 1 : Nat) : Int) < (tO p S).length := by omega
            simp (dsimp := false) (maxSteps := 4000000) only [h', enc_len, enc_scal, enc_take, enc_z4, encE_len, encE_scal, encE_z5, encE_take, neqRc, neqE, go_sem, ↓reduceIte, Nat.reduceEqDiff, Nat.reduceLT, Nat.reduceLeDiff, Nat.reduceAdd, Nat.reduceMul, Nat.reduceSub, reduceCtorEq, Int.reduceToNat, Int.reduceLT, Int.reduceLE, Int.reduceEq, Int.reduceNe, Int.reduceBEq, Nat.reduceBEq, Int.reduceBNe, Nat.reduceBNe, Int.reduceAdd, Int.reduceSub, Int.reduceMul, Int.reduceNeg]
            refine out _ _ _ (by simp) ?_
            simp (dsimp := false) (maxSteps := 4000000) only [enc_len, enc_scal, enc_take, enc_z4, encE_len, encE_scal, encE_z5, encE_take, neqRc, neqE, go_sem, ↓reduceIte, Nat.reduceEqDiff, Nat.reduceLT, Nat.reduceLeDiff, Nat.reduceAdd, Nat.reduceMul, Nat.reduceSub, reduceCtorEq, Int.reduceToNat, Int.reduceLT, Int.reduceLE, Int.reduceEq, Int.reduceNe, Int.reduceBEq, Nat.reduceBEq, Int.reduceBNe, Nat.reduceBNe, Int.reduceAdd, Int.reduceSub, Int.reduceMul, Int.reduceNeg]
            refine (awake_c _).mono ?_; rintro _ _ ⟨rfl, rfl⟩
            rcases hcase with ⟨h0, _⟩ | ⟨h0, hn⟩
            · simp (dsimp := false) (maxSteps := 4000000) only [h0, h16', enc_len, enc_scal, enc_take, enc_z4, encE_len, encE_scal, encE_z5, encE_take, neqRc, neqE, go_sem, ↓reduceIte, Nat.reduceEqDiff, Nat.reduceLT, Nat.reduceLeDiff, Nat.reduceAdd, Nat.reduceMul, Nat.reduceSub, reduceCtorEq, Int.reduceToNat, Int.reduceLT, Int.reduceLE, Int.reduceEq, Int.reduceNe, Int.reduceBEq, Nat.reduceBEq, Int.reduceBNe, Nat.reduceBNe, Int.reduceAdd, Int.reduceSub, Int.reduceMul, Int.reduceNeg]
              exact ⟨H, l9, rfl⟩
            · have hn' : ((tO p S).length : Int) = 0 := by rw [hn]; rfl
              simp (dsimp := false) (maxSteps := 4000000) only [h0, hn', h16', enc_len, enc_scal, enc_take, enc_z4, encE_len, encE_scal, encE_z5, encE_take, neqRc, neqE, go_sem, ↓reduceIte, Nat.reduceEqDiff, Nat.reduceLT, Nat.reduceLeDiff, Nat.reduceAdd, Nat.reduceMul, Nat.reduceSub, reduceCtorEq, Int.reduceToNat, Int.reduceLT, Int.reduceLE, Int.reduceEq, Int.reduceNe, Int.reduceBEq, Nat.reduceBEq, Int.reduceBNe, Nat.reduceBNe, Int.reduceAdd, Int.reduceSub, Int.reduceMul, Int.reduceNeg]
              exact ⟨H, l9, rfl⟩
        
      
    | false =>
      have t2 : tE (x0, x1, x2, x3) = 2 := by simp [tE, gv]
      rw [t2]
      
      simp (dsimp := false) (maxSteps := 4000000) only [enc_len, enc_scal, enc_take, enc_z4, encE_len, encE_scal, encE_z5, encE_take, neqRc, neqE, hn_b4, hr_b4, hn_b5, hr_b5, hn_b7, hr_b7, hn_b9, hr_b9, hn_b13, hr_b13, go_sem, ↓reduceIte, Nat.reduceEqDiff, Nat.reduceLT, Nat.reduceLeDiff, Nat.reduceAdd, Nat.reduceMul, Nat.reduceSub, reduceCtorEq, Int.reduceToNat, Int.reduceLT, Int.reduceLE, Int.reduceEq, Int.reduceNe, Int.reduceBEq, Nat.reduceBEq, Int.reduceBNe, Nat.reduceBNe, Int.reduceAdd, Int.reduceSub, Int.reduceMul, Int.reduceNeg]
      refine (some_x (((((hs.add (by simp only [fresh_add, ne_eq, hn_b4, not_false_eq_true, and_self] : Fresh _ b4)).add (by simp only [fresh_add, ne_eq, hn_b5, not_false_eq_true, and_self] : Fresh _ b5)).add (by simp only [fresh_add, ne_eq, hn_b7, not_false_eq_true, and_self] : Fresh _ b7)).add (by simp only [fresh_add, ne_eq, hn_b9, not_false_eq_true, and_self] : Fresh _ b9)).add (by simp only [fresh_add, ne_eq, hn_b13, not_false_eq_true, and_self] : Fresh _ b13)) hM).mono ?_; rintro _ _ ⟨rfl, rfl⟩
      simp (dsimp := false) (maxSteps := 4000000) only [enc_len, enc_scal, enc_take, enc_z4, encE_len, encE_scal, encE_z5, encE_take, neqRc, neqE, hn_b4, hr_b4, hn_b5, hr_b5, hn_b7, hr_b7, hn_b9, hr_b9, hn_b13, hr_b13, go_sem, ↓reduceIte, Nat.reduceEqDiff, Nat.reduceLT, Nat.reduceLeDiff, Nat.reduceAdd, Nat.reduceMul, Nat.reduceSub, reduceCtorEq, Int.reduceToNat, Int.reduceLT, Int.reduceLE, Int.reduceEq, Int.reduceNe, Int.reduceBEq, Nat.reduceBEq, Int.reduceBNe, Nat.reduceBNe, Int.reduceAdd, Int.reduceSub, Int.reduceMul, Int.reduceNeg]
      refine (File_u (((((hs2.add (by simp only [fresh_add, ne_eq, hn_b4, not_false_eq_true, and_self] : Fresh _ b4)).add (by simp only [fresh_add, ne_eq, hn_b5, not_false_eq_true, and_self] : Fresh _ b5)).add (by simp only [fresh_add, ne_eq, hn_b7, not_false_eq_true, and_self] : Fresh _ b7)).add (by simp only [fresh_add, ne_eq, hn_b9, not_false_eq_true, and_self] : Fresh _ b9)).add (by simp only [fresh_add, ne_eq, hn_b13, not_false_eq_true, and_self] : Fresh _ b13)) rfl).mono ?_; rintro _ A1 ⟨bc, cc, rfl, hG1⟩
      have q7 : A1.find b7 = some (ABlk.cells [.int .i64 p, .slice bf R.length cf] 25 2) := hG1.keep.find (fun h => h) (by (show AH.find _ _ = _; simp only [find_add_self, find_add_ne, find_fresh, fresh_add, ne_eq, not_false_eq_true, true_and, and_true, and_self, enc_len, enc_scal, enc_take, enc_z4, encE_len, encE_scal, encE_z5, encE_take, neqRc, neqE, hn_b4, hr_b4, hn_b5, hr_b5, hn_b7, hr_b7, hn_b9, hr_b9, hn_b13, hr_b13]))
      have sL1 : SlcIn A1 5 base cap (L.map encE) := SlcIn.keep (((((hs.add (by simp only [fresh_add, ne_eq, hn_b4, not_false_eq_true, and_self] : Fresh _ b4)).add (by simp only [fresh_add, ne_eq, hn_b5, not_false_eq_true, and_self] : Fresh _ b5)).add (by simp only [fresh_add, ne_eq, hn_b7, not_false_eq_true, and_self] : Fresh _ b7)).add (by simp only [fresh_add, ne_eq, hn_b9, not_false_eq_true, and_self] : Fresh _ b9)).add (by simp only [fresh_add, ne_eq, hn_b13, not_false_eq_true, and_self] : Fresh _ b13)) hG1.keep fun _ _ h => h
      have sM1 : SlcIn A1 5 base cap (M.map encE) := SlcIn.keep (((((hs2.add (by simp only [fresh_add, ne_eq, hn_b4, not_false_eq_true, and_self] : Fresh _ b4)).add (by simp only [fresh_add, ne_eq, hn_b5, not_false_eq_true, and_self] : Fresh _ b5)).add (by simp only [fresh_add, ne_eq, hn_b7, not_false_eq_true, and_self] : Fresh _ b7)).add (by simp only [fresh_add, ne_eq, hn_b9, not_false_eq_true, and_self] : Fresh _ b9)).add (by simp only [fresh_add, ne_eq, hn_b13, not_false_eq_true, and_self] : Fresh _ b13)) hG1.keep fun _ _ h => h
      have sR1 : SlcIn A1 4 bf cf (R.map enc) := SlcIn.keep (((((ht.add (by simp only [fresh_add, ne_eq, hn_b4, not_false_eq_true, and_self] : Fresh _ b4)).add (by simp only [fresh_add, ne_eq, hn_b5, not_false_eq_true, and_self] : Fresh _ b5)).add (by simp only [fresh_add, ne_eq, hn_b7, not_false_eq_true, and_self] : Fresh _ b7)).add (by simp only [fresh_add, ne_eq, hn_b9, not_false_eq_true, and_self] : Fresh _ b9)).add (by simp only [fresh_add, ne_eq, hn_b13, not_false_eq_true, and_self] : Fresh _ b13)) hG1.keep fun _ _ h => h
      have sS1 : SlcIn A1 4 bf cf (S.map enc) := SlcIn.keep (((((ht2.add (by simp only [fresh_add, ne_eq, hn_b4, not_false_eq_true, and_self] : Fresh _ b4)).add (by simp only [fresh_add, ne_eq, hn_b5, not_false_eq_true, and_self] : Fresh _ b5)).add (by simp only [fresh_add, ne_eq, hn_b7, not_false_eq_true, and_self] : Fresh _ b7)).add (by simp only [fresh_add, ne_eq, hn_b9, not_false_eq_true, and_self] : Fresh _ b9)).add (by simp only [fresh_add, ne_eq, hn_b13, not_false_eq_true, and_self] : Fresh _ b13)) hG1.keep fun _ _ h => h
      have l1 : H.le A1 := AH.le_trans (by (repeat (first | exact AH.le_refl _ | refine AH.le_add ?_ ?_)); all_goals (first | exact AH.le_refl _ | (show AH.find _ _ = _; simp only [find_add_self, find_add_ne, find_fresh, fresh_add, ne_eq, not_false_eq_true, true_and, and_true, and_self, enc_len, enc_scal, enc_take, enc_z4, encE_len, encE_scal, encE_z5, encE_take, neqRc, neqE, hn_b4, hr_b4, hn_b5, hr_b5, hn_b7, hr_b7, hn_b9, hr_b9, hn_b13, hr_b13]))) hG1.keep.all
      
      simp (dsimp := false) (maxSteps := 4000000) only [enc_len, enc_scal, enc_take, enc_z4, encE_len, encE_scal, encE_z5, encE_take, neqRc, neqE, go_sem, ↓reduceIte, Nat.reduceEqDiff, Nat.reduceLT, Nat.reduceLeDiff, Nat.reduceAdd, Nat.reduceMul, Nat.reduceSub, reduceCtorEq, Int.reduceToNat, Int.reduceLT, Int.reduceLE, Int.reduceEq, Int.reduceNe, Int.reduceBEq, Nat.reduceBEq, Int.reduceBNe, Nat.reduceBNe, Int.reduceAdd, Int.reduceSub, Int.reduceMul, Int.reduceNeg]
      refine AllB.mk fun b17 h_b17 => ?_; have hn_b17 := h_b17; (try simp only [fresh_add, fresh_set, ne_eq] at hn_b17); have hr_b17 := hn_b17; (try simp only [@eq_comm Nat b17] at hr_b17); simp (dsimp := false) (maxSteps := 4000000) only [enc_len, enc_scal, enc_take, enc_z4, encE_len, encE_scal, encE_z5, encE_take, neqRc, neqE, hn_b17, hr_b17, go_sem, ↓reduceIte, Nat.reduceEqDiff, Nat.reduceLT, Nat.reduceLeDiff, Nat.reduceAdd, Nat.reduceMul, Nat.reduceSub, reduceCtorEq, Int.reduceToNat, Int.reduceLT, Int.reduceLE, Int.reduceEq, Int.reduceNe, Int.reduceBEq, Nat.reduceBEq, Int.reduceBNe, Nat.reduceBNe, Int.reduceAdd, Int.reduceSub, Int.reduceMul, Int.reduceNeg]
      have m7 := hn_b17.ne_find q7
      cases gm : mayB M with
      | true =>
        have f1 : fR M = fileE M := by simp [fR, gm]
        have f2 : fP M = 3 := by simp [fP, gm]
        have f3 : fE M = 0 := by simp [fE, gm]
        obtain ⟨f4, f5⟩ := tab_file gm
        have hfo := fR_ok M
        rw [f1] at hG1 hfo ⊢
        rw [f2, f3]
        
        simp (dsimp := false) (maxSteps := 4000000) only [enc_len, enc_scal, enc_take, enc_z4, encE_len, encE_scal, encE_z5, encE_take, neqRc, neqE, hn_b17, hr_b17, go_sem, ↓reduceIte, Nat.reduceEqDiff, Nat.reduceLT, Nat.reduceLeDiff, Nat.reduceAdd, Nat.reduceMul, Nat.reduceSub, reduceCtorEq, Int.reduceToNat, Int.reduceLT, Int.reduceLE, Int.reduceEq, Int.reduceNe, Int.reduceBEq, Nat.reduceBEq, Int.reduceBNe, Nat.reduceBNe, Int.reduceAdd, Int.reduceSub, Int.reduceMul, Int.reduceNeg]
        refine (Table_u (p := 3) (R := fileE M) (hG1.slc.add h_b17) hfo rfl).mono ?_; rintro _ A2 ⟨bd, cd, rfl, hG2⟩
        rw [f4] at hG2 ⊢
        rw [f5]
        have w7 : A2.find b7 = some (ABlk.cells [.int .i64 p, .slice bf R.length cf] 25 2) := hG2.keep.find (fun h => h) (by rw [find_add_ne _ m7]; exact q7)
        have sL2 : SlcIn A2 5 base cap (L.map encE) := (sL1.add h_b17).keep hG2.keep fun _ _ h => h
        have sM2 : SlcIn A2 5 base cap (M.map encE) := (sM1.add h_b17).keep hG2.keep fun _ _ h => h
        have sR2 : SlcIn A2 4 bf cf (R.map enc) := (sR1.add h_b17).keep hG2.keep fun _ _ h => h
        have sS2 : SlcIn A2 4 bf cf (S.map enc) := (sS1.add h_b17).keep hG2.keep fun _ _ h => h
        have l2 : H.le A2 := AH.le_trans (AH.le_add l1 h_b17.2) hG2.keep.all
        have r7 := (Keep.refl (ex := fun _ => False)).row w7 (n := 2) rfl
        
        simp (dsimp := false) (maxSteps := 4000000) only [enc_len, enc_scal, enc_take, enc_z4, encE_len, encE_scal, encE_z5, encE_take, neqRc, neqE, go_sem, ↓reduceIte, Nat.reduceEqDiff, Nat.reduceLT, Nat.reduceLeDiff, Nat.reduceAdd, Nat.reduceMul, Nat.reduceSub, reduceCtorEq, Int.reduceToNat, Int.reduceLT, Int.reduceLE, Int.reduceEq, Int.reduceNe, Int.reduceBEq, Nat.reduceBEq, Int.reduceBNe, Nat.reduceBNe, Int.reduceAdd, Int.reduceSub, Int.reduceMul, Int.reduceNeg]
        refine (some_x sL2 hM).mono ?_; rintro _ _ ⟨rfl, rfl⟩
        simp (dsimp := false) (maxSteps := 4000000) only [enc_len, enc_scal, enc_take, enc_z4, encE_len, encE_scal, encE_z5, encE_take, neqRc, neqE, go_sem, ↓reduceIte, Nat.reduceEqDiff, Nat.reduceLT, Nat.reduceLeDiff, Nat.reduceAdd, Nat.reduceMul, Nat.reduceSub, reduceCtorEq, Int.reduceToNat, Int.reduceLT, Int.reduceLE, Int.reduceEq, Int.reduceNe, Int.reduceBEq, Nat.reduceBEq, Int.reduceBNe, Nat.reduceBNe, Int.reduceAdd, Int.reduceSub, Int.reduceMul, Int.reduceNeg]
        refine (same_x hG2.slc sM2).mono ?_; rintro _ _ ⟨rfl, rfl⟩
        simp (dsimp := false) (maxSteps := 4000000) only [r7, enc_len, enc_scal, enc_take, enc_z4, encE_len, encE_scal, encE_z5, encE_take, neqRc, neqE, go_sem, ↓reduceIte, Nat.reduceEqDiff, Nat.reduceLT, Nat.reduceLeDiff, Nat.reduceAdd, Nat.reduceMul, Nat.reduceSub, reduceCtorEq, Int.reduceToNat, Int.reduceLT, Int.reduceLE, Int.reduceEq, Int.reduceNe, Int.reduceBEq, Nat.reduceBEq, Int.reduceBNe, Nat.reduceBNe, Int.reduceAdd, Int.reduceSub, Int.reduceMul, Int.reduceNeg]
        refine (Rodl.few_x (sR2) hS).mono ?_; rintro _ _ ⟨rfl, rfl⟩
        simp (dsimp := false) (maxSteps := 4000000) only [enc_len, enc_scal, enc_take, enc_z4, encE_len, encE_scal, encE_z5, encE_take, neqRc, neqE, go_sem, ↓reduceIte, Nat.reduceEqDiff, Nat.reduceLT, Nat.reduceLeDiff, Nat.reduceAdd, Nat.reduceMul, Nat.reduceSub, reduceCtorEq, Int.reduceToNat, Int.reduceLT, Int.reduceLE, Int.reduceEq, Int.reduceNe, Int.reduceBEq, Nat.reduceBEq, Int.reduceBNe, Nat.reduceBNe, Int.reduceAdd, Int.reduceSub, Int.reduceMul, Int.reduceNeg]
        refine (Table_u (sS2) hw2 rfl).mono ?_; rintro _ A9 ⟨be, ce, rfl, hG9⟩
        have l9 : H.le A9 := AH.le_trans l2 hG9.keep.all
        have sT := hG9.slc
        
        have hcase := tO_may p S
        have h16 : (tO p S).length ≤ 16 := by
          rcases hcase with ⟨_, h⟩ | ⟨_, h⟩
          · exact mayB_16 h
          · rw [h]; simp
        have h16' : ((tO p S).length : Int) ≤ 16 := by omega
        simp (dsimp := false) (maxSteps := 4000000) only [enc_len, enc_scal, enc_take, enc_z4, encE_len, encE_scal, encE_z5, encE_take, neqRc, neqE, go_sem, ↓reduceIte, Nat.reduceEqDiff, Nat.reduceLT, Nat.reduceLeDiff, Nat.reduceAdd, Nat.reduceMul, Nat.reduceSub, reduceCtorEq, Int.reduceToNat, Int.reduceLT, Int.reduceLE, Int.reduceEq, Int.reduceNe, Int.reduceBEq, Nat.reduceBEq, Int.reduceBNe, Nat.reduceBNe, Int.reduceAdd, Int.reduceSub, Int.reduceMul, Int.reduceNeg]
        refine AWp.loopo (ι := Nat) (fun i => i ≤ (tO p S).length) (fun i => [(23, .int .i64 ((i + 1 : Nat) : Int)), (21, .slice be (tO p S).length ce), (22, .int .i64 (tN p S))])
          (fun _ => A9) (fun i => (tO p S).length - i) 0 (by omega) (FrLe.of_lks ?_) (AH.le_refl _) fun i hi Q again out => ?_
        · simp (dsimp := false) (maxSteps := 4000000) only [enc_len, enc_scal, enc_take, enc_z4, encE_len, encE_scal, encE_z5, encE_take, neqRc, neqE, go_sem, ↓reduceIte, Nat.reduceEqDiff, Nat.reduceLT, Nat.reduceLeDiff, Nat.reduceAdd, Nat.reduceMul, Nat.reduceSub, reduceCtorEq, Int.reduceToNat, Int.reduceLT, Int.reduceLE, Int.reduceEq, Int.reduceNe, Int.reduceBEq, Nat.reduceBEq, Int.reduceBNe, Nat.reduceBNe, Int.reduceAdd, Int.reduceSub, Int.reduceMul, Int.reduceNeg]
        · by_cases h : i + 1 < (tO p S).length
          · have h' : ((i + 1 : Nat) : Int) < (tO p S).length := by omega
            have hm : mayB (tO p S) = true := by
              rcases hcase with ⟨_, h⟩ | ⟨_, h0⟩
              · exact h
              · rw [h0] at h; simp at h
            obtain ⟨y, hy⟩ := get_some (l := tO p S) (i := i + 1) (by omega)
            obtain ⟨z, hz⟩ := get_some (l := tO p S) (i := i) (by omega)
            obtain ⟨q, o, rfl, _, rdy⟩ := sT.get (map_get (f := encE) hy)
            obtain ⟨q', o', hb', _, rdz⟩ := sT.get (map_get (f := encE) hz)
            cases hb'
            have ry := rdy 1 _ rfl
            have rz := rdz 1 _ rfl
            have hup := (chk_of hm hy).2.2
            rw [prv_succ hz] at hup
            have hup' : ¬ y.2.1 ≤ z.2.1 := by omega
            have em : IntKind.i64.wrap (((i + 1 : Nat) : Int) - 1) = (i : Int) := by rw [i64_eq (by omega) (by omega)]; omega
            have hi' : (i : Int) < (tO p S).length := by omega
            have ee := i64_succ (i := i + 1) (by omega)
            simp (dsimp := false) (maxSteps := 4000000) only [h', enc_len, enc_scal, enc_take, enc_z4, encE_len, encE_scal, encE_z5, encE_take, neqRc, neqE, go_sem, ↓reduceIte, Nat.reduceEqDiff, Nat.reduceLT, Nat.reduceLeDiff, Nat.reduceAdd, Nat.reduceMul, Nat.reduceSub, reduceCtorEq, Int.reduceToNat, Int.reduceLT, Int.reduceLE, Int.reduceEq, Int.reduceNe, Int.reduceBEq, Nat.reduceBEq, Int.reduceBNe, Nat.reduceBNe, Int.reduceAdd, Int.reduceSub, Int.reduceMul, Int.reduceNeg]
            refine AWp.quiet mixed (by kernel_rfl) ?_
            simp (dsimp := false) (maxSteps := 4000000) only [h', hi', em, ry, rz, hup', enc_len, enc_scal, enc_take, enc_z4, encE_len, encE_scal, encE_z5, encE_take, neqRc, neqE, go_sem, ↓reduceIte, Nat.reduceEqDiff, Nat.reduceLT, Nat.reduceLeDiff, Nat.reduceAdd, Nat.reduceMul, Nat.reduceSub, reduceCtorEq, Int.reduceToNat, Int.reduceLT, Int.reduceLE, Int.reduceEq, Int.reduceNe, Int.reduceBEq, Nat.reduceBEq, Int.reduceBNe, Nat.reduceBNe, Int.reduceAdd, Int.reduceSub, Int.reduceMul, Int.reduceNeg]
            simp (dsimp := false) (maxSteps := 4000000) only [ee, enc_len, enc_scal, enc_take, enc_z4, encE_len, encE_scal, encE_z5, encE_take, neqRc, neqE, go_sem, ↓reduceIte, Nat.reduceEqDiff, Nat.reduceLT, Nat.reduceLeDiff, Nat.reduceAdd, Nat.reduceMul, Nat.reduceSub, reduceCtorEq, Int.reduceToNat, Int.reduceLT, Int.reduceLE, Int.reduceEq, Int.reduceNe, Int.reduceBEq, Nat.reduceBEq, Int.reduceBNe, Nat.reduceBNe, Int.reduceAdd, Int.reduceSub, Int.reduceMul, Int.reduceNeg]
            exact again (i + 1) _ _ (by omega) (FrLe.of_lks (by simp (dsimp := false) (maxSteps := 4000000) only [enc_len, enc_scal, enc_take, enc_z4, encE_len, encE_scal, encE_z5, encE_take, neqRc, neqE, go_sem, ↓reduceIte, Nat.reduceEqDiff, Nat.reduceLT, Nat.reduceLeDiff, Nat.reduceAdd, Nat.reduceMul, Nat.reduceSub, reduceCtorEq, Int.reduceToNat, Int.reduceLT, Int.reduceLE, Int.reduceEq, Int.reduceNe, Int.reduceBEq, Nat.reduceBEq, Int.reduceBNe, Nat.reduceBNe, Int.reduceAdd, Int.reduceSub, Int.reduceMul, Int.reduceNeg])) (AH.le_refl _) (by omega)
          · have h' : ¬ ((i + 1 : Nat) : Int) < (tO p S).length := by omega
            simp (dsimp := false) (maxSteps := 4000000) only [h', enc_len, enc_scal, enc_take, enc_z4, encE_len, encE_scal, encE_z5, encE_take, neqRc, neqE, go_sem, ↓reduceIte, Nat.reduceEqDiff, Nat.reduceLT, Nat.reduceLeDiff, Nat.reduceAdd, Nat.reduceMul, Nat.reduceSub, reduceCtorEq, Int.reduceToNat, Int.reduceLT, Int.reduceLE, Int.reduceEq, Int.reduceNe, Int.reduceBEq, Nat.reduceBEq, Int.reduceBNe, Nat.reduceBNe, Int.reduceAdd, Int.reduceSub, Int.reduceMul, Int.reduceNeg]
            refine out _ _ _ (by simp) ?_
            simp (dsimp := false) (maxSteps := 4000000) only [enc_len, enc_scal, enc_take, enc_z4, encE_len, encE_scal, encE_z5, encE_take, neqRc, neqE, go_sem, ↓reduceIte, Nat.reduceEqDiff, Nat.reduceLT, Nat.reduceLeDiff, Nat.reduceAdd, Nat.reduceMul, Nat.reduceSub, reduceCtorEq, Int.reduceToNat, Int.reduceLT, Int.reduceLE, Int.reduceEq, Int.reduceNe, Int.reduceBEq, Nat.reduceBEq, Int.reduceBNe, Nat.reduceBNe, Int.reduceAdd, Int.reduceSub, Int.reduceMul, Int.reduceNeg]
            refine (awake_c _).mono ?_; rintro _ _ ⟨rfl, rfl⟩
            rcases hcase with ⟨h0, _⟩ | ⟨h0, hn⟩
            · simp (dsimp := false) (maxSteps := 4000000) only [h0, h16', enc_len, enc_scal, enc_take, enc_z4, encE_len, encE_scal, encE_z5, encE_take, neqRc, neqE, go_sem, ↓reduceIte, Nat.reduceEqDiff, Nat.reduceLT, Nat.reduceLeDiff, Nat.reduceAdd, Nat.reduceMul, Nat.reduceSub, reduceCtorEq, Int.reduceToNat, Int.reduceLT, Int.reduceLE, Int.reduceEq, Int.reduceNe, Int.reduceBEq, Nat.reduceBEq, Int.reduceBNe, Nat.reduceBNe, Int.reduceAdd, Int.reduceSub, Int.reduceMul, Int.reduceNeg]
              exact ⟨H, l9, rfl⟩
            · have hn' : ((tO p S).length : Int) = 0 := by rw [hn]; rfl
              simp (dsimp := false) (maxSteps := 4000000) only [h0, hn', h16', enc_len, enc_scal, enc_take, enc_z4, encE_len, encE_scal, encE_z5, encE_take, neqRc, neqE, go_sem, ↓reduceIte, Nat.reduceEqDiff, Nat.reduceLT, Nat.reduceLeDiff, Nat.reduceAdd, Nat.reduceMul, Nat.reduceSub, reduceCtorEq, Int.reduceToNat, Int.reduceLT, Int.reduceLE, Int.reduceEq, Int.reduceNe, Int.reduceBEq, Nat.reduceBEq, Int.reduceBNe, Nat.reduceBNe, Int.reduceAdd, Int.reduceSub, Int.reduceMul, Int.reduceNeg]
              exact ⟨H, l9, rfl⟩
        
      | false =>
        have f3 : fE M = 1 := by simp [fE, gm]
        have r7 := (Keep.refl (ex := fun _ => False)).row q7 (n := 2) rfl
        rw [f3]
        
        simp (dsimp := false) (maxSteps := 4000000) only [r7, m7, enc_len, enc_scal, enc_take, enc_z4, encE_len, encE_scal, encE_z5, encE_take, neqRc, neqE, hn_b17, hr_b17, go_sem, ↓reduceIte, Nat.reduceEqDiff, Nat.reduceLT, Nat.reduceLeDiff, Nat.reduceAdd, Nat.reduceMul, Nat.reduceSub, reduceCtorEq, Int.reduceToNat, Int.reduceLT, Int.reduceLE, Int.reduceEq, Int.reduceNe, Int.reduceBEq, Nat.reduceBEq, Int.reduceBNe, Nat.reduceBNe, Int.reduceAdd, Int.reduceSub, Int.reduceMul, Int.reduceNeg]
        refine (Rodl.few_x (sR1.add h_b17) hS).mono ?_; rintro _ _ ⟨rfl, rfl⟩
        simp (dsimp := false) (maxSteps := 4000000) only [enc_len, enc_scal, enc_take, enc_z4, encE_len, encE_scal, encE_z5, encE_take, neqRc, neqE, hn_b17, hr_b17, go_sem, ↓reduceIte, Nat.reduceEqDiff, Nat.reduceLT, Nat.reduceLeDiff, Nat.reduceAdd, Nat.reduceMul, Nat.reduceSub, reduceCtorEq, Int.reduceToNat, Int.reduceLT, Int.reduceLE, Int.reduceEq, Int.reduceNe, Int.reduceBEq, Nat.reduceBEq, Int.reduceBNe, Nat.reduceBNe, Int.reduceAdd, Int.reduceSub, Int.reduceMul, Int.reduceNeg]
        refine (Table_u (sS1.add h_b17) hw2 rfl).mono ?_; rintro _ A9 ⟨be, ce, rfl, hG9⟩
        have l9 : H.le A9 := AH.le_trans (AH.le_add l1 h_b17.2) hG9.keep.all
        have sT := hG9.slc
        
        have hcase := tO_may p S
        have h16 : (tO p S).length ≤ 16 := by
          rcases hcase with ⟨_, h⟩ | ⟨_, h⟩
          · exact mayB_16 h
          · rw [h]; simp
        have h16' : ((tO p S).length : Int) ≤ 16 := by omega
        simp (dsimp := false) (maxSteps := 4000000) only [enc_len, enc_scal, enc_take, enc_z4, encE_len, encE_scal, encE_z5, encE_take, neqRc, neqE, go_sem, ↓reduceIte, Nat.reduceEqDiff, Nat.reduceLT, Nat.reduceLeDiff, Nat.reduceAdd, Nat.reduceMul, Nat.reduceSub, reduceCtorEq, Int.reduceToNat, Int.reduceLT, Int.reduceLE, Int.reduceEq, Int.reduceNe, Int.reduceBEq, Nat.reduceBEq, Int.reduceBNe, Nat.reduceBNe, Int.reduceAdd, Int.reduceSub, Int.reduceMul, Int.reduceNeg]
        refine AWp.loopo (ι := Nat) (fun i => i ≤ (tO p S).length) (fun i => [(23, .int .i64 ((i + 1 : Nat) : Int)), (21, .slice be (tO p S).length ce), (22, .int .i64 (tN p S))])
          (fun _ => A9) (fun i => (tO p S).length - i) 0 (by omega) (FrLe.of_lks ?_) (AH.le_refl _) fun i hi Q again out => ?_
        · simp (dsimp := false) (maxSteps := 4000000) only [enc_len, enc_scal, enc_take, enc_z4, encE_len, encE_scal, encE_z5, encE_take, neqRc, neqE, go_sem, ↓reduceIte, Nat.reduceEqDiff, Nat.reduceLT, Nat.reduceLeDiff, Nat.reduceAdd, Nat.reduceMul, Nat.reduceSub, reduceCtorEq, Int.reduceToNat, Int.reduceLT, Int.reduceLE, Int.reduceEq, Int.reduceNe, Int.reduceBEq, Nat.reduceBEq, Int.reduceBNe, Nat.reduceBNe, Int.reduceAdd, Int.reduceSub, Int.reduceMul, Int.reduceNeg]
        · by_cases h : i + 1 < (tO p S).length
          · have h' : ((i + 1 : Nat) : Int) < (tO p S).length := by omega
            have hm : mayB (tO p S) = true := by
              rcases hcase with ⟨_, h⟩ | ⟨_, h0⟩
              · exact h
              · rw [h0] at h; simp at h
            obtain ⟨y, hy⟩ := get_some (l := tO p S) (i := i + 1) (by omega)
            obtain ⟨z, hz⟩ := get_some (l := tO p S) (i := i) (by omega)
            obtain ⟨q, o, rfl, _, rdy⟩ := sT.get (map_get (f := encE) hy)
            obtain ⟨q', o', hb', _, rdz⟩ := sT.get (map_get (f := encE) hz)
            cases hb'
            have ry := rdy 1 _ rfl
            have rz := rdz 1 _ rfl
            have hup := (chk_of hm hy).2.2
            rw [prv_succ hz] at hup
            have hup' : ¬ y.2.1 ≤ z.2.1 := by omega
            have em : IntKind.i64.wrap (((i + 1 : Nat) : Int) - 1) = (i : Int) := by rw [i64_eq (by omega) (by omega)]; omega
            have hi' : (i : Int) < (tO p S).length := by omega
            have ee := i64_succ (i := i + 1) (by omega)
            simp (dsimp := false) (maxSteps := 4000000) only [h', enc_len, enc_scal, enc_take, enc_z4, encE_len, encE_scal, encE_z5, encE_take, neqRc, neqE, go_sem, ↓reduceIte, Nat.reduceEqDiff, Nat.reduceLT, Nat.reduceLeDiff, Nat.reduceAdd, Nat.reduceMul, Nat.reduceSub, reduceCtorEq, Int.reduceToNat, Int.reduceLT, Int.reduceLE, Int.reduceEq, Int.reduceNe, Int.reduceBEq, Nat.reduceBEq, Int.reduceBNe, Nat.reduceBNe, Int.reduceAdd, Int.reduceSub, Int.reduceMul, Int.reduceNeg]
            refine AWp.quiet mixed (by kernel_rfl) ?_
            simp (dsimp := false) (maxSteps := 4000000) only [h', hi', em, ry, rz, hup', enc_len, enc_scal, enc_take, enc_z4, encE_len, encE_scal, encE_z5, encE_take, neqRc, neqE, go_sem, ↓reduceIte, Nat.reduceEqDiff, Nat.reduceLT, Nat.reduceLeDiff, Nat.reduceAdd, Nat.reduceMul, Nat.reduceSub, reduceCtorEq, Int.reduceToNat, Int.reduceLT, Int.reduceLE, Int.reduceEq, Int.reduceNe, Int.reduceBEq, Nat.reduceBEq, Int.reduceBNe, Nat.reduceBNe, Int.reduceAdd, Int.reduceSub, Int.reduceMul, Int.reduceNeg]
            simp (dsimp := false) (maxSteps := 4000000) only [ee, enc_len, enc_scal, enc_take, enc_z4, encE_len, encE_scal, encE_z5, encE_take, neqRc, neqE, go_sem, ↓reduceIte, Nat.reduceEqDiff, Nat.reduceLT, Nat.reduceLeDiff, Nat.reduceAdd, Nat.reduceMul, Nat.reduceSub, reduceCtorEq, Int.reduceToNat, Int.reduceLT, Int.reduceLE, Int.reduceEq, Int.reduceNe, Int.reduceBEq, Nat.reduceBEq, Int.reduceBNe, Nat.reduceBNe, Int.reduceAdd, Int.reduceSub, Int.reduceMul, Int.reduceNeg]
            exact again (i + 1) _ _ (by omega) (FrLe.of_lks (by simp (dsimp := false) (maxSteps := 4000000) only [enc_len, enc_scal, enc_take, enc_z4, encE_len, encE_scal, encE_z5, encE_take, neqRc, neqE, go_sem, ↓reduceIte, Nat.reduceEqDiff, Nat.reduceLT, Nat.reduceLeDiff, Nat.reduceAdd, Nat.reduceMul, Nat.reduceSub, reduceCtorEq, Int.reduceToNat, Int.reduceLT, Int.reduceLE, Int.reduceEq, Int.reduceNe, Int.reduceBEq, Nat.reduceBEq, Int.reduceBNe, Nat.reduceBNe, Int.reduceAdd, Int.reduceSub, Int.reduceMul, Int.reduceNeg])) (AH.le_refl _) (by omega)
          · have h' : ¬ ((i + 1 : Nat) : Int) < (tO p S).length := by omega
            simp (dsimp := false) (maxSteps := 4000000) only [h', enc_len, enc_scal, enc_take, enc_z4, encE_len, encE_scal, encE_z5, encE_take, neqRc, neqE, go_sem, ↓reduceIte, Nat.reduceEqDiff, Nat.reduceLT, Nat.reduceLeDiff, Nat.reduceAdd, Nat.reduceMul, Nat.reduceSub, reduceCtorEq, Int.reduceToNat, Int.reduceLT, Int.reduceLE, Int.reduceEq, Int.reduceNe, Int.reduceBEq, Nat.reduceBEq, Int.reduceBNe, Nat.reduceBNe, Int.reduceAdd, Int.reduceSub, Int.reduceMul, Int.reduceNeg]
            refine out _ _ _ (by simp) ?_
            simp (dsimp := false) (maxSteps := 4000000) only [enc_len, enc_scal, enc_take, enc_z4, encE_len, encE_scal, encE_z5, encE_take, neqRc, neqE, go_sem, ↓reduceIte, Nat.reduceEqDiff, Nat.reduceLT, Nat.reduceLeDiff, Nat.reduceAdd, Nat.reduceMul, Nat.reduceSub, reduceCtorEq, Int.reduceToNat, Int.reduceLT, Int.reduceLE, Int.reduceEq, Int.reduceNe, Int.reduceBEq, Nat.reduceBEq, Int.reduceBNe, Nat.reduceBNe, Int.reduceAdd, Int.reduceSub, Int.reduceMul, Int.reduceNeg]
            refine (awake_c _).mono ?_; rintro _ _ ⟨rfl, rfl⟩
            rcases hcase with ⟨h0, _⟩ | ⟨h0, hn⟩
            · simp (dsimp := false) (maxSteps := 4000000) only [h0, h16', enc_len, enc_scal, enc_take, enc_z4, encE_len, encE_scal, encE_z5, encE_take, neqRc, neqE, go_sem, ↓reduceIte, Nat.reduceEqDiff, Nat.reduceLT, Nat.reduceLeDiff, Nat.reduceAdd, Nat.reduceMul, Nat.reduceSub, reduceCtorEq, Int.reduceToNat, Int.reduceLT, Int.reduceLE, Int.reduceEq, Int.reduceNe, Int.reduceBEq, Nat.reduceBEq, Int.reduceBNe, Nat.reduceBNe, Int.reduceAdd, Int.reduceSub, Int.reduceMul, Int.reduceNeg]
              exact ⟨H, l9, rfl⟩
            · have hn' : ((tO p S).length : Int) = 0 := by rw [hn]; rfl
              simp (dsimp := false) (maxSteps := 4000000) only [h0, hn', h16', enc_len, enc_scal, enc_take, enc_z4, encE_len, encE_scal, encE_z5, encE_take, neqRc, neqE, go_sem, ↓reduceIte, Nat.reduceEqDiff, Nat.reduceLT, Nat.reduceLeDiff, Nat.reduceAdd, Nat.reduceMul, Nat.reduceSub, reduceCtorEq, Int.reduceToNat, Int.reduceLT, Int.reduceLE, Int.reduceEq, Int.reduceNe, Int.reduceBEq, Nat.reduceBEq, Int.reduceBNe, Nat.reduceBNe, Int.reduceAdd, Int.reduceSub, Int.reduceMul, Int.reduceNeg]
              exact ⟨H, l9, rfl⟩
        
      
    
end Go.Proofs.Ytadbmmdmibiikaa.Rodl
