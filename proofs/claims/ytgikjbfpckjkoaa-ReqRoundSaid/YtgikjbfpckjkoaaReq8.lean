/- req: the law ReqRound. -/
import Derived.Test.YtgikjbfpckjkoaaReq7
namespace Go.Proofs.Ytgikjbfpckjkoaa.Req
set_option linter.unusedSimpArgs false
set_option linter.unusedVariables false
open Go Go.AX Go.Proofs Ty Go.Proofs.Ytgikjbfpckjkoaa.CatB
set_option maxHeartbeats 8000000
set_option maxRecDepth 10000

theorem take_put (i k n f r a b c d y : Int) (h : goodQ i k n f r a b c d y = true) : TakeX (putL i k n f r a b c d y) = ⟨i, k, n, f, r, a, b, c, d, y⟩ ∧ TakeE (putL i k n f r a b c d y) = 0 := by
  obtain ⟨g1, g2, g3, g4, g5, g6⟩ := (of_decide_eq_true h : GoodQ i k n f r a b c d y)
  have e : 256 * (i / 256) + i % 256 = i := by omega
  by_cases k2 : k = 2
  · subst k2
    have hp : putL i 2 n f r a b c d y = [0, 11, i / 256, i % 256, 2, n, f, r, y, a, b, c, d] := rfl
    rw [hp]
    have hok : okT [0, 11, i / 256, i % 256, 2, n, f, r, y, a, b, c, d] = true := by rw [okT_13, e, h, hp]; simp
    exact ⟨by rw [TakeX, if_pos hok, cand_13 hok, e], by rw [TakeE, if_pos hok]⟩
  · have hp : putL i k n f r a b c d y = [0, 7, i / 256, i % 256, k, n, f, r, y] := if_neg k2
    have h0 : a = 0 ∧ b = 0 ∧ c = 0 ∧ d = 0 := by omega
    obtain ⟨rfl, rfl, rfl, rfl⟩ := h0
    rw [hp]
    have hok : okT [0, 7, i / 256, i % 256, k, n, f, r, y] = true := by rw [okT_09, e, h, hp]; simp
    exact ⟨by rw [TakeX, if_pos hok, cand_09, e], by rw [TakeE, if_pos hok]⟩
theorem read_ans (i e a b c d : Int) (h : mayR i e a b c d = true) : ReadX (ansL i e a b c d) = ⟨i, e, a, b, c, d⟩ ∧ ReadE (ansL i e a b c d) = 0 := by
  obtain ⟨g1, g2, g3⟩ := (of_decide_eq_true h : MayR i e a b c d)
  have e1 : 256 * (i / 256) + i % 256 = i := by omega
  have hok : okY (ansL i e a b c d) = true := by
    show okY [0, 7, i / 256, i % 256, e, a, b, c, d] = true
    rw [okY_9, e1, h]; simp [ansL]
  exact ⟨by rw [ReadX, if_pos hok]; show Y.mk (256 * (i / 256) + i % 256) e a b c d = _; rw [e1], by rw [ReadE, if_pos hok]⟩
theorem okT_spec {B : List Int} (h : okT B = true) : (TakeX B).good = true ∧ (TakeX B).put = B ∧ TakeE B = 0 ∧ 9 ≤ B.length := by
  have h2 := h
  simp only [okT, Bool.and_eq_true, decide_eq_true_eq] at h2
  rw [TakeX, if_pos h, TakeE, if_pos h]
  exact ⟨h2.2.1, h2.2.2, rfl, h2.1⟩
theorem okY_spec {B : List Int} (h : okY B = true) : (ReadX B).ok = true ∧ (ReadX B).put = B ∧ ReadE B = 0 := by
  have h2 := h
  simp only [okY, Bool.and_eq_true, decide_eq_true_eq] at h2
  rw [ReadX, if_pos h, ReadE, if_pos h]
  exact ⟨h2.2.1, h2.2.2, rfl⟩
theorem ReqRound_c (i k n f r a b c d y j e a2 b2 c2 d2 : Int) (wa : 0 ≤ a ∧ a < 256) (wb : 0 ≤ b ∧ b < 256) (wc : 0 ≤ c ∧ c < 256) (wd : 0 ≤ d ∧ d < 256) (va : 0 ≤ a2 ∧ a2 < 256) (vb : 0 ≤ b2 ∧ b2 < 256) (vc : 0 ≤ c2 ∧ c2 < 256) (vd : 0 ≤ d2 ∧ d2 < 256) (B : List Int) (base : Option Addr) (cap : Nat) (H : AH) (hs : SlcIn H 1 base cap (B.map encB)) (hB : Bts B) :
    ACalls Try.prog 6 #[qv i k n f r a b c d y, rv j e a2 b2 c2 d2, .slice base B.length cap] H (fun v H' => v = .bool true ∧ H = H') := by
  have hT := fun A (h : SlcIn A 1 base cap (B.map encB)) => Take_c B base cap A h hB
  have hR := fun A (h : SlcIn A 1 base cap (B.map encB)) => Read_c B base cap A h hB
  have hoT := okT_spec (B := B)
  have hoY := okY_spec (B := B)
  rcases hX : TakeX B with ⟨x0, x1, x2, x3, x4, x5, x6, x7, x8, x9⟩
  rcases hY : ReadX B with ⟨y0, y1, y2, y3, y4, y5⟩
  rw [hX] at hT hoT
  rw [hY] at hR hoY
  simp only [Q.v, qv, Q.good, Q.put] at hT hoT
  simp only [Y.v, rv, Y.ok, Y.put] at hR hoY
  unfold qv rv
  refine ACalls.enter2 Try.func6 rfl Try.ntmps6 Try.results6 (by simp) ?_; simp (dsimp := false) (maxSteps := 4000000) only [go_sem, ↓reduceIte, Nat.reduceEqDiff, Nat.reduceLT, Nat.reduceLeDiff, Nat.reduceAdd, Nat.reduceMul, Nat.reduceSub, reduceCtorEq, Int.reduceToNat, Int.reduceLT, Int.reduceLE, Int.reduceEq, Int.reduceNe, Int.reduceBEq, Nat.reduceBEq, Int.reduceBNe, Nat.reduceBNe, Int.reduceAdd, Int.reduceSub, Int.reduceMul, Int.reduceNeg]
  refine AllB.mk fun b3 h_b3 => ?_; have hn_b3 := h_b3; (try simp only [fresh_add, fresh_set, ne_eq] at hn_b3); have hr_b3 := hn_b3; (try simp only [@eq_comm Nat b3] at hr_b3); simp (dsimp := false) (maxSteps := 4000000) only [hn_b3, hr_b3, go_sem, ↓reduceIte, Nat.reduceEqDiff, Nat.reduceLT, Nat.reduceLeDiff, Nat.reduceAdd, Nat.reduceMul, Nat.reduceSub, reduceCtorEq, Int.reduceToNat, Int.reduceLT, Int.reduceLE, Int.reduceEq, Int.reduceNe, Int.reduceBEq, Nat.reduceBEq, Int.reduceBNe, Nat.reduceBNe, Int.reduceAdd, Int.reduceSub, Int.reduceMul, Int.reduceNeg]
  refine AllB.mk fun b4 h_b4 => ?_; have hn_b4 := h_b4; (try simp only [fresh_add, fresh_set, ne_eq] at hn_b4); have hr_b4 := hn_b4; (try simp only [@eq_comm Nat b4] at hr_b4); simp (dsimp := false) (maxSteps := 4000000) only [hn_b3, hr_b3, hn_b4, hr_b4, go_sem, ↓reduceIte, Nat.reduceEqDiff, Nat.reduceLT, Nat.reduceLeDiff, Nat.reduceAdd, Nat.reduceMul, Nat.reduceSub, reduceCtorEq, Int.reduceToNat, Int.reduceLT, Int.reduceLE, Int.reduceEq, Int.reduceNe, Int.reduceBEq, Nat.reduceBEq, Int.reduceBNe, Nat.reduceBNe, Int.reduceAdd, Int.reduceSub, Int.reduceMul, Int.reduceNeg]
  refine (Put_c i k n f r a b c d y _).mono ?_; rintro _ A1 ⟨p1, q1, rfl, hO1, hK1⟩
  have m3 : A1.find b3 = some (ABlk.cells [.int .i64 i, .int .i64 k, .int .i64 n, .int .i64 f, .int .i64 r, .int .u8 a, .int .u8 b, .int .u8 c, .int .u8 d, .int .i64 y] 43 10) := hK1.find (fun h => h) (by (show AH.find _ _ = _; simp only [find_add_self, find_add_ne, find_fresh, fresh_add, ne_eq, not_false_eq_true, true_and, and_true, and_self, hn_b3, hr_b3, hn_b4, hr_b4]))
  have m4 : A1.find b4 = some (ABlk.cells [.int .i64 j, .int .i64 e, .int .u8 a2, .int .u8 b2, .int .u8 c2, .int .u8 d2] 56 6) := hK1.find (fun h => h) (by (show AH.find _ _ = _; simp only [find_add_self, find_add_ne, find_fresh, fresh_add, ne_eq, not_false_eq_true, true_and, and_true, and_self, hn_b3, hr_b3, hn_b4, hr_b4]))
  have hH : H.le A1 := AH.le_trans (AH.le_add (AH.le_add (AH.le_refl _) ((by simp only [fresh_add, fresh_set, ne_eq, hn_b3, not_false_eq_true, and_self] : Fresh _ b3).2)) ((by simp only [fresh_add, fresh_set, ne_eq, hn_b4, not_false_eq_true, and_self] : Fresh _ b4).2)) hK1.all
  have tB := ((hs.add h_b3).add h_b4).keep hK1 fun _ _ h => h
  have r3 : A1.row b3 0 10 = some [.int .i64 i, .int .i64 k, .int .i64 n, .int .i64 f, .int .i64 r, .int .u8 a, .int .u8 b, .int .u8 c, .int .u8 d, .int .i64 y] := row_find m3 (by simp)
  have r4 : A1.row b4 0 6 = some [.int .i64 j, .int .i64 e, .int .u8 a2, .int .u8 b2, .int .u8 c2, .int .u8 d2] := row_find m4 (by simp)
  clear hK1 h_b3 hn_b3 hr_b3 h_b4 hn_b4 hr_b4 hs
  
  cases g1 : goodQ i k n f r a b c d y with
  | true =>
    obtain ⟨u1, u2⟩ := take_put i k n f r a b c d y g1
    have e1 : PutE i k n f r a b c d y = 0 := by simp [PutE, g1]
    have e2 : PutL i k n f r a b c d y = putL i k n f r a b c d y := by simp [PutL, g1]
    rw [e2] at hO1
    simp (dsimp := false) (maxSteps := 4000000) only [e1, e2, go_sem, ↓reduceIte, Nat.reduceEqDiff, Nat.reduceLT, Nat.reduceLeDiff, Nat.reduceAdd, Nat.reduceMul, Nat.reduceSub, reduceCtorEq, Int.reduceToNat, Int.reduceLT, Int.reduceLE, Int.reduceEq, Int.reduceNe, Int.reduceBEq, Nat.reduceBEq, Int.reduceBNe, Nat.reduceBNe, Int.reduceAdd, Int.reduceSub, Int.reduceMul, Int.reduceNeg]
    refine (Take_c (putL i k n f r a b c d y) p1 q1 _ hO1.slc (Bts_put g1 wa wb wc wd)).mono ?_; rintro _ _ ⟨rfl, rfl⟩
    rw [u1, u2]
    simp (dsimp := false) (maxSteps := 4000000) only [Q.v, qv, go_sem, ↓reduceIte, Nat.reduceEqDiff, Nat.reduceLT, Nat.reduceLeDiff, Nat.reduceAdd, Nat.reduceMul, Nat.reduceSub, reduceCtorEq, Int.reduceToNat, Int.reduceLT, Int.reduceLE, Int.reduceEq, Int.reduceNe, Int.reduceBEq, Nat.reduceBEq, Int.reduceBNe, Nat.reduceBNe, Int.reduceAdd, Int.reduceSub, Int.reduceMul, Int.reduceNeg]
    refine AllB.mk fun b9 h_b9 => ?_; have hn_b9 := h_b9; (try simp only [fresh_add, fresh_set, ne_eq] at hn_b9); have hr_b9 := hn_b9; (try simp only [@eq_comm Nat b9] at hr_b9); simp (dsimp := false) (maxSteps := 4000000) only [hn_b9, hr_b9, go_sem, ↓reduceIte, Nat.reduceEqDiff, Nat.reduceLT, Nat.reduceLeDiff, Nat.reduceAdd, Nat.reduceMul, Nat.reduceSub, reduceCtorEq, Int.reduceToNat, Int.reduceLT, Int.reduceLE, Int.reduceEq, Int.reduceNe, Int.reduceBEq, Nat.reduceBEq, Int.reduceBNe, Nat.reduceBNe, Int.reduceAdd, Int.reduceSub, Int.reduceMul, Int.reduceNeg]
    have nr_r3 := h_b9.ne_row r3
    have nr_r4 := h_b9.ne_row r4
    simp (dsimp := false) (maxSteps := 4000000) only [r3, r4, nr_r3, nr_r4, hn_b9, hr_b9, go_sem, ↓reduceIte, Nat.reduceEqDiff, Nat.reduceLT, Nat.reduceLeDiff, Nat.reduceAdd, Nat.reduceMul, Nat.reduceSub, reduceCtorEq, Int.reduceToNat, Int.reduceLT, Int.reduceLE, Int.reduceEq, Int.reduceNe, Int.reduceBEq, Nat.reduceBEq, Int.reduceBNe, Nat.reduceBNe, Int.reduceAdd, Int.reduceSub, Int.reduceMul, Int.reduceNeg]
    have m3 : (A1.add b9 (ABlk.cells [.int .i64 i, .int .i64 k, .int .i64 n, .int .i64 f, .int .i64 r, .int .u8 a, .int .u8 b, .int .u8 c, .int .u8 d, .int .i64 y] 43 10)).find b3 = some (ABlk.cells [.int .i64 i, .int .i64 k, .int .i64 n, .int .i64 f, .int .i64 r, .int .u8 a, .int .u8 b, .int .u8 c, .int .u8 d, .int .i64 y] 43 10) := by rw [find_add_ne _ (h_b9.ne_find m3)]; exact m3
    have m4 : (A1.add b9 (ABlk.cells [.int .i64 i, .int .i64 k, .int .i64 n, .int .i64 f, .int .i64 r, .int .u8 a, .int .u8 b, .int .u8 c, .int .u8 d, .int .i64 y] 43 10)).find b4 = some (ABlk.cells [.int .i64 j, .int .i64 e, .int .u8 a2, .int .u8 b2, .int .u8 c2, .int .u8 d2] 56 6) := by rw [find_add_ne _ (h_b9.ne_find m4)]; exact m4
    have hH : H.le (A1.add b9 (ABlk.cells [.int .i64 i, .int .i64 k, .int .i64 n, .int .i64 f, .int .i64 r, .int .u8 a, .int .u8 b, .int .u8 c, .int .u8 d, .int .i64 y] 43 10)) := AH.le_add hH h_b9.2
    have tB : SlcIn (A1.add b9 (ABlk.cells [.int .i64 i, .int .i64 k, .int .i64 n, .int .i64 f, .int .i64 r, .int .u8 a, .int .u8 b, .int .u8 c, .int .u8 d, .int .i64 y] 43 10)) 1 base cap (B.map encB) := tB.add h_b9
    clear r3 r4 nr_r3 nr_r4 hO1
    generalize (A1.add b9 (ABlk.cells [.int .i64 i, .int .i64 k, .int .i64 n, .int .i64 f, .int .i64 r, .int .u8 a, .int .u8 b, .int .u8 c, .int .u8 d, .int .i64 y] 43 10)) = A1 at m3 m4 hH tB ⊢
    clear hn_b9 hr_b9 h_b9
    
    refine (Answer_c j e a2 b2 c2 d2 _).mono ?_; rintro _ A2 ⟨p2, q2, rfl, hO2, hK2⟩
    have m3 := hK2.find (fun h => h) m3
    have m4 := hK2.find (fun h => h) m4
    have tB := tB.keep hK2 fun _ _ h => h
    have hH := AH.le_trans hH hK2.all
    have r3 : A2.row b3 0 10 = some [.int .i64 i, .int .i64 k, .int .i64 n, .int .i64 f, .int .i64 r, .int .u8 a, .int .u8 b, .int .u8 c, .int .u8 d, .int .i64 y] := row_find m3 (by simp)
    have r4 : A2.row b4 0 6 = some [.int .i64 j, .int .i64 e, .int .u8 a2, .int .u8 b2, .int .u8 c2, .int .u8 d2] := row_find m4 (by simp)
    clear hK2
    cases g2 : mayR j e a2 b2 c2 d2 with
    | true =>
      obtain ⟨u1, u2⟩ := read_ans j e a2 b2 c2 d2 g2
      have e1 : AnsE j e a2 b2 c2 d2 = 0 := by simp [AnsE, g2]
      have e2 : AnsL j e a2 b2 c2 d2 = ansL j e a2 b2 c2 d2 := by simp [AnsL, g2]
      rw [e2] at hO2
      simp (dsimp := false) (maxSteps := 4000000) only [e1, e2, go_sem, ↓reduceIte, Nat.reduceEqDiff, Nat.reduceLT, Nat.reduceLeDiff, Nat.reduceAdd, Nat.reduceMul, Nat.reduceSub, reduceCtorEq, Int.reduceToNat, Int.reduceLT, Int.reduceLE, Int.reduceEq, Int.reduceNe, Int.reduceBEq, Nat.reduceBEq, Int.reduceBNe, Nat.reduceBNe, Int.reduceAdd, Int.reduceSub, Int.reduceMul, Int.reduceNeg]
      refine (Read_c (ansL j e a2 b2 c2 d2) p2 q2 _ hO2.slc (Bts_ans g2 va vb vc vd)).mono ?_; rintro _ _ ⟨rfl, rfl⟩
      rw [u1, u2]
      simp (dsimp := false) (maxSteps := 4000000) only [Y.v, rv, go_sem, ↓reduceIte, Nat.reduceEqDiff, Nat.reduceLT, Nat.reduceLeDiff, Nat.reduceAdd, Nat.reduceMul, Nat.reduceSub, reduceCtorEq, Int.reduceToNat, Int.reduceLT, Int.reduceLE, Int.reduceEq, Int.reduceNe, Int.reduceBEq, Nat.reduceBEq, Int.reduceBNe, Nat.reduceBNe, Int.reduceAdd, Int.reduceSub, Int.reduceMul, Int.reduceNeg]
      refine AllB.mk fun b13 h_b13 => ?_; have hn_b13 := h_b13; (try simp only [fresh_add, fresh_set, ne_eq] at hn_b13); have hr_b13 := hn_b13; (try simp only [@eq_comm Nat b13] at hr_b13); simp (dsimp := false) (maxSteps := 4000000) only [hn_b13, hr_b13, go_sem, ↓reduceIte, Nat.reduceEqDiff, Nat.reduceLT, Nat.reduceLeDiff, Nat.reduceAdd, Nat.reduceMul, Nat.reduceSub, reduceCtorEq, Int.reduceToNat, Int.reduceLT, Int.reduceLE, Int.reduceEq, Int.reduceNe, Int.reduceBEq, Nat.reduceBEq, Int.reduceBNe, Nat.reduceBNe, Int.reduceAdd, Int.reduceSub, Int.reduceMul, Int.reduceNeg]
      have nr_r4 := h_b13.ne_row r4
      simp (dsimp := false) (maxSteps := 4000000) only [r4, nr_r4, hn_b13, hr_b13, go_sem, ↓reduceIte, Nat.reduceEqDiff, Nat.reduceLT, Nat.reduceLeDiff, Nat.reduceAdd, Nat.reduceMul, Nat.reduceSub, reduceCtorEq, Int.reduceToNat, Int.reduceLT, Int.reduceLE, Int.reduceEq, Int.reduceNe, Int.reduceBEq, Nat.reduceBEq, Int.reduceBNe, Nat.reduceBNe, Int.reduceAdd, Int.reduceSub, Int.reduceMul, Int.reduceNeg]
      have m3 : (A2.add b13 (ABlk.cells [.int .i64 j, .int .i64 e, .int .u8 a2, .int .u8 b2, .int .u8 c2, .int .u8 d2] 56 6)).find b3 = some (ABlk.cells [.int .i64 i, .int .i64 k, .int .i64 n, .int .i64 f, .int .i64 r, .int .u8 a, .int .u8 b, .int .u8 c, .int .u8 d, .int .i64 y] 43 10) := by rw [find_add_ne _ (h_b13.ne_find m3)]; exact m3
      have hH : H.le (A2.add b13 (ABlk.cells [.int .i64 j, .int .i64 e, .int .u8 a2, .int .u8 b2, .int .u8 c2, .int .u8 d2] 56 6)) := AH.le_add hH h_b13.2
      have tB : SlcIn (A2.add b13 (ABlk.cells [.int .i64 j, .int .i64 e, .int .u8 a2, .int .u8 b2, .int .u8 c2, .int .u8 d2] 56 6)) 1 base cap (B.map encB) := tB.add h_b13
      clear r3 r4 nr_r4 m4 hO2
      generalize (A2.add b13 (ABlk.cells [.int .i64 j, .int .i64 e, .int .u8 a2, .int .u8 b2, .int .u8 c2, .int .u8 d2] 56 6)) = A2 at m3 hH tB ⊢
      clear hn_b13 hr_b13 h_b13
      have r3 : A2.row b3 0 10 = some [.int .i64 i, .int .i64 k, .int .i64 n, .int .i64 f, .int .i64 r, .int .u8 a, .int .u8 b, .int .u8 c, .int .u8 d, .int .i64 y] := row_find m3 (by simp)
      have r4 : True := trivial
      
      refine (hT _ tB).mono ?_; rintro _ _ ⟨rfl, rfl⟩
      simp (dsimp := false) (maxSteps := 4000000) only [go_sem, ↓reduceIte, Nat.reduceEqDiff, Nat.reduceLT, Nat.reduceLeDiff, Nat.reduceAdd, Nat.reduceMul, Nat.reduceSub, reduceCtorEq, Int.reduceToNat, Int.reduceLT, Int.reduceLE, Int.reduceEq, Int.reduceNe, Int.reduceBEq, Nat.reduceBEq, Int.reduceBNe, Nat.reduceBNe, Int.reduceAdd, Int.reduceSub, Int.reduceMul, Int.reduceNeg]
      refine AllB.mk fun b15 h_b15 => ?_; have hn_b15 := h_b15; (try simp only [fresh_add, fresh_set, ne_eq] at hn_b15); have hr_b15 := hn_b15; (try simp only [@eq_comm Nat b15] at hr_b15); simp (dsimp := false) (maxSteps := 4000000) only [hn_b15, hr_b15, go_sem, ↓reduceIte, Nat.reduceEqDiff, Nat.reduceLT, Nat.reduceLeDiff, Nat.reduceAdd, Nat.reduceMul, Nat.reduceSub, reduceCtorEq, Int.reduceToNat, Int.reduceLT, Int.reduceLE, Int.reduceEq, Int.reduceNe, Int.reduceBEq, Nat.reduceBEq, Int.reduceBNe, Nat.reduceBNe, Int.reduceAdd, Int.reduceSub, Int.reduceMul, Int.reduceNeg]
      refine (hR _ (tB.add h_b15)).mono ?_; rintro _ _ ⟨rfl, rfl⟩
      simp (dsimp := false) (maxSteps := 4000000) only [hn_b15, hr_b15, go_sem, ↓reduceIte, Nat.reduceEqDiff, Nat.reduceLT, Nat.reduceLeDiff, Nat.reduceAdd, Nat.reduceMul, Nat.reduceSub, reduceCtorEq, Int.reduceToNat, Int.reduceLT, Int.reduceLE, Int.reduceEq, Int.reduceNe, Int.reduceBEq, Nat.reduceBEq, Int.reduceBNe, Nat.reduceBNe, Int.reduceAdd, Int.reduceSub, Int.reduceMul, Int.reduceNeg]
      refine AllB.mk fun b17 h_b17 => ?_; have hn_b17 := h_b17; (try simp only [fresh_add, fresh_set, ne_eq] at hn_b17); have hr_b17 := hn_b17; (try simp only [@eq_comm Nat b17] at hr_b17); simp (dsimp := false) (maxSteps := 4000000) only [hn_b15, hr_b15, hn_b17, hr_b17, go_sem, ↓reduceIte, Nat.reduceEqDiff, Nat.reduceLT, Nat.reduceLeDiff, Nat.reduceAdd, Nat.reduceMul, Nat.reduceSub, reduceCtorEq, Int.reduceToNat, Int.reduceLT, Int.reduceLE, Int.reduceEq, Int.reduceNe, Int.reduceBEq, Nat.reduceBEq, Int.reduceBNe, Nat.reduceBNe, Int.reduceAdd, Int.reduceSub, Int.reduceMul, Int.reduceNeg]
      have m17 : ((A2.add b15 (ABlk.cells [.int .i64 x0, .int .i64 x1, .int .i64 x2, .int .i64 x3, .int .i64 x4, .int .u8 x5, .int .u8 x6, .int .u8 x7, .int .u8 x8, .int .i64 x9] 43 10)).add b17 (ABlk.cells [.int .i64 y0, .int .i64 y1, .int .u8 y2, .int .u8 y3, .int .u8 y4, .int .u8 y5] 56 6)).find b17 = some (ABlk.cells [.int .i64 y0, .int .i64 y1, .int .u8 y2, .int .u8 y3, .int .u8 y4, .int .u8 y5] 56 6) := find_add_self _ _ _
      have m3 : ((A2.add b15 (ABlk.cells [.int .i64 x0, .int .i64 x1, .int .i64 x2, .int .i64 x3, .int .i64 x4, .int .u8 x5, .int .u8 x6, .int .u8 x7, .int .u8 x8, .int .i64 x9] 43 10)).add b17 (ABlk.cells [.int .i64 y0, .int .i64 y1, .int .u8 y2, .int .u8 y3, .int .u8 y4, .int .u8 y5] 56 6)).find b3 = some (ABlk.cells [.int .i64 i, .int .i64 k, .int .i64 n, .int .i64 f, .int .i64 r, .int .u8 a, .int .u8 b, .int .u8 c, .int .u8 d, .int .i64 y] 43 10) := by rw [find_add_ne _ (hn_b17.2.ne_find m3), find_add_ne _ (h_b15.ne_find m3)]; exact m3
      have hH : H.le ((A2.add b15 (ABlk.cells [.int .i64 x0, .int .i64 x1, .int .i64 x2, .int .i64 x3, .int .i64 x4, .int .u8 x5, .int .u8 x6, .int .u8 x7, .int .u8 x8, .int .i64 x9] 43 10)).add b17 (ABlk.cells [.int .i64 y0, .int .i64 y1, .int .u8 y2, .int .u8 y3, .int .u8 y4, .int .u8 y5] 56 6)) := AH.le_add (AH.le_add hH h_b15.2) h_b17.2
      have tB : SlcIn ((A2.add b15 (ABlk.cells [.int .i64 x0, .int .i64 x1, .int .i64 x2, .int .i64 x3, .int .i64 x4, .int .u8 x5, .int .u8 x6, .int .u8 x7, .int .u8 x8, .int .i64 x9] 43 10)).add b17 (ABlk.cells [.int .i64 y0, .int .i64 y1, .int .u8 y2, .int .u8 y3, .int .u8 y4, .int .u8 y5] 56 6)) 1 base cap (B.map encB) := (tB.add h_b15).add h_b17
      have r15 : ((A2.add b15 (ABlk.cells [.int .i64 x0, .int .i64 x1, .int .i64 x2, .int .i64 x3, .int .i64 x4, .int .u8 x5, .int .u8 x6, .int .u8 x7, .int .u8 x8, .int .i64 x9] 43 10)).add b17 (ABlk.cells [.int .i64 y0, .int .i64 y1, .int .u8 y2, .int .u8 y3, .int .u8 y4, .int .u8 y5] 56 6)).row b15 0 10 = some [.int .i64 x0, .int .i64 x1, .int .i64 x2, .int .i64 x3, .int .i64 x4, .int .u8 x5, .int .u8 x6, .int .u8 x7, .int .u8 x8, .int .i64 x9] := row_find (show _ = some (ABlk.cells [.int .i64 x0, .int .i64 x1, .int .i64 x2, .int .i64 x3, .int .i64 x4, .int .u8 x5, .int .u8 x6, .int .u8 x7, .int .u8 x8, .int .i64 x9] 43 10) from by rw [find_add_ne _ hn_b17.1]; exact find_add_self _ _ _) (by simp)
      generalize ((A2.add b15 (ABlk.cells [.int .i64 x0, .int .i64 x1, .int .i64 x2, .int .i64 x3, .int .i64 x4, .int .u8 x5, .int .u8 x6, .int .u8 x7, .int .u8 x8, .int .i64 x9] 43 10)).add b17 (ABlk.cells [.int .i64 y0, .int .i64 y1, .int .u8 y2, .int .u8 y3, .int .u8 y4, .int .u8 y5] 56 6)) = A3 at m17 m3 hH tB r15 ⊢
      clear hn_b15 hr_b15 h_b15 hn_b17 hr_b17 h_b17 r3 r4
      
      cases ht : okT B with
      | true =>
        obtain ⟨o1, o2, tE, o4⟩ := hoT ht
        have e1 : PutE x0 x1 x2 x3 x4 x5 x6 x7 x8 x9 = 0 := by simp [PutE, o1]
        have e2 : PutL x0 x1 x2 x3 x4 x5 x6 x7 x8 x9 = B := by simp [PutL, o1, o2]
        simp (dsimp := false) (maxSteps := 4000000) only [tE, r15, go_sem, ↓reduceIte, Nat.reduceEqDiff, Nat.reduceLT, Nat.reduceLeDiff, Nat.reduceAdd, Nat.reduceMul, Nat.reduceSub, reduceCtorEq, Int.reduceToNat, Int.reduceLT, Int.reduceLE, Int.reduceEq, Int.reduceNe, Int.reduceBEq, Nat.reduceBEq, Int.reduceBNe, Nat.reduceBNe, Int.reduceAdd, Int.reduceSub, Int.reduceMul, Int.reduceNeg]
        refine (Put_c x0 x1 x2 x3 x4 x5 x6 x7 x8 x9 _).mono ?_; rintro _ A5 ⟨p3, q3, rfl, hO3, hK3⟩
        rw [e2] at hO3
        have tB := tB.keep hK3 fun _ _ h => h
        have cv1 := fun (k : Value → Prop) => cnv_bytes (P := Try.prog) (k := k) Try.underlying44 Try.underlying5 Try.underlying9 hO3.slc rfl
        have cv2 := fun (k : Value → Prop) => cnv_bytes (P := Try.prog) (k := k) Try.underlying44 Try.underlying5 Try.underlying9 tB rfl
        have m3 := hK3.find (fun h => h) m3
        have m17 := hK3.find (fun h => h) m17
        have r3 : A5.row b3 0 10 = some [.int .i64 i, .int .i64 k, .int .i64 n, .int .i64 f, .int .i64 r, .int .u8 a, .int .u8 b, .int .u8 c, .int .u8 d, .int .i64 y] := row_find m3 (by simp)
        have r17 : A5.row b17 0 6 = some [.int .i64 y0, .int .i64 y1, .int .u8 y2, .int .u8 y3, .int .u8 y4, .int .u8 y5] := row_find m17 (by simp)
        have hH := AH.le_trans hH hK3.all
        have hne : (!((bstr B).toList == (bstr B).toList)) = false := by simp
        simp (dsimp := false) (maxSteps := 4000000) only [e1, e2, cv1, cv2, hne, go_sem, ↓reduceIte, Nat.reduceEqDiff, Nat.reduceLT, Nat.reduceLeDiff, Nat.reduceAdd, Nat.reduceMul, Nat.reduceSub, reduceCtorEq, Int.reduceToNat, Int.reduceLT, Int.reduceLE, Int.reduceEq, Int.reduceNe, Int.reduceBEq, Nat.reduceBEq, Int.reduceBNe, Nat.reduceBNe, Int.reduceAdd, Int.reduceSub, Int.reduceMul, Int.reduceNeg]
        cases hy : okY B with
        | true =>
          obtain ⟨o1, o2, o3⟩ := hoY hy
          have e1 : AnsE y0 y1 y2 y3 y4 y5 = 0 := by simp [AnsE, o1]
          have e2 : AnsL y0 y1 y2 y3 y4 y5 = B := by simp [AnsL, o1, o2]
          simp (dsimp := false) (maxSteps := 4000000) only [o3, r17, go_sem, ↓reduceIte, Nat.reduceEqDiff, Nat.reduceLT, Nat.reduceLeDiff, Nat.reduceAdd, Nat.reduceMul, Nat.reduceSub, reduceCtorEq, Int.reduceToNat, Int.reduceLT, Int.reduceLE, Int.reduceEq, Int.reduceNe, Int.reduceBEq, Nat.reduceBEq, Int.reduceBNe, Nat.reduceBNe, Int.reduceAdd, Int.reduceSub, Int.reduceMul, Int.reduceNeg]
          refine (Answer_c y0 y1 y2 y3 y4 y5 _).mono ?_; rintro _ A4 ⟨p4, q4, rfl, hO4, hK4⟩
          rw [e2] at hO4
          have cv3 := fun (k : Value → Prop) => cnv_bytes (P := Try.prog) (k := k) Try.underlying44 Try.underlying5 Try.underlying9 hO4.slc rfl
          have cv4 := fun (k : Value → Prop) => cnv_bytes (P := Try.prog) (k := k) Try.underlying44 Try.underlying5 Try.underlying9 (tB.keep hK4 fun _ _ h => h) rfl
          have m3 := hK4.find (fun h => h) m3
          have r3 : A4.row b3 0 10 = some [.int .i64 i, .int .i64 k, .int .i64 n, .int .i64 f, .int .i64 r, .int .u8 a, .int .u8 b, .int .u8 c, .int .u8 d, .int .i64 y] := row_find m3 (by simp)
          have hH := AH.le_trans hH hK4.all
          have hne : (!((bstr B).toList == (bstr B).toList)) = false := by simp
          simp (dsimp := false) (maxSteps := 4000000) only [e1, e2, cv3, cv4, hne, go_sem, ↓reduceIte, Nat.reduceEqDiff, Nat.reduceLT, Nat.reduceLeDiff, Nat.reduceAdd, Nat.reduceMul, Nat.reduceSub, reduceCtorEq, Int.reduceToNat, Int.reduceLT, Int.reduceLE, Int.reduceEq, Int.reduceNe, Int.reduceBEq, Nat.reduceBEq, Int.reduceBNe, Nat.reduceBNe, Int.reduceAdd, Int.reduceSub, Int.reduceMul, Int.reduceNeg]
          refine (awake_c _).mono ?_; rintro _ _ ⟨rfl, rfl⟩
          simp (dsimp := false) (maxSteps := 4000000) only [r3, go_sem, ↓reduceIte, Nat.reduceEqDiff, Nat.reduceLT, Nat.reduceLeDiff, Nat.reduceAdd, Nat.reduceMul, Nat.reduceSub, reduceCtorEq, Int.reduceToNat, Int.reduceLT, Int.reduceLE, Int.reduceEq, Int.reduceNe, Int.reduceBEq, Nat.reduceBEq, Int.reduceBNe, Nat.reduceBNe, Int.reduceAdd, Int.reduceSub, Int.reduceMul, Int.reduceNeg]
          refine (Good_c i k n f r a b c d y _).mono ?_; rintro _ _ ⟨rfl, rfl⟩
          have hlen : (0 : Int) < B.length := by omega
          simp (dsimp := false) (maxSteps := 4000000) only [g1, hlen, tE, go_sem, ↓reduceIte, Nat.reduceEqDiff, Nat.reduceLT, Nat.reduceLeDiff, Nat.reduceAdd, Nat.reduceMul, Nat.reduceSub, reduceCtorEq, Int.reduceToNat, Int.reduceLT, Int.reduceLE, Int.reduceEq, Int.reduceNe, Int.reduceBEq, Nat.reduceBEq, Int.reduceBNe, Nat.reduceBNe, Int.reduceAdd, Int.reduceSub, Int.reduceMul, Int.reduceNeg]
          exact ⟨H, hH, rfl⟩
        | false =>
          have o3 : ReadE B = 2 := by rw [ReadE, hy]; rfl
          simp (dsimp := false) (maxSteps := 4000000) only [o3, go_sem, ↓reduceIte, Nat.reduceEqDiff, Nat.reduceLT, Nat.reduceLeDiff, Nat.reduceAdd, Nat.reduceMul, Nat.reduceSub, reduceCtorEq, Int.reduceToNat, Int.reduceLT, Int.reduceLE, Int.reduceEq, Int.reduceNe, Int.reduceBEq, Nat.reduceBEq, Int.reduceBNe, Nat.reduceBNe, Int.reduceAdd, Int.reduceSub, Int.reduceMul, Int.reduceNeg]
          refine (awake_c _).mono ?_; rintro _ _ ⟨rfl, rfl⟩
          simp (dsimp := false) (maxSteps := 4000000) only [r3, go_sem, ↓reduceIte, Nat.reduceEqDiff, Nat.reduceLT, Nat.reduceLeDiff, Nat.reduceAdd, Nat.reduceMul, Nat.reduceSub, reduceCtorEq, Int.reduceToNat, Int.reduceLT, Int.reduceLE, Int.reduceEq, Int.reduceNe, Int.reduceBEq, Nat.reduceBEq, Int.reduceBNe, Nat.reduceBNe, Int.reduceAdd, Int.reduceSub, Int.reduceMul, Int.reduceNeg]
          refine (Good_c i k n f r a b c d y _).mono ?_; rintro _ _ ⟨rfl, rfl⟩
          have hlen : (0 : Int) < B.length := by omega
          simp (dsimp := false) (maxSteps := 4000000) only [g1, hlen, tE, go_sem, ↓reduceIte, Nat.reduceEqDiff, Nat.reduceLT, Nat.reduceLeDiff, Nat.reduceAdd, Nat.reduceMul, Nat.reduceSub, reduceCtorEq, Int.reduceToNat, Int.reduceLT, Int.reduceLE, Int.reduceEq, Int.reduceNe, Int.reduceBEq, Nat.reduceBEq, Int.reduceBNe, Nat.reduceBNe, Int.reduceAdd, Int.reduceSub, Int.reduceMul, Int.reduceNeg]
          exact ⟨H, hH, rfl⟩
      | false =>
        have tE : TakeE B = 2 := by rw [TakeE, ht]; rfl
        have r3 : A3.row b3 0 10 = some [.int .i64 i, .int .i64 k, .int .i64 n, .int .i64 f, .int .i64 r, .int .u8 a, .int .u8 b, .int .u8 c, .int .u8 d, .int .i64 y] := row_find m3 (by simp)
        have r17 : A3.row b17 0 6 = some [.int .i64 y0, .int .i64 y1, .int .u8 y2, .int .u8 y3, .int .u8 y4, .int .u8 y5] := row_find m17 (by simp)
        simp (dsimp := false) (maxSteps := 4000000) only [tE, go_sem, ↓reduceIte, Nat.reduceEqDiff, Nat.reduceLT, Nat.reduceLeDiff, Nat.reduceAdd, Nat.reduceMul, Nat.reduceSub, reduceCtorEq, Int.reduceToNat, Int.reduceLT, Int.reduceLE, Int.reduceEq, Int.reduceNe, Int.reduceBEq, Nat.reduceBEq, Int.reduceBNe, Nat.reduceBNe, Int.reduceAdd, Int.reduceSub, Int.reduceMul, Int.reduceNeg]
        cases hy : okY B with
        | true =>
          obtain ⟨o1, o2, o3⟩ := hoY hy
          have e1 : AnsE y0 y1 y2 y3 y4 y5 = 0 := by simp [AnsE, o1]
          have e2 : AnsL y0 y1 y2 y3 y4 y5 = B := by simp [AnsL, o1, o2]
          simp (dsimp := false) (maxSteps := 4000000) only [o3, r17, go_sem, ↓reduceIte, Nat.reduceEqDiff, Nat.reduceLT, Nat.reduceLeDiff, Nat.reduceAdd, Nat.reduceMul, Nat.reduceSub, reduceCtorEq, Int.reduceToNat, Int.reduceLT, Int.reduceLE, Int.reduceEq, Int.reduceNe, Int.reduceBEq, Nat.reduceBEq, Int.reduceBNe, Nat.reduceBNe, Int.reduceAdd, Int.reduceSub, Int.reduceMul, Int.reduceNeg]
          refine (Answer_c y0 y1 y2 y3 y4 y5 _).mono ?_; rintro _ A4 ⟨p4, q4, rfl, hO4, hK4⟩
          rw [e2] at hO4
          have cv3 := fun (k : Value → Prop) => cnv_bytes (P := Try.prog) (k := k) Try.underlying44 Try.underlying5 Try.underlying9 hO4.slc rfl
          have cv4 := fun (k : Value → Prop) => cnv_bytes (P := Try.prog) (k := k) Try.underlying44 Try.underlying5 Try.underlying9 (tB.keep hK4 fun _ _ h => h) rfl
          have m3 := hK4.find (fun h => h) m3
          have r3 : A4.row b3 0 10 = some [.int .i64 i, .int .i64 k, .int .i64 n, .int .i64 f, .int .i64 r, .int .u8 a, .int .u8 b, .int .u8 c, .int .u8 d, .int .i64 y] := row_find m3 (by simp)
          have hH := AH.le_trans hH hK4.all
          have hne : (!((bstr B).toList == (bstr B).toList)) = false := by simp
          simp (dsimp := false) (maxSteps := 4000000) only [e1, e2, cv3, cv4, hne, go_sem, ↓reduceIte, Nat.reduceEqDiff, Nat.reduceLT, Nat.reduceLeDiff, Nat.reduceAdd, Nat.reduceMul, Nat.reduceSub, reduceCtorEq, Int.reduceToNat, Int.reduceLT, Int.reduceLE, Int.reduceEq, Int.reduceNe, Int.reduceBEq, Nat.reduceBEq, Int.reduceBNe, Nat.reduceBNe, Int.reduceAdd, Int.reduceSub, Int.reduceMul, Int.reduceNeg]
          refine (awake_c _).mono ?_; rintro _ _ ⟨rfl, rfl⟩
          simp (dsimp := false) (maxSteps := 4000000) only [r3, go_sem, ↓reduceIte, Nat.reduceEqDiff, Nat.reduceLT, Nat.reduceLeDiff, Nat.reduceAdd, Nat.reduceMul, Nat.reduceSub, reduceCtorEq, Int.reduceToNat, Int.reduceLT, Int.reduceLE, Int.reduceEq, Int.reduceNe, Int.reduceBEq, Nat.reduceBEq, Int.reduceBNe, Nat.reduceBNe, Int.reduceAdd, Int.reduceSub, Int.reduceMul, Int.reduceNeg]
          refine (Good_c i k n f r a b c d y _).mono ?_; rintro _ _ ⟨rfl, rfl⟩
          by_cases hlen : (0 : Int) < B.length
          · simp (dsimp := false) (maxSteps := 4000000) only [g1, hlen, tE, go_sem, ↓reduceIte, Nat.reduceEqDiff, Nat.reduceLT, Nat.reduceLeDiff, Nat.reduceAdd, Nat.reduceMul, Nat.reduceSub, reduceCtorEq, Int.reduceToNat, Int.reduceLT, Int.reduceLE, Int.reduceEq, Int.reduceNe, Int.reduceBEq, Nat.reduceBEq, Int.reduceBNe, Nat.reduceBNe, Int.reduceAdd, Int.reduceSub, Int.reduceMul, Int.reduceNeg]
            exact ⟨H, hH, rfl⟩
          · simp (dsimp := false) (maxSteps := 4000000) only [g1, hlen, tE, go_sem, ↓reduceIte, Nat.reduceEqDiff, Nat.reduceLT, Nat.reduceLeDiff, Nat.reduceAdd, Nat.reduceMul, Nat.reduceSub, reduceCtorEq, Int.reduceToNat, Int.reduceLT, Int.reduceLE, Int.reduceEq, Int.reduceNe, Int.reduceBEq, Nat.reduceBEq, Int.reduceBNe, Nat.reduceBNe, Int.reduceAdd, Int.reduceSub, Int.reduceMul, Int.reduceNeg]
            exact ⟨H, hH, rfl⟩
        | false =>
          have o3 : ReadE B = 2 := by rw [ReadE, hy]; rfl
          simp (dsimp := false) (maxSteps := 4000000) only [o3, go_sem, ↓reduceIte, Nat.reduceEqDiff, Nat.reduceLT, Nat.reduceLeDiff, Nat.reduceAdd, Nat.reduceMul, Nat.reduceSub, reduceCtorEq, Int.reduceToNat, Int.reduceLT, Int.reduceLE, Int.reduceEq, Int.reduceNe, Int.reduceBEq, Nat.reduceBEq, Int.reduceBNe, Nat.reduceBNe, Int.reduceAdd, Int.reduceSub, Int.reduceMul, Int.reduceNeg]
          refine (awake_c _).mono ?_; rintro _ _ ⟨rfl, rfl⟩
          simp (dsimp := false) (maxSteps := 4000000) only [r3, go_sem, ↓reduceIte, Nat.reduceEqDiff, Nat.reduceLT, Nat.reduceLeDiff, Nat.reduceAdd, Nat.reduceMul, Nat.reduceSub, reduceCtorEq, Int.reduceToNat, Int.reduceLT, Int.reduceLE, Int.reduceEq, Int.reduceNe, Int.reduceBEq, Nat.reduceBEq, Int.reduceBNe, Nat.reduceBNe, Int.reduceAdd, Int.reduceSub, Int.reduceMul, Int.reduceNeg]
          refine (Good_c i k n f r a b c d y _).mono ?_; rintro _ _ ⟨rfl, rfl⟩
          by_cases hlen : (0 : Int) < B.length
          · simp (dsimp := false) (maxSteps := 4000000) only [g1, hlen, tE, go_sem, ↓reduceIte, Nat.reduceEqDiff, Nat.reduceLT, Nat.reduceLeDiff, Nat.reduceAdd, Nat.reduceMul, Nat.reduceSub, reduceCtorEq, Int.reduceToNat, Int.reduceLT, Int.reduceLE, Int.reduceEq, Int.reduceNe, Int.reduceBEq, Nat.reduceBEq, Int.reduceBNe, Nat.reduceBNe, Int.reduceAdd, Int.reduceSub, Int.reduceMul, Int.reduceNeg]
            exact ⟨H, hH, rfl⟩
          · simp (dsimp := false) (maxSteps := 4000000) only [g1, hlen, tE, go_sem, ↓reduceIte, Nat.reduceEqDiff, Nat.reduceLT, Nat.reduceLeDiff, Nat.reduceAdd, Nat.reduceMul, Nat.reduceSub, reduceCtorEq, Int.reduceToNat, Int.reduceLT, Int.reduceLE, Int.reduceEq, Int.reduceNe, Int.reduceBEq, Nat.reduceBEq, Int.reduceBNe, Nat.reduceBNe, Int.reduceAdd, Int.reduceSub, Int.reduceMul, Int.reduceNeg]
            exact ⟨H, hH, rfl⟩
    | false =>
      have e1 : AnsE j e a2 b2 c2 d2 = 1 := by simp [AnsE, g2]
      simp (dsimp := false) (maxSteps := 4000000) only [e1, go_sem, ↓reduceIte, Nat.reduceEqDiff, Nat.reduceLT, Nat.reduceLeDiff, Nat.reduceAdd, Nat.reduceMul, Nat.reduceSub, reduceCtorEq, Int.reduceToNat, Int.reduceLT, Int.reduceLE, Int.reduceEq, Int.reduceNe, Int.reduceBEq, Nat.reduceBEq, Int.reduceBNe, Nat.reduceBNe, Int.reduceAdd, Int.reduceSub, Int.reduceMul, Int.reduceNeg]
      clear m4 hO2
      refine (hT _ tB).mono ?_; rintro _ _ ⟨rfl, rfl⟩
      simp (dsimp := false) (maxSteps := 4000000) only [go_sem, ↓reduceIte, Nat.reduceEqDiff, Nat.reduceLT, Nat.reduceLeDiff, Nat.reduceAdd, Nat.reduceMul, Nat.reduceSub, reduceCtorEq, Int.reduceToNat, Int.reduceLT, Int.reduceLE, Int.reduceEq, Int.reduceNe, Int.reduceBEq, Nat.reduceBEq, Int.reduceBNe, Nat.reduceBNe, Int.reduceAdd, Int.reduceSub, Int.reduceMul, Int.reduceNeg]
      refine AllB.mk fun b15 h_b15 => ?_; have hn_b15 := h_b15; (try simp only [fresh_add, fresh_set, ne_eq] at hn_b15); have hr_b15 := hn_b15; (try simp only [@eq_comm Nat b15] at hr_b15); simp (dsimp := false) (maxSteps := 4000000) only [hn_b15, hr_b15, go_sem, ↓reduceIte, Nat.reduceEqDiff, Nat.reduceLT, Nat.reduceLeDiff, Nat.reduceAdd, Nat.reduceMul, Nat.reduceSub, reduceCtorEq, Int.reduceToNat, Int.reduceLT, Int.reduceLE, Int.reduceEq, Int.reduceNe, Int.reduceBEq, Nat.reduceBEq, Int.reduceBNe, Nat.reduceBNe, Int.reduceAdd, Int.reduceSub, Int.reduceMul, Int.reduceNeg]
      refine (hR _ (tB.add h_b15)).mono ?_; rintro _ _ ⟨rfl, rfl⟩
      simp (dsimp := false) (maxSteps := 4000000) only [hn_b15, hr_b15, go_sem, ↓reduceIte, Nat.reduceEqDiff, Nat.reduceLT, Nat.reduceLeDiff, Nat.reduceAdd, Nat.reduceMul, Nat.reduceSub, reduceCtorEq, Int.reduceToNat, Int.reduceLT, Int.reduceLE, Int.reduceEq, Int.reduceNe, Int.reduceBEq, Nat.reduceBEq, Int.reduceBNe, Nat.reduceBNe, Int.reduceAdd, Int.reduceSub, Int.reduceMul, Int.reduceNeg]
      refine AllB.mk fun b17 h_b17 => ?_; have hn_b17 := h_b17; (try simp only [fresh_add, fresh_set, ne_eq] at hn_b17); have hr_b17 := hn_b17; (try simp only [@eq_comm Nat b17] at hr_b17); simp (dsimp := false) (maxSteps := 4000000) only [hn_b15, hr_b15, hn_b17, hr_b17, go_sem, ↓reduceIte, Nat.reduceEqDiff, Nat.reduceLT, Nat.reduceLeDiff, Nat.reduceAdd, Nat.reduceMul, Nat.reduceSub, reduceCtorEq, Int.reduceToNat, Int.reduceLT, Int.reduceLE, Int.reduceEq, Int.reduceNe, Int.reduceBEq, Nat.reduceBEq, Int.reduceBNe, Nat.reduceBNe, Int.reduceAdd, Int.reduceSub, Int.reduceMul, Int.reduceNeg]
      have m17 : ((A2.add b15 (ABlk.cells [.int .i64 x0, .int .i64 x1, .int .i64 x2, .int .i64 x3, .int .i64 x4, .int .u8 x5, .int .u8 x6, .int .u8 x7, .int .u8 x8, .int .i64 x9] 43 10)).add b17 (ABlk.cells [.int .i64 y0, .int .i64 y1, .int .u8 y2, .int .u8 y3, .int .u8 y4, .int .u8 y5] 56 6)).find b17 = some (ABlk.cells [.int .i64 y0, .int .i64 y1, .int .u8 y2, .int .u8 y3, .int .u8 y4, .int .u8 y5] 56 6) := find_add_self _ _ _
      have m3 : ((A2.add b15 (ABlk.cells [.int .i64 x0, .int .i64 x1, .int .i64 x2, .int .i64 x3, .int .i64 x4, .int .u8 x5, .int .u8 x6, .int .u8 x7, .int .u8 x8, .int .i64 x9] 43 10)).add b17 (ABlk.cells [.int .i64 y0, .int .i64 y1, .int .u8 y2, .int .u8 y3, .int .u8 y4, .int .u8 y5] 56 6)).find b3 = some (ABlk.cells [.int .i64 i, .int .i64 k, .int .i64 n, .int .i64 f, .int .i64 r, .int .u8 a, .int .u8 b, .int .u8 c, .int .u8 d, .int .i64 y] 43 10) := by rw [find_add_ne _ (hn_b17.2.ne_find m3), find_add_ne _ (h_b15.ne_find m3)]; exact m3
      have hH : H.le ((A2.add b15 (ABlk.cells [.int .i64 x0, .int .i64 x1, .int .i64 x2, .int .i64 x3, .int .i64 x4, .int .u8 x5, .int .u8 x6, .int .u8 x7, .int .u8 x8, .int .i64 x9] 43 10)).add b17 (ABlk.cells [.int .i64 y0, .int .i64 y1, .int .u8 y2, .int .u8 y3, .int .u8 y4, .int .u8 y5] 56 6)) := AH.le_add (AH.le_add hH h_b15.2) h_b17.2
      have tB : SlcIn ((A2.add b15 (ABlk.cells [.int .i64 x0, .int .i64 x1, .int .i64 x2, .int .i64 x3, .int .i64 x4, .int .u8 x5, .int .u8 x6, .int .u8 x7, .int .u8 x8, .int .i64 x9] 43 10)).add b17 (ABlk.cells [.int .i64 y0, .int .i64 y1, .int .u8 y2, .int .u8 y3, .int .u8 y4, .int .u8 y5] 56 6)) 1 base cap (B.map encB) := (tB.add h_b15).add h_b17
      have r15 : ((A2.add b15 (ABlk.cells [.int .i64 x0, .int .i64 x1, .int .i64 x2, .int .i64 x3, .int .i64 x4, .int .u8 x5, .int .u8 x6, .int .u8 x7, .int .u8 x8, .int .i64 x9] 43 10)).add b17 (ABlk.cells [.int .i64 y0, .int .i64 y1, .int .u8 y2, .int .u8 y3, .int .u8 y4, .int .u8 y5] 56 6)).row b15 0 10 = some [.int .i64 x0, .int .i64 x1, .int .i64 x2, .int .i64 x3, .int .i64 x4, .int .u8 x5, .int .u8 x6, .int .u8 x7, .int .u8 x8, .int .i64 x9] := row_find (show _ = some (ABlk.cells [.int .i64 x0, .int .i64 x1, .int .i64 x2, .int .i64 x3, .int .i64 x4, .int .u8 x5, .int .u8 x6, .int .u8 x7, .int .u8 x8, .int .i64 x9] 43 10) from by rw [find_add_ne _ hn_b17.1]; exact find_add_self _ _ _) (by simp)
      generalize ((A2.add b15 (ABlk.cells [.int .i64 x0, .int .i64 x1, .int .i64 x2, .int .i64 x3, .int .i64 x4, .int .u8 x5, .int .u8 x6, .int .u8 x7, .int .u8 x8, .int .i64 x9] 43 10)).add b17 (ABlk.cells [.int .i64 y0, .int .i64 y1, .int .u8 y2, .int .u8 y3, .int .u8 y4, .int .u8 y5] 56 6)) = A3 at m17 m3 hH tB r15 ⊢
      clear hn_b15 hr_b15 h_b15 hn_b17 hr_b17 h_b17 r3 r4
      
      cases ht : okT B with
      | true =>
        obtain ⟨o1, o2, tE, o4⟩ := hoT ht
        have e1 : PutE x0 x1 x2 x3 x4 x5 x6 x7 x8 x9 = 0 := by simp [PutE, o1]
        have e2 : PutL x0 x1 x2 x3 x4 x5 x6 x7 x8 x9 = B := by simp [PutL, o1, o2]
        simp (dsimp := false) (maxSteps := 4000000) only [tE, r15, go_sem, ↓reduceIte, Nat.reduceEqDiff, Nat.reduceLT, Nat.reduceLeDiff, Nat.reduceAdd, Nat.reduceMul, Nat.reduceSub, reduceCtorEq, Int.reduceToNat, Int.reduceLT, Int.reduceLE, Int.reduceEq, Int.reduceNe, Int.reduceBEq, Nat.reduceBEq, Int.reduceBNe, Nat.reduceBNe, Int.reduceAdd, Int.reduceSub, Int.reduceMul, Int.reduceNeg]
        refine (Put_c x0 x1 x2 x3 x4 x5 x6 x7 x8 x9 _).mono ?_; rintro _ A5 ⟨p3, q3, rfl, hO3, hK3⟩
        rw [e2] at hO3
        have tB := tB.keep hK3 fun _ _ h => h
        have cv1 := fun (k : Value → Prop) => cnv_bytes (P := Try.prog) (k := k) Try.underlying44 Try.underlying5 Try.underlying9 hO3.slc rfl
        have cv2 := fun (k : Value → Prop) => cnv_bytes (P := Try.prog) (k := k) Try.underlying44 Try.underlying5 Try.underlying9 tB rfl
        have m3 := hK3.find (fun h => h) m3
        have m17 := hK3.find (fun h => h) m17
        have r3 : A5.row b3 0 10 = some [.int .i64 i, .int .i64 k, .int .i64 n, .int .i64 f, .int .i64 r, .int .u8 a, .int .u8 b, .int .u8 c, .int .u8 d, .int .i64 y] := row_find m3 (by simp)
        have r17 : A5.row b17 0 6 = some [.int .i64 y0, .int .i64 y1, .int .u8 y2, .int .u8 y3, .int .u8 y4, .int .u8 y5] := row_find m17 (by simp)
        have hH := AH.le_trans hH hK3.all
        have hne : (!((bstr B).toList == (bstr B).toList)) = false := by simp
        simp (dsimp := false) (maxSteps := 4000000) only [e1, e2, cv1, cv2, hne, go_sem, ↓reduceIte, Nat.reduceEqDiff, Nat.reduceLT, Nat.reduceLeDiff, Nat.reduceAdd, Nat.reduceMul, Nat.reduceSub, reduceCtorEq, Int.reduceToNat, Int.reduceLT, Int.reduceLE, Int.reduceEq, Int.reduceNe, Int.reduceBEq, Nat.reduceBEq, Int.reduceBNe, Nat.reduceBNe, Int.reduceAdd, Int.reduceSub, Int.reduceMul, Int.reduceNeg]
        cases hy : okY B with
        | true =>
          obtain ⟨o1, o2, o3⟩ := hoY hy
          have e1 : AnsE y0 y1 y2 y3 y4 y5 = 0 := by simp [AnsE, o1]
          have e2 : AnsL y0 y1 y2 y3 y4 y5 = B := by simp [AnsL, o1, o2]
          simp (dsimp := false) (maxSteps := 4000000) only [o3, r17, go_sem, ↓reduceIte, Nat.reduceEqDiff, Nat.reduceLT, Nat.reduceLeDiff, Nat.reduceAdd, Nat.reduceMul, Nat.reduceSub, reduceCtorEq, Int.reduceToNat, Int.reduceLT, Int.reduceLE, Int.reduceEq, Int.reduceNe, Int.reduceBEq, Nat.reduceBEq, Int.reduceBNe, Nat.reduceBNe, Int.reduceAdd, Int.reduceSub, Int.reduceMul, Int.reduceNeg]
          refine (Answer_c y0 y1 y2 y3 y4 y5 _).mono ?_; rintro _ A4 ⟨p4, q4, rfl, hO4, hK4⟩
          rw [e2] at hO4
          have cv3 := fun (k : Value → Prop) => cnv_bytes (P := Try.prog) (k := k) Try.underlying44 Try.underlying5 Try.underlying9 hO4.slc rfl
          have cv4 := fun (k : Value → Prop) => cnv_bytes (P := Try.prog) (k := k) Try.underlying44 Try.underlying5 Try.underlying9 (tB.keep hK4 fun _ _ h => h) rfl
          have m3 := hK4.find (fun h => h) m3
          have r3 : A4.row b3 0 10 = some [.int .i64 i, .int .i64 k, .int .i64 n, .int .i64 f, .int .i64 r, .int .u8 a, .int .u8 b, .int .u8 c, .int .u8 d, .int .i64 y] := row_find m3 (by simp)
          have hH := AH.le_trans hH hK4.all
          have hne : (!((bstr B).toList == (bstr B).toList)) = false := by simp
          simp (dsimp := false) (maxSteps := 4000000) only [e1, e2, cv3, cv4, hne, go_sem, ↓reduceIte, Nat.reduceEqDiff, Nat.reduceLT, Nat.reduceLeDiff, Nat.reduceAdd, Nat.reduceMul, Nat.reduceSub, reduceCtorEq, Int.reduceToNat, Int.reduceLT, Int.reduceLE, Int.reduceEq, Int.reduceNe, Int.reduceBEq, Nat.reduceBEq, Int.reduceBNe, Nat.reduceBNe, Int.reduceAdd, Int.reduceSub, Int.reduceMul, Int.reduceNeg]
          refine (awake_c _).mono ?_; rintro _ _ ⟨rfl, rfl⟩
          simp (dsimp := false) (maxSteps := 4000000) only [r3, go_sem, ↓reduceIte, Nat.reduceEqDiff, Nat.reduceLT, Nat.reduceLeDiff, Nat.reduceAdd, Nat.reduceMul, Nat.reduceSub, reduceCtorEq, Int.reduceToNat, Int.reduceLT, Int.reduceLE, Int.reduceEq, Int.reduceNe, Int.reduceBEq, Nat.reduceBEq, Int.reduceBNe, Nat.reduceBNe, Int.reduceAdd, Int.reduceSub, Int.reduceMul, Int.reduceNeg]
          refine (Good_c i k n f r a b c d y _).mono ?_; rintro _ _ ⟨rfl, rfl⟩
          have hlen : (0 : Int) < B.length := by omega
          simp (dsimp := false) (maxSteps := 4000000) only [g1, hlen, tE, go_sem, ↓reduceIte, Nat.reduceEqDiff, Nat.reduceLT, Nat.reduceLeDiff, Nat.reduceAdd, Nat.reduceMul, Nat.reduceSub, reduceCtorEq, Int.reduceToNat, Int.reduceLT, Int.reduceLE, Int.reduceEq, Int.reduceNe, Int.reduceBEq, Nat.reduceBEq, Int.reduceBNe, Nat.reduceBNe, Int.reduceAdd, Int.reduceSub, Int.reduceMul, Int.reduceNeg]
          exact ⟨H, hH, rfl⟩
        | false =>
          have o3 : ReadE B = 2 := by rw [ReadE, hy]; rfl
          simp (dsimp := false) (maxSteps := 4000000) only [o3, go_sem, ↓reduceIte, Nat.reduceEqDiff, Nat.reduceLT, Nat.reduceLeDiff, Nat.reduceAdd, Nat.reduceMul, Nat.reduceSub, reduceCtorEq, Int.reduceToNat, Int.reduceLT, Int.reduceLE, Int.reduceEq, Int.reduceNe, Int.reduceBEq, Nat.reduceBEq, Int.reduceBNe, Nat.reduceBNe, Int.reduceAdd, Int.reduceSub, Int.reduceMul, Int.reduceNeg]
          refine (awake_c _).mono ?_; rintro _ _ ⟨rfl, rfl⟩
          simp (dsimp := false) (maxSteps := 4000000) only [r3, go_sem, ↓reduceIte, Nat.reduceEqDiff, Nat.reduceLT, Nat.reduceLeDiff, Nat.reduceAdd, Nat.reduceMul, Nat.reduceSub, reduceCtorEq, Int.reduceToNat, Int.reduceLT, Int.reduceLE, Int.reduceEq, Int.reduceNe, Int.reduceBEq, Nat.reduceBEq, Int.reduceBNe, Nat.reduceBNe, Int.reduceAdd, Int.reduceSub, Int.reduceMul, Int.reduceNeg]
          refine (Good_c i k n f r a b c d y _).mono ?_; rintro _ _ ⟨rfl, rfl⟩
          have hlen : (0 : Int) < B.length := by omega
          simp (dsimp := false) (maxSteps := 4000000) only [g1, hlen, tE, go_sem, ↓reduceIte, Nat.reduceEqDiff, Nat.reduceLT, Nat.reduceLeDiff, Nat.reduceAdd, Nat.reduceMul, Nat.reduceSub, reduceCtorEq, Int.reduceToNat, Int.reduceLT, Int.reduceLE, Int.reduceEq, Int.reduceNe, Int.reduceBEq, Nat.reduceBEq, Int.reduceBNe, Nat.reduceBNe, Int.reduceAdd, Int.reduceSub, Int.reduceMul, Int.reduceNeg]
          exact ⟨H, hH, rfl⟩
      | false =>
        have tE : TakeE B = 2 := by rw [TakeE, ht]; rfl
        have r3 : A3.row b3 0 10 = some [.int .i64 i, .int .i64 k, .int .i64 n, .int .i64 f, .int .i64 r, .int .u8 a, .int .u8 b, .int .u8 c, .int .u8 d, .int .i64 y] := row_find m3 (by simp)
        have r17 : A3.row b17 0 6 = some [.int .i64 y0, .int .i64 y1, .int .u8 y2, .int .u8 y3, .int .u8 y4, .int .u8 y5] := row_find m17 (by simp)
        simp (dsimp := false) (maxSteps := 4000000) only [tE, go_sem, ↓reduceIte, Nat.reduceEqDiff, Nat.reduceLT, Nat.reduceLeDiff, Nat.reduceAdd, Nat.reduceMul, Nat.reduceSub, reduceCtorEq, Int.reduceToNat, Int.reduceLT, Int.reduceLE, Int.reduceEq, Int.reduceNe, Int.reduceBEq, Nat.reduceBEq, Int.reduceBNe, Nat.reduceBNe, Int.reduceAdd, Int.reduceSub, Int.reduceMul, Int.reduceNeg]
        cases hy : okY B with
        | true =>
          obtain ⟨o1, o2, o3⟩ := hoY hy
          have e1 : AnsE y0 y1 y2 y3 y4 y5 = 0 := by simp [AnsE, o1]
          have e2 : AnsL y0 y1 y2 y3 y4 y5 = B := by simp [AnsL, o1, o2]
          simp (dsimp := false) (maxSteps := 4000000) only [o3, r17, go_sem, ↓reduceIte, Nat.reduceEqDiff, Nat.reduceLT, Nat.reduceLeDiff, Nat.reduceAdd, Nat.reduceMul, Nat.reduceSub, reduceCtorEq, Int.reduceToNat, Int.reduceLT, Int.reduceLE, Int.reduceEq, Int.reduceNe, Int.reduceBEq, Nat.reduceBEq, Int.reduceBNe, Nat.reduceBNe, Int.reduceAdd, Int.reduceSub, Int.reduceMul, Int.reduceNeg]
          refine (Answer_c y0 y1 y2 y3 y4 y5 _).mono ?_; rintro _ A4 ⟨p4, q4, rfl, hO4, hK4⟩
          rw [e2] at hO4
          have cv3 := fun (k : Value → Prop) => cnv_bytes (P := Try.prog) (k := k) Try.underlying44 Try.underlying5 Try.underlying9 hO4.slc rfl
          have cv4 := fun (k : Value → Prop) => cnv_bytes (P := Try.prog) (k := k) Try.underlying44 Try.underlying5 Try.underlying9 (tB.keep hK4 fun _ _ h => h) rfl
          have m3 := hK4.find (fun h => h) m3
          have r3 : A4.row b3 0 10 = some [.int .i64 i, .int .i64 k, .int .i64 n, .int .i64 f, .int .i64 r, .int .u8 a, .int .u8 b, .int .u8 c, .int .u8 d, .int .i64 y] := row_find m3 (by simp)
          have hH := AH.le_trans hH hK4.all
          have hne : (!((bstr B).toList == (bstr B).toList)) = false := by simp
          simp (dsimp := false) (maxSteps := 4000000) only [e1, e2, cv3, cv4, hne, go_sem, ↓reduceIte, Nat.reduceEqDiff, Nat.reduceLT, Nat.reduceLeDiff, Nat.reduceAdd, Nat.reduceMul, Nat.reduceSub, reduceCtorEq, Int.reduceToNat, Int.reduceLT, Int.reduceLE, Int.reduceEq, Int.reduceNe, Int.reduceBEq, Nat.reduceBEq, Int.reduceBNe, Nat.reduceBNe, Int.reduceAdd, Int.reduceSub, Int.reduceMul, Int.reduceNeg]
          refine (awake_c _).mono ?_; rintro _ _ ⟨rfl, rfl⟩
          simp (dsimp := false) (maxSteps := 4000000) only [r3, go_sem, ↓reduceIte, Nat.reduceEqDiff, Nat.reduceLT, Nat.reduceLeDiff, Nat.reduceAdd, Nat.reduceMul, Nat.reduceSub, reduceCtorEq, Int.reduceToNat, Int.reduceLT, Int.reduceLE, Int.reduceEq, Int.reduceNe, Int.reduceBEq, Nat.reduceBEq, Int.reduceBNe, Nat.reduceBNe, Int.reduceAdd, Int.reduceSub, Int.reduceMul, Int.reduceNeg]
          refine (Good_c i k n f r a b c d y _).mono ?_; rintro _ _ ⟨rfl, rfl⟩
          by_cases hlen : (0 : Int) < B.length
          · simp (dsimp := false) (maxSteps := 4000000) only [g1, hlen, tE, go_sem, ↓reduceIte, Nat.reduceEqDiff, Nat.reduceLT, Nat.reduceLeDiff, Nat.reduceAdd, Nat.reduceMul, Nat.reduceSub, reduceCtorEq, Int.reduceToNat, Int.reduceLT, Int.reduceLE, Int.reduceEq, Int.reduceNe, Int.reduceBEq, Nat.reduceBEq, Int.reduceBNe, Nat.reduceBNe, Int.reduceAdd, Int.reduceSub, Int.reduceMul, Int.reduceNeg]
            exact ⟨H, hH, rfl⟩
          · simp (dsimp := false) (maxSteps := 4000000) only [g1, hlen, tE, go_sem, ↓reduceIte, Nat.reduceEqDiff, Nat.reduceLT, Nat.reduceLeDiff, Nat.reduceAdd, Nat.reduceMul, Nat.reduceSub, reduceCtorEq, Int.reduceToNat, Int.reduceLT, Int.reduceLE, Int.reduceEq, Int.reduceNe, Int.reduceBEq, Nat.reduceBEq, Int.reduceBNe, Nat.reduceBNe, Int.reduceAdd, Int.reduceSub, Int.reduceMul, Int.reduceNeg]
            exact ⟨H, hH, rfl⟩
        | false =>
          have o3 : ReadE B = 2 := by rw [ReadE, hy]; rfl
          simp (dsimp := false) (maxSteps := 4000000) only [o3, go_sem, ↓reduceIte, Nat.reduceEqDiff, Nat.reduceLT, Nat.reduceLeDiff, Nat.reduceAdd, Nat.reduceMul, Nat.reduceSub, reduceCtorEq, Int.reduceToNat, Int.reduceLT, Int.reduceLE, Int.reduceEq, Int.reduceNe, Int.reduceBEq, Nat.reduceBEq, Int.reduceBNe, Nat.reduceBNe, Int.reduceAdd, Int.reduceSub, Int.reduceMul, Int.reduceNeg]
          refine (awake_c _).mono ?_; rintro _ _ ⟨rfl, rfl⟩
          simp (dsimp := false) (maxSteps := 4000000) only [r3, go_sem, ↓reduceIte, Nat.reduceEqDiff, Nat.reduceLT, Nat.reduceLeDiff, Nat.reduceAdd, Nat.reduceMul, Nat.reduceSub, reduceCtorEq, Int.reduceToNat, Int.reduceLT, Int.reduceLE, Int.reduceEq, Int.reduceNe, Int.reduceBEq, Nat.reduceBEq, Int.reduceBNe, Nat.reduceBNe, Int.reduceAdd, Int.reduceSub, Int.reduceMul, Int.reduceNeg]
          refine (Good_c i k n f r a b c d y _).mono ?_; rintro _ _ ⟨rfl, rfl⟩
          by_cases hlen : (0 : Int) < B.length
          · simp (dsimp := false) (maxSteps := 4000000) only [g1, hlen, tE, go_sem, ↓reduceIte, Nat.reduceEqDiff, Nat.reduceLT, Nat.reduceLeDiff, Nat.reduceAdd, Nat.reduceMul, Nat.reduceSub, reduceCtorEq, Int.reduceToNat, Int.reduceLT, Int.reduceLE, Int.reduceEq, Int.reduceNe, Int.reduceBEq, Nat.reduceBEq, Int.reduceBNe, Nat.reduceBNe, Int.reduceAdd, Int.reduceSub, Int.reduceMul, Int.reduceNeg]
            exact ⟨H, hH, rfl⟩
          · simp (dsimp := false) (maxSteps := 4000000) only [g1, hlen, tE, go_sem, ↓reduceIte, Nat.reduceEqDiff, Nat.reduceLT, Nat.reduceLeDiff, Nat.reduceAdd, Nat.reduceMul, Nat.reduceSub, reduceCtorEq, Int.reduceToNat, Int.reduceLT, Int.reduceLE, Int.reduceEq, Int.reduceNe, Int.reduceBEq, Nat.reduceBEq, Int.reduceBNe, Nat.reduceBNe, Int.reduceAdd, Int.reduceSub, Int.reduceMul, Int.reduceNeg]
            exact ⟨H, hH, rfl⟩
  | false =>
    have e1 : PutE i k n f r a b c d y = 1 := by simp [PutE, g1]
    simp (dsimp := false) (maxSteps := 4000000) only [e1, r4, go_sem, ↓reduceIte, Nat.reduceEqDiff, Nat.reduceLT, Nat.reduceLeDiff, Nat.reduceAdd, Nat.reduceMul, Nat.reduceSub, reduceCtorEq, Int.reduceToNat, Int.reduceLT, Int.reduceLE, Int.reduceEq, Int.reduceNe, Int.reduceBEq, Nat.reduceBEq, Int.reduceBNe, Nat.reduceBNe, Int.reduceAdd, Int.reduceSub, Int.reduceMul, Int.reduceNeg]
    clear hO1
    refine (Answer_c j e a2 b2 c2 d2 _).mono ?_; rintro _ A2 ⟨p2, q2, rfl, hO2, hK2⟩
    have m3 := hK2.find (fun h => h) m3
    have m4 := hK2.find (fun h => h) m4
    have tB := tB.keep hK2 fun _ _ h => h
    have hH := AH.le_trans hH hK2.all
    have r3 : A2.row b3 0 10 = some [.int .i64 i, .int .i64 k, .int .i64 n, .int .i64 f, .int .i64 r, .int .u8 a, .int .u8 b, .int .u8 c, .int .u8 d, .int .i64 y] := row_find m3 (by simp)
    have r4 : A2.row b4 0 6 = some [.int .i64 j, .int .i64 e, .int .u8 a2, .int .u8 b2, .int .u8 c2, .int .u8 d2] := row_find m4 (by simp)
    clear hK2
    cases g2 : mayR j e a2 b2 c2 d2 with
    | true =>
      obtain ⟨u1, u2⟩ := read_ans j e a2 b2 c2 d2 g2
      have e1 : AnsE j e a2 b2 c2 d2 = 0 := by simp [AnsE, g2]
      have e2 : AnsL j e a2 b2 c2 d2 = ansL j e a2 b2 c2 d2 := by simp [AnsL, g2]
      rw [e2] at hO2
      simp (dsimp := false) (maxSteps := 4000000) only [e1, e2, go_sem, ↓reduceIte, Nat.reduceEqDiff, Nat.reduceLT, Nat.reduceLeDiff, Nat.reduceAdd, Nat.reduceMul, Nat.reduceSub, reduceCtorEq, Int.reduceToNat, Int.reduceLT, Int.reduceLE, Int.reduceEq, Int.reduceNe, Int.reduceBEq, Nat.reduceBEq, Int.reduceBNe, Nat.reduceBNe, Int.reduceAdd, Int.reduceSub, Int.reduceMul, Int.reduceNeg]
      refine (Read_c (ansL j e a2 b2 c2 d2) p2 q2 _ hO2.slc (Bts_ans g2 va vb vc vd)).mono ?_; rintro _ _ ⟨rfl, rfl⟩
      rw [u1, u2]
      simp (dsimp := false) (maxSteps := 4000000) only [Y.v, rv, go_sem, ↓reduceIte, Nat.reduceEqDiff, Nat.reduceLT, Nat.reduceLeDiff, Nat.reduceAdd, Nat.reduceMul, Nat.reduceSub, reduceCtorEq, Int.reduceToNat, Int.reduceLT, Int.reduceLE, Int.reduceEq, Int.reduceNe, Int.reduceBEq, Nat.reduceBEq, Int.reduceBNe, Nat.reduceBNe, Int.reduceAdd, Int.reduceSub, Int.reduceMul, Int.reduceNeg]
      refine AllB.mk fun b13 h_b13 => ?_; have hn_b13 := h_b13; (try simp only [fresh_add, fresh_set, ne_eq] at hn_b13); have hr_b13 := hn_b13; (try simp only [@eq_comm Nat b13] at hr_b13); simp (dsimp := false) (maxSteps := 4000000) only [hn_b13, hr_b13, go_sem, ↓reduceIte, Nat.reduceEqDiff, Nat.reduceLT, Nat.reduceLeDiff, Nat.reduceAdd, Nat.reduceMul, Nat.reduceSub, reduceCtorEq, Int.reduceToNat, Int.reduceLT, Int.reduceLE, Int.reduceEq, Int.reduceNe, Int.reduceBEq, Nat.reduceBEq, Int.reduceBNe, Nat.reduceBNe, Int.reduceAdd, Int.reduceSub, Int.reduceMul, Int.reduceNeg]
      have nr_r4 := h_b13.ne_row r4
      simp (dsimp := false) (maxSteps := 4000000) only [r4, nr_r4, hn_b13, hr_b13, go_sem, ↓reduceIte, Nat.reduceEqDiff, Nat.reduceLT, Nat.reduceLeDiff, Nat.reduceAdd, Nat.reduceMul, Nat.reduceSub, reduceCtorEq, Int.reduceToNat, Int.reduceLT, Int.reduceLE, Int.reduceEq, Int.reduceNe, Int.reduceBEq, Nat.reduceBEq, Int.reduceBNe, Nat.reduceBNe, Int.reduceAdd, Int.reduceSub, Int.reduceMul, Int.reduceNeg]
      have m3 : (A2.add b13 (ABlk.cells [.int .i64 j, .int .i64 e, .int .u8 a2, .int .u8 b2, .int .u8 c2, .int .u8 d2] 56 6)).find b3 = some (ABlk.cells [.int .i64 i, .int .i64 k, .int .i64 n, .int .i64 f, .int .i64 r, .int .u8 a, .int .u8 b, .int .u8 c, .int .u8 d, .int .i64 y] 43 10) := by rw [find_add_ne _ (h_b13.ne_find m3)]; exact m3
      have hH : H.le (A2.add b13 (ABlk.cells [.int .i64 j, .int .i64 e, .int .u8 a2, .int .u8 b2, .int .u8 c2, .int .u8 d2] 56 6)) := AH.le_add hH h_b13.2
      have tB : SlcIn (A2.add b13 (ABlk.cells [.int .i64 j, .int .i64 e, .int .u8 a2, .int .u8 b2, .int .u8 c2, .int .u8 d2] 56 6)) 1 base cap (B.map encB) := tB.add h_b13
      clear r3 r4 nr_r4 m4 hO2
      generalize (A2.add b13 (ABlk.cells [.int .i64 j, .int .i64 e, .int .u8 a2, .int .u8 b2, .int .u8 c2, .int .u8 d2] 56 6)) = A2 at m3 hH tB ⊢
      clear hn_b13 hr_b13 h_b13
      have r3 : A2.row b3 0 10 = some [.int .i64 i, .int .i64 k, .int .i64 n, .int .i64 f, .int .i64 r, .int .u8 a, .int .u8 b, .int .u8 c, .int .u8 d, .int .i64 y] := row_find m3 (by simp)
      have r4 : True := trivial
      
      refine (hT _ tB).mono ?_; rintro _ _ ⟨rfl, rfl⟩
      simp (dsimp := false) (maxSteps := 4000000) only [go_sem, ↓reduceIte, Nat.reduceEqDiff, Nat.reduceLT, Nat.reduceLeDiff, Nat.reduceAdd, Nat.reduceMul, Nat.reduceSub, reduceCtorEq, Int.reduceToNat, Int.reduceLT, Int.reduceLE, Int.reduceEq, Int.reduceNe, Int.reduceBEq, Nat.reduceBEq, Int.reduceBNe, Nat.reduceBNe, Int.reduceAdd, Int.reduceSub, Int.reduceMul, Int.reduceNeg]
      refine AllB.mk fun b15 h_b15 => ?_; have hn_b15 := h_b15; (try simp only [fresh_add, fresh_set, ne_eq] at hn_b15); have hr_b15 := hn_b15; (try simp only [@eq_comm Nat b15] at hr_b15); simp (dsimp := false) (maxSteps := 4000000) only [hn_b15, hr_b15, go_sem, ↓reduceIte, Nat.reduceEqDiff, Nat.reduceLT, Nat.reduceLeDiff, Nat.reduceAdd, Nat.reduceMul, Nat.reduceSub, reduceCtorEq, Int.reduceToNat, Int.reduceLT, Int.reduceLE, Int.reduceEq, Int.reduceNe, Int.reduceBEq, Nat.reduceBEq, Int.reduceBNe, Nat.reduceBNe, Int.reduceAdd, Int.reduceSub, Int.reduceMul, Int.reduceNeg]
      refine (hR _ (tB.add h_b15)).mono ?_; rintro _ _ ⟨rfl, rfl⟩
      simp (dsimp := false) (maxSteps := 4000000) only [hn_b15, hr_b15, go_sem, ↓reduceIte, Nat.reduceEqDiff, Nat.reduceLT, Nat.reduceLeDiff, Nat.reduceAdd, Nat.reduceMul, Nat.reduceSub, reduceCtorEq, Int.reduceToNat, Int.reduceLT, Int.reduceLE, Int.reduceEq, Int.reduceNe, Int.reduceBEq, Nat.reduceBEq, Int.reduceBNe, Nat.reduceBNe, Int.reduceAdd, Int.reduceSub, Int.reduceMul, Int.reduceNeg]
      refine AllB.mk fun b17 h_b17 => ?_; have hn_b17 := h_b17; (try simp only [fresh_add, fresh_set, ne_eq] at hn_b17); have hr_b17 := hn_b17; (try simp only [@eq_comm Nat b17] at hr_b17); simp (dsimp := false) (maxSteps := 4000000) only [hn_b15, hr_b15, hn_b17, hr_b17, go_sem, ↓reduceIte, Nat.reduceEqDiff, Nat.reduceLT, Nat.reduceLeDiff, Nat.reduceAdd, Nat.reduceMul, Nat.reduceSub, reduceCtorEq, Int.reduceToNat, Int.reduceLT, Int.reduceLE, Int.reduceEq, Int.reduceNe, Int.reduceBEq, Nat.reduceBEq, Int.reduceBNe, Nat.reduceBNe, Int.reduceAdd, Int.reduceSub, Int.reduceMul, Int.reduceNeg]
      have m17 : ((A2.add b15 (ABlk.cells [.int .i64 x0, .int .i64 x1, .int .i64 x2, .int .i64 x3, .int .i64 x4, .int .u8 x5, .int .u8 x6, .int .u8 x7, .int .u8 x8, .int .i64 x9] 43 10)).add b17 (ABlk.cells [.int .i64 y0, .int .i64 y1, .int .u8 y2, .int .u8 y3, .int .u8 y4, .int .u8 y5] 56 6)).find b17 = some (ABlk.cells [.int .i64 y0, .int .i64 y1, .int .u8 y2, .int .u8 y3, .int .u8 y4, .int .u8 y5] 56 6) := find_add_self _ _ _
      have m3 : ((A2.add b15 (ABlk.cells [.int .i64 x0, .int .i64 x1, .int .i64 x2, .int .i64 x3, .int .i64 x4, .int .u8 x5, .int .u8 x6, .int .u8 x7, .int .u8 x8, .int .i64 x9] 43 10)).add b17 (ABlk.cells [.int .i64 y0, .int .i64 y1, .int .u8 y2, .int .u8 y3, .int .u8 y4, .int .u8 y5] 56 6)).find b3 = some (ABlk.cells [.int .i64 i, .int .i64 k, .int .i64 n, .int .i64 f, .int .i64 r, .int .u8 a, .int .u8 b, .int .u8 c, .int .u8 d, .int .i64 y] 43 10) := by rw [find_add_ne _ (hn_b17.2.ne_find m3), find_add_ne _ (h_b15.ne_find m3)]; exact m3
      have hH : H.le ((A2.add b15 (ABlk.cells [.int .i64 x0, .int .i64 x1, .int .i64 x2, .int .i64 x3, .int .i64 x4, .int .u8 x5, .int .u8 x6, .int .u8 x7, .int .u8 x8, .int .i64 x9] 43 10)).add b17 (ABlk.cells [.int .i64 y0, .int .i64 y1, .int .u8 y2, .int .u8 y3, .int .u8 y4, .int .u8 y5] 56 6)) := AH.le_add (AH.le_add hH h_b15.2) h_b17.2
      have tB : SlcIn ((A2.add b15 (ABlk.cells [.int .i64 x0, .int .i64 x1, .int .i64 x2, .int .i64 x3, .int .i64 x4, .int .u8 x5, .int .u8 x6, .int .u8 x7, .int .u8 x8, .int .i64 x9] 43 10)).add b17 (ABlk.cells [.int .i64 y0, .int .i64 y1, .int .u8 y2, .int .u8 y3, .int .u8 y4, .int .u8 y5] 56 6)) 1 base cap (B.map encB) := (tB.add h_b15).add h_b17
      have r15 : ((A2.add b15 (ABlk.cells [.int .i64 x0, .int .i64 x1, .int .i64 x2, .int .i64 x3, .int .i64 x4, .int .u8 x5, .int .u8 x6, .int .u8 x7, .int .u8 x8, .int .i64 x9] 43 10)).add b17 (ABlk.cells [.int .i64 y0, .int .i64 y1, .int .u8 y2, .int .u8 y3, .int .u8 y4, .int .u8 y5] 56 6)).row b15 0 10 = some [.int .i64 x0, .int .i64 x1, .int .i64 x2, .int .i64 x3, .int .i64 x4, .int .u8 x5, .int .u8 x6, .int .u8 x7, .int .u8 x8, .int .i64 x9] := row_find (show _ = some (ABlk.cells [.int .i64 x0, .int .i64 x1, .int .i64 x2, .int .i64 x3, .int .i64 x4, .int .u8 x5, .int .u8 x6, .int .u8 x7, .int .u8 x8, .int .i64 x9] 43 10) from by rw [find_add_ne _ hn_b17.1]; exact find_add_self _ _ _) (by simp)
      generalize ((A2.add b15 (ABlk.cells [.int .i64 x0, .int .i64 x1, .int .i64 x2, .int .i64 x3, .int .i64 x4, .int .u8 x5, .int .u8 x6, .int .u8 x7, .int .u8 x8, .int .i64 x9] 43 10)).add b17 (ABlk.cells [.int .i64 y0, .int .i64 y1, .int .u8 y2, .int .u8 y3, .int .u8 y4, .int .u8 y5] 56 6)) = A3 at m17 m3 hH tB r15 ⊢
      clear hn_b15 hr_b15 h_b15 hn_b17 hr_b17 h_b17 r3 r4
      
      cases ht : okT B with
      | true =>
        obtain ⟨o1, o2, tE, o4⟩ := hoT ht
        have e1 : PutE x0 x1 x2 x3 x4 x5 x6 x7 x8 x9 = 0 := by simp [PutE, o1]
        have e2 : PutL x0 x1 x2 x3 x4 x5 x6 x7 x8 x9 = B := by simp [PutL, o1, o2]
        simp (dsimp := false) (maxSteps := 4000000) only [tE, r15, go_sem, ↓reduceIte, Nat.reduceEqDiff, Nat.reduceLT, Nat.reduceLeDiff, Nat.reduceAdd, Nat.reduceMul, Nat.reduceSub, reduceCtorEq, Int.reduceToNat, Int.reduceLT, Int.reduceLE, Int.reduceEq, Int.reduceNe, Int.reduceBEq, Nat.reduceBEq, Int.reduceBNe, Nat.reduceBNe, Int.reduceAdd, Int.reduceSub, Int.reduceMul, Int.reduceNeg]
        refine (Put_c x0 x1 x2 x3 x4 x5 x6 x7 x8 x9 _).mono ?_; rintro _ A5 ⟨p3, q3, rfl, hO3, hK3⟩
        rw [e2] at hO3
        have tB := tB.keep hK3 fun _ _ h => h
        have cv1 := fun (k : Value → Prop) => cnv_bytes (P := Try.prog) (k := k) Try.underlying44 Try.underlying5 Try.underlying9 hO3.slc rfl
        have cv2 := fun (k : Value → Prop) => cnv_bytes (P := Try.prog) (k := k) Try.underlying44 Try.underlying5 Try.underlying9 tB rfl
        have m3 := hK3.find (fun h => h) m3
        have m17 := hK3.find (fun h => h) m17
        have r3 : A5.row b3 0 10 = some [.int .i64 i, .int .i64 k, .int .i64 n, .int .i64 f, .int .i64 r, .int .u8 a, .int .u8 b, .int .u8 c, .int .u8 d, .int .i64 y] := row_find m3 (by simp)
        have r17 : A5.row b17 0 6 = some [.int .i64 y0, .int .i64 y1, .int .u8 y2, .int .u8 y3, .int .u8 y4, .int .u8 y5] := row_find m17 (by simp)
        have hH := AH.le_trans hH hK3.all
        have hne : (!((bstr B).toList == (bstr B).toList)) = false := by simp
        simp (dsimp := false) (maxSteps := 4000000) only [e1, e2, cv1, cv2, hne, go_sem, ↓reduceIte, Nat.reduceEqDiff, Nat.reduceLT, Nat.reduceLeDiff, Nat.reduceAdd, Nat.reduceMul, Nat.reduceSub, reduceCtorEq, Int.reduceToNat, Int.reduceLT, Int.reduceLE, Int.reduceEq, Int.reduceNe, Int.reduceBEq, Nat.reduceBEq, Int.reduceBNe, Nat.reduceBNe, Int.reduceAdd, Int.reduceSub, Int.reduceMul, Int.reduceNeg]
        cases hy : okY B with
        | true =>
          obtain ⟨o1, o2, o3⟩ := hoY hy
          have e1 : AnsE y0 y1 y2 y3 y4 y5 = 0 := by simp [AnsE, o1]
          have e2 : AnsL y0 y1 y2 y3 y4 y5 = B := by simp [AnsL, o1, o2]
          simp (dsimp := false) (maxSteps := 4000000) only [o3, r17, go_sem, ↓reduceIte, Nat.reduceEqDiff, Nat.reduceLT, Nat.reduceLeDiff, Nat.reduceAdd, Nat.reduceMul, Nat.reduceSub, reduceCtorEq, Int.reduceToNat, Int.reduceLT, Int.reduceLE, Int.reduceEq, Int.reduceNe, Int.reduceBEq, Nat.reduceBEq, Int.reduceBNe, Nat.reduceBNe, Int.reduceAdd, Int.reduceSub, Int.reduceMul, Int.reduceNeg]
          refine (Answer_c y0 y1 y2 y3 y4 y5 _).mono ?_; rintro _ A4 ⟨p4, q4, rfl, hO4, hK4⟩
          rw [e2] at hO4
          have cv3 := fun (k : Value → Prop) => cnv_bytes (P := Try.prog) (k := k) Try.underlying44 Try.underlying5 Try.underlying9 hO4.slc rfl
          have cv4 := fun (k : Value → Prop) => cnv_bytes (P := Try.prog) (k := k) Try.underlying44 Try.underlying5 Try.underlying9 (tB.keep hK4 fun _ _ h => h) rfl
          have m3 := hK4.find (fun h => h) m3
          have r3 : A4.row b3 0 10 = some [.int .i64 i, .int .i64 k, .int .i64 n, .int .i64 f, .int .i64 r, .int .u8 a, .int .u8 b, .int .u8 c, .int .u8 d, .int .i64 y] := row_find m3 (by simp)
          have hH := AH.le_trans hH hK4.all
          have hne : (!((bstr B).toList == (bstr B).toList)) = false := by simp
          simp (dsimp := false) (maxSteps := 4000000) only [e1, e2, cv3, cv4, hne, go_sem, ↓reduceIte, Nat.reduceEqDiff, Nat.reduceLT, Nat.reduceLeDiff, Nat.reduceAdd, Nat.reduceMul, Nat.reduceSub, reduceCtorEq, Int.reduceToNat, Int.reduceLT, Int.reduceLE, Int.reduceEq, Int.reduceNe, Int.reduceBEq, Nat.reduceBEq, Int.reduceBNe, Nat.reduceBNe, Int.reduceAdd, Int.reduceSub, Int.reduceMul, Int.reduceNeg]
          refine (awake_c _).mono ?_; rintro _ _ ⟨rfl, rfl⟩
          simp (dsimp := false) (maxSteps := 4000000) only [r3, go_sem, ↓reduceIte, Nat.reduceEqDiff, Nat.reduceLT, Nat.reduceLeDiff, Nat.reduceAdd, Nat.reduceMul, Nat.reduceSub, reduceCtorEq, Int.reduceToNat, Int.reduceLT, Int.reduceLE, Int.reduceEq, Int.reduceNe, Int.reduceBEq, Nat.reduceBEq, Int.reduceBNe, Nat.reduceBNe, Int.reduceAdd, Int.reduceSub, Int.reduceMul, Int.reduceNeg]
          refine (Good_c i k n f r a b c d y _).mono ?_; rintro _ _ ⟨rfl, rfl⟩
          have hlen : (0 : Int) < B.length := by omega
          simp (dsimp := false) (maxSteps := 4000000) only [g1, hlen, tE, go_sem, ↓reduceIte, Nat.reduceEqDiff, Nat.reduceLT, Nat.reduceLeDiff, Nat.reduceAdd, Nat.reduceMul, Nat.reduceSub, reduceCtorEq, Int.reduceToNat, Int.reduceLT, Int.reduceLE, Int.reduceEq, Int.reduceNe, Int.reduceBEq, Nat.reduceBEq, Int.reduceBNe, Nat.reduceBNe, Int.reduceAdd, Int.reduceSub, Int.reduceMul, Int.reduceNeg]
          exact ⟨H, hH, rfl⟩
        | false =>
          have o3 : ReadE B = 2 := by rw [ReadE, hy]; rfl
          simp (dsimp := false) (maxSteps := 4000000) only [o3, go_sem, ↓reduceIte, Nat.reduceEqDiff, Nat.reduceLT, Nat.reduceLeDiff, Nat.reduceAdd, Nat.reduceMul, Nat.reduceSub, reduceCtorEq, Int.reduceToNat, Int.reduceLT, Int.reduceLE, Int.reduceEq, Int.reduceNe, Int.reduceBEq, Nat.reduceBEq, Int.reduceBNe, Nat.reduceBNe, Int.reduceAdd, Int.reduceSub, Int.reduceMul, Int.reduceNeg]
          refine (awake_c _).mono ?_; rintro _ _ ⟨rfl, rfl⟩
          simp (dsimp := false) (maxSteps := 4000000) only [r3, go_sem, ↓reduceIte, Nat.reduceEqDiff, Nat.reduceLT, Nat.reduceLeDiff, Nat.reduceAdd, Nat.reduceMul, Nat.reduceSub, reduceCtorEq, Int.reduceToNat, Int.reduceLT, Int.reduceLE, Int.reduceEq, Int.reduceNe, Int.reduceBEq, Nat.reduceBEq, Int.reduceBNe, Nat.reduceBNe, Int.reduceAdd, Int.reduceSub, Int.reduceMul, Int.reduceNeg]
          refine (Good_c i k n f r a b c d y _).mono ?_; rintro _ _ ⟨rfl, rfl⟩
          have hlen : (0 : Int) < B.length := by omega
          simp (dsimp := false) (maxSteps := 4000000) only [g1, hlen, tE, go_sem, ↓reduceIte, Nat.reduceEqDiff, Nat.reduceLT, Nat.reduceLeDiff, Nat.reduceAdd, Nat.reduceMul, Nat.reduceSub, reduceCtorEq, Int.reduceToNat, Int.reduceLT, Int.reduceLE, Int.reduceEq, Int.reduceNe, Int.reduceBEq, Nat.reduceBEq, Int.reduceBNe, Nat.reduceBNe, Int.reduceAdd, Int.reduceSub, Int.reduceMul, Int.reduceNeg]
          exact ⟨H, hH, rfl⟩
      | false =>
        have tE : TakeE B = 2 := by rw [TakeE, ht]; rfl
        have r3 : A3.row b3 0 10 = some [.int .i64 i, .int .i64 k, .int .i64 n, .int .i64 f, .int .i64 r, .int .u8 a, .int .u8 b, .int .u8 c, .int .u8 d, .int .i64 y] := row_find m3 (by simp)
        have r17 : A3.row b17 0 6 = some [.int .i64 y0, .int .i64 y1, .int .u8 y2, .int .u8 y3, .int .u8 y4, .int .u8 y5] := row_find m17 (by simp)
        simp (dsimp := false) (maxSteps := 4000000) only [tE, go_sem, ↓reduceIte, Nat.reduceEqDiff, Nat.reduceLT, Nat.reduceLeDiff, Nat.reduceAdd, Nat.reduceMul, Nat.reduceSub, reduceCtorEq, Int.reduceToNat, Int.reduceLT, Int.reduceLE, Int.reduceEq, Int.reduceNe, Int.reduceBEq, Nat.reduceBEq, Int.reduceBNe, Nat.reduceBNe, Int.reduceAdd, Int.reduceSub, Int.reduceMul, Int.reduceNeg]
        cases hy : okY B with
        | true =>
          obtain ⟨o1, o2, o3⟩ := hoY hy
          have e1 : AnsE y0 y1 y2 y3 y4 y5 = 0 := by simp [AnsE, o1]
          have e2 : AnsL y0 y1 y2 y3 y4 y5 = B := by simp [AnsL, o1, o2]
          simp (dsimp := false) (maxSteps := 4000000) only [o3, r17, go_sem, ↓reduceIte, Nat.reduceEqDiff, Nat.reduceLT, Nat.reduceLeDiff, Nat.reduceAdd, Nat.reduceMul, Nat.reduceSub, reduceCtorEq, Int.reduceToNat, Int.reduceLT, Int.reduceLE, Int.reduceEq, Int.reduceNe, Int.reduceBEq, Nat.reduceBEq, Int.reduceBNe, Nat.reduceBNe, Int.reduceAdd, Int.reduceSub, Int.reduceMul, Int.reduceNeg]
          refine (Answer_c y0 y1 y2 y3 y4 y5 _).mono ?_; rintro _ A4 ⟨p4, q4, rfl, hO4, hK4⟩
          rw [e2] at hO4
          have cv3 := fun (k : Value → Prop) => cnv_bytes (P := Try.prog) (k := k) Try.underlying44 Try.underlying5 Try.underlying9 hO4.slc rfl
          have cv4 := fun (k : Value → Prop) => cnv_bytes (P := Try.prog) (k := k) Try.underlying44 Try.underlying5 Try.underlying9 (tB.keep hK4 fun _ _ h => h) rfl
          have m3 := hK4.find (fun h => h) m3
          have r3 : A4.row b3 0 10 = some [.int .i64 i, .int .i64 k, .int .i64 n, .int .i64 f, .int .i64 r, .int .u8 a, .int .u8 b, .int .u8 c, .int .u8 d, .int .i64 y] := row_find m3 (by simp)
          have hH := AH.le_trans hH hK4.all
          have hne : (!((bstr B).toList == (bstr B).toList)) = false := by simp
          simp (dsimp := false) (maxSteps := 4000000) only [e1, e2, cv3, cv4, hne, go_sem, ↓reduceIte, Nat.reduceEqDiff, Nat.reduceLT, Nat.reduceLeDiff, Nat.reduceAdd, Nat.reduceMul, Nat.reduceSub, reduceCtorEq, Int.reduceToNat, Int.reduceLT, Int.reduceLE, Int.reduceEq, Int.reduceNe, Int.reduceBEq, Nat.reduceBEq, Int.reduceBNe, Nat.reduceBNe, Int.reduceAdd, Int.reduceSub, Int.reduceMul, Int.reduceNeg]
          refine (awake_c _).mono ?_; rintro _ _ ⟨rfl, rfl⟩
          simp (dsimp := false) (maxSteps := 4000000) only [r3, go_sem, ↓reduceIte, Nat.reduceEqDiff, Nat.reduceLT, Nat.reduceLeDiff, Nat.reduceAdd, Nat.reduceMul, Nat.reduceSub, reduceCtorEq, Int.reduceToNat, Int.reduceLT, Int.reduceLE, Int.reduceEq, Int.reduceNe, Int.reduceBEq, Nat.reduceBEq, Int.reduceBNe, Nat.reduceBNe, Int.reduceAdd, Int.reduceSub, Int.reduceMul, Int.reduceNeg]
          refine (Good_c i k n f r a b c d y _).mono ?_; rintro _ _ ⟨rfl, rfl⟩
          by_cases hlen : (0 : Int) < B.length
          · simp (dsimp := false) (maxSteps := 4000000) only [g1, hlen, tE, go_sem, ↓reduceIte, Nat.reduceEqDiff, Nat.reduceLT, Nat.reduceLeDiff, Nat.reduceAdd, Nat.reduceMul, Nat.reduceSub, reduceCtorEq, Int.reduceToNat, Int.reduceLT, Int.reduceLE, Int.reduceEq, Int.reduceNe, Int.reduceBEq, Nat.reduceBEq, Int.reduceBNe, Nat.reduceBNe, Int.reduceAdd, Int.reduceSub, Int.reduceMul, Int.reduceNeg]
            exact ⟨H, hH, rfl⟩
          · simp (dsimp := false) (maxSteps := 4000000) only [g1, hlen, tE, go_sem, ↓reduceIte, Nat.reduceEqDiff, Nat.reduceLT, Nat.reduceLeDiff, Nat.reduceAdd, Nat.reduceMul, Nat.reduceSub, reduceCtorEq, Int.reduceToNat, Int.reduceLT, Int.reduceLE, Int.reduceEq, Int.reduceNe, Int.reduceBEq, Nat.reduceBEq, Int.reduceBNe, Nat.reduceBNe, Int.reduceAdd, Int.reduceSub, Int.reduceMul, Int.reduceNeg]
            exact ⟨H, hH, rfl⟩
        | false =>
          have o3 : ReadE B = 2 := by rw [ReadE, hy]; rfl
          simp (dsimp := false) (maxSteps := 4000000) only [o3, go_sem, ↓reduceIte, Nat.reduceEqDiff, Nat.reduceLT, Nat.reduceLeDiff, Nat.reduceAdd, Nat.reduceMul, Nat.reduceSub, reduceCtorEq, Int.reduceToNat, Int.reduceLT, Int.reduceLE, Int.reduceEq, Int.reduceNe, Int.reduceBEq, Nat.reduceBEq, Int.reduceBNe, Nat.reduceBNe, Int.reduceAdd, Int.reduceSub, Int.reduceMul, Int.reduceNeg]
          refine (awake_c _).mono ?_; rintro _ _ ⟨rfl, rfl⟩
          simp (dsimp := false) (maxSteps := 4000000) only [r3, go_sem, ↓reduceIte, Nat.reduceEqDiff, Nat.reduceLT, Nat.reduceLeDiff, Nat.reduceAdd, Nat.reduceMul, Nat.reduceSub, reduceCtorEq, Int.reduceToNat, Int.reduceLT, Int.reduceLE, Int.reduceEq, Int.reduceNe, Int.reduceBEq, Nat.reduceBEq, Int.reduceBNe, Nat.reduceBNe, Int.reduceAdd, Int.reduceSub, Int.reduceMul, Int.reduceNeg]
          refine (Good_c i k n f r a b c d y _).mono ?_; rintro _ _ ⟨rfl, rfl⟩
          by_cases hlen : (0 : Int) < B.length
          · simp (dsimp := false) (maxSteps := 4000000) only [g1, hlen, tE, go_sem, ↓reduceIte, Nat.reduceEqDiff, Nat.reduceLT, Nat.reduceLeDiff, Nat.reduceAdd, Nat.reduceMul, Nat.reduceSub, reduceCtorEq, Int.reduceToNat, Int.reduceLT, Int.reduceLE, Int.reduceEq, Int.reduceNe, Int.reduceBEq, Nat.reduceBEq, Int.reduceBNe, Nat.reduceBNe, Int.reduceAdd, Int.reduceSub, Int.reduceMul, Int.reduceNeg]
            exact ⟨H, hH, rfl⟩
          · simp (dsimp := false) (maxSteps := 4000000) only [g1, hlen, tE, go_sem, ↓reduceIte, Nat.reduceEqDiff, Nat.reduceLT, Nat.reduceLeDiff, Nat.reduceAdd, Nat.reduceMul, Nat.reduceSub, reduceCtorEq, Int.reduceToNat, Int.reduceLT, Int.reduceLE, Int.reduceEq, Int.reduceNe, Int.reduceBEq, Nat.reduceBEq, Int.reduceBNe, Nat.reduceBNe, Int.reduceAdd, Int.reduceSub, Int.reduceMul, Int.reduceNeg]
            exact ⟨H, hH, rfl⟩
    | false =>
      have e1 : AnsE j e a2 b2 c2 d2 = 1 := by simp [AnsE, g2]
      simp (dsimp := false) (maxSteps := 4000000) only [e1, go_sem, ↓reduceIte, Nat.reduceEqDiff, Nat.reduceLT, Nat.reduceLeDiff, Nat.reduceAdd, Nat.reduceMul, Nat.reduceSub, reduceCtorEq, Int.reduceToNat, Int.reduceLT, Int.reduceLE, Int.reduceEq, Int.reduceNe, Int.reduceBEq, Nat.reduceBEq, Int.reduceBNe, Nat.reduceBNe, Int.reduceAdd, Int.reduceSub, Int.reduceMul, Int.reduceNeg]
      clear m4 hO2
      refine (hT _ tB).mono ?_; rintro _ _ ⟨rfl, rfl⟩
      simp (dsimp := false) (maxSteps := 4000000) only [go_sem, ↓reduceIte, Nat.reduceEqDiff, Nat.reduceLT, Nat.reduceLeDiff, Nat.reduceAdd, Nat.reduceMul, Nat.reduceSub, reduceCtorEq, Int.reduceToNat, Int.reduceLT, Int.reduceLE, Int.reduceEq, Int.reduceNe, Int.reduceBEq, Nat.reduceBEq, Int.reduceBNe, Nat.reduceBNe, Int.reduceAdd, Int.reduceSub, Int.reduceMul, Int.reduceNeg]
      refine AllB.mk fun b15 h_b15 => ?_; have hn_b15 := h_b15; (try simp only [fresh_add, fresh_set, ne_eq] at hn_b15); have hr_b15 := hn_b15; (try simp only [@eq_comm Nat b15] at hr_b15); simp (dsimp := false) (maxSteps := 4000000) only [hn_b15, hr_b15, go_sem, ↓reduceIte, Nat.reduceEqDiff, Nat.reduceLT, Nat.reduceLeDiff, Nat.reduceAdd, Nat.reduceMul, Nat.reduceSub, reduceCtorEq, Int.reduceToNat, Int.reduceLT, Int.reduceLE, Int.reduceEq, Int.reduceNe, Int.reduceBEq, Nat.reduceBEq, Int.reduceBNe, Nat.reduceBNe, Int.reduceAdd, Int.reduceSub, Int.reduceMul, Int.reduceNeg]
      refine (hR _ (tB.add h_b15)).mono ?_; rintro _ _ ⟨rfl, rfl⟩
      simp (dsimp := false) (maxSteps := 4000000) only [hn_b15, hr_b15, go_sem, ↓reduceIte, Nat.reduceEqDiff, Nat.reduceLT, Nat.reduceLeDiff, Nat.reduceAdd, Nat.reduceMul, Nat.reduceSub, reduceCtorEq, Int.reduceToNat, Int.reduceLT, Int.reduceLE, Int.reduceEq, Int.reduceNe, Int.reduceBEq, Nat.reduceBEq, Int.reduceBNe, Nat.reduceBNe, Int.reduceAdd, Int.reduceSub, Int.reduceMul, Int.reduceNeg]
      refine AllB.mk fun b17 h_b17 => ?_; have hn_b17 := h_b17; (try simp only [fresh_add, fresh_set, ne_eq] at hn_b17); have hr_b17 := hn_b17; (try simp only [@eq_comm Nat b17] at hr_b17); simp (dsimp := false) (maxSteps := 4000000) only [hn_b15, hr_b15, hn_b17, hr_b17, go_sem, ↓reduceIte, Nat.reduceEqDiff, Nat.reduceLT, Nat.reduceLeDiff, Nat.reduceAdd, Nat.reduceMul, Nat.reduceSub, reduceCtorEq, Int.reduceToNat, Int.reduceLT, Int.reduceLE, Int.reduceEq, Int.reduceNe, Int.reduceBEq, Nat.reduceBEq, Int.reduceBNe, Nat.reduceBNe, Int.reduceAdd, Int.reduceSub, Int.reduceMul, Int.reduceNeg]
      have m17 : ((A2.add b15 (ABlk.cells [.int .i64 x0, .int .i64 x1, .int .i64 x2, .int .i64 x3, .int .i64 x4, .int .u8 x5, .int .u8 x6, .int .u8 x7, .int .u8 x8, .int .i64 x9] 43 10)).add b17 (ABlk.cells [.int .i64 y0, .int .i64 y1, .int .u8 y2, .int .u8 y3, .int .u8 y4, .int .u8 y5] 56 6)).find b17 = some (ABlk.cells [.int .i64 y0, .int .i64 y1, .int .u8 y2, .int .u8 y3, .int .u8 y4, .int .u8 y5] 56 6) := find_add_self _ _ _
      have m3 : ((A2.add b15 (ABlk.cells [.int .i64 x0, .int .i64 x1, .int .i64 x2, .int .i64 x3, .int .i64 x4, .int .u8 x5, .int .u8 x6, .int .u8 x7, .int .u8 x8, .int .i64 x9] 43 10)).add b17 (ABlk.cells [.int .i64 y0, .int .i64 y1, .int .u8 y2, .int .u8 y3, .int .u8 y4, .int .u8 y5] 56 6)).find b3 = some (ABlk.cells [.int .i64 i, .int .i64 k, .int .i64 n, .int .i64 f, .int .i64 r, .int .u8 a, .int .u8 b, .int .u8 c, .int .u8 d, .int .i64 y] 43 10) := by rw [find_add_ne _ (hn_b17.2.ne_find m3), find_add_ne _ (h_b15.ne_find m3)]; exact m3
      have hH : H.le ((A2.add b15 (ABlk.cells [.int .i64 x0, .int .i64 x1, .int .i64 x2, .int .i64 x3, .int .i64 x4, .int .u8 x5, .int .u8 x6, .int .u8 x7, .int .u8 x8, .int .i64 x9] 43 10)).add b17 (ABlk.cells [.int .i64 y0, .int .i64 y1, .int .u8 y2, .int .u8 y3, .int .u8 y4, .int .u8 y5] 56 6)) := AH.le_add (AH.le_add hH h_b15.2) h_b17.2
      have tB : SlcIn ((A2.add b15 (ABlk.cells [.int .i64 x0, .int .i64 x1, .int .i64 x2, .int .i64 x3, .int .i64 x4, .int .u8 x5, .int .u8 x6, .int .u8 x7, .int .u8 x8, .int .i64 x9] 43 10)).add b17 (ABlk.cells [.int .i64 y0, .int .i64 y1, .int .u8 y2, .int .u8 y3, .int .u8 y4, .int .u8 y5] 56 6)) 1 base cap (B.map encB) := (tB.add h_b15).add h_b17
      have r15 : ((A2.add b15 (ABlk.cells [.int .i64 x0, .int .i64 x1, .int .i64 x2, .int .i64 x3, .int .i64 x4, .int .u8 x5, .int .u8 x6, .int .u8 x7, .int .u8 x8, .int .i64 x9] 43 10)).add b17 (ABlk.cells [.int .i64 y0, .int .i64 y1, .int .u8 y2, .int .u8 y3, .int .u8 y4, .int .u8 y5] 56 6)).row b15 0 10 = some [.int .i64 x0, .int .i64 x1, .int .i64 x2, .int .i64 x3, .int .i64 x4, .int .u8 x5, .int .u8 x6, .int .u8 x7, .int .u8 x8, .int .i64 x9] := row_find (show _ = some (ABlk.cells [.int .i64 x0, .int .i64 x1, .int .i64 x2, .int .i64 x3, .int .i64 x4, .int .u8 x5, .int .u8 x6, .int .u8 x7, .int .u8 x8, .int .i64 x9] 43 10) from by rw [find_add_ne _ hn_b17.1]; exact find_add_self _ _ _) (by simp)
      generalize ((A2.add b15 (ABlk.cells [.int .i64 x0, .int .i64 x1, .int .i64 x2, .int .i64 x3, .int .i64 x4, .int .u8 x5, .int .u8 x6, .int .u8 x7, .int .u8 x8, .int .i64 x9] 43 10)).add b17 (ABlk.cells [.int .i64 y0, .int .i64 y1, .int .u8 y2, .int .u8 y3, .int .u8 y4, .int .u8 y5] 56 6)) = A3 at m17 m3 hH tB r15 ⊢
      clear hn_b15 hr_b15 h_b15 hn_b17 hr_b17 h_b17 r3 r4
      
      cases ht : okT B with
      | true =>
        obtain ⟨o1, o2, tE, o4⟩ := hoT ht
        have e1 : PutE x0 x1 x2 x3 x4 x5 x6 x7 x8 x9 = 0 := by simp [PutE, o1]
        have e2 : PutL x0 x1 x2 x3 x4 x5 x6 x7 x8 x9 = B := by simp [PutL, o1, o2]
        simp (dsimp := false) (maxSteps := 4000000) only [tE, r15, go_sem, ↓reduceIte, Nat.reduceEqDiff, Nat.reduceLT, Nat.reduceLeDiff, Nat.reduceAdd, Nat.reduceMul, Nat.reduceSub, reduceCtorEq, Int.reduceToNat, Int.reduceLT, Int.reduceLE, Int.reduceEq, Int.reduceNe, Int.reduceBEq, Nat.reduceBEq, Int.reduceBNe, Nat.reduceBNe, Int.reduceAdd, Int.reduceSub, Int.reduceMul, Int.reduceNeg]
        refine (Put_c x0 x1 x2 x3 x4 x5 x6 x7 x8 x9 _).mono ?_; rintro _ A5 ⟨p3, q3, rfl, hO3, hK3⟩
        rw [e2] at hO3
        have tB := tB.keep hK3 fun _ _ h => h
        have cv1 := fun (k : Value → Prop) => cnv_bytes (P := Try.prog) (k := k) Try.underlying44 Try.underlying5 Try.underlying9 hO3.slc rfl
        have cv2 := fun (k : Value → Prop) => cnv_bytes (P := Try.prog) (k := k) Try.underlying44 Try.underlying5 Try.underlying9 tB rfl
        have m3 := hK3.find (fun h => h) m3
        have m17 := hK3.find (fun h => h) m17
        have r3 : A5.row b3 0 10 = some [.int .i64 i, .int .i64 k, .int .i64 n, .int .i64 f, .int .i64 r, .int .u8 a, .int .u8 b, .int .u8 c, .int .u8 d, .int .i64 y] := row_find m3 (by simp)
        have r17 : A5.row b17 0 6 = some [.int .i64 y0, .int .i64 y1, .int .u8 y2, .int .u8 y3, .int .u8 y4, .int .u8 y5] := row_find m17 (by simp)
        have hH := AH.le_trans hH hK3.all
        have hne : (!((bstr B).toList == (bstr B).toList)) = false := by simp
        simp (dsimp := false) (maxSteps := 4000000) only [e1, e2, cv1, cv2, hne, go_sem, ↓reduceIte, Nat.reduceEqDiff, Nat.reduceLT, Nat.reduceLeDiff, Nat.reduceAdd, Nat.reduceMul, Nat.reduceSub, reduceCtorEq, Int.reduceToNat, Int.reduceLT, Int.reduceLE, Int.reduceEq, Int.reduceNe, Int.reduceBEq, Nat.reduceBEq, Int.reduceBNe, Nat.reduceBNe, Int.reduceAdd, Int.reduceSub, Int.reduceMul, Int.reduceNeg]
        cases hy : okY B with
        | true =>
          obtain ⟨o1, o2, o3⟩ := hoY hy
          have e1 : AnsE y0 y1 y2 y3 y4 y5 = 0 := by simp [AnsE, o1]
          have e2 : AnsL y0 y1 y2 y3 y4 y5 = B := by simp [AnsL, o1, o2]
          simp (dsimp := false) (maxSteps := 4000000) only [o3, r17, go_sem, ↓reduceIte, Nat.reduceEqDiff, Nat.reduceLT, Nat.reduceLeDiff, Nat.reduceAdd, Nat.reduceMul, Nat.reduceSub, reduceCtorEq, Int.reduceToNat, Int.reduceLT, Int.reduceLE, Int.reduceEq, Int.reduceNe, Int.reduceBEq, Nat.reduceBEq, Int.reduceBNe, Nat.reduceBNe, Int.reduceAdd, Int.reduceSub, Int.reduceMul, Int.reduceNeg]
          refine (Answer_c y0 y1 y2 y3 y4 y5 _).mono ?_; rintro _ A4 ⟨p4, q4, rfl, hO4, hK4⟩
          rw [e2] at hO4
          have cv3 := fun (k : Value → Prop) => cnv_bytes (P := Try.prog) (k := k) Try.underlying44 Try.underlying5 Try.underlying9 hO4.slc rfl
          have cv4 := fun (k : Value → Prop) => cnv_bytes (P := Try.prog) (k := k) Try.underlying44 Try.underlying5 Try.underlying9 (tB.keep hK4 fun _ _ h => h) rfl
          have m3 := hK4.find (fun h => h) m3
          have r3 : A4.row b3 0 10 = some [.int .i64 i, .int .i64 k, .int .i64 n, .int .i64 f, .int .i64 r, .int .u8 a, .int .u8 b, .int .u8 c, .int .u8 d, .int .i64 y] := row_find m3 (by simp)
          have hH := AH.le_trans hH hK4.all
          have hne : (!((bstr B).toList == (bstr B).toList)) = false := by simp
          simp (dsimp := false) (maxSteps := 4000000) only [e1, e2, cv3, cv4, hne, go_sem, ↓reduceIte, Nat.reduceEqDiff, Nat.reduceLT, Nat.reduceLeDiff, Nat.reduceAdd, Nat.reduceMul, Nat.reduceSub, reduceCtorEq, Int.reduceToNat, Int.reduceLT, Int.reduceLE, Int.reduceEq, Int.reduceNe, Int.reduceBEq, Nat.reduceBEq, Int.reduceBNe, Nat.reduceBNe, Int.reduceAdd, Int.reduceSub, Int.reduceMul, Int.reduceNeg]
          refine (awake_c _).mono ?_; rintro _ _ ⟨rfl, rfl⟩
          simp (dsimp := false) (maxSteps := 4000000) only [r3, go_sem, ↓reduceIte, Nat.reduceEqDiff, Nat.reduceLT, Nat.reduceLeDiff, Nat.reduceAdd, Nat.reduceMul, Nat.reduceSub, reduceCtorEq, Int.reduceToNat, Int.reduceLT, Int.reduceLE, Int.reduceEq, Int.reduceNe, Int.reduceBEq, Nat.reduceBEq, Int.reduceBNe, Nat.reduceBNe, Int.reduceAdd, Int.reduceSub, Int.reduceMul, Int.reduceNeg]
          refine (Good_c i k n f r a b c d y _).mono ?_; rintro _ _ ⟨rfl, rfl⟩
          have hlen : (0 : Int) < B.length := by omega
          simp (dsimp := false) (maxSteps := 4000000) only [g1, hlen, tE, go_sem, ↓reduceIte, Nat.reduceEqDiff, Nat.reduceLT, Nat.reduceLeDiff, Nat.reduceAdd, Nat.reduceMul, Nat.reduceSub, reduceCtorEq, Int.reduceToNat, Int.reduceLT, Int.reduceLE, Int.reduceEq, Int.reduceNe, Int.reduceBEq, Nat.reduceBEq, Int.reduceBNe, Nat.reduceBNe, Int.reduceAdd, Int.reduceSub, Int.reduceMul, Int.reduceNeg]
          exact ⟨H, hH, rfl⟩
        | false =>
          have o3 : ReadE B = 2 := by rw [ReadE, hy]; rfl
          simp (dsimp := false) (maxSteps := 4000000) only [o3, go_sem, ↓reduceIte, Nat.reduceEqDiff, Nat.reduceLT, Nat.reduceLeDiff, Nat.reduceAdd, Nat.reduceMul, Nat.reduceSub, reduceCtorEq, Int.reduceToNat, Int.reduceLT, Int.reduceLE, Int.reduceEq, Int.reduceNe, Int.reduceBEq, Nat.reduceBEq, Int.reduceBNe, Nat.reduceBNe, Int.reduceAdd, Int.reduceSub, Int.reduceMul, Int.reduceNeg]
          refine (awake_c _).mono ?_; rintro _ _ ⟨rfl, rfl⟩
          simp (dsimp := false) (maxSteps := 4000000) only [r3, go_sem, ↓reduceIte, Nat.reduceEqDiff, Nat.reduceLT, Nat.reduceLeDiff, Nat.reduceAdd, Nat.reduceMul, Nat.reduceSub, reduceCtorEq, Int.reduceToNat, Int.reduceLT, Int.reduceLE, Int.reduceEq, Int.reduceNe, Int.reduceBEq, Nat.reduceBEq, Int.reduceBNe, Nat.reduceBNe, Int.reduceAdd, Int.reduceSub, Int.reduceMul, Int.reduceNeg]
          refine (Good_c i k n f r a b c d y _).mono ?_; rintro _ _ ⟨rfl, rfl⟩
          have hlen : (0 : Int) < B.length := by omega
          simp (dsimp := false) (maxSteps := 4000000) only [g1, hlen, tE, go_sem, ↓reduceIte, Nat.reduceEqDiff, Nat.reduceLT, Nat.reduceLeDiff, Nat.reduceAdd, Nat.reduceMul, Nat.reduceSub, reduceCtorEq, Int.reduceToNat, Int.reduceLT, Int.reduceLE, Int.reduceEq, Int.reduceNe, Int.reduceBEq, Nat.reduceBEq, Int.reduceBNe, Nat.reduceBNe, Int.reduceAdd, Int.reduceSub, Int.reduceMul, Int.reduceNeg]
          exact ⟨H, hH, rfl⟩
      | false =>
        have tE : TakeE B = 2 := by rw [TakeE, ht]; rfl
        have r3 : A3.row b3 0 10 = some [.int .i64 i, .int .i64 k, .int .i64 n, .int .i64 f, .int .i64 r, .int .u8 a, .int .u8 b, .int .u8 c, .int .u8 d, .int .i64 y] := row_find m3 (by simp)
        have r17 : A3.row b17 0 6 = some [.int .i64 y0, .int .i64 y1, .int .u8 y2, .int .u8 y3, .int .u8 y4, .int .u8 y5] := row_find m17 (by simp)
        simp (dsimp := false) (maxSteps := 4000000) only [tE, go_sem, ↓reduceIte, Nat.reduceEqDiff, Nat.reduceLT, Nat.reduceLeDiff, Nat.reduceAdd, Nat.reduceMul, Nat.reduceSub, reduceCtorEq, Int.reduceToNat, Int.reduceLT, Int.reduceLE, Int.reduceEq, Int.reduceNe, Int.reduceBEq, Nat.reduceBEq, Int.reduceBNe, Nat.reduceBNe, Int.reduceAdd, Int.reduceSub, Int.reduceMul, Int.reduceNeg]
        cases hy : okY B with
        | true =>
          obtain ⟨o1, o2, o3⟩ := hoY hy
          have e1 : AnsE y0 y1 y2 y3 y4 y5 = 0 := by simp [AnsE, o1]
          have e2 : AnsL y0 y1 y2 y3 y4 y5 = B := by simp [AnsL, o1, o2]
          simp (dsimp := false) (maxSteps := 4000000) only [o3, r17, go_sem, ↓reduceIte, Nat.reduceEqDiff, Nat.reduceLT, Nat.reduceLeDiff, Nat.reduceAdd, Nat.reduceMul, Nat.reduceSub, reduceCtorEq, Int.reduceToNat, Int.reduceLT, Int.reduceLE, Int.reduceEq, Int.reduceNe, Int.reduceBEq, Nat.reduceBEq, Int.reduceBNe, Nat.reduceBNe, Int.reduceAdd, Int.reduceSub, Int.reduceMul, Int.reduceNeg]
          refine (Answer_c y0 y1 y2 y3 y4 y5 _).mono ?_; rintro _ A4 ⟨p4, q4, rfl, hO4, hK4⟩
          rw [e2] at hO4
          have cv3 := fun (k : Value → Prop) => cnv_bytes (P := Try.prog) (k := k) Try.underlying44 Try.underlying5 Try.underlying9 hO4.slc rfl
          have cv4 := fun (k : Value → Prop) => cnv_bytes (P := Try.prog) (k := k) Try.underlying44 Try.underlying5 Try.underlying9 (tB.keep hK4 fun _ _ h => h) rfl
          have m3 := hK4.find (fun h => h) m3
          have r3 : A4.row b3 0 10 = some [.int .i64 i, .int .i64 k, .int .i64 n, .int .i64 f, .int .i64 r, .int .u8 a, .int .u8 b, .int .u8 c, .int .u8 d, .int .i64 y] := row_find m3 (by simp)
          have hH := AH.le_trans hH hK4.all
          have hne : (!((bstr B).toList == (bstr B).toList)) = false := by simp
          simp (dsimp := false) (maxSteps := 4000000) only [e1, e2, cv3, cv4, hne, go_sem, ↓reduceIte, Nat.reduceEqDiff, Nat.reduceLT, Nat.reduceLeDiff, Nat.reduceAdd, Nat.reduceMul, Nat.reduceSub, reduceCtorEq, Int.reduceToNat, Int.reduceLT, Int.reduceLE, Int.reduceEq, Int.reduceNe, Int.reduceBEq, Nat.reduceBEq, Int.reduceBNe, Nat.reduceBNe, Int.reduceAdd, Int.reduceSub, Int.reduceMul, Int.reduceNeg]
          refine (awake_c _).mono ?_; rintro _ _ ⟨rfl, rfl⟩
          simp (dsimp := false) (maxSteps := 4000000) only [r3, go_sem, ↓reduceIte, Nat.reduceEqDiff, Nat.reduceLT, Nat.reduceLeDiff, Nat.reduceAdd, Nat.reduceMul, Nat.reduceSub, reduceCtorEq, Int.reduceToNat, Int.reduceLT, Int.reduceLE, Int.reduceEq, Int.reduceNe, Int.reduceBEq, Nat.reduceBEq, Int.reduceBNe, Nat.reduceBNe, Int.reduceAdd, Int.reduceSub, Int.reduceMul, Int.reduceNeg]
          refine (Good_c i k n f r a b c d y _).mono ?_; rintro _ _ ⟨rfl, rfl⟩
          by_cases hlen : (0 : Int) < B.length
          · simp (dsimp := false) (maxSteps := 4000000) only [g1, hlen, tE, go_sem, ↓reduceIte, Nat.reduceEqDiff, Nat.reduceLT, Nat.reduceLeDiff, Nat.reduceAdd, Nat.reduceMul, Nat.reduceSub, reduceCtorEq, Int.reduceToNat, Int.reduceLT, Int.reduceLE, Int.reduceEq, Int.reduceNe, Int.reduceBEq, Nat.reduceBEq, Int.reduceBNe, Nat.reduceBNe, Int.reduceAdd, Int.reduceSub, Int.reduceMul, Int.reduceNeg]
            exact ⟨H, hH, rfl⟩
          · simp (dsimp := false) (maxSteps := 4000000) only [g1, hlen, tE, go_sem, ↓reduceIte, Nat.reduceEqDiff, Nat.reduceLT, Nat.reduceLeDiff, Nat.reduceAdd, Nat.reduceMul, Nat.reduceSub, reduceCtorEq, Int.reduceToNat, Int.reduceLT, Int.reduceLE, Int.reduceEq, Int.reduceNe, Int.reduceBEq, Nat.reduceBEq, Int.reduceBNe, Nat.reduceBNe, Int.reduceAdd, Int.reduceSub, Int.reduceMul, Int.reduceNeg]
            exact ⟨H, hH, rfl⟩
        | false =>
          have o3 : ReadE B = 2 := by rw [ReadE, hy]; rfl
          simp (dsimp := false) (maxSteps := 4000000) only [o3, go_sem, ↓reduceIte, Nat.reduceEqDiff, Nat.reduceLT, Nat.reduceLeDiff, Nat.reduceAdd, Nat.reduceMul, Nat.reduceSub, reduceCtorEq, Int.reduceToNat, Int.reduceLT, Int.reduceLE, Int.reduceEq, Int.reduceNe, Int.reduceBEq, Nat.reduceBEq, Int.reduceBNe, Nat.reduceBNe, Int.reduceAdd, Int.reduceSub, Int.reduceMul, Int.reduceNeg]
          refine (awake_c _).mono ?_; rintro _ _ ⟨rfl, rfl⟩
          simp (dsimp := false) (maxSteps := 4000000) only [r3, go_sem, ↓reduceIte, Nat.reduceEqDiff, Nat.reduceLT, Nat.reduceLeDiff, Nat.reduceAdd, Nat.reduceMul, Nat.reduceSub, reduceCtorEq, Int.reduceToNat, Int.reduceLT, Int.reduceLE, Int.reduceEq, Int.reduceNe, Int.reduceBEq, Nat.reduceBEq, Int.reduceBNe, Nat.reduceBNe, Int.reduceAdd, Int.reduceSub, Int.reduceMul, Int.reduceNeg]
          refine (Good_c i k n f r a b c d y _).mono ?_; rintro _ _ ⟨rfl, rfl⟩
          by_cases hlen : (0 : Int) < B.length
          · simp (dsimp := false) (maxSteps := 4000000) only [g1, hlen, tE, go_sem, ↓reduceIte, Nat.reduceEqDiff, Nat.reduceLT, Nat.reduceLeDiff, Nat.reduceAdd, Nat.reduceMul, Nat.reduceSub, reduceCtorEq, Int.reduceToNat, Int.reduceLT, Int.reduceLE, Int.reduceEq, Int.reduceNe, Int.reduceBEq, Nat.reduceBEq, Int.reduceBNe, Nat.reduceBNe, Int.reduceAdd, Int.reduceSub, Int.reduceMul, Int.reduceNeg]
            exact ⟨H, hH, rfl⟩
          · simp (dsimp := false) (maxSteps := 4000000) only [g1, hlen, tE, go_sem, ↓reduceIte, Nat.reduceEqDiff, Nat.reduceLT, Nat.reduceLeDiff, Nat.reduceAdd, Nat.reduceMul, Nat.reduceSub, reduceCtorEq, Int.reduceToNat, Int.reduceLT, Int.reduceLE, Int.reduceEq, Int.reduceNe, Int.reduceBEq, Nat.reduceBEq, Int.reduceBNe, Nat.reduceBNe, Int.reduceAdd, Int.reduceSub, Int.reduceMul, Int.reduceNeg]
            exact ⟨H, hH, rfl⟩
theorem ReqRound_l (i k n f r a : Int) (wa : (Lit.int .u8 a).wf = true) (b : Int) (wb : (Lit.int .u8 b).wf = true) (c : Int) (wc : (Lit.int .u8 c).wf = true) (d : Int) (wd : (Lit.int .u8 d).wf = true) (y : Int) (j e a2 : Int) (va : (Lit.int .u8 a2).wf = true) (b2 : Int) (vb : (Lit.int .u8 b2).wf = true) (c2 : Int) (vc : (Lit.int .u8 c2).wf = true) (d2 : Int) (vd : (Lit.int .u8 d2).wf = true)
    (B : List Int) (base : Option Addr) (cap : Nat) (H : AH) (hs : SlcIn H 1 base cap (B.map encB)) (hw : ∀ s ∈ B, (Lit.int .u8 s).wf = true) :
    ACalls Try.prog 6 #[qv i k n f r a b c d y, rv j e a2 b2 c2 d2, .slice base B.length cap] H (fun v H' => v = .bool true ∧ H = H') := ReqRound_c i k n f r a b c d y j e a2 b2 c2 d2 (byte_wf wa) (byte_wf wb) (byte_wf wc) (byte_wf wd) (byte_wf va) (byte_wf vb) (byte_wf vc) (byte_wf vd) B base cap H hs fun s hx => byte_wf (hw s hx)
end Go.Proofs.Ytgikjbfpckjkoaa.Req
