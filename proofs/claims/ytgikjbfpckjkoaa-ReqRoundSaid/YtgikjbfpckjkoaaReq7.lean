/- req: awake; the laws ReqPuts and ReqAnswers. -/
import Derived.Test.YtgikjbfpckjkoaaReq6
namespace Go.Proofs.Ytgikjbfpckjkoaa.Req
set_option linter.unusedSimpArgs false
set_option linter.unusedVariables false
open Go Go.AX Go.Proofs Ty Go.Proofs.Ytgikjbfpckjkoaa.CatB
set_option maxHeartbeats 4000000
set_option maxRecDepth 10000

def L1 : List Int := [0, 7, 0, 9, 1, 3, 2, 1, 0]
def L2 : List Int := [0, 7, 1, 2, 12, 0, 0, 0, 0]
theorem awake_c (H : AH) : ACalls Try.prog 30 #[] H (fun v H' => v = .bool true ∧ H = H') := by
  have f1 : PutL 9 1 3 2 1 0 0 0 0 0 = L1 := by decide
  have f2 : PutE 9 1 3 2 1 0 0 0 0 0 = 0 := by decide
  have f3 : (TakeX L1).v = .agg #[.int .i64 9, .int .i64 1, .int .i64 3, .int .i64 2, .int .i64 1, .int .u8 0, .int .u8 0, .int .u8 0, .int .u8 0, .int .i64 0] := by rw [show TakeX L1 = ⟨9, 1, 3, 2, 1, 0, 0, 0, 0, 0⟩ from by decide]; rfl
  have f4 : TakeE L1 = 0 := by decide
  have f5 : AnsL 258 12 0 0 0 0 = L2 := by decide
  have f6 : AnsE 258 12 0 0 0 0 = 0 := by decide
  have f7 : (ReadX L2).v = .agg #[.int .i64 258, .int .i64 12, .int .u8 0, .int .u8 0, .int .u8 0, .int .u8 0] := by rw [show ReadX L2 = ⟨258, 12, 0, 0, 0, 0⟩ from by decide]; rfl
  have f8 : ReadE L2 = 0 := by decide
  have f9 : (TakeX L2).v = .agg #[.int .i64 0, .int .i64 0, .int .i64 0, .int .i64 0, .int .i64 0, .int .u8 0, .int .u8 0, .int .u8 0, .int .u8 0, .int .i64 0] := by rw [show TakeX L2 = Q0 from by decide]; rfl
  have f0 : TakeE L2 = 2 := by decide
  have g1 : Bts L1 := by unfold Bts; decide
  have g2 : Bts L2 := by unfold Bts; decide
  refine ACalls.enter2 Try.func30 rfl Try.ntmps30 Try.results30 (by simp) ?_; simp (dsimp := false) (maxSteps := 4000000) only [go_sem, ↓reduceIte, Nat.reduceEqDiff, Nat.reduceLT, Nat.reduceLeDiff, Nat.reduceAdd, Nat.reduceMul, Nat.reduceSub, reduceCtorEq, Int.reduceToNat, Int.reduceLT, Int.reduceLE, Int.reduceEq, Int.reduceNe, Int.reduceBEq, Nat.reduceBEq, Int.reduceBNe, Nat.reduceBNe, Int.reduceAdd, Int.reduceSub, Int.reduceMul, Int.reduceNeg]
  refine AllB.mk fun b1 h_b1 => ?_; have hn_b1 := h_b1; (try simp only [fresh_add, fresh_set, ne_eq] at hn_b1); have hr_b1 := hn_b1; (try simp only [@eq_comm Nat b1] at hr_b1); simp (dsimp := false) (maxSteps := 4000000) only [hn_b1, hr_b1, go_sem, ↓reduceIte, Nat.reduceEqDiff, Nat.reduceLT, Nat.reduceLeDiff, Nat.reduceAdd, Nat.reduceMul, Nat.reduceSub, reduceCtorEq, Int.reduceToNat, Int.reduceLT, Int.reduceLE, Int.reduceEq, Int.reduceNe, Int.reduceBEq, Nat.reduceBEq, Int.reduceBNe, Nat.reduceBNe, Int.reduceAdd, Int.reduceSub, Int.reduceMul, Int.reduceNeg]
  refine (Put_c 9 1 3 2 1 0 0 0 0 0 _).mono ?_; rintro _ A1 ⟨p1, q1, rfl, hO1, hK1⟩
  have m1 : A1.find b1 = some (ABlk.cells [.int .i64 9, .int .i64 1, .int .i64 3, .int .i64 2, .int .i64 1, .int .u8 0, .int .u8 0, .int .u8 0, .int .u8 0, .int .i64 0] 43 10) := hK1.find (fun h => h) (by (show AH.find _ _ = _; simp only [find_add_self, find_add_ne, find_fresh, fresh_add, ne_eq, not_false_eq_true, true_and, and_true, and_self, hn_b1, hr_b1]))
  have hH1 : H.le A1 := AH.le_trans (AH.le_add (AH.le_refl _) ((by simp only [fresh_add, fresh_set, ne_eq, hn_b1, not_false_eq_true, and_self] : Fresh _ b1).2)) hK1.all
  rw [f1, f2]
  rw [f1] at hO1
  
  simp (dsimp := false) (maxSteps := 4000000) only [go_sem, ↓reduceIte, Nat.reduceEqDiff, Nat.reduceLT, Nat.reduceLeDiff, Nat.reduceAdd, Nat.reduceMul, Nat.reduceSub, reduceCtorEq, Int.reduceToNat, Int.reduceLT, Int.reduceLE, Int.reduceEq, Int.reduceNe, Int.reduceBEq, Nat.reduceBEq, Int.reduceBNe, Nat.reduceBNe, Int.reduceAdd, Int.reduceSub, Int.reduceMul, Int.reduceNeg]
  refine (Take_c L1 p1 q1 _ hO1.slc g1).mono ?_; rintro _ _ ⟨rfl, rfl⟩
  rw [f3, f4]
  simp (dsimp := false) (maxSteps := 4000000) only [go_sem, ↓reduceIte, Nat.reduceEqDiff, Nat.reduceLT, Nat.reduceLeDiff, Nat.reduceAdd, Nat.reduceMul, Nat.reduceSub, reduceCtorEq, Int.reduceToNat, Int.reduceLT, Int.reduceLE, Int.reduceEq, Int.reduceNe, Int.reduceBEq, Nat.reduceBEq, Int.reduceBNe, Nat.reduceBNe, Int.reduceAdd, Int.reduceSub, Int.reduceMul, Int.reduceNeg]
  refine AllB.mk fun b4 h_b4 => ?_; have hn_b4 := h_b4; (try simp only [fresh_add, fresh_set, ne_eq] at hn_b4); have hr_b4 := hn_b4; (try simp only [@eq_comm Nat b4] at hr_b4); simp (dsimp := false) (maxSteps := 4000000) only [hn_b4, hr_b4, go_sem, ↓reduceIte, Nat.reduceEqDiff, Nat.reduceLT, Nat.reduceLeDiff, Nat.reduceAdd, Nat.reduceMul, Nat.reduceSub, reduceCtorEq, Int.reduceToNat, Int.reduceLT, Int.reduceLE, Int.reduceEq, Int.reduceNe, Int.reduceBEq, Nat.reduceBEq, Int.reduceBNe, Nat.reduceBNe, Int.reduceAdd, Int.reduceSub, Int.reduceMul, Int.reduceNeg]
  refine (Answer_c 258 12 0 0 0 0 _).mono ?_; rintro _ A2 ⟨p2, q2, rfl, hO2, hK2⟩
  have m2 : A2.find b1 = some (ABlk.cells [.int .i64 9, .int .i64 1, .int .i64 3, .int .i64 2, .int .i64 1, .int .u8 0, .int .u8 0, .int .u8 0, .int .u8 0, .int .i64 0] 43 10) := hK2.find (fun h => h) (by rw [find_add_ne _ (hn_b4.ne_find m1)]; exact m1)
  have m4 : A2.find b4 = some (ABlk.cells [.int .i64 9, .int .i64 1, .int .i64 3, .int .i64 2, .int .i64 1, .int .u8 0, .int .u8 0, .int .u8 0, .int .u8 0, .int .i64 0] 43 10) := hK2.find (fun h => h) (find_add_self _ _ _)
  have hH2 : H.le A2 := AH.le_trans (AH.le_add hH1 h_b4.2) hK2.all
  have s1 : SlcIn A2 1 p1 q1 (L1.map encB) := (hO1.slc.add h_b4).keep hK2 fun _ _ h => h
  rw [f5, f6]
  rw [f5] at hO2
  have s2 := hO2.slc
  have r1 : A2.row b1 0 10 = some [.int .i64 9, .int .i64 1, .int .i64 3, .int .i64 2, .int .i64 1, .int .u8 0, .int .u8 0, .int .u8 0, .int .u8 0, .int .i64 0] := row_find m2 (by simp)
  have r4 : A2.row b4 0 10 = some [.int .i64 9, .int .i64 1, .int .i64 3, .int .i64 2, .int .i64 1, .int .u8 0, .int .u8 0, .int .u8 0, .int .u8 0, .int .i64 0] := row_find m4 (by decide)
  clear hO1 hK1 m1 m2 m4 hK2 h_b4 hn_b4 hr_b4
  
  simp (dsimp := false) (maxSteps := 4000000) only [go_sem, ↓reduceIte, Nat.reduceEqDiff, Nat.reduceLT, Nat.reduceLeDiff, Nat.reduceAdd, Nat.reduceMul, Nat.reduceSub, reduceCtorEq, Int.reduceToNat, Int.reduceLT, Int.reduceLE, Int.reduceEq, Int.reduceNe, Int.reduceBEq, Nat.reduceBEq, Int.reduceBNe, Nat.reduceBNe, Int.reduceAdd, Int.reduceSub, Int.reduceMul, Int.reduceNeg]
  refine (Read_c L2 p2 q2 _ s2 g2).mono ?_; rintro _ _ ⟨rfl, rfl⟩
  rw [f7, f8]
  simp (dsimp := false) (maxSteps := 4000000) only [go_sem, ↓reduceIte, Nat.reduceEqDiff, Nat.reduceLT, Nat.reduceLeDiff, Nat.reduceAdd, Nat.reduceMul, Nat.reduceSub, reduceCtorEq, Int.reduceToNat, Int.reduceLT, Int.reduceLE, Int.reduceEq, Int.reduceNe, Int.reduceBEq, Nat.reduceBEq, Int.reduceBNe, Nat.reduceBNe, Int.reduceAdd, Int.reduceSub, Int.reduceMul, Int.reduceNeg]
  refine AllB.mk fun b8 h_b8 => ?_; have hn_b8 := h_b8; (try simp only [fresh_add, fresh_set, ne_eq] at hn_b8); have hr_b8 := hn_b8; (try simp only [@eq_comm Nat b8] at hr_b8); simp (dsimp := false) (maxSteps := 4000000) only [hn_b8, hr_b8, go_sem, ↓reduceIte, Nat.reduceEqDiff, Nat.reduceLT, Nat.reduceLeDiff, Nat.reduceAdd, Nat.reduceMul, Nat.reduceSub, reduceCtorEq, Int.reduceToNat, Int.reduceLT, Int.reduceLE, Int.reduceEq, Int.reduceNe, Int.reduceBEq, Nat.reduceBEq, Int.reduceBNe, Nat.reduceBNe, Int.reduceAdd, Int.reduceSub, Int.reduceMul, Int.reduceNeg]
  refine (Take_c L2 p2 q2 _ (s2.add h_b8) g2).mono ?_; rintro _ _ ⟨rfl, rfl⟩
  rw [f9, f0]
  simp (dsimp := false) (maxSteps := 4000000) only [hn_b8, hr_b8, go_sem, ↓reduceIte, Nat.reduceEqDiff, Nat.reduceLT, Nat.reduceLeDiff, Nat.reduceAdd, Nat.reduceMul, Nat.reduceSub, reduceCtorEq, Int.reduceToNat, Int.reduceLT, Int.reduceLE, Int.reduceEq, Int.reduceNe, Int.reduceBEq, Nat.reduceBEq, Int.reduceBNe, Nat.reduceBNe, Int.reduceAdd, Int.reduceSub, Int.reduceMul, Int.reduceNeg]
  refine AllB.mk fun b10 h_b10 => ?_; have hn_b10 := h_b10; (try simp only [fresh_add, fresh_set, ne_eq] at hn_b10); have hr_b10 := hn_b10; (try simp only [@eq_comm Nat b10] at hr_b10); simp (dsimp := false) (maxSteps := 4000000) only [hn_b8, hr_b8, hn_b10, hr_b10, go_sem, ↓reduceIte, Nat.reduceEqDiff, Nat.reduceLT, Nat.reduceLeDiff, Nat.reduceAdd, Nat.reduceMul, Nat.reduceSub, reduceCtorEq, Int.reduceToNat, Int.reduceLT, Int.reduceLE, Int.reduceEq, Int.reduceNe, Int.reduceBEq, Nat.reduceBEq, Int.reduceBNe, Nat.reduceBNe, Int.reduceAdd, Int.reduceSub, Int.reduceMul, Int.reduceNeg]
  have s3 : SlcIn ((A2.add b8 (.cells [.int .i64 258, .int .i64 12, .int .u8 0, .int .u8 0, .int .u8 0, .int .u8 0] 56 6)).add b10 (.cells [.int .i64 0, .int .i64 0, .int .i64 0, .int .i64 0, .int .i64 0, .int .u8 0, .int .u8 0, .int .u8 0, .int .u8 0, .int .i64 0] 43 10)) 1 p1 q1 (L1.map encB) := (s1.add h_b8).add h_b10
  have cv1 := fun (k : Value → Prop) => cnv_bytes (P := Try.prog) (n := L1.length) (k := k) Try.underlying44 Try.underlying5 Try.underlying9 s3 rfl
  simp (dsimp := false) (maxSteps := 4000000) only [cv1, hn_b8, hr_b8, hn_b10, hr_b10, go_sem, ↓reduceIte, Nat.reduceEqDiff, Nat.reduceLT, Nat.reduceLeDiff, Nat.reduceAdd, Nat.reduceMul, Nat.reduceSub, reduceCtorEq, Int.reduceToNat, Int.reduceLT, Int.reduceLE, Int.reduceEq, Int.reduceNe, Int.reduceBEq, Nat.reduceBEq, Int.reduceBNe, Nat.reduceBNe, Int.reduceAdd, Int.reduceSub, Int.reduceMul, Int.reduceNeg]
  refine AllB.mk fun b40 h_b40 => ?_; have hn_b40 := h_b40; (try simp only [fresh_add, fresh_set, ne_eq] at hn_b40); have hr_b40 := hn_b40; (try simp only [@eq_comm Nat b40] at hr_b40); simp (dsimp := false) (maxSteps := 4000000) only [hn_b8, hr_b8, hn_b10, hr_b10, hn_b40, hr_b40, go_sem, ↓reduceIte, Nat.reduceEqDiff, Nat.reduceLT, Nat.reduceLeDiff, Nat.reduceAdd, Nat.reduceMul, Nat.reduceSub, reduceCtorEq, Int.reduceToNat, Int.reduceLT, Int.reduceLE, Int.reduceEq, Int.reduceNe, Int.reduceBEq, Nat.reduceBEq, Int.reduceBNe, Nat.reduceBNe, Int.reduceAdd, Int.reduceSub, Int.reduceMul, Int.reduceNeg]
  have nr_r1 := And.intro (h_b8.ne_row r1) (And.intro (hn_b10.2.ne_row r1) (hn_b40.2.2.ne_row r1))
  have nr_r4 := And.intro (h_b8.ne_row r4) (And.intro (hn_b10.2.ne_row r4) (hn_b40.2.2.ne_row r4))
  have hc1 : ((bstr L1).toList == (bstr [0, 7, 0, 9, 1, 3, 2, 1, 0]).toList) = true := by rw [show ([0, 7, 0, 9, 1, 3, 2, 1, 0] : List Int) = L1 from rfl]; simp
  have cv2 := fun (k : Value → Prop) => cnv_bytes (P := Try.prog) (H := (((A2.add b8 (.cells [.int .i64 258, .int .i64 12, .int .u8 0, .int .u8 0, .int .u8 0, .int .u8 0] 56 6)).add b10 (.cells [.int .i64 0, .int .i64 0, .int .i64 0, .int .i64 0, .int .i64 0, .int .u8 0, .int .u8 0, .int .u8 0, .int .u8 0, .int .i64 0] 43 10)).add b40 (.cells [.int .u8 0, .int .u8 7, .int .u8 0, .int .u8 9, .int .u8 1, .int .u8 3, .int .u8 2, .int .u8 1, .int .u8 0] 5 9))) (n := 9) (c := 9) (base := some ⟨b40, 0, none⟩) (k := k) Try.underlying44 Try.underlying5 Try.underlying9 (SlcIn.own (R := [0, 7, 0, 9, 1, 3, 2, 1, 0].map encB) (rowsB _) (by simp) (by simp)) rfl
  simp (dsimp := false) (maxSteps := 4000000) only [r1, r4, nr_r1, nr_r4, cv2, hc1, hn_b8, hr_b8, hn_b10, hr_b10, hn_b40, hr_b40, go_sem, ↓reduceIte, Nat.reduceEqDiff, Nat.reduceLT, Nat.reduceLeDiff, Nat.reduceAdd, Nat.reduceMul, Nat.reduceSub, reduceCtorEq, Int.reduceToNat, Int.reduceLT, Int.reduceLE, Int.reduceEq, Int.reduceNe, Int.reduceBEq, Nat.reduceBEq, Int.reduceBNe, Nat.reduceBNe, Int.reduceAdd, Int.reduceSub, Int.reduceMul, Int.reduceNeg]
  exact ⟨H, AH.le_add (AH.le_add (AH.le_add hH2 h_b8.2) h_b10.2) h_b40.2, rfl⟩
theorem ReqPuts_c (i k n f r a b c d y : Int) (wa : 0 ≤ a ∧ a < 256) (wb : 0 ≤ b ∧ b < 256) (wc : 0 ≤ c ∧ c < 256) (wd : 0 ≤ d ∧ d < 256) (B : List Int) (base : Option Addr) (cap : Nat) (H : AH) (hs : SlcIn H 1 base cap (B.map encB)) (hB : Bts B) :
    ACalls Try.prog 4 #[qv i k n f r a b c d y, .slice base B.length cap] H (fun v H' => v = .bool true ∧ H = H') := by
  have hT := fun A (h : SlcIn A 1 base cap (B.map encB)) => Take_c B base cap A h hB
  have hR := fun A (h : SlcIn A 1 base cap (B.map encB)) => RefTake_c B base cap A h hB
  generalize TakeX B = X at hT hR
  generalize TakeE B = E at hT hR
  obtain ⟨x0, x1, x2, x3, x4, x5, x6, x7, x8, x9⟩ := X
  simp only [Q.v, qv] at hT hR
  unfold qv
  refine ACalls.enter2 Try.func4 rfl Try.ntmps4 Try.results4 (by simp) ?_; simp (dsimp := false) (maxSteps := 4000000) only [go_sem, ↓reduceIte, Nat.reduceEqDiff, Nat.reduceLT, Nat.reduceLeDiff, Nat.reduceAdd, Nat.reduceMul, Nat.reduceSub, reduceCtorEq, Int.reduceToNat, Int.reduceLT, Int.reduceLE, Int.reduceEq, Int.reduceNe, Int.reduceBEq, Nat.reduceBEq, Int.reduceBNe, Nat.reduceBNe, Int.reduceAdd, Int.reduceSub, Int.reduceMul, Int.reduceNeg]
  refine AllB.mk fun b2 h_b2 => ?_; have hn_b2 := h_b2; (try simp only [fresh_add, fresh_set, ne_eq] at hn_b2); have hr_b2 := hn_b2; (try simp only [@eq_comm Nat b2] at hr_b2); simp (dsimp := false) (maxSteps := 4000000) only [hn_b2, hr_b2, go_sem, ↓reduceIte, Nat.reduceEqDiff, Nat.reduceLT, Nat.reduceLeDiff, Nat.reduceAdd, Nat.reduceMul, Nat.reduceSub, reduceCtorEq, Int.reduceToNat, Int.reduceLT, Int.reduceLE, Int.reduceEq, Int.reduceNe, Int.reduceBEq, Nat.reduceBEq, Int.reduceBNe, Nat.reduceBNe, Int.reduceAdd, Int.reduceSub, Int.reduceMul, Int.reduceNeg]
  refine (Put_c i k n f r a b c d y _).mono ?_; rintro _ A1 ⟨p1, q1, rfl, hO1, hK1⟩
  have m1 : A1.find b2 = some (ABlk.cells [.int .i64 i, .int .i64 k, .int .i64 n, .int .i64 f, .int .i64 r, .int .u8 a, .int .u8 b, .int .u8 c, .int .u8 d, .int .i64 y] 43 10) := hK1.find (fun h => h) (by (show AH.find _ _ = _; simp only [find_add_self, find_add_ne, find_fresh, fresh_add, ne_eq, not_false_eq_true, true_and, and_true, and_self, hn_b2, hr_b2]))
  have hH1 : H.le A1 := AH.le_trans (AH.le_add (AH.le_refl _) ((by simp only [fresh_add, fresh_set, ne_eq, hn_b2, not_false_eq_true, and_self] : Fresh _ b2).2)) hK1.all
  have t1 := (hs.add h_b2).keep hK1 fun _ _ h => h
  have r1 : A1.row b2 0 10 = some [.int .i64 i, .int .i64 k, .int .i64 n, .int .i64 f, .int .i64 r, .int .u8 a, .int .u8 b, .int .u8 c, .int .u8 d, .int .i64 y] := row_find m1 (by simp)
  
  simp (dsimp := false) (maxSteps := 4000000) only [r1, go_sem, ↓reduceIte, Nat.reduceEqDiff, Nat.reduceLT, Nat.reduceLeDiff, Nat.reduceAdd, Nat.reduceMul, Nat.reduceSub, reduceCtorEq, Int.reduceToNat, Int.reduceLT, Int.reduceLE, Int.reduceEq, Int.reduceNe, Int.reduceBEq, Nat.reduceBEq, Int.reduceBNe, Nat.reduceBNe, Int.reduceAdd, Int.reduceSub, Int.reduceMul, Int.reduceNeg]
  refine (RefPut_c i k n f r a b c d y _).mono ?_; rintro _ A2 ⟨p2, q2, rfl, hO2, hK2⟩
  have m2 : A2.find b2 = some (ABlk.cells [.int .i64 i, .int .i64 k, .int .i64 n, .int .i64 f, .int .i64 r, .int .u8 a, .int .u8 b, .int .u8 c, .int .u8 d, .int .i64 y] 43 10) := hK2.find (fun h => h) m1
  have hH2 : H.le A2 := AH.le_trans hH1 hK2.all
  have t2 := t1.keep hK2 fun _ _ h => h
  have s1 := hO1.slc.keep hK2 fun _ _ h => h
  have s2 := hO2.slc
  have r2 : A2.row b2 0 10 = some [.int .i64 i, .int .i64 k, .int .i64 n, .int .i64 f, .int .i64 r, .int .u8 a, .int .u8 b, .int .u8 c, .int .u8 d, .int .i64 y] := row_find m2 (by simp)
  clear m1 hH1 t1 r1 hO1 hK1 hO2 hK2
  simp (dsimp := false) (maxSteps := 4000000) only [go_sem, ↓reduceIte, Nat.reduceEqDiff, Nat.reduceLT, Nat.reduceLeDiff, Nat.reduceAdd, Nat.reduceMul, Nat.reduceSub, reduceCtorEq, Int.reduceToNat, Int.reduceLT, Int.reduceLE, Int.reduceEq, Int.reduceNe, Int.reduceBEq, Nat.reduceBEq, Int.reduceBNe, Nat.reduceBNe, Int.reduceAdd, Int.reduceSub, Int.reduceMul, Int.reduceNeg]
  refine (hT _ t2).mono ?_; rintro _ _ ⟨rfl, rfl⟩
  simp (dsimp := false) (maxSteps := 4000000) only [go_sem, ↓reduceIte, Nat.reduceEqDiff, Nat.reduceLT, Nat.reduceLeDiff, Nat.reduceAdd, Nat.reduceMul, Nat.reduceSub, reduceCtorEq, Int.reduceToNat, Int.reduceLT, Int.reduceLE, Int.reduceEq, Int.reduceNe, Int.reduceBEq, Nat.reduceBEq, Int.reduceBNe, Nat.reduceBNe, Int.reduceAdd, Int.reduceSub, Int.reduceMul, Int.reduceNeg]
  refine AllB.mk fun b9 h_b9 => ?_; have hn_b9 := h_b9; (try simp only [fresh_add, fresh_set, ne_eq] at hn_b9); have hr_b9 := hn_b9; (try simp only [@eq_comm Nat b9] at hr_b9); simp (dsimp := false) (maxSteps := 4000000) only [hn_b9, hr_b9, go_sem, ↓reduceIte, Nat.reduceEqDiff, Nat.reduceLT, Nat.reduceLeDiff, Nat.reduceAdd, Nat.reduceMul, Nat.reduceSub, reduceCtorEq, Int.reduceToNat, Int.reduceLT, Int.reduceLE, Int.reduceEq, Int.reduceNe, Int.reduceBEq, Nat.reduceBEq, Int.reduceBNe, Nat.reduceBNe, Int.reduceAdd, Int.reduceSub, Int.reduceMul, Int.reduceNeg]
  refine (hR _ (t2.add h_b9)).mono ?_; rintro _ _ ⟨rfl, rfl⟩
  simp (dsimp := false) (maxSteps := 4000000) only [hn_b9, hr_b9, go_sem, ↓reduceIte, Nat.reduceEqDiff, Nat.reduceLT, Nat.reduceLeDiff, Nat.reduceAdd, Nat.reduceMul, Nat.reduceSub, reduceCtorEq, Int.reduceToNat, Int.reduceLT, Int.reduceLE, Int.reduceEq, Int.reduceNe, Int.reduceBEq, Nat.reduceBEq, Int.reduceBNe, Nat.reduceBNe, Int.reduceAdd, Int.reduceSub, Int.reduceMul, Int.reduceNeg]
  refine AllB.mk fun b11 h_b11 => ?_; have hn_b11 := h_b11; (try simp only [fresh_add, fresh_set, ne_eq] at hn_b11); have hr_b11 := hn_b11; (try simp only [@eq_comm Nat b11] at hr_b11); simp (dsimp := false) (maxSteps := 4000000) only [hn_b9, hr_b9, hn_b11, hr_b11, go_sem, ↓reduceIte, Nat.reduceEqDiff, Nat.reduceLT, Nat.reduceLeDiff, Nat.reduceAdd, Nat.reduceMul, Nat.reduceSub, reduceCtorEq, Int.reduceToNat, Int.reduceLT, Int.reduceLE, Int.reduceEq, Int.reduceNe, Int.reduceBEq, Nat.reduceBEq, Int.reduceBNe, Nat.reduceBNe, Int.reduceAdd, Int.reduceSub, Int.reduceMul, Int.reduceNeg]
  have nr_r2 := And.intro (h_b9.ne_row r2) (hn_b11.2.ne_row r2)
  have c1 := fun (kk : ABlk) (k : Value → Prop) => cnv_bytes (P := Try.prog) (k := k) Try.underlying44 Try.underlying5 Try.underlying9 ((s1.add h_b9).add (k := kk) h_b11) rfl
  have c2 := fun (kk : ABlk) (k : Value → Prop) => cnv_bytes (P := Try.prog) (k := k) Try.underlying44 Try.underlying5 Try.underlying9 ((s2.add h_b9).add (k := kk) h_b11) rfl
  refine AWp.gen [.ch, .pu, .rd, .ch, .rd, .ch, .pu, .pu, .pu, .pu, .rd, .pu, .rd, .pu, .pu, .pu, .pu, .pu, .pu, .pu, .pu, .rd, .rd, .pu, .pu, .pu, .pu, .pu, .pu, .pu, .pu] [0, 1, 3, 7, 3, 31, 63, 127, 255, 511, 1023, 511, 2559, 8191, 16383, 32767, 65535, 65535, 262143, 524287, 1048575, 2097151, 2097151, 8388607, 16777215, 33554431, 67108863, 67108863, 268435455, 536870911, 1073741823] 6 (_) mixed (by kernel_rfl) (AH.le_refl _) ?_
  simp (dsimp := false) (maxSteps := 4000000) only [hn_b9, hr_b9, hn_b11, hr_b11, go_sem, ↓reduceIte, Nat.reduceEqDiff, Nat.reduceLT, Nat.reduceLeDiff, Nat.reduceAdd, Nat.reduceMul, Nat.reduceSub, reduceCtorEq, Int.reduceToNat, Int.reduceLT, Int.reduceLE, Int.reduceEq, Int.reduceNe, Int.reduceBEq, Nat.reduceBEq, Int.reduceBNe, Nat.reduceBNe, Int.reduceAdd, Int.reduceSub, Int.reduceMul, Int.reduceNeg]
  refine (awake_c _).mono ?_; rintro _ _ ⟨rfl, rfl⟩
  simp (dsimp := false) (maxSteps := 4000000) only [AH.le_refl, r2, nr_r2, hn_b9, hr_b9, hn_b11, hr_b11, go_sem, ↓reduceIte, Nat.reduceEqDiff, Nat.reduceLT, Nat.reduceLeDiff, Nat.reduceAdd, Nat.reduceMul, Nat.reduceSub, reduceCtorEq, Int.reduceToNat, Int.reduceLT, Int.reduceLE, Int.reduceEq, Int.reduceNe, Int.reduceBEq, Nat.reduceBEq, Int.reduceBNe, Nat.reduceBNe, Int.reduceAdd, Int.reduceSub, Int.reduceMul, Int.reduceNeg]
  refine (Good_c i k n f r a b c d y _).mono ?_; rintro _ _ ⟨rfl, rfl⟩
  simp (dsimp := false) (maxSteps := 4000000) only [AH.le_refl, r2, nr_r2, hn_b9, hr_b9, hn_b11, hr_b11, go_sem, ↓reduceIte, Nat.reduceEqDiff, Nat.reduceLT, Nat.reduceLeDiff, Nat.reduceAdd, Nat.reduceMul, Nat.reduceSub, reduceCtorEq, Int.reduceToNat, Int.reduceLT, Int.reduceLE, Int.reduceEq, Int.reduceNe, Int.reduceBEq, Nat.reduceBEq, Int.reduceBNe, Nat.reduceBNe, Int.reduceAdd, Int.reduceSub, Int.reduceMul, Int.reduceNeg]
  refine (RefGood_c i k n f r a b c d y _).mono ?_; rintro _ _ ⟨rfl, rfl⟩
  simp (dsimp := false) (maxSteps := 4000000) only [AH.le_refl, r2, nr_r2, c1, c2, hn_b9, hr_b9, hn_b11, hr_b11, go_sem, ↓reduceIte, Nat.reduceEqDiff, Nat.reduceLT, Nat.reduceLeDiff, Nat.reduceAdd, Nat.reduceMul, Nat.reduceSub, reduceCtorEq, Int.reduceToNat, Int.reduceLT, Int.reduceLE, Int.reduceEq, Int.reduceNe, Int.reduceBEq, Nat.reduceBEq, Int.reduceBNe, Nat.reduceBNe, Int.reduceAdd, Int.reduceSub, Int.reduceMul, Int.reduceNeg]
  exact ⟨H, AH.le_add (AH.le_add hH2 h_b9.2) h_b11.2, rfl⟩
theorem ReqAnswers_c (i e a b c d : Int) (wa : 0 ≤ a ∧ a < 256) (wb : 0 ≤ b ∧ b < 256) (wc : 0 ≤ c ∧ c < 256) (wd : 0 ≤ d ∧ d < 256) (B : List Int) (base : Option Addr) (cap : Nat) (H : AH) (hs : SlcIn H 1 base cap (B.map encB)) (hB : Bts B) :
    ACalls Try.prog 5 #[rv i e a b c d, .slice base B.length cap] H (fun v H' => v = .bool true ∧ H = H') := by
  have hT := fun A (h : SlcIn A 1 base cap (B.map encB)) => Read_c B base cap A h hB
  have hR := fun A (h : SlcIn A 1 base cap (B.map encB)) => RefRead_c B base cap A h hB
  generalize ReadX B = X at hT hR
  generalize ReadE B = E at hT hR
  obtain ⟨x0, x1, x2, x3, x4, x5⟩ := X
  simp only [Y.v, rv] at hT hR
  unfold rv
  refine ACalls.enter2 Try.func5 rfl Try.ntmps5 Try.results5 (by simp) ?_; simp (dsimp := false) (maxSteps := 4000000) only [go_sem, ↓reduceIte, Nat.reduceEqDiff, Nat.reduceLT, Nat.reduceLeDiff, Nat.reduceAdd, Nat.reduceMul, Nat.reduceSub, reduceCtorEq, Int.reduceToNat, Int.reduceLT, Int.reduceLE, Int.reduceEq, Int.reduceNe, Int.reduceBEq, Nat.reduceBEq, Int.reduceBNe, Nat.reduceBNe, Int.reduceAdd, Int.reduceSub, Int.reduceMul, Int.reduceNeg]
  refine AllB.mk fun b2 h_b2 => ?_; have hn_b2 := h_b2; (try simp only [fresh_add, fresh_set, ne_eq] at hn_b2); have hr_b2 := hn_b2; (try simp only [@eq_comm Nat b2] at hr_b2); simp (dsimp := false) (maxSteps := 4000000) only [hn_b2, hr_b2, go_sem, ↓reduceIte, Nat.reduceEqDiff, Nat.reduceLT, Nat.reduceLeDiff, Nat.reduceAdd, Nat.reduceMul, Nat.reduceSub, reduceCtorEq, Int.reduceToNat, Int.reduceLT, Int.reduceLE, Int.reduceEq, Int.reduceNe, Int.reduceBEq, Nat.reduceBEq, Int.reduceBNe, Nat.reduceBNe, Int.reduceAdd, Int.reduceSub, Int.reduceMul, Int.reduceNeg]
  refine (Answer_c i e a b c d _).mono ?_; rintro _ A1 ⟨p1, q1, rfl, hO1, hK1⟩
  have m1 : A1.find b2 = some (ABlk.cells [.int .i64 i, .int .i64 e, .int .u8 a, .int .u8 b, .int .u8 c, .int .u8 d] 56 6) := hK1.find (fun h => h) (by (show AH.find _ _ = _; simp only [find_add_self, find_add_ne, find_fresh, fresh_add, ne_eq, not_false_eq_true, true_and, and_true, and_self, hn_b2, hr_b2]))
  have hH1 : H.le A1 := AH.le_trans (AH.le_add (AH.le_refl _) ((by simp only [fresh_add, fresh_set, ne_eq, hn_b2, not_false_eq_true, and_self] : Fresh _ b2).2)) hK1.all
  have t1 := (hs.add h_b2).keep hK1 fun _ _ h => h
  have r1 : A1.row b2 0 6 = some [.int .i64 i, .int .i64 e, .int .u8 a, .int .u8 b, .int .u8 c, .int .u8 d] := row_find m1 (by simp)
  
  simp (dsimp := false) (maxSteps := 4000000) only [r1, go_sem, ↓reduceIte, Nat.reduceEqDiff, Nat.reduceLT, Nat.reduceLeDiff, Nat.reduceAdd, Nat.reduceMul, Nat.reduceSub, reduceCtorEq, Int.reduceToNat, Int.reduceLT, Int.reduceLE, Int.reduceEq, Int.reduceNe, Int.reduceBEq, Nat.reduceBEq, Int.reduceBNe, Nat.reduceBNe, Int.reduceAdd, Int.reduceSub, Int.reduceMul, Int.reduceNeg]
  refine (RefAnswer_c i e a b c d _).mono ?_; rintro _ A2 ⟨p2, q2, rfl, hO2, hK2⟩
  have hH2 : H.le A2 := AH.le_trans hH1 hK2.all
  have t2 := t1.keep hK2 fun _ _ h => h
  have s1 := hO1.slc.keep hK2 fun _ _ h => h
  have s2 := hO2.slc
  clear m1 hH1 t1 r1 hO1 hK1 hO2 hK2
  simp (dsimp := false) (maxSteps := 4000000) only [go_sem, ↓reduceIte, Nat.reduceEqDiff, Nat.reduceLT, Nat.reduceLeDiff, Nat.reduceAdd, Nat.reduceMul, Nat.reduceSub, reduceCtorEq, Int.reduceToNat, Int.reduceLT, Int.reduceLE, Int.reduceEq, Int.reduceNe, Int.reduceBEq, Nat.reduceBEq, Int.reduceBNe, Nat.reduceBNe, Int.reduceAdd, Int.reduceSub, Int.reduceMul, Int.reduceNeg]
  refine (hT _ t2).mono ?_; rintro _ _ ⟨rfl, rfl⟩
  simp (dsimp := false) (maxSteps := 4000000) only [go_sem, ↓reduceIte, Nat.reduceEqDiff, Nat.reduceLT, Nat.reduceLeDiff, Nat.reduceAdd, Nat.reduceMul, Nat.reduceSub, reduceCtorEq, Int.reduceToNat, Int.reduceLT, Int.reduceLE, Int.reduceEq, Int.reduceNe, Int.reduceBEq, Nat.reduceBEq, Int.reduceBNe, Nat.reduceBNe, Int.reduceAdd, Int.reduceSub, Int.reduceMul, Int.reduceNeg]
  refine AllB.mk fun b9 h_b9 => ?_; have hn_b9 := h_b9; (try simp only [fresh_add, fresh_set, ne_eq] at hn_b9); have hr_b9 := hn_b9; (try simp only [@eq_comm Nat b9] at hr_b9); simp (dsimp := false) (maxSteps := 4000000) only [hn_b9, hr_b9, go_sem, ↓reduceIte, Nat.reduceEqDiff, Nat.reduceLT, Nat.reduceLeDiff, Nat.reduceAdd, Nat.reduceMul, Nat.reduceSub, reduceCtorEq, Int.reduceToNat, Int.reduceLT, Int.reduceLE, Int.reduceEq, Int.reduceNe, Int.reduceBEq, Nat.reduceBEq, Int.reduceBNe, Nat.reduceBNe, Int.reduceAdd, Int.reduceSub, Int.reduceMul, Int.reduceNeg]
  refine (hR _ (t2.add h_b9)).mono ?_; rintro _ _ ⟨rfl, rfl⟩
  simp (dsimp := false) (maxSteps := 4000000) only [hn_b9, hr_b9, go_sem, ↓reduceIte, Nat.reduceEqDiff, Nat.reduceLT, Nat.reduceLeDiff, Nat.reduceAdd, Nat.reduceMul, Nat.reduceSub, reduceCtorEq, Int.reduceToNat, Int.reduceLT, Int.reduceLE, Int.reduceEq, Int.reduceNe, Int.reduceBEq, Nat.reduceBEq, Int.reduceBNe, Nat.reduceBNe, Int.reduceAdd, Int.reduceSub, Int.reduceMul, Int.reduceNeg]
  refine AllB.mk fun b11 h_b11 => ?_; have hn_b11 := h_b11; (try simp only [fresh_add, fresh_set, ne_eq] at hn_b11); have hr_b11 := hn_b11; (try simp only [@eq_comm Nat b11] at hr_b11); simp (dsimp := false) (maxSteps := 4000000) only [hn_b9, hr_b9, hn_b11, hr_b11, go_sem, ↓reduceIte, Nat.reduceEqDiff, Nat.reduceLT, Nat.reduceLeDiff, Nat.reduceAdd, Nat.reduceMul, Nat.reduceSub, reduceCtorEq, Int.reduceToNat, Int.reduceLT, Int.reduceLE, Int.reduceEq, Int.reduceNe, Int.reduceBEq, Nat.reduceBEq, Int.reduceBNe, Nat.reduceBNe, Int.reduceAdd, Int.reduceSub, Int.reduceMul, Int.reduceNeg]
  have c1 := fun (kk : ABlk) (k : Value → Prop) => cnv_bytes (P := Try.prog) (k := k) Try.underlying44 Try.underlying5 Try.underlying9 ((s1.add h_b9).add (k := kk) h_b11) rfl
  have c2 := fun (kk : ABlk) (k : Value → Prop) => cnv_bytes (P := Try.prog) (k := k) Try.underlying44 Try.underlying5 Try.underlying9 ((s2.add h_b9).add (k := kk) h_b11) rfl
  refine (awake_c _).mono ?_; rintro _ _ ⟨rfl, rfl⟩
  simp (dsimp := false) (maxSteps := 4000000) only [c1, c2, hn_b9, hr_b9, hn_b11, hr_b11, go_sem, ↓reduceIte, Nat.reduceEqDiff, Nat.reduceLT, Nat.reduceLeDiff, Nat.reduceAdd, Nat.reduceMul, Nat.reduceSub, reduceCtorEq, Int.reduceToNat, Int.reduceLT, Int.reduceLE, Int.reduceEq, Int.reduceNe, Int.reduceBEq, Nat.reduceBEq, Int.reduceBNe, Nat.reduceBNe, Int.reduceAdd, Int.reduceSub, Int.reduceMul, Int.reduceNeg]
  exact ⟨H, AH.le_add (AH.le_add hH2 h_b9.2) h_b11.2, rfl⟩
theorem ReqPuts_l (i k n f r a : Int) (wa : (Lit.int .u8 a).wf = true) (b : Int) (wb : (Lit.int .u8 b).wf = true) (c : Int) (wc : (Lit.int .u8 c).wf = true) (d : Int) (wd : (Lit.int .u8 d).wf = true) (y : Int) (B : List Int) (base : Option Addr) (cap : Nat) (H : AH) (hs : SlcIn H 1 base cap (B.map encB)) (hw : ∀ s ∈ B, (Lit.int .u8 s).wf = true) :
    ACalls Try.prog 4 #[qv i k n f r a b c d y, .slice base B.length cap] H (fun v H' => v = .bool true ∧ H = H') := ReqPuts_c i k n f r a b c d y (byte_wf wa) (byte_wf wb) (byte_wf wc) (byte_wf wd) B base cap H hs fun s hx => byte_wf (hw s hx)
theorem ReqAnswers_l (i e a : Int) (wa : (Lit.int .u8 a).wf = true) (b : Int) (wb : (Lit.int .u8 b).wf = true) (c : Int) (wc : (Lit.int .u8 c).wf = true) (d : Int) (wd : (Lit.int .u8 d).wf = true) (B : List Int) (base : Option Addr) (cap : Nat) (H : AH) (hs : SlcIn H 1 base cap (B.map encB)) (hw : ∀ s ∈ B, (Lit.int .u8 s).wf = true) :
    ACalls Try.prog 5 #[rv i e a b c d, .slice base B.length cap] H (fun v H' => v = .bool true ∧ H = H') := ReqAnswers_c i e a b c d (byte_wf wa) (byte_wf wb) (byte_wf wc) (byte_wf wd) B base cap H hs fun s hx => byte_wf (hw s hx)
end Go.Proofs.Ytgikjbfpckjkoaa.Req
