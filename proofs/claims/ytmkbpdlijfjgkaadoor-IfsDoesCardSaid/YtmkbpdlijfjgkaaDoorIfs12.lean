/- ifs: the fixed fact. -/
import Derived.Test.YtmkbpdlijfjgkaaDoorIfs11
namespace Go.Proofs.YtmkbpdlijfjgkaaDoor.Ifs
set_option linter.unusedSimpArgs false
set_option linter.unusedVariables false
open Go Go.AX Go.Proofs Ty Go.Proofs.YtmkbpdlijfjgkaaDoor.File Go.Proofs.YtmkbpdlijfjgkaaDoor.Err
set_option maxHeartbeats 4000000
set_option maxRecDepth 10000

def F1 : Fl := (2, newR 2 3)
def X1 : List Nf := addX [] 7 F1
def V9 : Rc := (9, 0, 0, 0)
def X2 : List Nf := doX X1 1 7 2 V9
theorem RcOk.zr : RcOk zr := ⟨by decide, by decide, by decide, by decide⟩
theorem ok1 : OkX X1 := OkX.nil.add 7 F1 (by unfold RcOk; decide +kernel)
theorem ok2 : OkX X2 := ok1.do 1 7 2 ⟨by decide, by decide, by decide, by decide⟩
theorem awake_c (H : AH) (hE : ErrT H.w0) : ACalls Tryd.prog 18 #[] H (fun v H' => v = .bool true ∧ H = H') := by
  refine ACalls.enter2 Tryd.func18 rfl Tryd.ntmps18 Tryd.results18 (by simp) ?_; simp (dsimp := false) (maxSteps := 4000000) only [enc_len, enc_scal, lput_enc, take_enc, go_sem, ↓reduceIte, Nat.reduceEqDiff, Nat.reduceLT, Nat.reduceLeDiff, Nat.reduceAdd, Nat.reduceMul, Nat.reduceSub, reduceCtorEq, Int.reduceToNat, Int.reduceLT, Int.reduceLE, Int.reduceEq, Int.reduceNe, Int.reduceBEq, Nat.reduceBEq, Int.reduceBNe, Nat.reduceBNe, Int.reduceAdd, Int.reduceSub, Int.reduceMul, Int.reduceNeg]
  refine (New_c H).mono ?_
  rintro _ A0 ⟨b, ft0, rfl, hs0, hK0, hf0⟩
  simp (dsimp := false) (maxSteps := 4000000) only [enc_len, enc_scal, lput_enc, take_enc, go_sem, ↓reduceIte, Nat.reduceEqDiff, Nat.reduceLT, Nat.reduceLeDiff, Nat.reduceAdd, Nat.reduceMul, Nat.reduceSub, reduceCtorEq, Int.reduceToNat, Int.reduceLT, Int.reduceLE, Int.reduceEq, Int.reduceNe, Int.reduceBEq, Nat.reduceBEq, Int.reduceBNe, Nat.reduceBNe, Int.reduceAdd, Int.reduceSub, Int.reduceMul, Int.reduceNeg]
  refine (RefNew_c 2 3 (by unfold okNew; decide) _).mono ?_
  rintro _ A1 ⟨fb, fc, rfl, hO1, hK1⟩
  have hs1 := hs0.keep hK1 fun _ _ h => h
  have hw1 : A1.w0 = H.w0 := (hK0.trans hK1).w0
  unfold fv
  simp (dsimp := false) (maxSteps := 4000000) only [enc_len, enc_scal, lput_enc, take_enc, go_sem, ↓reduceIte, Nat.reduceEqDiff, Nat.reduceLT, Nat.reduceLeDiff, Nat.reduceAdd, Nat.reduceMul, Nat.reduceSub, reduceCtorEq, Int.reduceToNat, Int.reduceLT, Int.reduceLE, Int.reduceEq, Int.reduceNe, Int.reduceBEq, Nat.reduceBEq, Int.reduceBNe, Nat.reduceBNe, Int.reduceAdd, Int.reduceSub, Int.reduceMul, Int.reduceNeg]
  refine AllB.mk fun b2 h_b2 => ?_; have hn_b2 := h_b2; (try simp only [fresh_add, fresh_set, ne_eq] at hn_b2); have hr_b2 := hn_b2; (try simp only [@eq_comm Nat b2] at hr_b2); simp (dsimp := false) (maxSteps := 4000000) only [enc_len, enc_scal, lput_enc, take_enc, hn_b2, hr_b2, go_sem, ↓reduceIte, Nat.reduceEqDiff, Nat.reduceLT, Nat.reduceLeDiff, Nat.reduceAdd, Nat.reduceMul, Nat.reduceSub, reduceCtorEq, Int.reduceToNat, Int.reduceLT, Int.reduceLE, Int.reduceEq, Int.reduceNe, Int.reduceBEq, Nat.reduceBEq, Int.reduceBNe, Nat.reduceBNe, Int.reduceAdd, Int.reduceSub, Int.reduceMul, Int.reduceNeg]
  have hs2 := hs1.keep (Keep.add h_b2 (k := .cells [.int .i64 2, .slice fb 4 fc] 35 2) (ex := fun _ => False)) fun _ _ h => h
  have k2 : Keep H (A1.add b2 (.cells [.int .i64 2, .slice fb 4 fc] 35 2)) fun _ => False := (hK0.trans hK1).nw h_b2
  have hsl := hO1.slc.add h_b2 (k := .cells [.int .i64 2, .slice fb 4 fc] 35 2)
  refine (Add_c hs2 7 2 (newR 2 3) fb fc hsl).mono ?_
  rintro _ A3 ⟨ft3, rfl, hs3, hK3, hf3⟩
  have e3 : addE [] 7 (2, newR 2 3) = 0 := by decide +kernel
  change StAt A3 b X1 0 ft3 at hs3
  rw [e3]
  have g0 : ∀ x, ft0 x → Fresh H x := hf0
  have k3 : Keep H A3 fun _ => False := k2.ow hK3 hf0
  have g3 : ∀ x, ft3 x → Fresh H x := fun x hx => (hf3 x hx).elim (hf0 x) fun h => k2.fr h
  clear hK3 hf3 hsl hs2 hs1 hs0
  
  simp (dsimp := false) (maxSteps := 4000000) only [enc_len, enc_scal, lput_enc, take_enc, go_sem, ↓reduceIte, Nat.reduceEqDiff, Nat.reduceLT, Nat.reduceLeDiff, Nat.reduceAdd, Nat.reduceMul, Nat.reduceSub, reduceCtorEq, Int.reduceToNat, Int.reduceLT, Int.reduceLE, Int.reduceEq, Int.reduceNe, Int.reduceBEq, Nat.reduceBEq, Int.reduceBNe, Nat.reduceBNe, Int.reduceAdd, Int.reduceSub, Int.reduceMul, Int.reduceNeg]
  refine (Do_c (by rw [k3.w0]; exact hE) hs3 ok1 1 7 2 V9).mono ?_
  rintro _ A4 ⟨ft4, rfl, hs4, hK4, hf4⟩
  have e4 : doV X1 1 7 2 V9 = .tuple #[.agg (enc V9).toArray, .int .i64 0] := by
    rw [doV, show doW X1 1 7 2 V9 = V9 by decide +kernel, show doE X1 1 7 2 = 0 by decide +kernel]
  have d4 : doD X1 1 7 2 0 = 0 := by decide +kernel
  rw [d4] at hs4
  change StAt A4 b X2 0 ft4 at hs4
  rw [e4]
  have k4 : Keep H A4 fun _ => False := k3.ow hK4 g3
  have g4 : ∀ x, ft4 x → Fresh H x := fun x hx => (hf4 x hx).elim (g3 x) fun h => k3.fr h
  clear hK4 hf4 hs3
  simp (dsimp := false) (maxSteps := 4000000) only [enc_len, enc_scal, lput_enc, take_enc, go_sem, ↓reduceIte, Nat.reduceEqDiff, Nat.reduceLT, Nat.reduceLeDiff, Nat.reduceAdd, Nat.reduceMul, Nat.reduceSub, reduceCtorEq, Int.reduceToNat, Int.reduceLT, Int.reduceLE, Int.reduceEq, Int.reduceNe, Int.reduceBEq, Nat.reduceBEq, Int.reduceBNe, Nat.reduceBNe, Int.reduceAdd, Int.reduceSub, Int.reduceMul, Int.reduceNeg]
  refine AllB.mk fun b5 h_b5 => ?_; have hn_b5 := h_b5; (try simp only [fresh_add, fresh_set, ne_eq] at hn_b5); have hr_b5 := hn_b5; (try simp only [@eq_comm Nat b5] at hr_b5); simp (dsimp := false) (maxSteps := 4000000) only [enc_len, enc_scal, lput_enc, take_enc, hn_b5, hr_b5, go_sem, ↓reduceIte, Nat.reduceEqDiff, Nat.reduceLT, Nat.reduceLeDiff, Nat.reduceAdd, Nat.reduceMul, Nat.reduceSub, reduceCtorEq, Int.reduceToNat, Int.reduceLT, Int.reduceLE, Int.reduceEq, Int.reduceNe, Int.reduceBEq, Nat.reduceBEq, Int.reduceBNe, Nat.reduceBNe, Int.reduceAdd, Int.reduceSub, Int.reduceMul, Int.reduceNeg]
  obtain ⟨A5, hA5⟩ : ∃ A5, A4.add b5 (.cells (enc V9) 32 4) = A5 := ⟨_, rfl⟩
  have k5 : Keep H A5 fun _ => False := hA5 ▸ k4.nw h_b5
  have hs5 : StAt A5 b X2 0 ft4 := hA5 ▸ hs4.keep (Keep.add h_b5 (ex := fun _ => False)) fun _ _ h => h
  have n5 : ¬ ft4 b5 := hs4.fresh h_b5
  have f5 : A5.find b5 = some (.cells (enc V9) 32 4) := by rw [← hA5, find_add_self]
  rw [hA5]
  clear hA5 hs4 h_b5 hn_b5 hr_b5
  
  refine (Do_c (by rw [k5.w0]; exact hE) hs5 ok2 0 7 2 zr).mono ?_
  rintro _ A6 ⟨ft6, rfl, hs6, hK6, hf6⟩
  have e6 : doV X2 0 7 2 zr = .tuple #[.agg (enc zr).toArray, .int .i64 5] := by
    rw [doV, show doW X2 0 7 2 zr = zr by decide +kernel, show doE X2 0 7 2 = 5 by decide +kernel]
  have d6 : doD X2 0 7 2 0 = 1 := by decide +kernel
  have x6 : doX X2 0 7 2 zr = X2 := by rw [doX, if_neg (by decide +kernel)]
  rw [d6, x6] at hs6
  rw [e6]
  have k6 : Keep H A6 fun _ => False := k5.ow hK6 g4
  have g6 : ∀ x, ft6 x → Fresh H x := fun x hx => (hf6 x hx).elim (g4 x) fun h => k5.fr h
  have n6 : ¬ ft6 b5 := fun hx => (hf6 _ hx).elim n5 fun h => h.ne_find f5 rfl
  have f6 := hK6.find n5 f5
  clear hK6 hf6 hs5 f5 n5
  simp (dsimp := false) (maxSteps := 4000000) only [enc_len, enc_scal, lput_enc, take_enc, go_sem, ↓reduceIte, Nat.reduceEqDiff, Nat.reduceLT, Nat.reduceLeDiff, Nat.reduceAdd, Nat.reduceMul, Nat.reduceSub, reduceCtorEq, Int.reduceToNat, Int.reduceLT, Int.reduceLE, Int.reduceEq, Int.reduceNe, Int.reduceBEq, Nat.reduceBEq, Int.reduceBNe, Nat.reduceBNe, Int.reduceAdd, Int.reduceSub, Int.reduceMul, Int.reduceNeg]
  refine AllB.mk fun b7 h_b7 => ?_; have hn_b7 := h_b7; (try simp only [fresh_add, fresh_set, ne_eq] at hn_b7); have hr_b7 := hn_b7; (try simp only [@eq_comm Nat b7] at hr_b7); simp (dsimp := false) (maxSteps := 4000000) only [enc_len, enc_scal, lput_enc, take_enc, hn_b7, hr_b7, go_sem, ↓reduceIte, Nat.reduceEqDiff, Nat.reduceLT, Nat.reduceLeDiff, Nat.reduceAdd, Nat.reduceMul, Nat.reduceSub, reduceCtorEq, Int.reduceToNat, Int.reduceLT, Int.reduceLE, Int.reduceEq, Int.reduceNe, Int.reduceBEq, Nat.reduceBEq, Int.reduceBNe, Nat.reduceBNe, Int.reduceAdd, Int.reduceSub, Int.reduceMul, Int.reduceNeg]
  obtain ⟨A7, hA7⟩ : ∃ A7, A6.add b7 (.cells (enc zr) 32 4) = A7 := ⟨_, rfl⟩
  have k7 : Keep H A7 fun _ => False := hA7 ▸ k6.nw h_b7
  have hs7 : StAt A7 b X2 1 ft6 := hA7 ▸ hs6.keep (Keep.add h_b7 (ex := fun _ => False)) fun _ _ h => h
  have f7 : A7.find b5 = some (.cells (enc V9) 32 4) := by rw [← hA7, find_add, if_neg (fun e => h_b7.ne_find f6 e.symm)]; exact f6
  rw [hA7]
  clear hA7 hs6 f6 h_b7 hn_b7 hr_b7
  
  refine (Do_c (by rw [k7.w0]; exact hE) hs7 ok2 0 8 0 zr).mono ?_
  rintro _ A8 ⟨ft8, rfl, hs8, hK8, hf8⟩
  have e8 : doV X2 0 8 0 zr = .tuple #[.agg (enc zr).toArray, .int .i64 3] := by
    rw [doV, show doW X2 0 8 0 zr = zr by decide +kernel, show doE X2 0 8 0 = 3 by decide +kernel]
  have d8 : doD X2 0 8 0 1 = 1 := by decide +kernel
  have x8 : doX X2 0 8 0 zr = X2 := by rw [doX, if_neg (by decide +kernel)]
  rw [d8, x8] at hs8
  rw [e8]
  have k8 : Keep H A8 fun _ => False := k7.ow hK8 g6
  have g8 : ∀ x, ft8 x → Fresh H x := fun x hx => (hf8 x hx).elim (g6 x) fun h => k7.fr h
  have n8 : ¬ ft8 b5 := fun hx => (hf8 _ hx).elim n6 fun h => h.ne_find f7 rfl
  have f8 := hK8.find n6 f7
  clear hK8 hf8 hs7 f7 n6
  simp (dsimp := false) (maxSteps := 4000000) only [enc_len, enc_scal, lput_enc, take_enc, go_sem, ↓reduceIte, Nat.reduceEqDiff, Nat.reduceLT, Nat.reduceLeDiff, Nat.reduceAdd, Nat.reduceMul, Nat.reduceSub, reduceCtorEq, Int.reduceToNat, Int.reduceLT, Int.reduceLE, Int.reduceEq, Int.reduceNe, Int.reduceBEq, Nat.reduceBEq, Int.reduceBNe, Nat.reduceBNe, Int.reduceAdd, Int.reduceSub, Int.reduceMul, Int.reduceNeg]
  refine AllB.mk fun b9 h_b9 => ?_; have hn_b9 := h_b9; (try simp only [fresh_add, fresh_set, ne_eq] at hn_b9); have hr_b9 := hn_b9; (try simp only [@eq_comm Nat b9] at hr_b9); simp (dsimp := false) (maxSteps := 4000000) only [enc_len, enc_scal, lput_enc, take_enc, hn_b9, hr_b9, go_sem, ↓reduceIte, Nat.reduceEqDiff, Nat.reduceLT, Nat.reduceLeDiff, Nat.reduceAdd, Nat.reduceMul, Nat.reduceSub, reduceCtorEq, Int.reduceToNat, Int.reduceLT, Int.reduceLE, Int.reduceEq, Int.reduceNe, Int.reduceBEq, Nat.reduceBEq, Int.reduceBNe, Nat.reduceBNe, Int.reduceAdd, Int.reduceSub, Int.reduceMul, Int.reduceNeg]
  have hs9 : StAt (A8.add b9 (.cells (enc zr) 32 4)) b X2 1 ft8 := hs8.keep (Keep.add h_b9 (ex := fun _ => False)) fun _ _ h => h
  refine (Get_c hs9 ok2 7 2).mono ?_; rintro _ _ ⟨rfl, rfl⟩
  rw [show getW X2 7 2 = some V9 by decide +kernel]
  unfold getV
  simp (dsimp := false) (maxSteps := 4000000) only [enc_len, enc_scal, lput_enc, take_enc, hn_b9, hr_b9, go_sem, ↓reduceIte, Nat.reduceEqDiff, Nat.reduceLT, Nat.reduceLeDiff, Nat.reduceAdd, Nat.reduceMul, Nat.reduceSub, reduceCtorEq, Int.reduceToNat, Int.reduceLT, Int.reduceLE, Int.reduceEq, Int.reduceNe, Int.reduceBEq, Nat.reduceBEq, Int.reduceBNe, Nat.reduceBNe, Int.reduceAdd, Int.reduceSub, Int.reduceMul, Int.reduceNeg]
  refine AllB.mk fun b11 h_b11 => ?_; have hn_b11 := h_b11; (try simp only [fresh_add, fresh_set, ne_eq] at hn_b11); have hr_b11 := hn_b11; (try simp only [@eq_comm Nat b11] at hr_b11); simp (dsimp := false) (maxSteps := 4000000) only [enc_len, enc_scal, lput_enc, take_enc, hn_b9, hr_b9, hn_b11, hr_b11, go_sem, ↓reduceIte, Nat.reduceEqDiff, Nat.reduceLT, Nat.reduceLeDiff, Nat.reduceAdd, Nat.reduceMul, Nat.reduceSub, reduceCtorEq, Int.reduceToNat, Int.reduceLT, Int.reduceLE, Int.reduceEq, Int.reduceNe, Int.reduceBEq, Nat.reduceBEq, Int.reduceBNe, Nat.reduceBNe, Int.reduceAdd, Int.reduceSub, Int.reduceMul, Int.reduceNeg]
  obtain ⟨A9, hA9⟩ : ∃ A9, (A8.add b9 (.cells (enc zr) 32 4)).add b11 (.cells (enc V9) 32 4) = A9 := ⟨_, rfl⟩
  have k9 : Keep H A9 fun _ => False := hA9 ▸ (k8.nw h_b9).nw h_b11
  have hsA : StAt A9 b X2 1 ft8 := hA9 ▸ hs9.keep (Keep.add h_b11 (ex := fun _ => False)) fun _ _ h => h
  have m1 : b5 ≠ b9 := fun e => h_b9.ne_find f8 e.symm
  have m2 : b5 ≠ b11 := fun e => hn_b11.2.ne_find f8 e.symm
  have n11 : ¬ ft8 b11 := hs8.fresh hn_b11.2
  have f9 : A9.find b5 = some (.cells (enc V9) 32 4) := by rw [← hA9, find_add, if_neg m2, find_add, if_neg m1]; exact f8
  have f11 : A9.find b11 = some (.cells (enc V9) 32 4) := by rw [← hA9, find_add_self]
  rw [hA9]
  clear hA9 hs8 hs9 f8 h_b9 hn_b9 hr_b9 h_b11 hn_b11 hr_b11 m1 m2
  
  have w5 : A9.row b5 0 4 = some (enc V9) := row_find f9 (by simp [enc])
  have w11 : A9.row b11 0 4 = some (enc V9) := row_find f11 (by simp [enc])
  have eV : enc V9 = [.int .u8 9, .int .u8 0, .int .u8 0, .int .u8 0] := Eq.trans rfl rfl
  simp (dsimp := false) (maxSteps := 4000000) only [w5, w11, eV, enc_len, enc_scal, lput_enc, take_enc, go_sem, ↓reduceIte, Nat.reduceEqDiff, Nat.reduceLT, Nat.reduceLeDiff, Nat.reduceAdd, Nat.reduceMul, Nat.reduceSub, reduceCtorEq, Int.reduceToNat, Int.reduceLT, Int.reduceLE, Int.reduceEq, Int.reduceNe, Int.reduceBEq, Nat.reduceBEq, Int.reduceBNe, Nat.reduceBNe, Int.reduceAdd, Int.reduceSub, Int.reduceMul, Int.reduceNeg]
  refine (Denied_c hsA).mono ?_; rintro _ _ ⟨rfl, rfl⟩
  simp (dsimp := false) (maxSteps := 4000000) only [enc_len, enc_scal, lput_enc, take_enc, go_sem, ↓reduceIte, Nat.reduceEqDiff, Nat.reduceLT, Nat.reduceLeDiff, Nat.reduceAdd, Nat.reduceMul, Nat.reduceSub, reduceCtorEq, Int.reduceToNat, Int.reduceLT, Int.reduceLE, Int.reduceEq, Int.reduceNe, Int.reduceBEq, Nat.reduceBEq, Int.reduceBNe, Nat.reduceBNe, Int.reduceAdd, Int.reduceSub, Int.reduceMul, Int.reduceNeg]
  refine (Files_c hsA ok2).mono ?_
  rintro _ AB ⟨zb, zc, Z, rd, rfl, hZp, _, _, hKB, _⟩
  have hZl : Z.length = 1 := by have := hZp.length_eq; rw [List.length_map] at this; exact this
  have kB : Keep H AB fun _ => False := k9.trans hKB
  have hsB := hsA.keep hKB fun _ _ h => h
  have wB : AB.row b5 0 4 = some (enc V9) := row_find (hKB.find (fun h => h) f9) (by simp [enc])
  rw [eV] at wB
  simp (dsimp := false) (maxSteps := 4000000) only [hZl, wB, enc_len, enc_scal, lput_enc, take_enc, go_sem, ↓reduceIte, Nat.reduceEqDiff, Nat.reduceLT, Nat.reduceLeDiff, Nat.reduceAdd, Nat.reduceMul, Nat.reduceSub, reduceCtorEq, Int.reduceToNat, Int.reduceLT, Int.reduceLE, Int.reduceEq, Int.reduceNe, Int.reduceBEq, Nat.reduceBEq, Int.reduceBNe, Nat.reduceBNe, Int.reduceAdd, Int.reduceSub, Int.reduceMul, Int.reduceNeg]
  refine (Set_c hsB ok2 7 1 V9).mono ?_
  rintro _ AC ⟨rfl, hsC, hKC⟩
  rw [show setOk X2 7 1 = true by decide +kernel]
  have kC : Keep H AC fun _ => False := kB.ow hKC g8
  have wC : AC.row b5 0 4 = some (enc V9) := row_find (hKC.find n8 (hKB.find (fun h => h) f9)) (by simp [enc])
  rw [eV] at wC
  simp (dsimp := false) (maxSteps := 4000000) only [wC, enc_len, enc_scal, lput_enc, take_enc, go_sem, ↓reduceIte, Nat.reduceEqDiff, Nat.reduceLT, Nat.reduceLeDiff, Nat.reduceAdd, Nat.reduceMul, Nat.reduceSub, reduceCtorEq, Int.reduceToNat, Int.reduceLT, Int.reduceLE, Int.reduceEq, Int.reduceNe, Int.reduceBEq, Nat.reduceBEq, Int.reduceBNe, Nat.reduceBNe, Int.reduceAdd, Int.reduceSub, Int.reduceMul, Int.reduceNeg]
  refine (Set_c hsC (ok2.set 7 1 ⟨by decide, by decide, by decide, by decide⟩) 7 0 V9).mono ?_
  rintro _ AD ⟨rfl, hsD, hKD⟩
  rw [show setOk (setX X2 7 1 V9) 7 0 = false by decide +kernel]
  have kD : Keep H AD fun _ => False := kC.ow hKD g8
  simp (dsimp := false) (maxSteps := 4000000) only [enc_len, enc_scal, lput_enc, take_enc, go_sem, ↓reduceIte, Nat.reduceEqDiff, Nat.reduceLT, Nat.reduceLeDiff, Nat.reduceAdd, Nat.reduceMul, Nat.reduceSub, reduceCtorEq, Int.reduceToNat, Int.reduceLT, Int.reduceLE, Int.reduceEq, Int.reduceNe, Int.reduceBEq, Nat.reduceBEq, Int.reduceBNe, Nat.reduceBNe, Int.reduceAdd, Int.reduceSub, Int.reduceMul, Int.reduceNeg]
  exact ⟨H, kD.all, rfl⟩
end Go.Proofs.YtmkbpdlijfjgkaaDoor.Ifs
