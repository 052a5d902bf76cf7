/- For every input ServeOne answers true and leaves its arguments as_ they were; the package's one variable holds what the program's text lays into it: the tied card. -/
import Derived.Test.YtamlipffhimfmaaDoorMServeOne6
import Derived.Test.YtamlipffhimfmaaDoorRows
import Derived.Test.YtamlipffhimfmaaDoorCards
import Derived.Test.YtamlipffhimfmaaDoorTie
import Derived.ChangeSame
import Derived.ChangeVars
import Derived.JoinedOf
import Derived.RowKit
import Derived.RowKitTokens
import Derived.LaidLaws
import Derived.LaidHandle
import Derived.Stop.Joined
import Derived.SevenTiedAt
/- serve: the fixed fact. -/
namespace Go.Proofs.YtamlipffhimfmaaDoor.Srv
set_option linter.unusedSimpArgs false
set_option linter.unusedVariables false
open Go Go.AX Go.Proofs Ty Go.Proofs.YtamlipffhimfmaaDoor.File Go.Proofs.YtamlipffhimfmaaDoor.Ifs Go.Proofs.YtamlipffhimfmaaDoor.Err
set_option maxHeartbeats 4000000
set_option maxRecDepth 10000

theorem same_i (i j : Int) : Instr.sameNow (.int .i64) (.int .i64 i) (.int .i64 j) = some (decide (i = j)) := by
  simp only [Instr.sameNow, ite_true, Option.some.injEq]
  rw [Bool.eq_iff_iff]; simp
theorem Mp.one {H : AH} {bm : Nat} {k y : Int} (h : H.find bm = some (.amap [(.int .i64 k, .int .u8 y)])) : Mp H (.map (some bm)) (fun i => if i = k then y else 0) := by
  refine .inr ⟨bm, _, rfl, h, fun i => ?_⟩
  simp only [mlk, same_i]
  by_cases e : i = k
  · subst e
    exact .inr ⟨0, by simp⟩
  · exact .inl ⟨by simp [e], by simp [e]⟩
theorem Mp.nil {H : AH} : Mp H (.map none) (fun _ => 0) := .inl ⟨rfl, fun _ => rfl⟩
def F7 : Fl := (7, newR 7 1)
def Y1 : List Nf := addX [] 2 F7
def W12 : Rc := (1, 2, 0, 0)
def W3 : Rc := (3, 0, 0, 0)
def t0 : Int → Int := fun _ => 0
def t41 : Int → Int := fun i => if i = 4 then 1 else 0
def Y2 : List Nf := tryX 5 5 1 2 1 W12 t0 Y1
theorem yk1 : OkX Y1 := OkX.nil.add 2 F7 (by unfold RcOk; decide +kernel)
theorem yk2 : OkX Y2 := tryX_ok yk1
theorem va : askV 5 0 2 1 = .tuple #[.agg #[.int .u8 5, .int .u8 2, .int .u8 1, .int .u8 92], .int .i64 0] := by
  rw [askV, if_pos (by decide +kernel), show chk (askL 5 0 2 1) = 92 by decide +kernel]; rfl
theorem v1 : tryV 5 5 1 2 1 W12 t0 Y1 = .tuple #[.agg (enc W12).toArray, .int .i64 0] := by
  rw [tryV, if_pos (by decide +kernel), show tryW (tryQ 5 5 1 2 1 W12 t0) t0 Y1 = W12 by decide +kernel, show tryE (tryQ 5 5 1 2 1 W12 t0) t0 Y1 = 0 by decide +kernel]
theorem v2 : tryV 5 5 1 2 1 W3 t41 Y2 = .tuple #[.agg (enc zr).toArray, .int .i64 13] := by
  rw [tryV, if_pos (by decide +kernel), show tryW (tryQ 5 5 1 2 1 W3 t41) t41 Y2 = zr by decide +kernel, show tryE (tryQ 5 5 1 2 1 W3 t41) t41 Y2 = 13 by decide +kernel]
theorem v3 : tryV 5 6 0 2 1 zr t0 Y2 = .tuple #[.agg (enc zr).toArray, .int .i64 13] := by
  rw [tryV, if_pos (by decide +kernel), show tryW (tryQ 5 6 0 2 1 zr t0) t0 Y2 = zr by decide +kernel, show tryE (tryQ 5 6 0 2 1 zr t0) t0 Y2 = 13 by decide +kernel]
theorem x2 : tryX 5 5 1 2 1 W3 t41 Y2 = Y2 := by decide +kernel
theorem x3 : tryX 5 6 0 2 1 zr t0 Y2 = Y2 := by decide +kernel
theorem d1 : tryD 5 5 1 2 1 W12 t0 Y1 0 = 0 := by decide +kernel
theorem d2 : tryD 5 5 1 2 1 W3 t41 Y2 0 = 0 := by decide +kernel
theorem d3 : tryD 5 6 0 2 1 zr t0 Y2 0 = 0 := by decide +kernel
theorem gw : getW Y2 2 1 = some W12 := by decide +kernel
theorem awake_c (H : AH) (hE : ErrT H.w0) : ACalls Tryd.prog 8 #[] H (fun v H' => v = .bool true ∧ H = H') := by
  refine ACalls.enter2 Tryd.func8 rfl Tryd.ntmps8 Tryd.results8 (by simp) ?_; simp (dsimp := false) (maxSteps := 4000000) only [enc_len, enc_scal, lput_enc, take_enc, go_sem, ↓reduceIte, Nat.reduceEqDiff, Nat.reduceLT, Nat.reduceLeDiff, Nat.reduceAdd, Nat.reduceMul, Nat.reduceSub, reduceCtorEq, Int.reduceToNat, Int.reduceLT, Int.reduceLE, Int.reduceEq, Int.reduceNe, Int.reduceBEq, Nat.reduceBEq, Int.reduceBNe, Nat.reduceBNe, Int.reduceAdd, Int.reduceSub, Int.reduceMul, Int.reduceNeg]
  refine (New_c H).mono ?_
  rintro _ A0 ⟨b, ft0, rfl, hs0, hK0, hf0⟩
  simp (dsimp := false) (maxSteps := 4000000) only [enc_len, enc_scal, lput_enc, take_enc, go_sem, ↓reduceIte, Nat.reduceEqDiff, Nat.reduceLT, Nat.reduceLeDiff, Nat.reduceAdd, Nat.reduceMul, Nat.reduceSub, reduceCtorEq, Int.reduceToNat, Int.reduceLT, Int.reduceLE, Int.reduceEq, Int.reduceNe, Int.reduceBEq, Nat.reduceBEq, Int.reduceBNe, Nat.reduceBNe, Int.reduceAdd, Int.reduceSub, Int.reduceMul, Int.reduceNeg]
  refine (RefNew_c 7 1 (by unfold okNew; decide) _).mono ?_
  rintro _ A1 ⟨fb, fc, rfl, hO1, hK1⟩
  have hs1 := hs0.keep hK1 fun _ _ h => h
  unfold fv
  simp (dsimp := false) (maxSteps := 4000000) only [enc_len, enc_scal, lput_enc, take_enc, go_sem, ↓reduceIte, Nat.reduceEqDiff, Nat.reduceLT, Nat.reduceLeDiff, Nat.reduceAdd, Nat.reduceMul, Nat.reduceSub, reduceCtorEq, Int.reduceToNat, Int.reduceLT, Int.reduceLE, Int.reduceEq, Int.reduceNe, Int.reduceBEq, Nat.reduceBEq, Int.reduceBNe, Nat.reduceBNe, Int.reduceAdd, Int.reduceSub, Int.reduceMul, Int.reduceNeg]
  refine AllB.mk fun b2 h_b2 => ?_; have hn_b2 := h_b2; (try simp only [fresh_add, fresh_set, ne_eq] at hn_b2); have hr_b2 := hn_b2; (try simp only [@eq_comm Nat b2] at hr_b2); simp (dsimp := false) (maxSteps := 4000000) only [enc_len, enc_scal, lput_enc, take_enc, hn_b2, hr_b2, go_sem, ↓reduceIte, Nat.reduceEqDiff, Nat.reduceLT, Nat.reduceLeDiff, Nat.reduceAdd, Nat.reduceMul, Nat.reduceSub, reduceCtorEq, Int.reduceToNat, Int.reduceLT, Int.reduceLE, Int.reduceEq, Int.reduceNe, Int.reduceBEq, Nat.reduceBEq, Int.reduceBNe, Nat.reduceBNe, Int.reduceAdd, Int.reduceSub, Int.reduceMul, Int.reduceNeg]
  have hs2 := hs1.keep (Keep.add h_b2 (k := .cells [.int .i64 7, .slice fb 2 fc] 46 2) (ex := fun _ => False)) fun _ _ h => h
  have k2 : Keep H (A1.add b2 (.cells [.int .i64 7, .slice fb 2 fc] 46 2)) fun _ => False := (hK0.trans hK1).nw h_b2
  have hsl := hO1.slc.add h_b2 (k := .cells [.int .i64 7, .slice fb 2 fc] 46 2)
  refine (Add_c hs2 2 7 (newR 7 1) fb fc hsl).mono ?_
  rintro _ A3 ⟨ft3, rfl, hs3, hK3, hf3⟩
  have e3 : addE [] 2 (7, newR 7 1) = 0 := by decide +kernel
  change StAt A3 b Y1 0 ft3 at hs3
  rw [e3]
  have k3 : Keep H A3 fun _ => False := k2.ow hK3 hf0
  have g3 : ∀ x, ft3 x → Fresh H x := fun x hx => (hf3 x hx).elim (hf0 x) fun h => k2.fr h
  clear hK3 hf3 hsl hs2 hs1 hs0
  
  simp (dsimp := false) (maxSteps := 4000000) only [enc_len, enc_scal, lput_enc, take_enc, go_sem, ↓reduceIte, Nat.reduceEqDiff, Nat.reduceLT, Nat.reduceLeDiff, Nat.reduceAdd, Nat.reduceMul, Nat.reduceSub, reduceCtorEq, Int.reduceToNat, Int.reduceLT, Int.reduceLE, Int.reduceEq, Int.reduceNe, Int.reduceBEq, Nat.reduceBEq, Int.reduceBNe, Nat.reduceBNe, Int.reduceAdd, Int.reduceSub, Int.reduceMul, Int.reduceNeg]
  refine (Ask_c 5 0 2 1 _).mono ?_; rintro _ _ ⟨rfl, rfl⟩
  rw [va]
  simp (dsimp := false) (maxSteps := 4000000) only [enc_len, enc_scal, lput_enc, take_enc, go_sem, ↓reduceIte, Nat.reduceEqDiff, Nat.reduceLT, Nat.reduceLeDiff, Nat.reduceAdd, Nat.reduceMul, Nat.reduceSub, reduceCtorEq, Int.reduceToNat, Int.reduceLT, Int.reduceLE, Int.reduceEq, Int.reduceNe, Int.reduceBEq, Nat.reduceBEq, Int.reduceBNe, Nat.reduceBNe, Int.reduceAdd, Int.reduceSub, Int.reduceMul, Int.reduceNeg]
  refine AllB.mk fun b4 h_b4 => ?_; have hn_b4 := h_b4; (try simp only [fresh_add, fresh_set, ne_eq] at hn_b4); have hr_b4 := hn_b4; (try simp only [@eq_comm Nat b4] at hr_b4); simp (dsimp := false) (maxSteps := 4000000) only [enc_len, enc_scal, lput_enc, take_enc, hn_b4, hr_b4, go_sem, ↓reduceIte, Nat.reduceEqDiff, Nat.reduceLT, Nat.reduceLeDiff, Nat.reduceAdd, Nat.reduceMul, Nat.reduceSub, reduceCtorEq, Int.reduceToNat, Int.reduceLT, Int.reduceLE, Int.reduceEq, Int.reduceNe, Int.reduceBEq, Nat.reduceBEq, Int.reduceBNe, Nat.reduceBNe, Int.reduceAdd, Int.reduceSub, Int.reduceMul, Int.reduceNeg]
  obtain ⟨A4, hA4⟩ : ∃ A4, A3.add b4 (.cells [.int .u8 5, .int .u8 2, .int .u8 1, .int .u8 92] 25 4) = A4 := ⟨_, rfl⟩
  have k4 : Keep H A4 fun _ => False := hA4 ▸ k3.nw h_b4
  have hs4 : StAt A4 b Y1 0 ft3 := hA4 ▸ hs3.keep (Keep.add h_b4 (ex := fun _ => False)) fun _ _ h => h
  have n4 : ¬ ft3 b4 := hs3.fresh h_b4
  have f4 : A4.find b4 = some (.cells [.int .u8 5, .int .u8 2, .int .u8 1, .int .u8 92] 25 4) := by rw [← hA4, find_add_self]
  rw [hA4]
  clear hA4 hs3 h_b4 hn_b4 hr_b4
  
  refine (Try_c (by rw [k4.w0]; exact hE) hs4 yk1 5 5 1 2 1 W12 (.map none) t0 Mp.nil (fun _ h => by cases h)).mono ?_
  rintro _ A5 ⟨ft5, rfl, hs5, hK5, hf5⟩
  rw [d1] at hs5
  change StAt A5 b Y2 0 ft5 at hs5
  rw [v1]
  have k5 : Keep H A5 fun _ => False := k4.ow hK5 g3
  have g5 : ∀ x, ft5 x → Fresh H x := fun x hx => (hf5 x hx).elim (g3 x) fun h => k4.fr h
  have n5 : ¬ ft5 b4 := fun hx => (hf5 _ hx).elim n4 fun h => h.ne_find f4 rfl
  have f5 := hK5.find n4 f4
  clear hK5 hf5 hs4 f4 n4
  simp (dsimp := false) (maxSteps := 4000000) only [enc_len, enc_scal, lput_enc, take_enc, go_sem, ↓reduceIte, Nat.reduceEqDiff, Nat.reduceLT, Nat.reduceLeDiff, Nat.reduceAdd, Nat.reduceMul, Nat.reduceSub, reduceCtorEq, Int.reduceToNat, Int.reduceLT, Int.reduceLE, Int.reduceEq, Int.reduceNe, Int.reduceBEq, Nat.reduceBEq, Int.reduceBNe, Nat.reduceBNe, Int.reduceAdd, Int.reduceSub, Int.reduceMul, Int.reduceNeg]
  refine AllB.mk fun b6 h_b6 => ?_; have hn_b6 := h_b6; (try simp only [fresh_add, fresh_set, ne_eq] at hn_b6); have hr_b6 := hn_b6; (try simp only [@eq_comm Nat b6] at hr_b6); simp (dsimp := false) (maxSteps := 4000000) only [enc_len, enc_scal, lput_enc, take_enc, hn_b6, hr_b6, go_sem, ↓reduceIte, Nat.reduceEqDiff, Nat.reduceLT, Nat.reduceLeDiff, Nat.reduceAdd, Nat.reduceMul, Nat.reduceSub, reduceCtorEq, Int.reduceToNat, Int.reduceLT, Int.reduceLE, Int.reduceEq, Int.reduceNe, Int.reduceBEq, Nat.reduceBEq, Int.reduceBNe, Nat.reduceBNe, Int.reduceAdd, Int.reduceSub, Int.reduceMul, Int.reduceNeg]
  obtain ⟨A6, hA6⟩ : ∃ A6, A5.add b6 (.cells (enc W12) 26 4) = A6 := ⟨_, rfl⟩
  have k6 : Keep H A6 fun _ => False := hA6 ▸ k5.nw h_b6
  have hs6 : StAt A6 b Y2 0 ft5 := hA6 ▸ hs5.keep (Keep.add h_b6 (ex := fun _ => False)) fun _ _ h => h
  have f6 : A6.find b4 = some (.cells [.int .u8 5, .int .u8 2, .int .u8 1, .int .u8 92] 25 4) := by rw [← hA6, find_add, if_neg (fun e => h_b6.ne_find f5 e.symm)]; exact f5
  have w6 : A6.find b6 = some (.cells (enc W12) 26 4) := by rw [← hA6, find_add_self]
  have m6 : ¬ ft5 b6 := hs5.fresh h_b6
  rw [hA6]
  clear hA6 hs5 f5 h_b6 hn_b6 hr_b6
  
  refine AllB.mk fun bm h_bm => ?_; have hn_bm := h_bm; (try simp only [fresh_add, fresh_set, ne_eq] at hn_bm); have hr_bm := hn_bm; (try simp only [@eq_comm Nat bm] at hr_bm); simp (dsimp := false) (maxSteps := 4000000) only [enc_len, enc_scal, lput_enc, take_enc, hn_bm, hr_bm, go_sem, ↓reduceIte, Nat.reduceEqDiff, Nat.reduceLT, Nat.reduceLeDiff, Nat.reduceAdd, Nat.reduceMul, Nat.reduceSub, reduceCtorEq, Int.reduceToNat, Int.reduceLT, Int.reduceLE, Int.reduceEq, Int.reduceNe, Int.reduceBEq, Nat.reduceBEq, Int.reduceBNe, Nat.reduceBNe, Int.reduceAdd, Int.reduceSub, Int.reduceMul, Int.reduceNeg]
  obtain ⟨A7, hA7⟩ : ∃ A7, A6.add bm (.amap [(.int .i64 4, .int .u8 1)]) = A7 := ⟨_, rfl⟩
  have k7 : Keep H A7 fun _ => False := hA7 ▸ k6.nw h_bm
  have hs7 : StAt A7 b Y2 0 ft5 := hA7 ▸ hs6.keep (Keep.add h_bm (ex := fun _ => False)) fun _ _ h => h
  have kk7 : Keep A6 A7 fun _ => False := hA7 ▸ Keep.add h_bm
  have hM7 : Mp A7 (.map (some bm)) t41 := Mp.one (k := 4) (y := 1) (by rw [← hA7, find_add_self])
  have mm : ¬ ft5 bm := hs6.fresh h_bm
  have f7 := kk7.find (fun h => h) f6
  have w7 := kk7.find (fun h => h) w6
  rw [hA7]
  clear hA7 hs6 f6 w6 h_bm hn_bm hr_bm kk7
  
  refine (Try_c (by rw [k7.w0]; exact hE) hs7 yk2 5 5 1 2 1 W3 (.map (some bm)) t41 hM7 (fun _ h => by cases h; exact mm)).mono ?_
  rintro _ A8 ⟨ft8, rfl, hs8, hK8, hf8⟩
  rw [d2, x2] at hs8
  rw [v2]
  have k8 : Keep H A8 fun _ => False := k7.ow hK8 g5
  have g8 : ∀ x, ft8 x → Fresh H x := fun x hx => (hf8 x hx).elim (g5 x) fun h => k7.fr h
  have n8 : ¬ ft8 b4 := fun hx => (hf8 _ hx).elim n5 fun h => h.ne_find f7 rfl
  have m8 : ¬ ft8 b6 := fun hx => (hf8 _ hx).elim m6 fun h => h.ne_find w7 rfl
  have f8 := hK8.find n5 f7
  have w8 := hK8.find m6 w7
  clear hK8 hf8 hs7 f7 w7 n5 m6 hM7 mm
  simp (dsimp := false) (maxSteps := 4000000) only [enc_len, enc_scal, lput_enc, take_enc, go_sem, ↓reduceIte, Nat.reduceEqDiff, Nat.reduceLT, Nat.reduceLeDiff, Nat.reduceAdd, Nat.reduceMul, Nat.reduceSub, reduceCtorEq, Int.reduceToNat, Int.reduceLT, Int.reduceLE, Int.reduceEq, Int.reduceNe, Int.reduceBEq, Nat.reduceBEq, Int.reduceBNe, Nat.reduceBNe, Int.reduceAdd, Int.reduceSub, Int.reduceMul, Int.reduceNeg]
  refine AllB.mk fun b8 h_b8 => ?_; have hn_b8 := h_b8; (try simp only [fresh_add, fresh_set, ne_eq] at hn_b8); have hr_b8 := hn_b8; (try simp only [@eq_comm Nat b8] at hr_b8); simp (dsimp := false) (maxSteps := 4000000) only [enc_len, enc_scal, lput_enc, take_enc, hn_b8, hr_b8, go_sem, ↓reduceIte, Nat.reduceEqDiff, Nat.reduceLT, Nat.reduceLeDiff, Nat.reduceAdd, Nat.reduceMul, Nat.reduceSub, reduceCtorEq, Int.reduceToNat, Int.reduceLT, Int.reduceLE, Int.reduceEq, Int.reduceNe, Int.reduceBEq, Nat.reduceBEq, Int.reduceBNe, Nat.reduceBNe, Int.reduceAdd, Int.reduceSub, Int.reduceMul, Int.reduceNeg]
  have hs9 : StAt (A8.add b8 (.cells (enc zr) 26 4)) b Y2 0 ft8 := hs8.keep (Keep.add h_b8 (ex := fun _ => False)) fun _ _ h => h
  obtain ⟨A9, hA9⟩ : ∃ A9, A8.add b8 (.cells (enc zr) 26 4) = A9 := ⟨_, rfl⟩
  have kk9 : Keep A8 A9 fun _ => False := hA9 ▸ Keep.add h_b8
  have k9 : Keep H A9 fun _ => False := k8.trans kk9
  rw [hA9] at hs9 ⊢
  have f9 := kk9.find (fun h => h) f8
  have w9 := kk9.find (fun h => h) w8
  clear hA9 hs8 f8 w8 h_b8 hn_b8 hr_b8 kk9
  
  refine (Try_c (by rw [k9.w0]; exact hE) hs9 yk2 5 6 0 2 1 zr (.map none) t0 Mp.nil (fun _ h => by cases h)).mono ?_
  rintro _ A10 ⟨ft10, rfl, hs10, hK10, hf10⟩
  rw [d3, x3] at hs10
  rw [v3]
  have k10 : Keep H A10 fun _ => False := k9.ow hK10 g8
  have f10 := hK10.find n8 f9
  have w10 := hK10.find m8 w9
  clear hK10 hf10 hs9 f9 w9 n8 m8
  simp (dsimp := false) (maxSteps := 4000000) only [enc_len, enc_scal, lput_enc, take_enc, go_sem, ↓reduceIte, Nat.reduceEqDiff, Nat.reduceLT, Nat.reduceLeDiff, Nat.reduceAdd, Nat.reduceMul, Nat.reduceSub, reduceCtorEq, Int.reduceToNat, Int.reduceLT, Int.reduceLE, Int.reduceEq, Int.reduceNe, Int.reduceBEq, Nat.reduceBEq, Int.reduceBNe, Nat.reduceBNe, Int.reduceAdd, Int.reduceSub, Int.reduceMul, Int.reduceNeg]
  refine AllB.mk fun b10 h_b10 => ?_; have hn_b10 := h_b10; (try simp only [fresh_add, fresh_set, ne_eq] at hn_b10); have hr_b10 := hn_b10; (try simp only [@eq_comm Nat b10] at hr_b10); simp (dsimp := false) (maxSteps := 4000000) only [enc_len, enc_scal, lput_enc, take_enc, hn_b10, hr_b10, go_sem, ↓reduceIte, Nat.reduceEqDiff, Nat.reduceLT, Nat.reduceLeDiff, Nat.reduceAdd, Nat.reduceMul, Nat.reduceSub, reduceCtorEq, Int.reduceToNat, Int.reduceLT, Int.reduceLE, Int.reduceEq, Int.reduceNe, Int.reduceBEq, Nat.reduceBEq, Int.reduceBNe, Nat.reduceBNe, Int.reduceAdd, Int.reduceSub, Int.reduceMul, Int.reduceNeg]
  have hs11 : StAt (A10.add b10 (.cells (enc zr) 26 4)) b Y2 0 ft10 := hs10.keep (Keep.add h_b10 (ex := fun _ => False)) fun _ _ h => h
  refine (Get_c hs11 yk2 2 1).mono ?_; rintro _ _ ⟨rfl, rfl⟩
  rw [gw]
  unfold getV
  simp (dsimp := false) (maxSteps := 4000000) only [enc_len, enc_scal, lput_enc, take_enc, hn_b10, hr_b10, go_sem, ↓reduceIte, Nat.reduceEqDiff, Nat.reduceLT, Nat.reduceLeDiff, Nat.reduceAdd, Nat.reduceMul, Nat.reduceSub, reduceCtorEq, Int.reduceToNat, Int.reduceLT, Int.reduceLE, Int.reduceEq, Int.reduceNe, Int.reduceBEq, Nat.reduceBEq, Int.reduceBNe, Nat.reduceBNe, Int.reduceAdd, Int.reduceSub, Int.reduceMul, Int.reduceNeg]
  refine AllB.mk fun b12 h_b12 => ?_; have hn_b12 := h_b12; (try simp only [fresh_add, fresh_set, ne_eq] at hn_b12); have hr_b12 := hn_b12; (try simp only [@eq_comm Nat b12] at hr_b12); simp (dsimp := false) (maxSteps := 4000000) only [enc_len, enc_scal, lput_enc, take_enc, hn_b10, hr_b10, hn_b12, hr_b12, go_sem, ↓reduceIte, Nat.reduceEqDiff, Nat.reduceLT, Nat.reduceLeDiff, Nat.reduceAdd, Nat.reduceMul, Nat.reduceSub, reduceCtorEq, Int.reduceToNat, Int.reduceLT, Int.reduceLE, Int.reduceEq, Int.reduceNe, Int.reduceBEq, Nat.reduceBEq, Int.reduceBNe, Nat.reduceBNe, Int.reduceAdd, Int.reduceSub, Int.reduceMul, Int.reduceNeg]
  have e4 : b4 ≠ b10 := fun e => h_b10.ne_find f10 e.symm
  have e6 : b6 ≠ b10 := fun e => h_b10.ne_find w10 e.symm
  have g4 : b4 ≠ b12 := fun e => hn_b12.2.ne_find f10 e.symm
  have g6 : b6 ≠ b12 := fun e => hn_b12.2.ne_find w10 e.symm
  obtain ⟨A11, hA11⟩ : ∃ A11, (A10.add b10 (.cells (enc zr) 26 4)).add b12 (.cells (enc W12) 26 4) = A11 := ⟨_, rfl⟩
  have k11 : Keep H A11 fun _ => False := hA11 ▸ (k10.nw h_b10).nw h_b12
  have f11 : A11.find b4 = some (.cells [.int .u8 5, .int .u8 2, .int .u8 1, .int .u8 92] 25 4) := by rw [← hA11, find_add, if_neg g4, find_add, if_neg e4]; exact f10
  have w11 : A11.find b6 = some (.cells (enc W12) 26 4) := by rw [← hA11, find_add, if_neg g6, find_add, if_neg e6]; exact w10
  have u11 : A11.find b12 = some (.cells (enc W12) 26 4) := by rw [← hA11, find_add_self]
  rw [hA11]
  clear hA11 hs10 hs11 f10 w10 h_b10 hn_b10 hr_b10 h_b12 hn_b12 hr_b12 e4 e6 g4 g6
  
  have r4 : A11.row b4 0 4 = some [.int .u8 5, .int .u8 2, .int .u8 1, .int .u8 92] := row_find f11 (by simp)
  have r6 : A11.row b6 0 4 = some (enc W12) := row_find w11 (by simp [enc])
  have r12 : A11.row b12 0 4 = some (enc W12) := row_find u11 (by simp [enc])
  have eV : enc W12 = [.int .u8 1, .int .u8 2, .int .u8 0, .int .u8 0] := Eq.trans rfl rfl
  simp (dsimp := false) (maxSteps := 4000000) only [r4, r6, r12, eV, enc_len, enc_scal, lput_enc, take_enc, go_sem, ↓reduceIte, Nat.reduceEqDiff, Nat.reduceLT, Nat.reduceLeDiff, Nat.reduceAdd, Nat.reduceMul, Nat.reduceSub, reduceCtorEq, Int.reduceToNat, Int.reduceLT, Int.reduceLE, Int.reduceEq, Int.reduceNe, Int.reduceBEq, Nat.reduceBEq, Int.reduceBNe, Nat.reduceBNe, Int.reduceAdd, Int.reduceSub, Int.reduceMul, Int.reduceNeg]
  exact ⟨H, k11.all, rfl⟩
end Go.Proofs.YtamlipffhimfmaaDoor.Srv

/- serve: ServeOne. -/
namespace Go.Proofs.YtamlipffhimfmaaDoor.Srv
set_option linter.unusedSimpArgs false
set_option linter.unusedVariables false
open Go Go.AX Go.Proofs Ty Go.Proofs.YtamlipffhimfmaaDoor.File Go.Proofs.YtamlipffhimfmaaDoor.Ifs Go.Proofs.YtamlipffhimfmaaDoor.Err
set_option maxHeartbeats 4000000
set_option maxRecDepth 10000

theorem try_two (n to a0 a1 a2 : Int) (v : Rc) (X : List Nf) (k : Int) (hk : 0 ≤ k ∧ k < 14) (y : Int) (hy : 0 ≤ y ∧ y < 256) :
    ∃ W1 E1 W2 E2, tryV n to a0 a1 a2 v (fun i => if i = k then y else 0) X = .tuple #[.agg (enc W1).toArray, .int .i64 E1] ∧ tryV n to a0 a1 a2 v t0 X = .tuple #[.agg (enc W2).toArray, .int .i64 E2] ∧
      (E1 = 0 → E2 = 0 ∧ W1 = W2 ∧ tryX n to a0 a1 a2 v (fun i => if i = k then y else 0) X = tryX n to a0 a1 a2 v t0 X) ∧ (tryX n to a0 a1 a2 v (fun i => if i = k then y else 0) X = X ∨ tryX n to a0 a1 a2 v (fun i => if i = k then y else 0) X = tryX n to a0 a1 a2 v t0 X) ∧ (y = 0 → E1 = E2) := by
  by_cases ha : askOk to a0 a1 a2
  · refine ⟨_, _, _, _, by rw [tryV, if_pos ha], by rw [tryV, if_pos ha], ?_⟩
    rw [tryX, tryX, if_pos ha, if_pos ha]
    exact one_law n to a0 a1 a2 v X k hk y hy _ _ _ _ rfl rfl rfl rfl
  · refine ⟨_, _, _, _, by rw [tryV, if_neg ha], by rw [tryV, if_neg ha], ?_⟩
    rw [tryX, tryX, if_neg ha, if_neg ha]
    exact ⟨fun h => ⟨h, rfl, rfl⟩, .inl rfl, fun _ => rfl⟩
def NfIn (H : AH) (z : RF) : Prop := SlcIn H 4 z.base z.cap (z.R.map enc) ∧ ∀ r ∈ z.R, RcOk r
theorem NfIn.keep {H H' : AH} {z : RF} (h : NfIn H z) (hK : Keep H H' fun _ => False) : NfIn H' z := ⟨h.1.keep hK fun _ _ h => h, h.2⟩
theorem nm_tight {H : AH} {base : Option Addr} {cap : Nat} {Z : List RF} {rd : Nat → Prop} (h : NmIn H base cap Z rd) : NmIn H base cap Z (fun x => rd x ∧ ¬ Fresh H x) := by
  refine ⟨h.out, h.inn, ?_, fun z hz => ?_⟩
  · by_cases e : Z = []
    · exact .inl e
    · exact .inr fun a ha => ⟨(h.r1.resolve_left e) a ha, fun hf => (h.out.apart hf).elim (fun e' => e (List.map_eq_nil_iff.1 e')) fun hh => hh a ha rfl⟩
  · by_cases e : z.R = []
    · exact .inl e
    · exact .inr fun a ha => ⟨((h.r2 z hz).resolve_left e) a ha, fun hf => ((h.inn z hz).apart hf).elim (fun e' => e (List.map_eq_nil_iff.1 e')) fun hh => hh a ha rfl⟩
theorem ServeOne_c (L : List RF) (base : Option Addr) (cap : Nat) (name a0 a1 a2 : Int) (v : Rc) (x y : Int) (hx : 0 ≤ x ∧ x < 256) (hy : 0 ≤ y ∧ y < 256) (H : AH) (hs : SlcIn H 3 base cap (L.map encN)) (hz : ∀ z ∈ L, NfIn H z) (hE : ErrT H.w0) :
    ACalls Tryd.prog 3 #[.slice base L.length cap, .int .i64 name, .agg #[.int .i64 a0, .int .i64 a1, .int .i64 a2], .agg (enc v).toArray, .int .u8 x, .int .u8 y] H (fun v H' => v = .bool true ∧ H = H') := by
  obtain ⟨k, hk⟩ : ∃ k, x % 14 = k := ⟨_, rfl⟩
  have hk14 : 0 ≤ k ∧ k < 14 := by omega
  have ek : x.tmod 14 = k := by rw [Int.tmod_eq_emod_of_nonneg hx.1, hk]
  have ew : IntKind.i64.wrap k = k := i64_eq (by omega) (by omega)
  obtain ⟨W1, E1, W2, E2, t1, t2, l1, l2, l3⟩ := try_two name name a0 a1 a2 v (refX ((L.take 8).map RF.nf)) k hk14 y hy
  refine ACalls.enter2 Tryd.func3 rfl Tryd.ntmps3 Tryd.results3 (by simp) ?_; simp (dsimp := false) (maxSteps := 4000000) only [enc_len, enc_scal, lput_enc, take_enc, go_sem, ↓reduceIte, Nat.reduceEqDiff, Nat.reduceLT, Nat.reduceLeDiff, Nat.reduceAdd, Nat.reduceMul, Nat.reduceSub, reduceCtorEq, Int.reduceToNat, Int.reduceLT, Int.reduceLE, Int.reduceEq, Int.reduceNe, Int.reduceBEq, Nat.reduceBEq, Int.reduceBNe, Nat.reduceBNe, Int.reduceAdd, Int.reduceSub, Int.reduceMul, Int.reduceNeg]
  refine AllB.mk fun b8 h_b8 => ?_; have hn_b8 := h_b8; (try simp only [fresh_add, fresh_set, ne_eq] at hn_b8); have hr_b8 := hn_b8; (try simp only [@eq_comm Nat b8] at hr_b8); simp (dsimp := false) (maxSteps := 4000000) only [enc_len, enc_scal, lput_enc, take_enc, hn_b8, hr_b8, go_sem, ↓reduceIte, Nat.reduceEqDiff, Nat.reduceLT, Nat.reduceLeDiff, Nat.reduceAdd, Nat.reduceMul, Nat.reduceSub, reduceCtorEq, Int.reduceToNat, Int.reduceLT, Int.reduceLE, Int.reduceEq, Int.reduceNe, Int.reduceBEq, Nat.reduceBEq, Int.reduceBNe, Nat.reduceBNe, Int.reduceAdd, Int.reduceSub, Int.reduceMul, Int.reduceNeg]
  refine AllB.mk fun b9 h_b9 => ?_; have hn_b9 := h_b9; (try simp only [fresh_add, fresh_set, ne_eq] at hn_b9); have hr_b9 := hn_b9; (try simp only [@eq_comm Nat b9] at hr_b9); simp (dsimp := false) (maxSteps := 4000000) only [enc_len, enc_scal, lput_enc, take_enc, hn_b8, hr_b8, hn_b9, hr_b9, go_sem, ↓reduceIte, Nat.reduceEqDiff, Nat.reduceLT, Nat.reduceLeDiff, Nat.reduceAdd, Nat.reduceMul, Nat.reduceSub, reduceCtorEq, Int.reduceToNat, Int.reduceLT, Int.reduceLE, Int.reduceEq, Int.reduceNe, Int.reduceBEq, Nat.reduceBEq, Int.reduceBNe, Nat.reduceBNe, Int.reduceAdd, Int.reduceSub, Int.reduceMul, Int.reduceNeg]
  obtain ⟨G, hG⟩ : ∃ G, (H.add b8 (.cells [.int .i64 a0, .int .i64 a1, .int .i64 a2] 24 3)).add b9 (.cells (enc v) 26 4) = G := ⟨_, rfl⟩
  have kG : Keep H G fun _ => False := hG ▸ (Keep.refl.nw h_b8).nw h_b9
  have f9 : G.find b9 = some (.cells (enc v) 26 4) := by rw [← hG, find_add_self]
  have f8 : G.find b8 = some (.cells [.int .i64 a0, .int .i64 a1, .int .i64 a2] 24 3) := by rw [← hG]; (show AH.find _ _ = _; simp only [find_add_self, find_add_ne, find_fresh, fresh_add, fresh_set, ne_eq, not_false_eq_true, true_and, and_true, and_self, enc_len, enc_scal, lput_enc, take_enc, hn_b8, hr_b8, hn_b9, hr_b9])
  rw [hG]
  clear hG h_b8 hn_b8 hr_b8 h_b9 hn_b9 hr_b9
  
  refine (build_c L base cap _ (hs.keep kG fun _ _ h => h) fun z h => (hz z h).keep kG).mono ?_
  rintro _ A ⟨b, br, Z, ft, rd, rfl, hZ, hst, _, hok, hso, hK, hf, _, _, _⟩
  have kA := kG.trans hK
  rw [hZ] at hst hok hso
  clear hZ
  simp (dsimp := false) (maxSteps := 4000000) only [enc_len, enc_scal, lput_enc, take_enc, go_sem, ↓reduceIte, Nat.reduceEqDiff, Nat.reduceLT, Nat.reduceLeDiff, Nat.reduceAdd, Nat.reduceMul, Nat.reduceSub, reduceCtorEq, Int.reduceToNat, Int.reduceLT, Int.reduceLE, Int.reduceEq, Int.reduceNe, Int.reduceBEq, Nat.reduceBEq, Int.reduceBNe, Nat.reduceBNe, Int.reduceAdd, Int.reduceSub, Int.reduceMul, Int.reduceNeg]
  refine (build_c L base cap _ (hs.keep kA fun _ _ h => h) fun z h => (hz z h).keep kA).mono ?_
  rintro _ B ⟨c, br', Z', gt, rd', rfl, hZ', hsu, _, _, _, hK2, hg, _, _, _⟩
  have kB := kA.trans hK2
  have hd : ∀ x, gt x → ¬ ft x := fun x hx hx' => hst.fresh (hg x hx) hx'
  have hst := hst.keep hK2 fun _ _ h => h
  rw [hZ'] at hsu
  clear hZ'
  simp (dsimp := false) (maxSteps := 4000000) only [enc_len, enc_scal, lput_enc, take_enc, go_sem, ↓reduceIte, Nat.reduceEqDiff, Nat.reduceLT, Nat.reduceLeDiff, Nat.reduceAdd, Nat.reduceMul, Nat.reduceSub, reduceCtorEq, Int.reduceToNat, Int.reduceLT, Int.reduceLE, Int.reduceEq, Int.reduceNe, Int.reduceBEq, Nat.reduceBEq, Int.reduceBNe, Nat.reduceBNe, Int.reduceAdd, Int.reduceSub, Int.reduceMul, Int.reduceNeg]
  refine (Files_c hst hok).mono ?_
  rintro _ C ⟨zb, zc, Z1, r1, rfl, hp1, hs1, hN1, hK3, hr1⟩
  have e1 := Srt.uniq hp1 hs1 hso
  have kC := kB.trans hK3
  have kGC := (hK.trans hK2).trans hK3
  have n8 : ¬ ft b8 := fun hx => (hf _ hx).ne_find f8 rfl
  have n9 : ¬ ft b9 := fun hx => (hf _ hx).ne_find f9 rfl
  have p8 : ¬ gt b8 := fun hx => (hK.fr (hg _ hx)).ne_find f8 rfl
  have p9 : ¬ gt b9 := fun hx => (hK.fr (hg _ hx)).ne_find f9 rfl
  have f8 := kGC.find (fun h => h) f8
  have f9 := kGC.find (fun h => h) f9
  have hfH : ∀ x, ft x → Fresh H x := fun x hx => kG.fr (hf x hx)
  have hgH : ∀ x, gt x → Fresh H x := fun x hx => kA.fr (hg x hx)
  have hN1 := nm_tight hN1
  have q1 : ∀ x, (r1 x ∧ ¬ Fresh C x) → ¬ ft x := fun x hx hx' => hst.fresh (hr1 x hx.1) hx'
  have q2 : ∀ x, (r1 x ∧ ¬ Fresh C x) → ¬ gt x := fun x hx hx' => hsu.fresh (hr1 x hx.1) hx'
  have hst := hst.keep hK3 fun _ _ h => h
  have hsu := hsu.keep hK3 fun _ _ h => h
  have w8 : C.row b8 0 3 = some [.int .i64 a0, .int .i64 a1, .int .i64 a2] := row_find f8 (by simp)
  have w9 : C.row b9 0 4 = some (enc v) := row_find f9 (by simp [enc])
  clear hK hK2 hK3 kA kB kGC hf hg hp1 hs1 hr1 kG
  simp (dsimp := false) (maxSteps := 4000000) only [w8, w9, ek, ew, enc_len, enc_scal, lput_enc, take_enc, go_sem, ↓reduceIte, Nat.reduceEqDiff, Nat.reduceLT, Nat.reduceLeDiff, Nat.reduceAdd, Nat.reduceMul, Nat.reduceSub, reduceCtorEq, Int.reduceToNat, Int.reduceLT, Int.reduceLE, Int.reduceEq, Int.reduceNe, Int.reduceBEq, Nat.reduceBEq, Int.reduceBNe, Nat.reduceBNe, Int.reduceAdd, Int.reduceSub, Int.reduceMul, Int.reduceNeg]
  refine AllB.mk fun bm h_bm => ?_; have hn_bm := h_bm; (try simp only [fresh_add, fresh_set, ne_eq] at hn_bm); have hr_bm := hn_bm; (try simp only [@eq_comm Nat bm] at hr_bm); simp (dsimp := false) (maxSteps := 4000000) only [enc_len, enc_scal, lput_enc, take_enc, hn_bm, hr_bm, go_sem, ↓reduceIte, Nat.reduceEqDiff, Nat.reduceLT, Nat.reduceLeDiff, Nat.reduceAdd, Nat.reduceMul, Nat.reduceSub, reduceCtorEq, Int.reduceToNat, Int.reduceLT, Int.reduceLE, Int.reduceEq, Int.reduceNe, Int.reduceBEq, Nat.reduceBEq, Int.reduceBNe, Nat.reduceBNe, Int.reduceAdd, Int.reduceSub, Int.reduceMul, Int.reduceNeg]
  obtain ⟨D, hD⟩ : ∃ D, C.add bm (.amap [(.int .i64 k, .int .u8 y)]) = D := ⟨_, rfl⟩
  have kD : Keep C D fun _ => False := hD ▸ Keep.add h_bm
  have hM : Mp D (.map (some bm)) (fun i => if i = k then y else 0) := Mp.one (by rw [← hD, find_add_self])
  have mm : ¬ ft bm := hst.fresh h_bm
  rw [ek, ew, hD]
  clear hD h_bm hn_bm hr_bm w8 w9
  
  have hst := hst.keep kD fun _ _ h => h
  have hsu := hsu.keep kD fun _ _ h => h
  have hN1 := hN1.keep kD fun _ _ h => h
  have f8 := kD.find (fun h => h) f8
  have f9 := kD.find (fun h => h) f9
  have kHD := kC.trans kD
  refine (Try_c (by rw [kHD.w0]; exact hE) hst hok name name a0 a1 a2 v (.map (some bm)) _ hM (fun _ h => by cases h; exact mm)).mono ?_
  rintro _ E ⟨ft1, rfl, hs1, hKE, hfE⟩
  rw [t1]
  have kHE := kHD.ow hKE hfH
  have hd1 : ∀ x, gt x → ¬ ft1 x := fun x hx hx' => (hfE x hx').elim (hd x hx) fun h => hsu.fresh h hx
  have q1' : ∀ x, (r1 x ∧ ¬ Fresh C x) → ¬ ft1 x := fun x hx hx' => (hfE x hx').elim (q1 x hx) fun h => hx.2 (kD.fr h)
  have m8 : ¬ ft1 b8 := fun hx => (hfE _ hx).elim n8 fun h => h.ne_find f8 rfl
  have m9 : ¬ ft1 b9 := fun hx => (hfE _ hx).elim n9 fun h => h.ne_find f9 rfl
  have hfH1 : ∀ x, ft1 x → Fresh H x := fun x hx => (hfE x hx).elim (hfH x) fun h => kHD.fr h
  have hsu := hsu.keep hKE hd
  have hN1 := hN1.keep hKE q1
  have f8 := hKE.find n8 f8
  have f9 := hKE.find n9 f9
  clear hst hKE hfE hM hd q1 n8 n9 hfH kD kC mm
  simp (dsimp := false) (maxSteps := 4000000) only [enc_len, enc_scal, lput_enc, take_enc, go_sem, ↓reduceIte, Nat.reduceEqDiff, Nat.reduceLT, Nat.reduceLeDiff, Nat.reduceAdd, Nat.reduceMul, Nat.reduceSub, reduceCtorEq, Int.reduceToNat, Int.reduceLT, Int.reduceLE, Int.reduceEq, Int.reduceNe, Int.reduceBEq, Nat.reduceBEq, Int.reduceBNe, Nat.reduceBNe, Int.reduceAdd, Int.reduceSub, Int.reduceMul, Int.reduceNeg]
  refine AllB.mk fun b18 h_b18 => ?_; have hn_b18 := h_b18; (try simp only [fresh_add, fresh_set, ne_eq] at hn_b18); have hr_b18 := hn_b18; (try simp only [@eq_comm Nat b18] at hr_b18); simp (dsimp := false) (maxSteps := 4000000) only [enc_len, enc_scal, lput_enc, take_enc, hn_b18, hr_b18, go_sem, ↓reduceIte, Nat.reduceEqDiff, Nat.reduceLT, Nat.reduceLeDiff, Nat.reduceAdd, Nat.reduceMul, Nat.reduceSub, reduceCtorEq, Int.reduceToNat, Int.reduceLT, Int.reduceLE, Int.reduceEq, Int.reduceNe, Int.reduceBEq, Nat.reduceBEq, Int.reduceBNe, Nat.reduceBNe, Int.reduceAdd, Int.reduceSub, Int.reduceMul, Int.reduceNeg]
  obtain ⟨F, hF⟩ : ∃ F, E.add b18 (.cells (enc W1) 26 4) = F := ⟨_, rfl⟩
  have kF : Keep E F fun _ => False := hF ▸ Keep.add h_b18
  have f18 : F.find b18 = some (.cells (enc W1) 26 4) := by rw [← hF, find_add_self]
  have u1 : ¬ ft1 b18 := hs1.fresh h_b18
  have u2 : ¬ gt b18 := hsu.fresh h_b18
  rw [hF]
  clear hF h_b18 hn_b18 hr_b18
  
  have hs1 := hs1.keep kF fun _ _ h => h
  have hsu := hsu.keep kF fun _ _ h => h
  have hN1 := hN1.keep kF fun _ _ h => h
  have f8 := kF.find (fun h => h) f8
  have f9 := kF.find (fun h => h) f9
  have kHF := kHE.trans kF
  have w8 : F.row b8 0 3 = some [.int .i64 a0, .int .i64 a1, .int .i64 a2] := row_find f8 (by simp)
  have w9 : F.row b9 0 4 = some (enc v) := row_find f9 (by simp [enc])
  simp (dsimp := false) (maxSteps := 4000000) only [w8, w9, enc_len, enc_scal, lput_enc, take_enc, go_sem, ↓reduceIte, Nat.reduceEqDiff, Nat.reduceLT, Nat.reduceLeDiff, Nat.reduceAdd, Nat.reduceMul, Nat.reduceSub, reduceCtorEq, Int.reduceToNat, Int.reduceLT, Int.reduceLE, Int.reduceEq, Int.reduceNe, Int.reduceBEq, Nat.reduceBEq, Int.reduceBNe, Nat.reduceBNe, Int.reduceAdd, Int.reduceSub, Int.reduceMul, Int.reduceNeg]
  refine (Try_c (by rw [kHF.w0]; exact hE) hsu hok name name a0 a1 a2 v (.map none) t0 Mp.nil (fun _ h => by cases h)).mono ?_
  rintro _ I ⟨gt1, rfl, hs2, hKI, hfI⟩
  rw [t2]
  have kHI := kHF.ow hKI hgH
  have hs1 := hs1.keep hKI fun x hx hx' => hd1 x hx' hx
  have hN1 := hN1.keep hKI q2
  have f18 := hKI.find u2 f18
  have o1 : OkX (tryX name name a0 a1 a2 v (fun i => if i = k then y else 0) (refX ((L.take 8).map RF.nf))) := tryX_ok hok
  have o2 : OkX (tryX name name a0 a1 a2 v t0 (refX ((L.take 8).map RF.nf))) := tryX_ok hok
  obtain ⟨P1, hP1⟩ : ∃ P1, tryX name name a0 a1 a2 v (fun i => if i = k then y else 0) (refX ((L.take 8).map RF.nf)) = P1 := ⟨_, rfl⟩
  obtain ⟨P2, hP2⟩ : ∃ P2, tryX name name a0 a1 a2 v t0 (refX ((L.take 8).map RF.nf)) = P2 := ⟨_, rfl⟩
  rw [hP1] at hs1 o1 l1 l2
  rw [hP2] at hs2 o2 l1 l2
  clear hP1 hP2 t1 t2
  clear hsu hKI hfI hd1 f8 f9 w8 w9 q2 q1' m8 m9 p8 p9 u1 u2 kF kHE kHD
  simp (dsimp := false) (maxSteps := 4000000) only [enc_len, enc_scal, lput_enc, take_enc, go_sem, ↓reduceIte, Nat.reduceEqDiff, Nat.reduceLT, Nat.reduceLeDiff, Nat.reduceAdd, Nat.reduceMul, Nat.reduceSub, reduceCtorEq, Int.reduceToNat, Int.reduceLT, Int.reduceLE, Int.reduceEq, Int.reduceNe, Int.reduceBEq, Nat.reduceBEq, Int.reduceBNe, Nat.reduceBNe, Int.reduceAdd, Int.reduceSub, Int.reduceMul, Int.reduceNeg]
  refine AllB.mk fun b20 h_b20 => ?_; have hn_b20 := h_b20; (try simp only [fresh_add, fresh_set, ne_eq] at hn_b20); have hr_b20 := hn_b20; (try simp only [@eq_comm Nat b20] at hr_b20); simp (dsimp := false) (maxSteps := 4000000) only [enc_len, enc_scal, lput_enc, take_enc, hn_b20, hr_b20, go_sem, ↓reduceIte, Nat.reduceEqDiff, Nat.reduceLT, Nat.reduceLeDiff, Nat.reduceAdd, Nat.reduceMul, Nat.reduceSub, reduceCtorEq, Int.reduceToNat, Int.reduceLT, Int.reduceLE, Int.reduceEq, Int.reduceNe, Int.reduceBEq, Nat.reduceBEq, Int.reduceBNe, Nat.reduceBNe, Int.reduceAdd, Int.reduceSub, Int.reduceMul, Int.reduceNeg]
  obtain ⟨J, hJ⟩ : ∃ J, I.add b20 (.cells (enc W2) 26 4) = J := ⟨_, rfl⟩
  have kJ : Keep I J fun _ => False := hJ ▸ Keep.add h_b20
  have f20 : J.find b20 = some (.cells (enc W2) 26 4) := by rw [← hJ, find_add_self]
  rw [hJ]
  clear hJ h_b20 hn_b20 hr_b20
  
  have hs1 := hs1.keep kJ fun _ _ h => h
  have hs2 := hs2.keep kJ fun _ _ h => h
  have hN1 := hN1.keep kJ fun _ _ h => h
  have f18 := kJ.find (fun h => h) f18
  have kHJ := kHI.trans kJ
  refine (Files_c hs1 o1).mono ?_
  rintro _ M ⟨db, dc, Z2, r2, rfl, hp2, hso2, hN2, hKM, _⟩
  have hs2 := hs2.keep hKM fun _ _ h => h
  simp (dsimp := false) (maxSteps := 4000000) only [enc_len, enc_scal, lput_enc, take_enc, go_sem, ↓reduceIte, Nat.reduceEqDiff, Nat.reduceLT, Nat.reduceLeDiff, Nat.reduceAdd, Nat.reduceMul, Nat.reduceSub, reduceCtorEq, Int.reduceToNat, Int.reduceLT, Int.reduceLE, Int.reduceEq, Int.reduceNe, Int.reduceBEq, Nat.reduceBEq, Int.reduceBNe, Nat.reduceBNe, Int.reduceAdd, Int.reduceSub, Int.reduceMul, Int.reduceNeg]
  refine (Files_c hs2 o2).mono ?_
  rintro _ N ⟨eb, ec, Z3, r3, rfl, hp3, hso3, hN3, hKN, _⟩
  have kHN := (kHJ.trans hKM).trans hKN
  have hN1 := hN1.keep (hKM.trans hKN) fun _ _ h => h
  have hN2 := hN2.keep hKN fun _ _ h => h
  have w18 : N.row b18 0 4 = some (enc W1) := row_find ((hKM.trans hKN).find (fun h => h) f18) (by simp [enc])
  have w20 : N.row b20 0 4 = some (enc W2) := row_find ((hKM.trans hKN).find (fun h => h) f20) (by simp [enc])
  have c12 : P1 = P2 → Z2.map RF.nf = Z3.map RF.nf := fun e => Srt.uniq (hp2.trans (e ▸ hp3.symm)) hso2 hso3
  have c10 : P1 = refX ((L.take 8).map RF.nf) → Z2.map RF.nf = Z1.map RF.nf := fun e => Srt.uniq (hp2.trans (by rw [e, e1])) hso2 (by rw [e1]; exact hso)
  clear hs1 hs2 hKM hKN kHJ kHI f18 f20 kJ hp2 hp3 hso2 hso3
  have hEN : ErrT N.w0 := by rw [kHN.w0]; exact hE
  have fin : ∃ H', H'.le N ∧ H = H' := ⟨H, kHN.all, rfl⟩
  by_cases z1 : E1 = 0
  case' pos =>
    obtain ⟨z2, e, z3⟩ := l1 z1
    subst z1; subst z2; subst e
    obtain ⟨w0, w1, w2, w3⟩ := W1
    have eV : enc (w0, w1, w2, w3) = [.int .u8 w0, .int .u8 w1, .int .u8 w2, .int .u8 w3] := Eq.trans rfl rfl
    simp (dsimp := false) (maxSteps := 4000000) only [w18, w20, eV, enc_len, enc_scal, lput_enc, take_enc, go_sem, ↓reduceIte, Nat.reduceEqDiff, Nat.reduceLT, Nat.reduceLeDiff, Nat.reduceAdd, Nat.reduceMul, Nat.reduceSub, reduceCtorEq, Int.reduceToNat, Int.reduceLT, Int.reduceLE, Int.reduceEq, Int.reduceNe, Int.reduceBEq, Nat.reduceBEq, Int.reduceBNe, Nat.reduceBNe, Int.reduceAdd, Int.reduceSub, Int.reduceMul, Int.reduceNeg]
    refine (Same_c hN2 hN3).mono ?_
    rintro _ _ ⟨rfl, rfl⟩
    rw [decide_eq_true (c12 z3)]
    simp (dsimp := false) (maxSteps := 4000000) only [enc_len, enc_scal, lput_enc, take_enc, go_sem, ↓reduceIte, Nat.reduceEqDiff, Nat.reduceLT, Nat.reduceLeDiff, Nat.reduceAdd, Nat.reduceMul, Nat.reduceSub, reduceCtorEq, Int.reduceToNat, Int.reduceLT, Int.reduceLE, Int.reduceEq, Int.reduceNe, Int.reduceBEq, Nat.reduceBEq, Int.reduceBNe, Nat.reduceBNe, Int.reduceAdd, Int.reduceSub, Int.reduceMul, Int.reduceNeg]
    refine (awake_c _ hEN).mono ?_; rintro _ _ ⟨rfl, rfl⟩
    simp (dsimp := false) (maxSteps := 4000000) only [enc_len, enc_scal, lput_enc, take_enc, go_sem, ↓reduceIte, Nat.reduceEqDiff, Nat.reduceLT, Nat.reduceLeDiff, Nat.reduceAdd, Nat.reduceMul, Nat.reduceSub, reduceCtorEq, Int.reduceToNat, Int.reduceLT, Int.reduceLE, Int.reduceEq, Int.reduceNe, Int.reduceBEq, Nat.reduceBEq, Int.reduceBNe, Nat.reduceBNe, Int.reduceAdd, Int.reduceSub, Int.reduceMul, Int.reduceNeg]
    refine (Same_c hN2 hN1).mono ?_
    rintro _ _ ⟨rfl, rfl⟩
    generalize decide (Z2.map RF.nf = Z1.map RF.nf) = bb
    cases bb
    · simp (dsimp := false) (maxSteps := 4000000) only [enc_len, enc_scal, lput_enc, take_enc, go_sem, ↓reduceIte, Nat.reduceEqDiff, Nat.reduceLT, Nat.reduceLeDiff, Nat.reduceAdd, Nat.reduceMul, Nat.reduceSub, reduceCtorEq, Int.reduceToNat, Int.reduceLT, Int.reduceLE, Int.reduceEq, Int.reduceNe, Int.reduceBEq, Nat.reduceBEq, Int.reduceBNe, Nat.reduceBNe, Int.reduceAdd, Int.reduceSub, Int.reduceMul, Int.reduceNeg]
      refine (Same_c hN2 hN3).mono ?_
      rintro _ _ ⟨rfl, rfl⟩
      rw [decide_eq_true (c12 z3)]
      by_cases y0 : y = 0
      · simp (dsimp := false) (maxSteps := 4000000) only [y0, enc_len, enc_scal, lput_enc, take_enc, go_sem, ↓reduceIte, Nat.reduceEqDiff, Nat.reduceLT, Nat.reduceLeDiff, Nat.reduceAdd, Nat.reduceMul, Nat.reduceSub, reduceCtorEq, Int.reduceToNat, Int.reduceLT, Int.reduceLE, Int.reduceEq, Int.reduceNe, Int.reduceBEq, Nat.reduceBEq, Int.reduceBNe, Nat.reduceBNe, Int.reduceAdd, Int.reduceSub, Int.reduceMul, Int.reduceNeg]
        exact fin
      · simp (dsimp := false) (maxSteps := 4000000) only [y0, enc_len, enc_scal, lput_enc, take_enc, go_sem, ↓reduceIte, Nat.reduceEqDiff, Nat.reduceLT, Nat.reduceLeDiff, Nat.reduceAdd, Nat.reduceMul, Nat.reduceSub, reduceCtorEq, Int.reduceToNat, Int.reduceLT, Int.reduceLE, Int.reduceEq, Int.reduceNe, Int.reduceBEq, Nat.reduceBEq, Int.reduceBNe, Nat.reduceBNe, Int.reduceAdd, Int.reduceSub, Int.reduceMul, Int.reduceNeg]
        exact fin
    · by_cases y0 : y = 0
      · simp (dsimp := false) (maxSteps := 4000000) only [y0, enc_len, enc_scal, lput_enc, take_enc, go_sem, ↓reduceIte, Nat.reduceEqDiff, Nat.reduceLT, Nat.reduceLeDiff, Nat.reduceAdd, Nat.reduceMul, Nat.reduceSub, reduceCtorEq, Int.reduceToNat, Int.reduceLT, Int.reduceLE, Int.reduceEq, Int.reduceNe, Int.reduceBEq, Nat.reduceBEq, Int.reduceBNe, Nat.reduceBNe, Int.reduceAdd, Int.reduceSub, Int.reduceMul, Int.reduceNeg]
        exact fin
      · simp (dsimp := false) (maxSteps := 4000000) only [y0, enc_len, enc_scal, lput_enc, take_enc, go_sem, ↓reduceIte, Nat.reduceEqDiff, Nat.reduceLT, Nat.reduceLeDiff, Nat.reduceAdd, Nat.reduceMul, Nat.reduceSub, reduceCtorEq, Int.reduceToNat, Int.reduceLT, Int.reduceLE, Int.reduceEq, Int.reduceNe, Int.reduceBEq, Nat.reduceBEq, Int.reduceBNe, Nat.reduceBNe, Int.reduceAdd, Int.reduceSub, Int.reduceMul, Int.reduceNeg]
        exact fin
  case' neg =>
    simp (dsimp := false) (maxSteps := 4000000) only [z1, enc_len, enc_scal, lput_enc, take_enc, go_sem, ↓reduceIte, Nat.reduceEqDiff, Nat.reduceLT, Nat.reduceLeDiff, Nat.reduceAdd, Nat.reduceMul, Nat.reduceSub, reduceCtorEq, Int.reduceToNat, Int.reduceLT, Int.reduceLE, Int.reduceEq, Int.reduceNe, Int.reduceBEq, Nat.reduceBEq, Int.reduceBNe, Nat.reduceBNe, Int.reduceAdd, Int.reduceSub, Int.reduceMul, Int.reduceNeg]
    refine (awake_c _ hEN).mono ?_; rintro _ _ ⟨rfl, rfl⟩
    simp (dsimp := false) (maxSteps := 4000000) only [enc_len, enc_scal, lput_enc, take_enc, go_sem, ↓reduceIte, Nat.reduceEqDiff, Nat.reduceLT, Nat.reduceLeDiff, Nat.reduceAdd, Nat.reduceMul, Nat.reduceSub, reduceCtorEq, Int.reduceToNat, Int.reduceLT, Int.reduceLE, Int.reduceEq, Int.reduceNe, Int.reduceBEq, Nat.reduceBEq, Int.reduceBNe, Nat.reduceBNe, Int.reduceAdd, Int.reduceSub, Int.reduceMul, Int.reduceNeg]
    refine (Same_c hN2 hN1).mono ?_
    rintro _ _ ⟨rfl, rfl⟩
    by_cases c : Z2.map RF.nf = Z1.map RF.nf
    case' pos => rw [decide_eq_true c]
    case' neg =>
      rw [decide_eq_false c]
      simp (dsimp := false) (maxSteps := 4000000) only [enc_len, enc_scal, lput_enc, take_enc, go_sem, ↓reduceIte, Nat.reduceEqDiff, Nat.reduceLT, Nat.reduceLeDiff, Nat.reduceAdd, Nat.reduceMul, Nat.reduceSub, reduceCtorEq, Int.reduceToNat, Int.reduceLT, Int.reduceLE, Int.reduceEq, Int.reduceNe, Int.reduceBEq, Nat.reduceBEq, Int.reduceBNe, Nat.reduceBNe, Int.reduceAdd, Int.reduceSub, Int.reduceMul, Int.reduceNeg]
      refine (Same_c hN2 hN3).mono ?_
      rintro _ _ ⟨rfl, rfl⟩
      rw [decide_eq_true (c12 (l2.resolve_left fun e => c (c10 e)))]
    all_goals
      by_cases z2 : E2 = 0
      · by_cases y0 : y = 0
        · exact absurd ((l3 y0).trans z2) z1
        · simp (dsimp := false) (maxSteps := 4000000) only [z1, z2, y0, enc_len, enc_scal, lput_enc, take_enc, go_sem, ↓reduceIte, Nat.reduceEqDiff, Nat.reduceLT, Nat.reduceLeDiff, Nat.reduceAdd, Nat.reduceMul, Nat.reduceSub, reduceCtorEq, Int.reduceToNat, Int.reduceLT, Int.reduceLE, Int.reduceEq, Int.reduceNe, Int.reduceBEq, Nat.reduceBEq, Int.reduceBNe, Nat.reduceBNe, Int.reduceAdd, Int.reduceSub, Int.reduceMul, Int.reduceNeg]
          exact fin
      · by_cases y0 : y = 0
        · have := l3 y0
          subst this
          simp (dsimp := false) (maxSteps := 4000000) only [z1, z2, y0, enc_len, enc_scal, lput_enc, take_enc, go_sem, ↓reduceIte, Nat.reduceEqDiff, Nat.reduceLT, Nat.reduceLeDiff, Nat.reduceAdd, Nat.reduceMul, Nat.reduceSub, reduceCtorEq, Int.reduceToNat, Int.reduceLT, Int.reduceLE, Int.reduceEq, Int.reduceNe, Int.reduceBEq, Nat.reduceBEq, Int.reduceBNe, Nat.reduceBNe, Int.reduceAdd, Int.reduceSub, Int.reduceMul, Int.reduceNeg]
          exact fin
        · simp (dsimp := false) (maxSteps := 4000000) only [z1, z2, y0, enc_len, enc_scal, lput_enc, take_enc, go_sem, ↓reduceIte, Nat.reduceEqDiff, Nat.reduceLT, Nat.reduceLeDiff, Nat.reduceAdd, Nat.reduceMul, Nat.reduceSub, reduceCtorEq, Int.reduceToNat, Int.reduceLT, Int.reduceLE, Int.reduceEq, Int.reduceNe, Int.reduceBEq, Nat.reduceBEq, Int.reduceBNe, Nat.reduceBNe, Int.reduceAdd, Int.reduceSub, Int.reduceMul, Int.reduceNeg]
          exact fin
end Go.Proofs.YtamlipffhimfmaaDoor.Srv

/- serve: a list of named files among the arguments. -/
namespace Go.Proofs.YtamlipffhimfmaaDoor.Srv
set_option linter.unusedSimpArgs false
set_option linter.unusedVariables false
open Go Go.AX Go.ChangeShapes Go.WideShapes Go.ChangeAt Go.RowKit Go.Proofs.YtamlipffhimfmaaDoor.File Go.Proofs.YtamlipffhimfmaaDoor.Ifs
set_option maxRecDepth 100000

theorem u8_wf {x : Int} (h : (Lit.int .u8 x).wf = true) : 0 ≤ x ∧ x ≤ 255 := by
  simp [Lit.wf, IntKind.min, IntKind.max, IntKind.signed, IntKind.bits] at h
  omega
theorem u8_lt {x : Int} (h : (Lit.int .u8 x).wf = true) : 0 ≤ x ∧ x < 256 := by have := u8_wf h; omega
theorem open_named {HT : Type} {ec : TypeId × Value → HT} {W : World} {sp : Nat → Bool} {held : Bool} {cs : List Value} (hl : cs.length = 3) (hc : Leafy ec Tryd.prog W 0 sp held [3, 3, 44] cs) :
    ∃ z : RF, cs = encN z ∧ NfIn ⟨W, []⟩ z := by
  obtain ⟨c0, c1, c2, rfl⟩ := list3 hl
  obtain ⟨_, _, t0⟩ := hc 0 _ _ rfl rfl
  obtain ⟨a0, q0, _, w0⟩ := DataW.trod_int Tryd.underlying3 t0; cases q0
  obtain ⟨_, _, t1⟩ := hc 1 _ _ rfl rfl
  obtain ⟨a1, q1, _, w1⟩ := DataW.trod_int Tryd.underlying3 t1; cases q1
  obtain ⟨_, _, t2⟩ := hc 2 _ _ rfl rfl
  obtain ⟨b, n, cp, R, rfl, hlR, hs, hR⟩ := open_slcT (P := Tryd.prog) (sz := 4) Tryd.underlying44 (by kernel_rfl) (by simp) (show leafTs Tryd.prog 20 26 = some [5, 5, 5, 5] by kernel_rfl) rfl ⟨_, t2⟩
  obtain ⟨L, rfl, hw⟩ := rows_of (f := File.enc) (G := RcOk) (fun i r hr => by
    obtain ⟨hl, hc⟩ := hR i r hr
    obtain ⟨c0, c1, c2, c3, rfl⟩ := list4 hl
    obtain ⟨_, _, t0⟩ := hc 0 _ _ rfl rfl
    obtain ⟨a0, q0, _, w0⟩ := DataW.trod_int Tryd.underlying5 t0; cases q0
    obtain ⟨_, _, t1⟩ := hc 1 _ _ rfl rfl
    obtain ⟨a1, q1, _, w1⟩ := DataW.trod_int Tryd.underlying5 t1; cases q1
    obtain ⟨_, _, t2⟩ := hc 2 _ _ rfl rfl
    obtain ⟨a2, q2, _, w2⟩ := DataW.trod_int Tryd.underlying5 t2; cases q2
    obtain ⟨_, _, t3⟩ := hc 3 _ _ rfl rfl
    obtain ⟨a3, q3, _, w3⟩ := DataW.trod_int Tryd.underlying5 t3; cases q3
    exact ⟨⟨a0, a1, a2, a3⟩, rfl, u8_wf w0, u8_wf w1, u8_wf w2, u8_wf w3⟩)
  rw [List.length_map] at hlR; subst hlR
  exact ⟨⟨a0, a1, b, cp, L⟩, rfl, hs, hw⟩
end Go.Proofs.YtamlipffhimfmaaDoor.Srv

/- For every input ServeOne answers true and leaves its arguments as_ they were; the package's one variable holds what the program's text lays into it: the tied card. -/
namespace Go.Proofs.YtamlipffhimfmaaDoor.lawServeOne
set_option linter.unusedSimpArgs false
set_option linter.unusedVariables false
open Go Go.AX Go.ChangeShapes Go.WideShapes Go.ChangeAt Go.RowKit Go.Proofs.YtamlipffhimfmaaDoor.Srv Go.Proofs.YtamlipffhimfmaaDoor.Ifs

theorem own : ownKnob Tryd.prog.godebug = none := by kernel_rfl
theorem laidOut : laidOutB Tryd.prog = true := by kernel_rfl
theorem et : Tryd.prog.globalNamed "errors.errorType" = some 0 := by kernel_rfl
theorem rt : (Tryd.prog.cutTypes.find? (·.1 == "internal/reflectlite.rtype")).map (·.2) = some 130 := by kernel_rfl
theorem oneRow : ((List.range Tryd.prog.types.size).filter fun t => Tryd.prog.rowNamed t [101, 114, 114, 111, 114]) = [83] := by kernel_rfl

/-- The variable's one cell. -/
theorem handle_of_laid {W : World} (h : laidMetH Tryd.prog Rows.serveOneRow.laid W) : Err.ErrT W := by
  have h' : laidMet Tryd.prog [] W ∧ handlesMet Tryd.prog Rows.serveOneRow.laid W := h
  obtain ⟨name, u, ty, e1, e2, e3, e4, e5⟩ := h'.2 _ (List.mem_singleton.2 rfl)
  have en : name = [101, 114, 114, 111, 114] := (Option.some.inj e1).symm
  subst en
  obtain rfl := Option.some.inj (rt.symm.trans e2)
  have hm : ty ∈ (List.range Tryd.prog.types.size).filter fun t => Tryd.prog.rowNamed t [101, 114, 114, 111, 114] := List.mem_filter.2 ⟨List.mem_range.2 e3, e4⟩
  rw [oneRow] at hm
  obtain rfl := List.mem_singleton.1 hm
  have hh : typeHandle Tryd.prog 83 = .pointer (some ⟨1, 83, none⟩) := by kernel_rfl
  rw [hh] at e5
  unfold Err.ErrT
  simpa using World.var?_cell et e5 0

/-- A world that meets the condition: the settled one, the variable's cell laid. -/
noncomputable def laidWorld (os : Os) : World :=
  let w0 := World.holding Tryd.prog os ⟨#[], #[], []⟩
  { w0 with heap := w0.heap.modify 0 fun
      | .cells _ t frozen => .cells #[.iface 130 (.agg #[.pointer (some ⟨1, 83, none⟩)])] t frozen
      | o => o }
theorem laidWorld_met (os : Os) (args : Array Value) : laidMetH Tryd.prog Rows.serveOneRow.laid ((laidWorld os).forCall (fun _ _ => 0) ⟨#[], args, []⟩).memory :=
  laidMetH_of_parts (laidMet_nil _ _) (by kernel_rfl)

set_option maxRecDepth 100000 in
theorem contract (H : Type) (enc : TypeId × Value → H) (W : World) (base : Nat) (args : Array Value) (ds gs : List (DataW H)) (before : List MemPlace)
    (hval : ∀ (j : Nat) t v, Tryd.f3.params[j]? = some t → args[j]? = some v → Value.okWide Tryd.prog W .any base t v)
    (hW : DataW.Whole enc Tryd.prog Tryd.f3.params.toList Rows.serveOneSpec.vars false W args.toList ds gs before) (hE : Err.ErrT W) :
    Calls Tryd.prog 3 args W fun e W' => ∃ v, e = .returned v ∧ Rows.serveOneSpec.post enc Tryd.prog Tryd.f3 false true false false W args v W' := by
  have hW' := hW
  obtain ⟨p, q, hA0, hV, rfl, hfz, hnd⟩ := hW
  have hA : DataW.TrodAll enc Tryd.prog W 0 (fun _ => true) true Tryd.f3.params.toList args.toList ds p := hA0
  rw [Tryd.params3] at hA hval
  obtain ⟨v0, v1, v2, v3, v4, v5, d0, d1, d2, d3, d4, d5, p0, p1, p2, p3, p4, p5, rfl, rfl, rfl, h0, h1, h2, h3, h4, h5⟩ := trodAll_six hA
  obtain ⟨rfl, rfl⟩ := trodVars_none hV
  obtain ⟨k0, k1, k2, k3, k4, k5⟩ := okw6 hval
  obtain ⟨bs0, n0, cp0, R0, rfl, hl0, hs0, hR0⟩ := open_slc (P := Tryd.prog) (sz := 3) Tryd.underlying22 (by kernel_rfl) (by simp) (show leafTs Tryd.prog 20 48 = some [3, 3, 44] by kernel_rfl) rfl k0 h0
  obtain ⟨L0, rfl, hw0⟩ := rows_of (f := encN) (G := NfIn ⟨W, []⟩) (fun i r hr => by
    obtain ⟨hl, hc⟩ := hR0 i r hr
    exact open_named hl hc)
  rw [List.length_map] at hl0; subst hl0
  obtain ⟨a1, rfl, rfl, rfl, w1⟩ := open_int Tryd.underlying3 k1 h1
  obtain ⟨c2_0, c2_1, c2_2, y2_0, y2_1, y2_2, m2, rfl, rfl, rfl, e2_0, e2_1, e2_2⟩ := Go.Joins.open_agg3 (Tryd.underlying24) (by kernel_rfl) (by kernel_rfl) k2 h2
  obtain ⟨a2_0, q2_0, _, w2_0⟩ := DataW.trod_int Tryd.underlying3 e2_0
  cases q2_0
  obtain ⟨a2_1, q2_1, _, w2_1⟩ := DataW.trod_int Tryd.underlying3 e2_1
  cases q2_1
  obtain ⟨a2_2, q2_2, _, w2_2⟩ := DataW.trod_int Tryd.underlying3 e2_2
  cases q2_2
  obtain ⟨ns3, hn3, rfl, hw3⟩ := open_arr_int (P := Tryd.prog) Tryd.underlying26 Tryd.underlying5 (by kernel_rfl) (by kernel_rfl) k3 h3
  obtain ⟨x3_0, x3_1, x3_2, x3_3, rfl⟩ := list4 hn3
  obtain ⟨a4, rfl, rfl, rfl, w4⟩ := open_int Tryd.underlying5 k4 h4
  obtain ⟨a5, rfl, rfl, rfl, w5⟩ := open_int Tryd.underlying5 k5 h5
  exact law_post laidOut (by kernel_rfl) rfl rfl Tryd.underlying4 hW' rfl rfl rfl
    ((ServeOne_c L0 bs0 cp0 a1 a2_0 a2_1 a2_2 (x3_0, x3_1, x3_2, x3_3) a4 a5 (Srv.u8_lt w4) (Srv.u8_lt w5) _ hs0 hw0 hE).mono fun v H' h => ⟨h.1, h.2 ▸ rfl⟩)

set_option maxRecDepth 100000 in
theorem lifted (os : Os) (started : os.Started) (H : Type) (enc : TypeId × Value → H) :
    ReturnsInHanded {} Tryd.checked os 3 .any (fun w args => (Rows.serveOneSpec.pre enc Tryd.prog Tryd.f3 [] false w args ∧ laidMetH Tryd.prog Rows.serveOneRow.laid w) ∧ sizedMet enc Tryd.prog Tryd.f3 (OpenSpec.ofChange Rows.serveOneSpec) false w args)
      (Rows.serveOneSpec.post enc Tryd.prog Tryd.f3 false true false false) := by
  refine returnsInHanded_of_change_and (C := Tryd.checked) (X := fun w _ => laidMetH Tryd.prog Rows.serveOneRow.laid w) (fun _ _ _ hh h => h.of_heap hh) own started (by kernel_rfl) Tryd.func3
    (ChangeSpec.witness_at (enc := enc) (C := Tryd.checked) (os := os) (X := fun w _ => laidMetH Tryd.prog Rows.serveOneRow.laid w) false (laidWorld os) #[.slice none 0 0, .int .i64 0, .agg #[.int .i64 0, .int .i64 0, .int .i64 0], .agg #[.int .u8 0, .int .u8 0, .int .u8 0, .int .u8 0], .int .u8 0, .int .u8 0] 8 rfl (by kernel_rfl) (by kernel_rfl) (by kernel_rfl) (by kernel_rfl) (by kernel_rfl) (laidWorld_met os _)) ?_
  intro W base args ds gs before hval hW _ _ hL _
  exact contract H enc W base args ds gs before hval hW (handle_of_laid hL)

theorem row : Rows.ServeOneSaid :=
  OpenClaim.holds_of_wide 3 Tryd.f3 rfl rfl rfl rfl rfl rfl rfl ⟨rfl, rfl, rfl, rfl, rfl⟩ rfl rfl rfl rfl rfl (by kernel_rfl) Tryd.func3 (by kernel_rfl)
    (of_decide_eq_true (by kernel_rfl)) (by unfold Func.isWrapper; rw [if_neg (of_decide_eq_false (by kernel_rfl))]; exact ⟨rfl, rfl⟩)
    (fun os started H enc _ => lifted os started H enc)

theorem proved : Rows.ServeOneCardSaid :=
  Claim7.holds_tied_plain_at .later [] [.handle] true Rows.serveOneCard.stood.harness true
    row (fun _ h => by cases h) (by kernel_rfl) (fun _ h => by cases h) serveOne_row_tie rfl ⟨rfl, rfl⟩ (by kernel_rfl) rfl
    (fun f fn hf hfn => by
      obtain rfl : f = 3 := Option.some.inj ((show Tryd.prog.funcNamed "hayward/haywardlaw16.ServeOne" = some 3 by kernel_rfl).symm.trans hf) |>.symm
      obtain rfl : fn = Tryd.f3 := (Option.some.inj (Tryd.func3.symm.trans hfn)).symm
      exact ⟨by kernel_rfl, fun j t ht => by
          rw [Tryd.params3] at ht
          rcases j with _ | j
          · have : t = 22 := by simpa using ht.symm
            subst this; exact (show Tryd.prog.wantsStandIn 22 = false by kernel_rfl)
          rcases j with _ | j
          · have : t = 3 := by simpa using ht.symm
            subst this; exact (show Tryd.prog.wantsStandIn 3 = false by kernel_rfl)
          rcases j with _ | j
          · have : t = 24 := by simpa using ht.symm
            subst this; exact (show Tryd.prog.wantsStandIn 24 = false by kernel_rfl)
          rcases j with _ | j
          · have : t = 26 := by simpa using ht.symm
            subst this; exact (show Tryd.prog.wantsStandIn 26 = false by kernel_rfl)
          rcases j with _ | j
          · have : t = 5 := by simpa using ht.symm
            subst this; exact (show Tryd.prog.wantsStandIn 5 = false by kernel_rfl)
          rcases j with _ | j
          · have : t = 5 := by simpa using ht.symm
            subst this; exact (show Tryd.prog.wantsStandIn 5 = false by kernel_rfl)
          · simp at ht⟩)
    (by kernel_rfl)

end Go.Proofs.YtamlipffhimfmaaDoor.lawServeOne
