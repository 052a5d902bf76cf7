/- rodl: Put and Take of both sides. -/
import Derived.Test.YtadbmmdmibiikaaRodl1
namespace Go.Proofs.Ytadbmmdmibiikaa.Rodl
set_option linter.unusedSimpArgs false
set_option linter.unusedVariables false
open Go Go.AX Go.Proofs Ty Go.Proofs.Ytadbmmdmibiikaa.File
set_option maxHeartbeats 4000000
set_option maxRecDepth 10000

def putR : En → Rc
  | (k, s, f, r, b) => (64 * b + k, s, f, r)
def ze : En := (0, 0, 0, 0, 0)
def pR (x : En) : Rc := if goodE x = true then putR x else zr
def pE (x : En) : Int := if goodE x = true then 0 else 1
theorem goodE_range {k s f r b : Int} (h : goodE (k, s, f, r, b) = true) : (0 ≤ b ∧ b ≤ 3) ∧ (1 ≤ k ∧ k ≤ 4) ∧ (0 ≤ s ∧ s ≤ 16) ∧ (0 ≤ f ∧ f ≤ 63) ∧ (0 ≤ r ∧ r ≤ 255) := by
  simp only [goodE] at h
  split at h
  · have := of_decide_eq_true h
    omega
  · simp only [placeB, Bool.and_eq_true, decide_eq_true_eq] at h
    omega
theorem or_put : ∀ (x : Fin 4) (y : Fin 64), IntKind.u8.wrap (ibits .or .i64 (IntKind.i64.wrap ((x.val : Int) * 64)) (y.val : Int)) = 64 * (x.val : Int) + y.val := by decide +kernel
theorem or_eq {a c : Int} (a0 : 0 ≤ a) (a1 : a ≤ 3) (c0 : 0 ≤ c) (c1 : c < 64) : IntKind.u8.wrap (ibits .or .i64 (IntKind.i64.wrap (a * 64)) c) = 64 * a + c := by
  have := or_put ⟨a.toNat, by omega⟩ ⟨c.toNat, by omega⟩
  simpa [Int.toNat_of_nonneg a0, Int.toNat_of_nonneg c0] using this
theorem Put_u (k s f r b : Int) (H : AH) : ACalls Try.prog 50 #[.agg #[.int .i64 k, .int .i64 s, .int .i64 f, .int .i64 r, .int .i64 b]] H (fun v H' => v = .tuple #[.agg (enc (pR (k, s, f, r, b))).toArray, .int .i64 (pE (k, s, f, r, b))] ∧ H = H') := by
  refine ACalls.enter2 Try.func50 rfl Try.ntmps50 Try.results50 (by simp) ?_; simp (dsimp := false) (maxSteps := 4000000) only [go_sem, ↓reduceIte, Nat.reduceEqDiff, Nat.reduceLT, Nat.reduceLeDiff, Nat.reduceAdd, Nat.reduceMul, Nat.reduceSub, reduceCtorEq, Int.reduceToNat, Int.reduceLT, Int.reduceLE, Int.reduceEq, Int.reduceNe, Int.reduceBEq, Nat.reduceBEq, Int.reduceBNe, Nat.reduceBNe, Int.reduceAdd, Int.reduceSub, Int.reduceMul, Int.reduceNeg]
  refine AllB.mk fun b1 h_b1 => ?_; have hn_b1 := h_b1; (try simp only [fresh_add, fresh_set, ne_eq] at hn_b1); have hr_b1 := hn_b1; (try simp only [@eq_comm Nat b1] at hr_b1); simp (dsimp := false) (maxSteps := 4000000) only [hn_b1, hr_b1, go_sem, ↓reduceIte, Nat.reduceEqDiff, Nat.reduceLT, Nat.reduceLeDiff, Nat.reduceAdd, Nat.reduceMul, Nat.reduceSub, reduceCtorEq, Int.reduceToNat, Int.reduceLT, Int.reduceLE, Int.reduceEq, Int.reduceNe, Int.reduceBEq, Nat.reduceBEq, Int.reduceBNe, Nat.reduceBNe, Int.reduceAdd, Int.reduceSub, Int.reduceMul, Int.reduceNeg]
  refine AllB.mk fun b2 h_b2 => ?_; have hn_b2 := h_b2; (try simp only [fresh_add, fresh_set, ne_eq] at hn_b2); have hr_b2 := hn_b2; (try simp only [@eq_comm Nat b2] at hr_b2); simp (dsimp := false) (maxSteps := 4000000) only [hn_b1, hr_b1, hn_b2, hr_b2, go_sem, ↓reduceIte, Nat.reduceEqDiff, Nat.reduceLT, Nat.reduceLeDiff, Nat.reduceAdd, Nat.reduceMul, Nat.reduceSub, reduceCtorEq, Int.reduceToNat, Int.reduceLT, Int.reduceLE, Int.reduceEq, Int.reduceNe, Int.reduceBEq, Nat.reduceBEq, Int.reduceBNe, Nat.reduceBNe, Int.reduceAdd, Int.reduceSub, Int.reduceMul, Int.reduceNeg]
  refine (Good_c k s f r b _).mono ?_; rintro _ _ ⟨rfl, rfl⟩
  cases g : goodE (k, s, f, r, b) with
  | true =>
    obtain ⟨⟨h1, h2⟩, ⟨h3, h4⟩, ⟨h5, h6⟩, ⟨h7, h8⟩, ⟨h9, h10⟩⟩ := goodE_range g
    have e1 := or_eq h1 h2 (by omega : 0 ≤ k) (by omega)
    have e2 := u8_eq h5 (by omega)
    have e3 := u8_eq h7 (by omega)
    have e4 := u8_eq h9 (by omega)
    simp (dsimp := false) (maxSteps := 4000000) only [e1, e2, e3, e4, hn_b1, hr_b1, hn_b2, hr_b2, go_sem, ↓reduceIte, Nat.reduceEqDiff, Nat.reduceLT, Nat.reduceLeDiff, Nat.reduceAdd, Nat.reduceMul, Nat.reduceSub, reduceCtorEq, Int.reduceToNat, Int.reduceLT, Int.reduceLE, Int.reduceEq, Int.reduceNe, Int.reduceBEq, Nat.reduceBEq, Int.reduceBNe, Nat.reduceBNe, Int.reduceAdd, Int.reduceSub, Int.reduceMul, Int.reduceNeg]
    exact ⟨H, (AH.le_add (AH.le_add (AH.le_refl _) ((by simp only [fresh_add, fresh_set, ne_eq, hn_b1, not_false_eq_true, and_self] : Fresh _ b1).2)) ((by simp only [fresh_add, fresh_set, ne_eq, hn_b2, not_false_eq_true, and_self] : Fresh _ b2).2)), (by first | exact ⟨by simp [pR, pE, g, putR, enc, e1], rfl⟩ | rfl)⟩
  | false =>
    simp (dsimp := false) (maxSteps := 4000000) only [hn_b1, hr_b1, hn_b2, hr_b2, go_sem, ↓reduceIte, Nat.reduceEqDiff, Nat.reduceLT, Nat.reduceLeDiff, Nat.reduceAdd, Nat.reduceMul, Nat.reduceSub, reduceCtorEq, Int.reduceToNat, Int.reduceLT, Int.reduceLE, Int.reduceEq, Int.reduceNe, Int.reduceBEq, Nat.reduceBEq, Int.reduceBNe, Nat.reduceBNe, Int.reduceAdd, Int.reduceSub, Int.reduceMul, Int.reduceNeg]
    exact ⟨H, (AH.le_add (AH.le_add (AH.le_refl _) ((by simp only [fresh_add, fresh_set, ne_eq, hn_b1, not_false_eq_true, and_self] : Fresh _ b1).2)) ((by simp only [fresh_add, fresh_set, ne_eq, hn_b2, not_false_eq_true, and_self] : Fresh _ b2).2)), (by first | exact ⟨by simp [pR, pE, g, zr, enc], rfl⟩ | rfl)⟩
theorem RefPut_u (k s f r b : Int) (H : AH) : ACalls Try.prog 51 #[.agg #[.int .i64 k, .int .i64 s, .int .i64 f, .int .i64 r, .int .i64 b]] H (fun v H' => v = .tuple #[.agg (enc (pR (k, s, f, r, b))).toArray, .int .i64 (pE (k, s, f, r, b))] ∧ H = H') := by
  refine ACalls.enter2 Try.func51 rfl Try.ntmps51 Try.results51 (by simp) ?_; simp (dsimp := false) (maxSteps := 4000000) only [go_sem, ↓reduceIte, Nat.reduceEqDiff, Nat.reduceLT, Nat.reduceLeDiff, Nat.reduceAdd, Nat.reduceMul, Nat.reduceSub, reduceCtorEq, Int.reduceToNat, Int.reduceLT, Int.reduceLE, Int.reduceEq, Int.reduceNe, Int.reduceBEq, Nat.reduceBEq, Int.reduceBNe, Nat.reduceBNe, Int.reduceAdd, Int.reduceSub, Int.reduceMul, Int.reduceNeg]
  refine AllB.mk fun b1 h_b1 => ?_; have hn_b1 := h_b1; (try simp only [fresh_add, fresh_set, ne_eq] at hn_b1); have hr_b1 := hn_b1; (try simp only [@eq_comm Nat b1] at hr_b1); simp (dsimp := false) (maxSteps := 4000000) only [hn_b1, hr_b1, go_sem, ↓reduceIte, Nat.reduceEqDiff, Nat.reduceLT, Nat.reduceLeDiff, Nat.reduceAdd, Nat.reduceMul, Nat.reduceSub, reduceCtorEq, Int.reduceToNat, Int.reduceLT, Int.reduceLE, Int.reduceEq, Int.reduceNe, Int.reduceBEq, Nat.reduceBEq, Int.reduceBNe, Nat.reduceBNe, Int.reduceAdd, Int.reduceSub, Int.reduceMul, Int.reduceNeg]
  refine AllB.mk fun b2 h_b2 => ?_; have hn_b2 := h_b2; (try simp only [fresh_add, fresh_set, ne_eq] at hn_b2); have hr_b2 := hn_b2; (try simp only [@eq_comm Nat b2] at hr_b2); simp (dsimp := false) (maxSteps := 4000000) only [hn_b1, hr_b1, hn_b2, hr_b2, go_sem, ↓reduceIte, Nat.reduceEqDiff, Nat.reduceLT, Nat.reduceLeDiff, Nat.reduceAdd, Nat.reduceMul, Nat.reduceSub, reduceCtorEq, Int.reduceToNat, Int.reduceLT, Int.reduceLE, Int.reduceEq, Int.reduceNe, Int.reduceBEq, Nat.reduceBEq, Int.reduceBNe, Nat.reduceBNe, Int.reduceAdd, Int.reduceSub, Int.reduceMul, Int.reduceNeg]
  refine (RefGood_c k s f r b _).mono ?_; rintro _ _ ⟨rfl, rfl⟩
  cases g : goodE (k, s, f, r, b) with
  | true =>
    obtain ⟨⟨h1, h2⟩, ⟨h3, h4⟩, ⟨h5, h6⟩, ⟨h7, h8⟩, ⟨h9, h10⟩⟩ := goodE_range g
    have e0 : IntKind.i64.wrap (64 * b) = 64 * b := i64_eq (by omega) (by omega)
    have e0' : IntKind.i64.wrap (64 * b + k) = 64 * b + k := i64_eq (by omega) (by omega)
    have e1 : IntKind.u8.wrap (64 * b + k) = 64 * b + k := u8_eq (by omega) (by omega)
    have e2 := u8_eq h5 (by omega)
    have e3 := u8_eq h7 (by omega)
    have e4 := u8_eq h9 (by omega)
    simp (dsimp := false) (maxSteps := 4000000) only [e0, e0', e1, e2, e3, e4, hn_b1, hr_b1, hn_b2, hr_b2, go_sem, ↓reduceIte, Nat.reduceEqDiff, Nat.reduceLT, Nat.reduceLeDiff, Nat.reduceAdd, Nat.reduceMul, Nat.reduceSub, reduceCtorEq, Int.reduceToNat, Int.reduceLT, Int.reduceLE, Int.reduceEq, Int.reduceNe, Int.reduceBEq, Nat.reduceBEq, Int.reduceBNe, Nat.reduceBNe, Int.reduceAdd, Int.reduceSub, Int.reduceMul, Int.reduceNeg]
    exact ⟨H, (AH.le_add (AH.le_add (AH.le_refl _) ((by simp only [fresh_add, fresh_set, ne_eq, hn_b1, not_false_eq_true, and_self] : Fresh _ b1).2)) ((by simp only [fresh_add, fresh_set, ne_eq, hn_b2, not_false_eq_true, and_self] : Fresh _ b2).2)), (by first | exact ⟨by simp [pR, pE, g, putR, enc], rfl⟩ | rfl)⟩
  | false =>
    simp (dsimp := false) (maxSteps := 4000000) only [hn_b1, hr_b1, hn_b2, hr_b2, go_sem, ↓reduceIte, Nat.reduceEqDiff, Nat.reduceLT, Nat.reduceLeDiff, Nat.reduceAdd, Nat.reduceMul, Nat.reduceSub, reduceCtorEq, Int.reduceToNat, Int.reduceLT, Int.reduceLE, Int.reduceEq, Int.reduceNe, Int.reduceBEq, Nat.reduceBEq, Int.reduceBNe, Nat.reduceBNe, Int.reduceAdd, Int.reduceSub, Int.reduceMul, Int.reduceNeg]
    exact ⟨H, (AH.le_add (AH.le_add (AH.le_refl _) ((by simp only [fresh_add, fresh_set, ne_eq, hn_b1, not_false_eq_true, and_self] : Fresh _ b1).2)) ((by simp only [fresh_add, fresh_set, ne_eq, hn_b2, not_false_eq_true, and_self] : Fresh _ b2).2)), (by first | exact ⟨by simp [pR, pE, g, zr, enc], rfl⟩ | rfl)⟩
def takeE : Rc → En
  | (a, b, c, d) => (a % 64, b, c, d, a / 64)
def tX (v : Rc) : En := if goodE (takeE v) = true then takeE v else ze
def tE (v : Rc) : Int := if goodE (takeE v) = true then 0 else 2
theorem and_63 : ∀ (x : Fin 256), ibits .and .u8 (x.val : Int) 63 = (x.val : Int) % 64 := by decide +kernel
theorem and_eq {x : Int} (h0 : 0 ≤ x) (h1 : x ≤ 255) : ibits .and .u8 x 63 = x % 64 := by
  have := and_63 ⟨x.toNat, by omega⟩
  simpa [Int.toNat_of_nonneg h0] using this
theorem Take_u (v0 v1 v2 v3 : Int) (hw : RcOk (v0, v1, v2, v3)) (H : AH) : ACalls Try.prog 52 #[.agg #[.int .u8 v0, .int .u8 v1, .int .u8 v2, .int .u8 v3]] H (fun v H' => v = .tuple #[.agg (encE (tX (v0, v1, v2, v3))).toArray, .int .i64 (tE (v0, v1, v2, v3))] ∧ H = H') := by
  obtain ⟨⟨a0, a1⟩, ⟨b0, b1_⟩, ⟨c0, c1⟩, ⟨d0, d1⟩⟩ := hw
  simp only at a0 a1 b0 b1_ c0 c1 d0 d1
  have e1 := and_eq a0 a1
  have e2 : IntKind.i64.wrap (v0 % 64) = v0 % 64 := i64_eq (by omega) (by omega)
  have e3 : IntKind.i64.wrap (v0.fdiv (2 ^ min 6 8)) = v0 / 64 := by
    rw [show (2 : Int) ^ min 6 8 = 64 from rfl, Int.fdiv_eq_ediv_of_nonneg _ (by omega)]
    exact i64_eq (by omega) (by omega)
  have e4 : IntKind.i64.wrap v1 = v1 := i64_eq (by omega) (by omega)
  have e5 : IntKind.i64.wrap v2 = v2 := i64_eq (by omega) (by omega)
  have e6 : IntKind.i64.wrap v3 = v3 := i64_eq (by omega) (by omega)
  refine ACalls.enter2 Try.func52 rfl Try.ntmps52 Try.results52 (by simp) ?_; simp (dsimp := false) (maxSteps := 4000000) only [e1, e2, e3, e4, e5, e6, go_sem, ↓reduceIte, Nat.reduceEqDiff, Nat.reduceLT, Nat.reduceLeDiff, Nat.reduceAdd, Nat.reduceMul, Nat.reduceSub, reduceCtorEq, Int.reduceToNat, Int.reduceLT, Int.reduceLE, Int.reduceEq, Int.reduceNe, Int.reduceBEq, Nat.reduceBEq, Int.reduceBNe, Nat.reduceBNe, Int.reduceAdd, Int.reduceSub, Int.reduceMul, Int.reduceNeg]
  refine AllB.mk fun b1 h_b1 => ?_; have hn_b1 := h_b1; (try simp only [fresh_add, fresh_set, ne_eq] at hn_b1); have hr_b1 := hn_b1; (try simp only [@eq_comm Nat b1] at hr_b1); simp (dsimp := false) (maxSteps := 4000000) only [e1, e2, e3, e4, e5, e6, hn_b1, hr_b1, go_sem, ↓reduceIte, Nat.reduceEqDiff, Nat.reduceLT, Nat.reduceLeDiff, Nat.reduceAdd, Nat.reduceMul, Nat.reduceSub, reduceCtorEq, Int.reduceToNat, Int.reduceLT, Int.reduceLE, Int.reduceEq, Int.reduceNe, Int.reduceBEq, Nat.reduceBEq, Int.reduceBNe, Nat.reduceBNe, Int.reduceAdd, Int.reduceSub, Int.reduceMul, Int.reduceNeg]
  refine AllB.mk fun b2 h_b2 => ?_; have hn_b2 := h_b2; (try simp only [fresh_add, fresh_set, ne_eq] at hn_b2); have hr_b2 := hn_b2; (try simp only [@eq_comm Nat b2] at hr_b2); simp (dsimp := false) (maxSteps := 4000000) only [e1, e2, e3, e4, e5, e6, hn_b1, hr_b1, hn_b2, hr_b2, go_sem, ↓reduceIte, Nat.reduceEqDiff, Nat.reduceLT, Nat.reduceLeDiff, Nat.reduceAdd, Nat.reduceMul, Nat.reduceSub, reduceCtorEq, Int.reduceToNat, Int.reduceLT, Int.reduceLE, Int.reduceEq, Int.reduceNe, Int.reduceBEq, Nat.reduceBEq, Int.reduceBNe, Nat.reduceBNe, Int.reduceAdd, Int.reduceSub, Int.reduceMul, Int.reduceNeg]
  refine AllB.mk fun b4 h_b4 => ?_; have hn_b4 := h_b4; (try simp only [fresh_add, fresh_set, ne_eq] at hn_b4); have hr_b4 := hn_b4; (try simp only [@eq_comm Nat b4] at hr_b4); simp (dsimp := false) (maxSteps := 4000000) only [e1, e2, e3, e4, e5, e6, hn_b1, hr_b1, hn_b2, hr_b2, hn_b4, hr_b4, go_sem, ↓reduceIte, Nat.reduceEqDiff, Nat.reduceLT, Nat.reduceLeDiff, Nat.reduceAdd, Nat.reduceMul, Nat.reduceSub, reduceCtorEq, Int.reduceToNat, Int.reduceLT, Int.reduceLE, Int.reduceEq, Int.reduceNe, Int.reduceBEq, Nat.reduceBEq, Int.reduceBNe, Nat.reduceBNe, Int.reduceAdd, Int.reduceSub, Int.reduceMul, Int.reduceNeg]
  refine (Good_c (v0 % 64) v1 v2 v3 (v0 / 64) _).mono ?_; rintro _ _ ⟨rfl, rfl⟩
  cases g : goodE (v0 % 64, v1, v2, v3, v0 / 64) with
  | true =>
    simp (dsimp := false) (maxSteps := 4000000) only [e1, e2, e3, e4, e5, e6, hn_b1, hr_b1, hn_b2, hr_b2, hn_b4, hr_b4, go_sem, ↓reduceIte, Nat.reduceEqDiff, Nat.reduceLT, Nat.reduceLeDiff, Nat.reduceAdd, Nat.reduceMul, Nat.reduceSub, reduceCtorEq, Int.reduceToNat, Int.reduceLT, Int.reduceLE, Int.reduceEq, Int.reduceNe, Int.reduceBEq, Nat.reduceBEq, Int.reduceBNe, Nat.reduceBNe, Int.reduceAdd, Int.reduceSub, Int.reduceMul, Int.reduceNeg]
    exact ⟨H, (AH.le_add (AH.le_add (AH.le_add (AH.le_refl _) ((by simp only [fresh_add, fresh_set, ne_eq, hn_b1, not_false_eq_true, and_self] : Fresh _ b1).2)) ((by simp only [fresh_add, fresh_set, ne_eq, hn_b2, not_false_eq_true, and_self] : Fresh _ b2).2)) ((by simp only [fresh_add, fresh_set, ne_eq, hn_b4, not_false_eq_true, and_self] : Fresh _ b4).2)), (by first | exact ⟨by simp [tX, tE, takeE, g, encE], rfl⟩ | rfl)⟩
  | false =>
    simp (dsimp := false) (maxSteps := 4000000) only [e1, e2, e3, e4, e5, e6, hn_b1, hr_b1, hn_b2, hr_b2, hn_b4, hr_b4, go_sem, ↓reduceIte, Nat.reduceEqDiff, Nat.reduceLT, Nat.reduceLeDiff, Nat.reduceAdd, Nat.reduceMul, Nat.reduceSub, reduceCtorEq, Int.reduceToNat, Int.reduceLT, Int.reduceLE, Int.reduceEq, Int.reduceNe, Int.reduceBEq, Nat.reduceBEq, Int.reduceBNe, Nat.reduceBNe, Int.reduceAdd, Int.reduceSub, Int.reduceMul, Int.reduceNeg]
    exact ⟨H, (AH.le_add (AH.le_add (AH.le_add (AH.le_refl _) ((by simp only [fresh_add, fresh_set, ne_eq, hn_b1, not_false_eq_true, and_self] : Fresh _ b1).2)) ((by simp only [fresh_add, fresh_set, ne_eq, hn_b2, not_false_eq_true, and_self] : Fresh _ b2).2)) ((by simp only [fresh_add, fresh_set, ne_eq, hn_b4, not_false_eq_true, and_self] : Fresh _ b4).2)), (by first | exact ⟨by simp [tX, tE, takeE, g, encE, ze], rfl⟩ | rfl)⟩
theorem RefTake_u (v0 v1 v2 v3 : Int) (hw : RcOk (v0, v1, v2, v3)) (H : AH) : ACalls Try.prog 53 #[.agg #[.int .u8 v0, .int .u8 v1, .int .u8 v2, .int .u8 v3]] H (fun v H' => v = .tuple #[.agg (encE (tX (v0, v1, v2, v3))).toArray, .int .i64 (tE (v0, v1, v2, v3))] ∧ H = H') := by
  obtain ⟨⟨a0, a1⟩, ⟨b0, b1_⟩, ⟨c0, c1⟩, ⟨d0, d1⟩⟩ := hw
  simp only at a0 a1 b0 b1_ c0 c1 d0 d1
  have e0 : IntKind.i64.wrap v0 = v0 := i64_eq (by omega) (by omega)
  have e2 : v0.tmod 64 = v0 % 64 := Int.tmod_eq_emod_of_nonneg a0
  have e3 : IntKind.i64.wrap (v0.tdiv 64) = v0 / 64 := by rw [Int.tdiv_eq_ediv_of_nonneg a0]; exact i64_eq (by omega) (by omega)
  have e4 : IntKind.i64.wrap v1 = v1 := i64_eq (by omega) (by omega)
  have e5 : IntKind.i64.wrap v2 = v2 := i64_eq (by omega) (by omega)
  have e6 : IntKind.i64.wrap v3 = v3 := i64_eq (by omega) (by omega)
  refine ACalls.enter2 Try.func53 rfl Try.ntmps53 Try.results53 (by simp) ?_; simp (dsimp := false) (maxSteps := 4000000) only [e0, e2, e3, e4, e5, e6, go_sem, ↓reduceIte, Nat.reduceEqDiff, Nat.reduceLT, Nat.reduceLeDiff, Nat.reduceAdd, Nat.reduceMul, Nat.reduceSub, reduceCtorEq, Int.reduceToNat, Int.reduceLT, Int.reduceLE, Int.reduceEq, Int.reduceNe, Int.reduceBEq, Nat.reduceBEq, Int.reduceBNe, Nat.reduceBNe, Int.reduceAdd, Int.reduceSub, Int.reduceMul, Int.reduceNeg]
  refine AllB.mk fun b1 h_b1 => ?_; have hn_b1 := h_b1; (try simp only [fresh_add, fresh_set, ne_eq] at hn_b1); have hr_b1 := hn_b1; (try simp only [@eq_comm Nat b1] at hr_b1); simp (dsimp := false) (maxSteps := 4000000) only [e0, e2, e3, e4, e5, e6, hn_b1, hr_b1, go_sem, ↓reduceIte, Nat.reduceEqDiff, Nat.reduceLT, Nat.reduceLeDiff, Nat.reduceAdd, Nat.reduceMul, Nat.reduceSub, reduceCtorEq, Int.reduceToNat, Int.reduceLT, Int.reduceLE, Int.reduceEq, Int.reduceNe, Int.reduceBEq, Nat.reduceBEq, Int.reduceBNe, Nat.reduceBNe, Int.reduceAdd, Int.reduceSub, Int.reduceMul, Int.reduceNeg]
  refine AllB.mk fun b2 h_b2 => ?_; have hn_b2 := h_b2; (try simp only [fresh_add, fresh_set, ne_eq] at hn_b2); have hr_b2 := hn_b2; (try simp only [@eq_comm Nat b2] at hr_b2); simp (dsimp := false) (maxSteps := 4000000) only [e0, e2, e3, e4, e5, e6, hn_b1, hr_b1, hn_b2, hr_b2, go_sem, ↓reduceIte, Nat.reduceEqDiff, Nat.reduceLT, Nat.reduceLeDiff, Nat.reduceAdd, Nat.reduceMul, Nat.reduceSub, reduceCtorEq, Int.reduceToNat, Int.reduceLT, Int.reduceLE, Int.reduceEq, Int.reduceNe, Int.reduceBEq, Nat.reduceBEq, Int.reduceBNe, Nat.reduceBNe, Int.reduceAdd, Int.reduceSub, Int.reduceMul, Int.reduceNeg]
  refine AllB.mk fun b4 h_b4 => ?_; have hn_b4 := h_b4; (try simp only [fresh_add, fresh_set, ne_eq] at hn_b4); have hr_b4 := hn_b4; (try simp only [@eq_comm Nat b4] at hr_b4); simp (dsimp := false) (maxSteps := 4000000) only [e0, e2, e3, e4, e5, e6, hn_b1, hr_b1, hn_b2, hr_b2, hn_b4, hr_b4, go_sem, ↓reduceIte, Nat.reduceEqDiff, Nat.reduceLT, Nat.reduceLeDiff, Nat.reduceAdd, Nat.reduceMul, Nat.reduceSub, reduceCtorEq, Int.reduceToNat, Int.reduceLT, Int.reduceLE, Int.reduceEq, Int.reduceNe, Int.reduceBEq, Nat.reduceBEq, Int.reduceBNe, Nat.reduceBNe, Int.reduceAdd, Int.reduceSub, Int.reduceMul, Int.reduceNeg]
  refine (RefGood_c (v0 % 64) v1 v2 v3 (v0 / 64) _).mono ?_; rintro _ _ ⟨rfl, rfl⟩
  cases g : goodE (v0 % 64, v1, v2, v3, v0 / 64) with
  | true =>
    simp (dsimp := false) (maxSteps := 4000000) only [e0, e2, e3, e4, e5, e6, hn_b1, hr_b1, hn_b2, hr_b2, hn_b4, hr_b4, go_sem, ↓reduceIte, Nat.reduceEqDiff, Nat.reduceLT, Nat.reduceLeDiff, Nat.reduceAdd, Nat.reduceMul, Nat.reduceSub, reduceCtorEq, Int.reduceToNat, Int.reduceLT, Int.reduceLE, Int.reduceEq, Int.reduceNe, Int.reduceBEq, Nat.reduceBEq, Int.reduceBNe, Nat.reduceBNe, Int.reduceAdd, Int.reduceSub, Int.reduceMul, Int.reduceNeg]
    exact ⟨H, (AH.le_add (AH.le_add (AH.le_add (AH.le_refl _) ((by simp only [fresh_add, fresh_set, ne_eq, hn_b1, not_false_eq_true, and_self] : Fresh _ b1).2)) ((by simp only [fresh_add, fresh_set, ne_eq, hn_b2, not_false_eq_true, and_self] : Fresh _ b2).2)) ((by simp only [fresh_add, fresh_set, ne_eq, hn_b4, not_false_eq_true, and_self] : Fresh _ b4).2)), (by first | exact ⟨by simp [tX, tE, takeE, g, encE], rfl⟩ | rfl)⟩
  | false =>
    simp (dsimp := false) (maxSteps := 4000000) only [e0, e2, e3, e4, e5, e6, hn_b1, hr_b1, hn_b2, hr_b2, hn_b4, hr_b4, go_sem, ↓reduceIte, Nat.reduceEqDiff, Nat.reduceLT, Nat.reduceLeDiff, Nat.reduceAdd, Nat.reduceMul, Nat.reduceSub, reduceCtorEq, Int.reduceToNat, Int.reduceLT, Int.reduceLE, Int.reduceEq, Int.reduceNe, Int.reduceBEq, Nat.reduceBEq, Int.reduceBNe, Nat.reduceBNe, Int.reduceAdd, Int.reduceSub, Int.reduceMul, Int.reduceNeg]
    exact ⟨H, (AH.le_add (AH.le_add (AH.le_add (AH.le_refl _) ((by simp only [fresh_add, fresh_set, ne_eq, hn_b1, not_false_eq_true, and_self] : Fresh _ b1).2)) ((by simp only [fresh_add, fresh_set, ne_eq, hn_b2, not_false_eq_true, and_self] : Fresh _ b2).2)) ((by simp only [fresh_add, fresh_set, ne_eq, hn_b4, not_false_eq_true, and_self] : Fresh _ b4).2)), (by first | exact ⟨by simp [tX, tE, takeE, g, encE, ze], rfl⟩ | rfl)⟩
end Go.Proofs.Ytadbmmdmibiikaa.Rodl
