/- file: bit, may, Clone, Clip. -/
import Derived.Test.YtmkbpdlijfjgkaaDoorFile2
import Derived.Test.YtmkbpdlijfjgkaaDoorAx20
namespace Go.Proofs.YtmkbpdlijfjgkaaDoor.File
set_option linter.unusedSimpArgs false
set_option linter.unusedVariables false
open Go Go.AX Go.Proofs Ty
set_option maxHeartbeats 4000000
set_option maxRecDepth 10000

def bitF (op : Int) : Int := if op = 0 then 1 else if op = 1 then 2 else if op = 2 then 4 else 0
theorem bit_c (op : Int) (H : AH) : ACalls Tryd.prog 70 #[.int .i64 op] H (fun v H' => v = .int .i64 (bitF op) ∧ H = H') := by
  refine ACalls.enter2 Tryd.func70 rfl Tryd.ntmps70 Tryd.results70 (by simp) ?_; simp (dsimp := false) (maxSteps := 4000000) only [go_sem, ↓reduceIte, Nat.reduceEqDiff, Nat.reduceLT, Nat.reduceLeDiff, Nat.reduceAdd, Nat.reduceMul, Nat.reduceSub, reduceCtorEq, Int.reduceToNat, Int.reduceLT, Int.reduceLE, Int.reduceEq, Int.reduceNe, Int.reduceBEq, Nat.reduceBEq, Int.reduceBNe, Nat.reduceBNe, Int.reduceAdd, Int.reduceSub, Int.reduceMul, Int.reduceNeg]
  by_cases a : op = 0
  · subst a
    simp (dsimp := false) (maxSteps := 4000000) only [go_sem, ↓reduceIte, Nat.reduceEqDiff, Nat.reduceLT, Nat.reduceLeDiff, Nat.reduceAdd, Nat.reduceMul, Nat.reduceSub, reduceCtorEq, Int.reduceToNat, Int.reduceLT, Int.reduceLE, Int.reduceEq, Int.reduceNe, Int.reduceBEq, Nat.reduceBEq, Int.reduceBNe, Nat.reduceBNe, Int.reduceAdd, Int.reduceSub, Int.reduceMul, Int.reduceNeg]
    exact ⟨H, (AH.le_refl _), (by first | exact ⟨rfl, rfl⟩ | rfl)⟩
  by_cases b : op = 1
  · subst b
    simp (dsimp := false) (maxSteps := 4000000) only [go_sem, ↓reduceIte, Nat.reduceEqDiff, Nat.reduceLT, Nat.reduceLeDiff, Nat.reduceAdd, Nat.reduceMul, Nat.reduceSub, reduceCtorEq, Int.reduceToNat, Int.reduceLT, Int.reduceLE, Int.reduceEq, Int.reduceNe, Int.reduceBEq, Nat.reduceBEq, Int.reduceBNe, Nat.reduceBNe, Int.reduceAdd, Int.reduceSub, Int.reduceMul, Int.reduceNeg]
    exact ⟨H, (AH.le_refl _), (by first | exact ⟨rfl, rfl⟩ | rfl)⟩
  by_cases c : op = 2
  · subst c
    simp (dsimp := false) (maxSteps := 4000000) only [go_sem, ↓reduceIte, Nat.reduceEqDiff, Nat.reduceLT, Nat.reduceLeDiff, Nat.reduceAdd, Nat.reduceMul, Nat.reduceSub, reduceCtorEq, Int.reduceToNat, Int.reduceLT, Int.reduceLE, Int.reduceEq, Int.reduceNe, Int.reduceBEq, Nat.reduceBEq, Int.reduceBNe, Nat.reduceBNe, Int.reduceAdd, Int.reduceSub, Int.reduceMul, Int.reduceNeg]
    exact ⟨H, (AH.le_refl _), (by first | exact ⟨rfl, rfl⟩ | rfl)⟩
  simp (dsimp := false) (maxSteps := 4000000) only [a, b, c, go_sem, ↓reduceIte, Nat.reduceEqDiff, Nat.reduceLT, Nat.reduceLeDiff, Nat.reduceAdd, Nat.reduceMul, Nat.reduceSub, reduceCtorEq, Int.reduceToNat, Int.reduceLT, Int.reduceLE, Int.reduceEq, Int.reduceNe, Int.reduceBEq, Nat.reduceBEq, Int.reduceBNe, Nat.reduceBNe, Int.reduceAdd, Int.reduceSub, Int.reduceMul, Int.reduceNeg]
  exact ⟨H, (AH.le_refl _), (by first | exact ⟨by simp [bitF, a, b, c], rfl⟩ | rfl)⟩

/-- What stands in the way: the error's number. -/
def mayF (p : Int) (R : List Rc) (op rec : Int) : Int :=
  if goodF p R = false then 2 else if op < 0 ∨ 2 < op then 1 else if rec < 0 ∨ (R.length : Int) ≤ rec then 4 else
  if rec = 0 then (if op = 0 then 0 else 5) else if p / bitF op % 2 = 0 then 5 else 0
theorem goodF_p {p : Int} {R : List Rc} (h : goodF p R = true) : 0 ≤ p ∧ p ≤ 7 ∧ R.length ≠ 0 ∧ R.length ≤ 256 := by
  cases R with
  | nil => simp [goodF] at h
  | cons r l =>
    simp only [goodF, Bool.and_eq_true, decide_eq_true_eq] at h
    simp only [List.length_cons]
    omega
theorem and_bit {p op : Int} (h0 : 0 ≤ p) (h1 : p ≤ 7) (a0 : 0 ≤ op) (a1 : op ≤ 2) : (ibits .and .i64 p (bitF op) = 0) = (p / bitF op % 2 = 0) := by
  have : ∀ p : Fin 8, ∀ o : Fin 3, (ibits .and .i64 ((p.1 : Nat) : Int) (bitF ((o.1 : Nat) : Int)) = 0) = (((p.1 : Nat) : Int) / bitF ((o.1 : Nat) : Int) % 2 = 0) := by
    intro p o
    rw [eq_iff_iff]
    revert p o
    decide
  have := this ⟨p.toNat, by omega⟩ ⟨op.toNat, by omega⟩
  simpa [Int.toNat_of_nonneg h0, Int.toNat_of_nonneg a0] using this
theorem bit_zero {op : Int} (h : op < 0 ∨ 2 < op) : bitF op = 0 := by
  unfold bitF
  rw [if_neg (by omega), if_neg (by omega), if_neg (by omega)]
theorem bit_nz {op : Int} (h : ¬ (op < 0 ∨ 2 < op)) : ¬ bitF op = 0 := by
  unfold bitF
  split
  · decide
  · split
    · decide
    · split
      · decide
      · omega
theorem may_c (p op rec : Int) (R : List Rc) (base : Option Addr) (cap : Nat) (H : AH) (hs : SlcIn H 4 base cap (R.map enc)) :
    ACalls Tryd.prog 59 #[fv p base R.length cap, .int .i64 op, .int .i64 rec] H (fun v H' => v = .int .i64 (mayF p R op rec) ∧ H = H') := by
  unfold fv
  have hg := fun H1 (h1 : SlcIn H1 4 base cap (R.map enc)) => Good_c p R base cap H1 h1
  unfold fv at hg
  by_cases c0 : rec = 0
  · subst c0
    refine ACalls.enter2 Tryd.func59 rfl Tryd.ntmps59 Tryd.results59 (by simp) ?_; simp (dsimp := false) (maxSteps := 4000000) only [go_sem, ↓reduceIte, Nat.reduceEqDiff, Nat.reduceLT, Nat.reduceLeDiff, Nat.reduceAdd, Nat.reduceMul, Nat.reduceSub, reduceCtorEq, Int.reduceToNat, Int.reduceLT, Int.reduceLE, Int.reduceEq, Int.reduceNe, Int.reduceBEq, Nat.reduceBEq, Int.reduceBNe, Nat.reduceBNe, Int.reduceAdd, Int.reduceSub, Int.reduceMul, Int.reduceNeg]
    refine AllB.mk fun b1 h_b1 => ?_; have hn_b1 := h_b1; (try simp only [fresh_add, fresh_set, ne_eq] at hn_b1); have hr_b1 := hn_b1; (try simp only [@eq_comm Nat b1] at hr_b1); simp (dsimp := false) (maxSteps := 4000000) only [hn_b1, hr_b1, go_sem, ↓reduceIte, Nat.reduceEqDiff, Nat.reduceLT, Nat.reduceLeDiff, Nat.reduceAdd, Nat.reduceMul, Nat.reduceSub, reduceCtorEq, Int.reduceToNat, Int.reduceLT, Int.reduceLE, Int.reduceEq, Int.reduceNe, Int.reduceBEq, Nat.reduceBEq, Int.reduceBNe, Nat.reduceBNe, Int.reduceAdd, Int.reduceSub, Int.reduceMul, Int.reduceNeg]
    refine (hg _ (hs.add h_b1)).mono ?_; rintro _ _ ⟨rfl, rfl⟩
    by_cases g : goodF p R = true
    · obtain ⟨h0, h1, h2, h3⟩ := goodF_p g
      have h4 : ¬ (R.length : Int) ≤ 0 := by omega
      simp (dsimp := false) (maxSteps := 4000000) only [g, hn_b1, hr_b1, go_sem, ↓reduceIte, Nat.reduceEqDiff, Nat.reduceLT, Nat.reduceLeDiff, Nat.reduceAdd, Nat.reduceMul, Nat.reduceSub, reduceCtorEq, Int.reduceToNat, Int.reduceLT, Int.reduceLE, Int.reduceEq, Int.reduceNe, Int.reduceBEq, Nat.reduceBEq, Int.reduceBNe, Nat.reduceBNe, Int.reduceAdd, Int.reduceSub, Int.reduceMul, Int.reduceNeg]
      refine (bit_c op _).mono ?_; rintro _ _ ⟨rfl, rfl⟩
      by_cases a : op < 0 ∨ 2 < op
      · simp (dsimp := false) (maxSteps := 4000000) only [bit_zero a, hn_b1, hr_b1, go_sem, ↓reduceIte, Nat.reduceEqDiff, Nat.reduceLT, Nat.reduceLeDiff, Nat.reduceAdd, Nat.reduceMul, Nat.reduceSub, reduceCtorEq, Int.reduceToNat, Int.reduceLT, Int.reduceLE, Int.reduceEq, Int.reduceNe, Int.reduceBEq, Nat.reduceBEq, Int.reduceBNe, Nat.reduceBNe, Int.reduceAdd, Int.reduceSub, Int.reduceMul, Int.reduceNeg]
        exact ⟨H, (AH.le_add (AH.le_refl _) ((by simp only [fresh_add, fresh_set, ne_eq, hn_b1, not_false_eq_true, and_self] : Fresh _ b1).2)), (by first | exact ⟨by simp [mayF, g, a], rfl⟩ | rfl)⟩
      · simp (dsimp := false) (maxSteps := 4000000) only [bit_nz a, h4, hn_b1, hr_b1, go_sem, ↓reduceIte, Nat.reduceEqDiff, Nat.reduceLT, Nat.reduceLeDiff, Nat.reduceAdd, Nat.reduceMul, Nat.reduceSub, reduceCtorEq, Int.reduceToNat, Int.reduceLT, Int.reduceLE, Int.reduceEq, Int.reduceNe, Int.reduceBEq, Nat.reduceBEq, Int.reduceBNe, Nat.reduceBNe, Int.reduceAdd, Int.reduceSub, Int.reduceMul, Int.reduceNeg]
        by_cases b : op = 0
        · subst b
          simp (dsimp := false) (maxSteps := 4000000) only [hn_b1, hr_b1, go_sem, ↓reduceIte, Nat.reduceEqDiff, Nat.reduceLT, Nat.reduceLeDiff, Nat.reduceAdd, Nat.reduceMul, Nat.reduceSub, reduceCtorEq, Int.reduceToNat, Int.reduceLT, Int.reduceLE, Int.reduceEq, Int.reduceNe, Int.reduceBEq, Nat.reduceBEq, Int.reduceBNe, Nat.reduceBNe, Int.reduceAdd, Int.reduceSub, Int.reduceMul, Int.reduceNeg]
          exact ⟨H, (AH.le_add (AH.le_refl _) ((by simp only [fresh_add, fresh_set, ne_eq, hn_b1, not_false_eq_true, and_self] : Fresh _ b1).2)), (by first | exact ⟨by simp [mayF, g, h2], rfl⟩ | rfl)⟩
        · simp (dsimp := false) (maxSteps := 4000000) only [b, hn_b1, hr_b1, go_sem, ↓reduceIte, Nat.reduceEqDiff, Nat.reduceLT, Nat.reduceLeDiff, Nat.reduceAdd, Nat.reduceMul, Nat.reduceSub, reduceCtorEq, Int.reduceToNat, Int.reduceLT, Int.reduceLE, Int.reduceEq, Int.reduceNe, Int.reduceBEq, Nat.reduceBEq, Int.reduceBNe, Nat.reduceBNe, Int.reduceAdd, Int.reduceSub, Int.reduceMul, Int.reduceNeg]
          exact ⟨H, (AH.le_add (AH.le_refl _) ((by simp only [fresh_add, fresh_set, ne_eq, hn_b1, not_false_eq_true, and_self] : Fresh _ b1).2)), (by first | exact ⟨by simp only [mayF, g, a, h4]; simp [b], rfl⟩ | rfl)⟩
    · have g' : goodF p R = false := by simpa using g
      simp (dsimp := false) (maxSteps := 4000000) only [g', hn_b1, hr_b1, go_sem, ↓reduceIte, Nat.reduceEqDiff, Nat.reduceLT, Nat.reduceLeDiff, Nat.reduceAdd, Nat.reduceMul, Nat.reduceSub, reduceCtorEq, Int.reduceToNat, Int.reduceLT, Int.reduceLE, Int.reduceEq, Int.reduceNe, Int.reduceBEq, Nat.reduceBEq, Int.reduceBNe, Nat.reduceBNe, Int.reduceAdd, Int.reduceSub, Int.reduceMul, Int.reduceNeg]
      exact ⟨H, (AH.le_add (AH.le_refl _) ((by simp only [fresh_add, fresh_set, ne_eq, hn_b1, not_false_eq_true, and_self] : Fresh _ b1).2)), (by first | exact ⟨by simp [mayF, g'], rfl⟩ | rfl)⟩
  · refine ACalls.enter2 Tryd.func59 rfl Tryd.ntmps59 Tryd.results59 (by simp) ?_; simp (dsimp := false) (maxSteps := 4000000) only [c0, go_sem, ↓reduceIte, Nat.reduceEqDiff, Nat.reduceLT, Nat.reduceLeDiff, Nat.reduceAdd, Nat.reduceMul, Nat.reduceSub, reduceCtorEq, Int.reduceToNat, Int.reduceLT, Int.reduceLE, Int.reduceEq, Int.reduceNe, Int.reduceBEq, Nat.reduceBEq, Int.reduceBNe, Nat.reduceBNe, Int.reduceAdd, Int.reduceSub, Int.reduceMul, Int.reduceNeg]
    refine AllB.mk fun b1 h_b1 => ?_; have hn_b1 := h_b1; (try simp only [fresh_add, fresh_set, ne_eq] at hn_b1); have hr_b1 := hn_b1; (try simp only [@eq_comm Nat b1] at hr_b1); simp (dsimp := false) (maxSteps := 4000000) only [c0, hn_b1, hr_b1, go_sem, ↓reduceIte, Nat.reduceEqDiff, Nat.reduceLT, Nat.reduceLeDiff, Nat.reduceAdd, Nat.reduceMul, Nat.reduceSub, reduceCtorEq, Int.reduceToNat, Int.reduceLT, Int.reduceLE, Int.reduceEq, Int.reduceNe, Int.reduceBEq, Nat.reduceBEq, Int.reduceBNe, Nat.reduceBNe, Int.reduceAdd, Int.reduceSub, Int.reduceMul, Int.reduceNeg]
    refine (hg _ (hs.add h_b1)).mono ?_; rintro _ _ ⟨rfl, rfl⟩
    by_cases g : goodF p R = true
    · obtain ⟨h0, h1, h2, h3⟩ := goodF_p g
      simp (dsimp := false) (maxSteps := 4000000) only [g, c0, hn_b1, hr_b1, go_sem, ↓reduceIte, Nat.reduceEqDiff, Nat.reduceLT, Nat.reduceLeDiff, Nat.reduceAdd, Nat.reduceMul, Nat.reduceSub, reduceCtorEq, Int.reduceToNat, Int.reduceLT, Int.reduceLE, Int.reduceEq, Int.reduceNe, Int.reduceBEq, Nat.reduceBEq, Int.reduceBNe, Nat.reduceBNe, Int.reduceAdd, Int.reduceSub, Int.reduceMul, Int.reduceNeg]
      refine (bit_c op _).mono ?_; rintro _ _ ⟨rfl, rfl⟩
      by_cases a : op < 0 ∨ 2 < op
      · simp (dsimp := false) (maxSteps := 4000000) only [bit_zero a, c0, hn_b1, hr_b1, go_sem, ↓reduceIte, Nat.reduceEqDiff, Nat.reduceLT, Nat.reduceLeDiff, Nat.reduceAdd, Nat.reduceMul, Nat.reduceSub, reduceCtorEq, Int.reduceToNat, Int.reduceLT, Int.reduceLE, Int.reduceEq, Int.reduceNe, Int.reduceBEq, Nat.reduceBEq, Int.reduceBNe, Nat.reduceBNe, Int.reduceAdd, Int.reduceSub, Int.reduceMul, Int.reduceNeg]
        exact ⟨H, (AH.le_add (AH.le_refl _) ((by simp only [fresh_add, fresh_set, ne_eq, hn_b1, not_false_eq_true, and_self] : Fresh _ b1).2)), (by first | exact ⟨by simp [mayF, g, a], rfl⟩ | rfl)⟩
      · simp (dsimp := false) (maxSteps := 4000000) only [bit_nz a, c0, hn_b1, hr_b1, go_sem, ↓reduceIte, Nat.reduceEqDiff, Nat.reduceLT, Nat.reduceLeDiff, Nat.reduceAdd, Nat.reduceMul, Nat.reduceSub, reduceCtorEq, Int.reduceToNat, Int.reduceLT, Int.reduceLE, Int.reduceEq, Int.reduceNe, Int.reduceBEq, Nat.reduceBEq, Int.reduceBNe, Nat.reduceBNe, Int.reduceAdd, Int.reduceSub, Int.reduceMul, Int.reduceNeg]
        by_cases b1_ : rec < 0
        · simp (dsimp := false) (maxSteps := 4000000) only [b1_, c0, hn_b1, hr_b1, go_sem, ↓reduceIte, Nat.reduceEqDiff, Nat.reduceLT, Nat.reduceLeDiff, Nat.reduceAdd, Nat.reduceMul, Nat.reduceSub, reduceCtorEq, Int.reduceToNat, Int.reduceLT, Int.reduceLE, Int.reduceEq, Int.reduceNe, Int.reduceBEq, Nat.reduceBEq, Int.reduceBNe, Nat.reduceBNe, Int.reduceAdd, Int.reduceSub, Int.reduceMul, Int.reduceNeg]
          exact ⟨H, (AH.le_add (AH.le_refl _) ((by simp only [fresh_add, fresh_set, ne_eq, hn_b1, not_false_eq_true, and_self] : Fresh _ b1).2)), (by first | exact ⟨by simp [mayF, g, a, b1_], rfl⟩ | rfl)⟩
        by_cases b2_ : (R.length : Int) ≤ rec
        · simp (dsimp := false) (maxSteps := 4000000) only [b1_, b2_, c0, hn_b1, hr_b1, go_sem, ↓reduceIte, Nat.reduceEqDiff, Nat.reduceLT, Nat.reduceLeDiff, Nat.reduceAdd, Nat.reduceMul, Nat.reduceSub, reduceCtorEq, Int.reduceToNat, Int.reduceLT, Int.reduceLE, Int.reduceEq, Int.reduceNe, Int.reduceBEq, Nat.reduceBEq, Int.reduceBNe, Nat.reduceBNe, Int.reduceAdd, Int.reduceSub, Int.reduceMul, Int.reduceNeg]
          exact ⟨H, (AH.le_add (AH.le_refl _) ((by simp only [fresh_add, fresh_set, ne_eq, hn_b1, not_false_eq_true, and_self] : Fresh _ b1).2)), (by first | exact ⟨by simp [mayF, g, a, b2_], rfl⟩ | rfl)⟩
        simp (dsimp := false) (maxSteps := 4000000) only [b1_, b2_, c0, hn_b1, hr_b1, go_sem, ↓reduceIte, Nat.reduceEqDiff, Nat.reduceLT, Nat.reduceLeDiff, Nat.reduceAdd, Nat.reduceMul, Nat.reduceSub, reduceCtorEq, Int.reduceToNat, Int.reduceLT, Int.reduceLE, Int.reduceEq, Int.reduceNe, Int.reduceBEq, Nat.reduceBEq, Int.reduceBNe, Nat.reduceBNe, Int.reduceAdd, Int.reduceSub, Int.reduceMul, Int.reduceNeg]
        refine AWp.gen [.pu, .rd, .pu, .ch, .pu, .pu, .pu] [0, 1, 0, 4, 15, 31, 63] 4 (_) mixed (by kernel_rfl) (AH.le_refl _) ?_
        simp (dsimp := false) (maxSteps := 4000000) only [c0, hn_b1, hr_b1, go_sem, ↓reduceIte, Nat.reduceEqDiff, Nat.reduceLT, Nat.reduceLeDiff, Nat.reduceAdd, Nat.reduceMul, Nat.reduceSub, reduceCtorEq, Int.reduceToNat, Int.reduceLT, Int.reduceLE, Int.reduceEq, Int.reduceNe, Int.reduceBEq, Nat.reduceBEq, Int.reduceBNe, Nat.reduceBNe, Int.reduceAdd, Int.reduceSub, Int.reduceMul, Int.reduceNeg]
        refine (bit_c op _).mono ?_; rintro _ _ ⟨rfl, rfl⟩
        have hab := and_bit (op := op) h0 h1 (by omega) (by omega)
        by_cases d : p / bitF op % 2 = 0
        · have d' : ibits .and .i64 p (bitF op) = 0 := by rw [hab]; exact d
          simp (dsimp := false) (maxSteps := 4000000) only [d', c0, hn_b1, hr_b1, go_sem, ↓reduceIte, Nat.reduceEqDiff, Nat.reduceLT, Nat.reduceLeDiff, Nat.reduceAdd, Nat.reduceMul, Nat.reduceSub, reduceCtorEq, Int.reduceToNat, Int.reduceLT, Int.reduceLE, Int.reduceEq, Int.reduceNe, Int.reduceBEq, Nat.reduceBEq, Int.reduceBNe, Nat.reduceBNe, Int.reduceAdd, Int.reduceSub, Int.reduceMul, Int.reduceNeg]
          exact ⟨H, (AH.le_add (AH.le_refl _) ((by simp only [fresh_add, fresh_set, ne_eq, hn_b1, not_false_eq_true, and_self] : Fresh _ b1).2)), (by first | exact ⟨by simp [mayF, g, a, b1_, b2_, c0, d], rfl⟩ | rfl)⟩
        · have d' : ¬ ibits .and .i64 p (bitF op) = 0 := by rw [hab]; exact d
          simp (dsimp := false) (maxSteps := 4000000) only [d', c0, hn_b1, hr_b1, go_sem, ↓reduceIte, Nat.reduceEqDiff, Nat.reduceLT, Nat.reduceLeDiff, Nat.reduceAdd, Nat.reduceMul, Nat.reduceSub, reduceCtorEq, Int.reduceToNat, Int.reduceLT, Int.reduceLE, Int.reduceEq, Int.reduceNe, Int.reduceBEq, Nat.reduceBEq, Int.reduceBNe, Nat.reduceBNe, Int.reduceAdd, Int.reduceSub, Int.reduceMul, Int.reduceNeg]
          exact ⟨H, (AH.le_add (AH.le_refl _) ((by simp only [fresh_add, fresh_set, ne_eq, hn_b1, not_false_eq_true, and_self] : Fresh _ b1).2)), (by first | exact ⟨by simp [mayF, g, a, b1_, b2_, c0, d], rfl⟩ | rfl)⟩
    · have g' : goodF p R = false := by simpa using g
      simp (dsimp := false) (maxSteps := 4000000) only [g', c0, hn_b1, hr_b1, go_sem, ↓reduceIte, Nat.reduceEqDiff, Nat.reduceLT, Nat.reduceLeDiff, Nat.reduceAdd, Nat.reduceMul, Nat.reduceSub, reduceCtorEq, Int.reduceToNat, Int.reduceLT, Int.reduceLE, Int.reduceEq, Int.reduceNe, Int.reduceBEq, Nat.reduceBEq, Int.reduceBNe, Nat.reduceBNe, Int.reduceAdd, Int.reduceSub, Int.reduceMul, Int.reduceNeg]
      exact ⟨H, (AH.le_add (AH.le_refl _) ((by simp only [fresh_add, fresh_set, ne_eq, hn_b1, not_false_eq_true, and_self] : Fresh _ b1).2)), (by first | exact ⟨by simp [mayF, g'], rfl⟩ | rfl)⟩

theorem Clip_c (base : Option Addr) (n cap : Nat) (H : AH) (h : n ≤ cap) :
    ACalls Tryd.prog 46 #[.slice base n cap] H (fun v H' => v = .slice base n n ∧ H = H') := by
  refine ACalls.enter2 Tryd.func46 rfl Tryd.ntmps46 Tryd.results46 (by simp) ?_; simp (dsimp := false) (maxSteps := 4000000) only [go_sem, ↓reduceIte, Nat.reduceEqDiff, Nat.reduceLT, Nat.reduceLeDiff, Nat.reduceAdd, Nat.reduceMul, Nat.reduceSub, reduceCtorEq, Int.reduceToNat, Int.reduceLT, Int.reduceLE, Int.reduceEq, Int.reduceNe, Int.reduceBEq, Nat.reduceBEq, Int.reduceBNe, Nat.reduceBNe, Int.reduceAdd, Int.reduceSub, Int.reduceMul, Int.reduceNeg]
  have h' : (n : Int) ≤ cap := by omega
  simp (dsimp := false) (maxSteps := 4000000) only [h', Int.le_refl, go_sem, ↓reduceIte, Nat.reduceEqDiff, Nat.reduceLT, Nat.reduceLeDiff, Nat.reduceAdd, Nat.reduceMul, Nat.reduceSub, reduceCtorEq, Int.reduceToNat, Int.reduceLT, Int.reduceLE, Int.reduceEq, Int.reduceNe, Int.reduceBEq, Nat.reduceBEq, Int.reduceBNe, Nat.reduceBNe, Int.reduceAdd, Int.reduceSub, Int.reduceMul, Int.reduceNeg]
  exact ⟨H, (AH.le_refl _), (by first | exact ⟨rfl, rfl⟩ | rfl)⟩
theorem Clone_c (R : List Rc) (base : Option Addr) (cap : Nat) (H : AH) (hs : SlcIn H 4 base cap (R.map enc)) (hR : R.length ≤ 4096) :
    ACalls Tryd.prog 47 #[.slice base R.length cap] H (fun v H' => ∃ b' c', v = .slice b' R.length c' ∧ OwnS H H' 32 4 b' c' (R.map enc) ∧ Keep H H' fun _ => False) := by
  refine ACalls.enter2 Tryd.func47 rfl Tryd.ntmps47 Tryd.results47 (by simp) ?_; simp (dsimp := false) (maxSteps := 4000000) only [go_sem, ↓reduceIte, Nat.reduceEqDiff, Nat.reduceLT, Nat.reduceLeDiff, Nat.reduceAdd, Nat.reduceMul, Nat.reduceSub, reduceCtorEq, Int.reduceToNat, Int.reduceLT, Int.reduceLE, Int.reduceEq, Int.reduceNe, Int.reduceBEq, Nat.reduceBEq, Int.reduceBNe, Nat.reduceBNe, Int.reduceAdd, Int.reduceSub, Int.reduceMul, Int.reduceNeg]
  cases base with
  | none =>
    have hnil : R = [] := by
      cases R with
      | nil => rfl
      | cons r l =>
        obtain ⟨b, o, h, _⟩ := hs.get (r := enc r) (i := 0) rfl
        cases h
    subst hnil
    simp (dsimp := false) (maxSteps := 4000000) only [go_sem, ↓reduceIte, Nat.reduceEqDiff, Nat.reduceLT, Nat.reduceLeDiff, Nat.reduceAdd, Nat.reduceMul, Nat.reduceSub, reduceCtorEq, Int.reduceToNat, Int.reduceLT, Int.reduceLE, Int.reduceEq, Int.reduceNe, Int.reduceBEq, Nat.reduceBEq, Int.reduceBNe, Nat.reduceBNe, Int.reduceAdd, Int.reduceSub, Int.reduceMul, Int.reduceNeg]
    exact ⟨H, AH.le_refl _, none, 0, rfl, OwnS.nil, .refl⟩
  | some a =>
    simp (dsimp := false) (maxSteps := 4000000) only [go_sem, ↓reduceIte, Nat.reduceEqDiff, Nat.reduceLT, Nat.reduceLeDiff, Nat.reduceAdd, Nat.reduceMul, Nat.reduceSub, reduceCtorEq, Int.reduceToNat, Int.reduceLT, Int.reduceLE, Int.reduceEq, Int.reduceNe, Int.reduceBEq, Nat.reduceBEq, Int.reduceBNe, Nat.reduceBNe, Int.reduceAdd, Int.reduceSub, Int.reduceMul, Int.reduceNeg]
    refine AllB.mk fun bl h_bl => ?_
    simp (dsimp := false) (maxSteps := 4000000) only [go_sem, ↓reduceIte, Nat.reduceEqDiff, Nat.reduceLT, Nat.reduceLeDiff, Nat.reduceAdd, Nat.reduceMul, Nat.reduceSub, reduceCtorEq, Int.reduceToNat, Int.reduceLT, Int.reduceLE, Int.reduceEq, Int.reduceNe, Int.reduceBEq, Nat.reduceBEq, Int.reduceBNe, Nat.reduceBNe, Int.reduceAdd, Int.reduceSub, Int.reduceMul, Int.reduceNeg]
    refine APD.growS (H0 := H) (a := some a) (m := R.length) (c := cap) (R := []) (R' := R.map enc) (OwnS.new h_bl (AH.le_refl _) rfl rfl rfl (by simp) (by simp)) (AH.le_add (AH.le_refl _) h_bl.2) se_33 rfl (by decide) (by decide) (by rw [Tryd.underlying33]; rfl) rfl (by simp) (hs.add h_bl) (rows4 R) (scal4 R) (by omega) fun base' cap' A' hO' hK' hN' => ?_
    refine ⟨_, AH.le_refl _, ?_⟩
    simp (dsimp := false) (maxSteps := 4000000) only [go_sem, ↓reduceIte, Nat.reduceEqDiff, Nat.reduceLT, Nat.reduceLeDiff, Nat.reduceAdd, Nat.reduceMul, Nat.reduceSub, reduceCtorEq, Int.reduceToNat, Int.reduceLT, Int.reduceLE, Int.reduceEq, Int.reduceNe, Int.reduceBEq, Nat.reduceBEq, Int.reduceBNe, Nat.reduceBNe, Int.reduceAdd, Int.reduceSub, Int.reduceMul, Int.reduceNeg]
    exact ⟨A', AH.le_refl _, base', cap', rfl, hO', (Keep.refl.nw h_bl).ow hK' fun b ⟨a, ha, e⟩ => by cases ha; exact e ▸ h_bl⟩
end Go.Proofs.YtmkbpdlijfjgkaaDoor.File
