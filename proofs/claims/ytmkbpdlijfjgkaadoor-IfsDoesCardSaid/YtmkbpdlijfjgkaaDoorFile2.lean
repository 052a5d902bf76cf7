/- file: Good, Same, and their references: what each comes to. -/
import Derived.Test.YtmkbpdlijfjgkaaDoorFile1
namespace Go.Proofs.YtmkbpdlijfjgkaaDoor.File
set_option linter.unusedSimpArgs false
set_option linter.unusedVariables false
open Go Go.AX Go.Proofs Ty
set_option maxHeartbeats 4000000
set_option maxRecDepth 10000

def goodF (perm : Int) (R : List Rc) : Bool := match R with
  | [] => false
  | r :: l => decide (0 ≤ perm) && decide (perm ≤ 7) && decide (l.length < 256) && decide (r = hd perm l.length)
theorem goodF_bad {perm : Int} {R : List Rc} (h : perm < 0 ∨ 7 < perm) : goodF perm R = false := by
  unfold goodF
  split
  · rfl
  · rcases h with h | h
    · rw [decide_eq_false (p := 0 ≤ perm) (by omega)]; simp
    · rw [decide_eq_false (p := perm ≤ 7) (by omega)]; simp
theorem Good_c (perm : Int) (R : List Rc) (base : Option Addr) (cap : Nat) (H : AH) (hs : SlcIn H 4 base cap (R.map enc)) :
    ACalls Tryd.prog 26 #[fv perm base R.length cap] H (fun v H' => v = .bool (goodF perm R) ∧ H = H') := by
  have hbig := hs.big
  simp only [List.length_map] at hbig
  unfold fv
  refine ACalls.enter2 Tryd.func26 rfl Tryd.ntmps26 Tryd.results26 (by simp) ?_; simp (dsimp := false) (maxSteps := 4000000) only [go_sem, ↓reduceIte, Nat.reduceEqDiff, Nat.reduceLT, Nat.reduceLeDiff, Nat.reduceAdd, Nat.reduceMul, Nat.reduceSub, reduceCtorEq, Int.reduceToNat, Int.reduceLT, Int.reduceLE, Int.reduceEq, Int.reduceNe, Int.reduceBEq, Nat.reduceBEq, Int.reduceBNe, Nat.reduceBNe, Int.reduceAdd, Int.reduceSub, Int.reduceMul, Int.reduceNeg]
  refine AllB.mk fun b1 h_b1 => ?_; have hn_b1 := h_b1; (try simp only [fresh_add, fresh_set, ne_eq] at hn_b1); have hr_b1 := hn_b1; (try simp only [@eq_comm Nat b1] at hr_b1); simp (dsimp := false) (maxSteps := 4000000) only [hn_b1, hr_b1, go_sem, ↓reduceIte, Nat.reduceEqDiff, Nat.reduceLT, Nat.reduceLeDiff, Nat.reduceAdd, Nat.reduceMul, Nat.reduceSub, reduceCtorEq, Int.reduceToNat, Int.reduceLT, Int.reduceLE, Int.reduceEq, Int.reduceNe, Int.reduceBEq, Nat.reduceBEq, Int.reduceBNe, Nat.reduceBNe, Int.reduceAdd, Int.reduceSub, Int.reduceMul, Int.reduceNeg]
  refine AWp.gen [.pu, .rd, .pu, .pu, .pu, .rd, .pu, .pu, .pu, .pu, .pu, .pu, .pu, .pu, .pu, .pu, .pu, .pu, .rd, .pu, .rd, .pu, .rd, .pu, .pu, .ch, .pu, .pu, .pu] [0, 1, 3, 7, 15, 31, 63, 127, 255, 511, 1023, 2047, 4095, 8191, 16383, 32767, 65535, 131071, 262143, 524287, 1048575, 131071, 2228223, 131071, 8519679, 31588351, 67108863, 134217727, 268435455] 26 (_) mixed (by kernel_rfl) (AH.le_refl _) ?_
  by_cases a : 0 ≤ perm
  · by_cases b : perm ≤ 7
    · cases R with
      | nil =>
        simp (dsimp := false) (maxSteps := 4000000) only [a, b, List.length_nil, Int.natCast_zero, hn_b1, hr_b1, go_sem, ↓reduceIte, Nat.reduceEqDiff, Nat.reduceLT, Nat.reduceLeDiff, Nat.reduceAdd, Nat.reduceMul, Nat.reduceSub, reduceCtorEq, Int.reduceToNat, Int.reduceLT, Int.reduceLE, Int.reduceEq, Int.reduceNe, Int.reduceBEq, Nat.reduceBEq, Int.reduceBNe, Nat.reduceBNe, Int.reduceAdd, Int.reduceSub, Int.reduceMul, Int.reduceNeg]
        exact ⟨H, (AH.le_add (AH.le_refl _) ((by simp only [fresh_add, fresh_set, ne_eq, hn_b1, not_false_eq_true, and_self] : Fresh _ b1).2)), (by first | exact ⟨rfl, rfl⟩ | rfl)⟩
      | cons r l =>
        obtain ⟨b_, o, rfl, hrow, _⟩ := hs.get (r := enc r) (i := 0) rfl
        rw [Nat.zero_mul, Nat.add_zero] at hrow
        have n1 := h_b1.ne_row hrow
        simp only [List.length_cons] at hbig
        have c1 : (1 : Int) ≤ ((l.length + 1 : Nat) : Int) := by omega
        have c0 : (0 : Int) < ((l.length + 1 : Nat) : Int) := by omega
        have e1 : IntKind.i64.wrap (((l.length + 1 : Nat) : Int) - 1) = (l.length : Int) := by rw [i64_eq (by omega) (by omega)]; omega
        by_cases c : l.length < 256
        · have c' : ((l.length + 1 : Nat) : Int) ≤ 256 := by omega
          simp (dsimp := false) (maxSteps := 4000000) only [a, b, List.length_cons, c1, c0, c', n1, hrow, e1, AH.le_refl, hn_b1, hr_b1, go_sem, ↓reduceIte, Nat.reduceEqDiff, Nat.reduceLT, Nat.reduceLeDiff, Nat.reduceAdd, Nat.reduceMul, Nat.reduceSub, reduceCtorEq, Int.reduceToNat, Int.reduceLT, Int.reduceLE, Int.reduceEq, Int.reduceNe, Int.reduceBEq, Nat.reduceBEq, Int.reduceBNe, Nat.reduceBNe, Int.reduceAdd, Int.reduceSub, Int.reduceMul, Int.reduceNeg]
          refine (header_c perm l.length _).mono ?_; rintro _ _ ⟨rfl, rfl⟩
          simp (dsimp := false) (maxSteps := 4000000) only [a, b, c1, c', eqlRc, AH.le_refl, hn_b1, hr_b1, go_sem, ↓reduceIte, Nat.reduceEqDiff, Nat.reduceLT, Nat.reduceLeDiff, Nat.reduceAdd, Nat.reduceMul, Nat.reduceSub, reduceCtorEq, Int.reduceToNat, Int.reduceLT, Int.reduceLE, Int.reduceEq, Int.reduceNe, Int.reduceBEq, Nat.reduceBEq, Int.reduceBNe, Nat.reduceBNe, Int.reduceAdd, Int.reduceSub, Int.reduceMul, Int.reduceNeg]
          exact ⟨H, (AH.le_add (AH.le_refl _) ((by simp only [fresh_add, fresh_set, ne_eq, hn_b1, not_false_eq_true, and_self] : Fresh _ b1).2)), (by first | exact ⟨by simp [goodF, a, b, c], rfl⟩ | rfl)⟩
        · have c' : ¬ ((l.length + 1 : Nat) : Int) ≤ 256 := by omega
          simp (dsimp := false) (maxSteps := 4000000) only [a, b, List.length_cons, c1, c', e1, AH.le_refl, hn_b1, hr_b1, go_sem, ↓reduceIte, Nat.reduceEqDiff, Nat.reduceLT, Nat.reduceLeDiff, Nat.reduceAdd, Nat.reduceMul, Nat.reduceSub, reduceCtorEq, Int.reduceToNat, Int.reduceLT, Int.reduceLE, Int.reduceEq, Int.reduceNe, Int.reduceBEq, Nat.reduceBEq, Int.reduceBNe, Nat.reduceBNe, Int.reduceAdd, Int.reduceSub, Int.reduceMul, Int.reduceNeg]
          exact ⟨H, (AH.le_add (AH.le_refl _) ((by simp only [fresh_add, fresh_set, ne_eq, hn_b1, not_false_eq_true, and_self] : Fresh _ b1).2)), (by first | exact ⟨by simp [goodF, c], rfl⟩ | rfl)⟩
    · simp (dsimp := false) (maxSteps := 4000000) only [a, b, hn_b1, hr_b1, go_sem, ↓reduceIte, Nat.reduceEqDiff, Nat.reduceLT, Nat.reduceLeDiff, Nat.reduceAdd, Nat.reduceMul, Nat.reduceSub, reduceCtorEq, Int.reduceToNat, Int.reduceLT, Int.reduceLE, Int.reduceEq, Int.reduceNe, Int.reduceBEq, Nat.reduceBEq, Int.reduceBNe, Nat.reduceBNe, Int.reduceAdd, Int.reduceSub, Int.reduceMul, Int.reduceNeg]
      exact ⟨H, (AH.le_add (AH.le_refl _) ((by simp only [fresh_add, fresh_set, ne_eq, hn_b1, not_false_eq_true, and_self] : Fresh _ b1).2)), (by first | exact ⟨by unfold goodF; split <;> simp [b], rfl⟩ | rfl)⟩
  · simp (dsimp := false) (maxSteps := 4000000) only [a, hn_b1, hr_b1, go_sem, ↓reduceIte, Nat.reduceEqDiff, Nat.reduceLT, Nat.reduceLeDiff, Nat.reduceAdd, Nat.reduceMul, Nat.reduceSub, reduceCtorEq, Int.reduceToNat, Int.reduceLT, Int.reduceLE, Int.reduceEq, Int.reduceNe, Int.reduceBEq, Nat.reduceBEq, Int.reduceBNe, Nat.reduceBNe, Int.reduceAdd, Int.reduceSub, Int.reduceMul, Int.reduceNeg]
    exact ⟨H, (AH.le_add (AH.le_refl _) ((by simp only [fresh_add, fresh_set, ne_eq, hn_b1, not_false_eq_true, and_self] : Fresh _ b1).2)), (by first | exact ⟨by unfold goodF; split <;> simp [a], rfl⟩ | rfl)⟩
theorem RefGood_c (perm : Int) (R : List Rc) (base : Option Addr) (cap : Nat) (H : AH) (hs : SlcIn H 4 base cap (R.map enc)) :
    ACalls Tryd.prog 22 #[fv perm base R.length cap] H (fun v H' => v = .bool (goodF perm R) ∧ H = H') := by
  have hbig := hs.big
  simp only [List.length_map] at hbig
  unfold fv
  refine ACalls.enter2 Tryd.func22 rfl Tryd.ntmps22 Tryd.results22 (by simp) ?_; simp (dsimp := false) (maxSteps := 4000000) only [go_sem, ↓reduceIte, Nat.reduceEqDiff, Nat.reduceLT, Nat.reduceLeDiff, Nat.reduceAdd, Nat.reduceMul, Nat.reduceSub, reduceCtorEq, Int.reduceToNat, Int.reduceLT, Int.reduceLE, Int.reduceEq, Int.reduceNe, Int.reduceBEq, Nat.reduceBEq, Int.reduceBNe, Nat.reduceBNe, Int.reduceAdd, Int.reduceSub, Int.reduceMul, Int.reduceNeg]
  refine AllB.mk fun b1 h_b1 => ?_; have hn_b1 := h_b1; (try simp only [fresh_add, fresh_set, ne_eq] at hn_b1); have hr_b1 := hn_b1; (try simp only [@eq_comm Nat b1] at hr_b1); simp (dsimp := false) (maxSteps := 4000000) only [hn_b1, hr_b1, go_sem, ↓reduceIte, Nat.reduceEqDiff, Nat.reduceLT, Nat.reduceLeDiff, Nat.reduceAdd, Nat.reduceMul, Nat.reduceSub, reduceCtorEq, Int.reduceToNat, Int.reduceLT, Int.reduceLE, Int.reduceEq, Int.reduceNe, Int.reduceBEq, Nat.reduceBEq, Int.reduceBNe, Nat.reduceBNe, Int.reduceAdd, Int.reduceSub, Int.reduceMul, Int.reduceNeg]
  by_cases a : perm < 0
  · simp (dsimp := false) (maxSteps := 4000000) only [a, hn_b1, hr_b1, go_sem, ↓reduceIte, Nat.reduceEqDiff, Nat.reduceLT, Nat.reduceLeDiff, Nat.reduceAdd, Nat.reduceMul, Nat.reduceSub, reduceCtorEq, Int.reduceToNat, Int.reduceLT, Int.reduceLE, Int.reduceEq, Int.reduceNe, Int.reduceBEq, Nat.reduceBEq, Int.reduceBNe, Nat.reduceBNe, Int.reduceAdd, Int.reduceSub, Int.reduceMul, Int.reduceNeg]
    exact ⟨H, (AH.le_add (AH.le_refl _) ((by simp only [fresh_add, fresh_set, ne_eq, hn_b1, not_false_eq_true, and_self] : Fresh _ b1).2)), (by first | exact ⟨by rw [goodF_bad (.inl a)], rfl⟩ | rfl)⟩
  by_cases b : 7 < perm
  · simp (dsimp := false) (maxSteps := 4000000) only [a, b, hn_b1, hr_b1, go_sem, ↓reduceIte, Nat.reduceEqDiff, Nat.reduceLT, Nat.reduceLeDiff, Nat.reduceAdd, Nat.reduceMul, Nat.reduceSub, reduceCtorEq, Int.reduceToNat, Int.reduceLT, Int.reduceLE, Int.reduceEq, Int.reduceNe, Int.reduceBEq, Nat.reduceBEq, Int.reduceBNe, Nat.reduceBNe, Int.reduceAdd, Int.reduceSub, Int.reduceMul, Int.reduceNeg]
    exact ⟨H, (AH.le_add (AH.le_refl _) ((by simp only [fresh_add, fresh_set, ne_eq, hn_b1, not_false_eq_true, and_self] : Fresh _ b1).2)), (by first | exact ⟨by rw [goodF_bad (.inr b)], rfl⟩ | rfl)⟩
  cases R with
  | nil =>
    simp (dsimp := false) (maxSteps := 4000000) only [a, b, List.length_nil, Int.natCast_zero, hn_b1, hr_b1, go_sem, ↓reduceIte, Nat.reduceEqDiff, Nat.reduceLT, Nat.reduceLeDiff, Nat.reduceAdd, Nat.reduceMul, Nat.reduceSub, reduceCtorEq, Int.reduceToNat, Int.reduceLT, Int.reduceLE, Int.reduceEq, Int.reduceNe, Int.reduceBEq, Nat.reduceBEq, Int.reduceBNe, Nat.reduceBNe, Int.reduceAdd, Int.reduceSub, Int.reduceMul, Int.reduceNeg]
    exact ⟨H, (AH.le_add (AH.le_refl _) ((by simp only [fresh_add, fresh_set, ne_eq, hn_b1, not_false_eq_true, and_self] : Fresh _ b1).2)), (by first | exact ⟨rfl, rfl⟩ | rfl)⟩
  | cons r l =>
    obtain ⟨b_, o, rfl, hrow, _⟩ := hs.get (r := enc r) (i := 0) rfl
    rw [Nat.zero_mul, Nat.add_zero] at hrow
    have n1 := h_b1.ne_row hrow
    simp only [List.length_cons] at hbig
    have c1 : ¬ ((l.length + 1 : Nat) : Int) = 0 := by omega
    have c0 : (0 : Int) < ((l.length + 1 : Nat) : Int) := by omega
    have e1 : IntKind.i64.wrap (((l.length + 1 : Nat) : Int) - 1) = (l.length : Int) := by rw [i64_eq (by omega) (by omega)]; omega
    have a' : 0 ≤ perm := by omega
    have b' : perm ≤ 7 := by omega
    by_cases c : l.length < 256
    · have c' : ¬ (256 : Int) < ((l.length + 1 : Nat) : Int) := by omega
      simp (dsimp := false) (maxSteps := 4000000) only [a, b, List.length_cons, c1, c0, c', n1, hrow, e1, hn_b1, hr_b1, go_sem, ↓reduceIte, Nat.reduceEqDiff, Nat.reduceLT, Nat.reduceLeDiff, Nat.reduceAdd, Nat.reduceMul, Nat.reduceSub, reduceCtorEq, Int.reduceToNat, Int.reduceLT, Int.reduceLE, Int.reduceEq, Int.reduceNe, Int.reduceBEq, Nat.reduceBEq, Int.reduceBNe, Nat.reduceBNe, Int.reduceAdd, Int.reduceSub, Int.reduceMul, Int.reduceNeg]
      refine AWp.gen [.pu, .rd, .pu, .rd, .pu, .rd, .pu, .rd, .pu, .pu, .ch, .pu, .pu] [0, 1, 3, 7, 0, 16, 0, 64, 192, 448, 1008, 2047, 4095] 11 (_) mixed (by kernel_rfl) (AH.le_refl _) ?_
      simp (dsimp := false) (maxSteps := 4000000) only [List.length_cons, c0, n1, hrow, e1, hn_b1, hr_b1, go_sem, ↓reduceIte, Nat.reduceEqDiff, Nat.reduceLT, Nat.reduceLeDiff, Nat.reduceAdd, Nat.reduceMul, Nat.reduceSub, reduceCtorEq, Int.reduceToNat, Int.reduceLT, Int.reduceLE, Int.reduceEq, Int.reduceNe, Int.reduceBEq, Nat.reduceBEq, Int.reduceBNe, Nat.reduceBNe, Int.reduceAdd, Int.reduceSub, Int.reduceMul, Int.reduceNeg]
      refine (Header_c perm l.length _).mono ?_; rintro _ _ ⟨rfl, rfl⟩
      simp (dsimp := false) (maxSteps := 4000000) only [eqlRc, hn_b1, hr_b1, go_sem, ↓reduceIte, Nat.reduceEqDiff, Nat.reduceLT, Nat.reduceLeDiff, Nat.reduceAdd, Nat.reduceMul, Nat.reduceSub, reduceCtorEq, Int.reduceToNat, Int.reduceLT, Int.reduceLE, Int.reduceEq, Int.reduceNe, Int.reduceBEq, Nat.reduceBEq, Int.reduceBNe, Nat.reduceBNe, Int.reduceAdd, Int.reduceSub, Int.reduceMul, Int.reduceNeg]
      exact ⟨H, (AH.le_add (AH.le_refl _) ((by simp only [fresh_add, fresh_set, ne_eq, hn_b1, not_false_eq_true, and_self] : Fresh _ b1).2)), (by first | exact ⟨by simp [goodF, a', b', c], rfl⟩ | rfl)⟩
    · have c' : (256 : Int) < ((l.length + 1 : Nat) : Int) := by omega
      simp (dsimp := false) (maxSteps := 4000000) only [a, b, List.length_cons, c1, c', hn_b1, hr_b1, go_sem, ↓reduceIte, Nat.reduceEqDiff, Nat.reduceLT, Nat.reduceLeDiff, Nat.reduceAdd, Nat.reduceMul, Nat.reduceSub, reduceCtorEq, Int.reduceToNat, Int.reduceLT, Int.reduceLE, Int.reduceEq, Int.reduceNe, Int.reduceBEq, Nat.reduceBEq, Int.reduceBNe, Nat.reduceBNe, Int.reduceAdd, Int.reduceSub, Int.reduceMul, Int.reduceNeg]
      exact ⟨H, (AH.le_add (AH.le_refl _) ((by simp only [fresh_add, fresh_set, ne_eq, hn_b1, not_false_eq_true, and_self] : Fresh _ b1).2)), (by first | exact ⟨by simp [goodF, c], rfl⟩ | rfl)⟩

def sameF (p q : Int) (R S : List Rc) : Bool := decide (p = q ∧ R = S)
theorem lt_of_get {α : Type} {l : List α} {i : Nat} {s : α} (h : l[i]? = some s) : i < l.length := by
  rcases Nat.lt_or_ge i l.length with h' | h'
  · exact h'
  · rw [List.getElem?_eq_none h'] at h; cases h
theorem ext_of {R S : List Rc} {i : Nat} (hl : R.length = S.length) (hi : R.length ≤ i) (h : ∀ j, j < i → R[j]? = S[j]?) : R = S := by
  apply List.ext_getElem?
  intro j
  by_cases hj : j < i
  · exact h j hj
  · rw [List.getElem?_eq_none (by omega), List.getElem?_eq_none (by omega)]
theorem RefSame_c (p q : Int) (R S : List Rc) (b1 b2 : Option Addr) (c1 c2 : Nat) (H : AH) (hs : SlcIn H 4 b1 c1 (R.map enc)) (ht : SlcIn H 4 b2 c2 (S.map enc)) :
    ACalls Tryd.prog 35 #[fv p b1 R.length c1, fv q b2 S.length c2] H (fun v H' => v = .bool (sameF p q R S) ∧ H = H') := by
  have hbig := hs.big
  simp only [List.length_map] at hbig
  unfold fv
  refine ACalls.enter2 Tryd.func35 rfl Tryd.ntmps35 Tryd.results35 (by simp) ?_; simp (dsimp := false) (maxSteps := 4000000) only [go_sem, ↓reduceIte, Nat.reduceEqDiff, Nat.reduceLT, Nat.reduceLeDiff, Nat.reduceAdd, Nat.reduceMul, Nat.reduceSub, reduceCtorEq, Int.reduceToNat, Int.reduceLT, Int.reduceLE, Int.reduceEq, Int.reduceNe, Int.reduceBEq, Nat.reduceBEq, Int.reduceBNe, Nat.reduceBNe, Int.reduceAdd, Int.reduceSub, Int.reduceMul, Int.reduceNeg]
  refine AllB.mk fun b3 h_b3 => ?_; have hn_b3 := h_b3; (try simp only [fresh_add, fresh_set, ne_eq] at hn_b3); have hr_b3 := hn_b3; (try simp only [@eq_comm Nat b3] at hr_b3); simp (dsimp := false) (maxSteps := 4000000) only [hn_b3, hr_b3, go_sem, ↓reduceIte, Nat.reduceEqDiff, Nat.reduceLT, Nat.reduceLeDiff, Nat.reduceAdd, Nat.reduceMul, Nat.reduceSub, reduceCtorEq, Int.reduceToNat, Int.reduceLT, Int.reduceLE, Int.reduceEq, Int.reduceNe, Int.reduceBEq, Nat.reduceBEq, Int.reduceBNe, Nat.reduceBNe, Int.reduceAdd, Int.reduceSub, Int.reduceMul, Int.reduceNeg]
  refine AllB.mk fun b4 h_b4 => ?_; have hn_b4 := h_b4; (try simp only [fresh_add, fresh_set, ne_eq] at hn_b4); have hr_b4 := hn_b4; (try simp only [@eq_comm Nat b4] at hr_b4); simp (dsimp := false) (maxSteps := 4000000) only [hn_b3, hr_b3, hn_b4, hr_b4, go_sem, ↓reduceIte, Nat.reduceEqDiff, Nat.reduceLT, Nat.reduceLeDiff, Nat.reduceAdd, Nat.reduceMul, Nat.reduceSub, reduceCtorEq, Int.reduceToNat, Int.reduceLT, Int.reduceLE, Int.reduceEq, Int.reduceNe, Int.reduceBEq, Nat.reduceBEq, Int.reduceBNe, Nat.reduceBNe, Int.reduceAdd, Int.reduceSub, Int.reduceMul, Int.reduceNeg]
  by_cases a : p = q
  · subst a
    by_cases hl : R.length = S.length
    · have hl' : (S.length : Int) = (R.length : Int) := by omega
      simp (dsimp := false) (maxSteps := 4000000) only [hl', hn_b3, hr_b3, hn_b4, hr_b4, go_sem, ↓reduceIte, Nat.reduceEqDiff, Nat.reduceLT, Nat.reduceLeDiff, Nat.reduceAdd, Nat.reduceMul, Nat.reduceSub, reduceCtorEq, Int.reduceToNat, Int.reduceLT, Int.reduceLE, Int.reduceEq, Int.reduceNe, Int.reduceBEq, Nat.reduceBEq, Int.reduceBNe, Nat.reduceBNe, Int.reduceAdd, Int.reduceSub, Int.reduceMul, Int.reduceNeg]
      refine AWp.loopo (ι := Nat) (fun i => i ≤ R.length ∧ ∀ j, j < i → R[j]? = S[j]?) (fun i => [(5, .int .i64 i), (2, .pointer (some ⟨b3, 0, none⟩)), (3, .pointer (some ⟨b4, 0, none⟩))])
        (fun _ => (H.add b3 (.cells [.int .i64 p, .slice b1 R.length c1] 35 2)).add b4 (.cells [.int .i64 p, .slice b2 S.length c2] 35 2)) (fun i => R.length - i) 0 ⟨by omega, fun j hj => by omega⟩ (FrLe.of_lks ?_) (AH.le_refl _) fun i hi Q again out => ?_
      · simp (dsimp := false) (maxSteps := 4000000) only [hn_b3, hr_b3, hn_b4, hr_b4, go_sem, ↓reduceIte, Nat.reduceEqDiff, Nat.reduceLT, Nat.reduceLeDiff, Nat.reduceAdd, Nat.reduceMul, Nat.reduceSub, reduceCtorEq, Int.reduceToNat, Int.reduceLT, Int.reduceLE, Int.reduceEq, Int.reduceNe, Int.reduceBEq, Nat.reduceBEq, Int.reduceBNe, Nat.reduceBNe, Int.reduceAdd, Int.reduceSub, Int.reduceMul, Int.reduceNeg]
      · obtain ⟨hi, hall⟩ := hi
        by_cases h : (i : Int) < R.length
        · obtain ⟨r, hr⟩ := get_some (l := R) (i := i) (by omega)
          obtain ⟨s, hsi⟩ := get_some (l := S) (i := i) (by omega)
          obtain ⟨b, o, rfl, hrow, _⟩ := hs.get (map_get (f := enc) hr)
          obtain ⟨b', o', rfl, hrow', _⟩ := ht.get (map_get (f := enc) hsi)
          have e1 := i64_succ (i := i) (by omega)
          have n1 := h_b3.ne_row hrow
          have n2 := h_b3.ne_row hrow'
          have n3 := h_b4.ne_row (row_mono h_b3 hrow)
          have n4 := h_b4.ne_row (row_mono h_b3 hrow')
          have h2 : (i : Int) < S.length := by omega
          simp (dsimp := false) (maxSteps := 4000000) only [h, hn_b3, hr_b3, hn_b4, hr_b4, go_sem, ↓reduceIte, Nat.reduceEqDiff, Nat.reduceLT, Nat.reduceLeDiff, Nat.reduceAdd, Nat.reduceMul, Nat.reduceSub, reduceCtorEq, Int.reduceToNat, Int.reduceLT, Int.reduceLE, Int.reduceEq, Int.reduceNe, Int.reduceBEq, Nat.reduceBEq, Int.reduceBNe, Nat.reduceBNe, Int.reduceAdd, Int.reduceSub, Int.reduceMul, Int.reduceNeg]
          refine AWp.quiet mixed (by kernel_rfl) ?_
          by_cases e : r = s
          · simp (dsimp := false) (maxSteps := 4000000) only [h, h2, hrow, hrow', n1, n2, n3, n4, neqRc, e, e1, hn_b3, hr_b3, hn_b4, hr_b4, go_sem, ↓reduceIte, Nat.reduceEqDiff, Nat.reduceLT, Nat.reduceLeDiff, Nat.reduceAdd, Nat.reduceMul, Nat.reduceSub, reduceCtorEq, Int.reduceToNat, Int.reduceLT, Int.reduceLE, Int.reduceEq, Int.reduceNe, Int.reduceBEq, Nat.reduceBEq, Int.reduceBNe, Nat.reduceBNe, Int.reduceAdd, Int.reduceSub, Int.reduceMul, Int.reduceNeg]
            refine again (i + 1) _ _ ⟨by omega, fun j hj => ?_⟩ (FrLe.of_lks (by simp (dsimp := false) (maxSteps := 4000000) only [hn_b3, hr_b3, hn_b4, hr_b4, go_sem, ↓reduceIte, Nat.reduceEqDiff, Nat.reduceLT, Nat.reduceLeDiff, Nat.reduceAdd, Nat.reduceMul, Nat.reduceSub, reduceCtorEq, Int.reduceToNat, Int.reduceLT, Int.reduceLE, Int.reduceEq, Int.reduceNe, Int.reduceBEq, Nat.reduceBEq, Int.reduceBNe, Nat.reduceBNe, Int.reduceAdd, Int.reduceSub, Int.reduceMul, Int.reduceNeg])) (AH.le_refl _) (by omega)
            by_cases hji : j = i
            · subst hji; rw [hr, hsi, e]
            · exact hall j (by omega)
          · simp (dsimp := false) (maxSteps := 4000000) only [h, h2, hrow, hrow', n1, n2, n3, n4, neqRc, e, hn_b3, hr_b3, hn_b4, hr_b4, go_sem, ↓reduceIte, Nat.reduceEqDiff, Nat.reduceLT, Nat.reduceLeDiff, Nat.reduceAdd, Nat.reduceMul, Nat.reduceSub, reduceCtorEq, Int.reduceToNat, Int.reduceLT, Int.reduceLE, Int.reduceEq, Int.reduceNe, Int.reduceBEq, Nat.reduceBEq, Int.reduceBNe, Nat.reduceBNe, Int.reduceAdd, Int.reduceSub, Int.reduceMul, Int.reduceNeg]
            refine out _ _ _ (by simp) ?_
            simp (dsimp := false) (maxSteps := 4000000) only [hn_b3, hr_b3, hn_b4, hr_b4, go_sem, ↓reduceIte, Nat.reduceEqDiff, Nat.reduceLT, Nat.reduceLeDiff, Nat.reduceAdd, Nat.reduceMul, Nat.reduceSub, reduceCtorEq, Int.reduceToNat, Int.reduceLT, Int.reduceLE, Int.reduceEq, Int.reduceNe, Int.reduceBEq, Nat.reduceBEq, Int.reduceBNe, Nat.reduceBNe, Int.reduceAdd, Int.reduceSub, Int.reduceMul, Int.reduceNeg]
            exact ⟨H, (AH.le_add (AH.le_add (AH.le_refl _) ((by simp only [fresh_add, fresh_set, ne_eq, hn_b3, not_false_eq_true, and_self] : Fresh _ b3).2)) ((by simp only [fresh_add, fresh_set, ne_eq, hn_b4, not_false_eq_true, and_self] : Fresh _ b4).2)), (by first | exact ⟨by rw [sameF, decide_eq_false]; rintro ⟨_, hx⟩; subst hx; rw [hr] at hsi; cases hsi; exact e rfl, rfl⟩ | rfl)⟩
        · simp (dsimp := false) (maxSteps := 4000000) only [h, hn_b3, hr_b3, hn_b4, hr_b4, go_sem, ↓reduceIte, Nat.reduceEqDiff, Nat.reduceLT, Nat.reduceLeDiff, Nat.reduceAdd, Nat.reduceMul, Nat.reduceSub, reduceCtorEq, Int.reduceToNat, Int.reduceLT, Int.reduceLE, Int.reduceEq, Int.reduceNe, Int.reduceBEq, Nat.reduceBEq, Int.reduceBNe, Nat.reduceBNe, Int.reduceAdd, Int.reduceSub, Int.reduceMul, Int.reduceNeg]
          refine out _ _ _ (by simp) ?_
          simp (dsimp := false) (maxSteps := 4000000) only [hn_b3, hr_b3, hn_b4, hr_b4, go_sem, ↓reduceIte, Nat.reduceEqDiff, Nat.reduceLT, Nat.reduceLeDiff, Nat.reduceAdd, Nat.reduceMul, Nat.reduceSub, reduceCtorEq, Int.reduceToNat, Int.reduceLT, Int.reduceLE, Int.reduceEq, Int.reduceNe, Int.reduceBEq, Nat.reduceBEq, Int.reduceBNe, Nat.reduceBNe, Int.reduceAdd, Int.reduceSub, Int.reduceMul, Int.reduceNeg]
          exact ⟨H, (AH.le_add (AH.le_add (AH.le_refl _) ((by simp only [fresh_add, fresh_set, ne_eq, hn_b3, not_false_eq_true, and_self] : Fresh _ b3).2)) ((by simp only [fresh_add, fresh_set, ne_eq, hn_b4, not_false_eq_true, and_self] : Fresh _ b4).2)), (by first | exact ⟨by rw [sameF, decide_eq_true ⟨rfl, ext_of hl (by omega) hall⟩], rfl⟩ | rfl)⟩
    · have hl' : ¬ (R.length : Int) = (S.length : Int) := by omega
      simp (dsimp := false) (maxSteps := 4000000) only [hl', hn_b3, hr_b3, hn_b4, hr_b4, go_sem, ↓reduceIte, Nat.reduceEqDiff, Nat.reduceLT, Nat.reduceLeDiff, Nat.reduceAdd, Nat.reduceMul, Nat.reduceSub, reduceCtorEq, Int.reduceToNat, Int.reduceLT, Int.reduceLE, Int.reduceEq, Int.reduceNe, Int.reduceBEq, Nat.reduceBEq, Int.reduceBNe, Nat.reduceBNe, Int.reduceAdd, Int.reduceSub, Int.reduceMul, Int.reduceNeg]
      exact ⟨H, (AH.le_add (AH.le_add (AH.le_refl _) ((by simp only [fresh_add, fresh_set, ne_eq, hn_b3, not_false_eq_true, and_self] : Fresh _ b3).2)) ((by simp only [fresh_add, fresh_set, ne_eq, hn_b4, not_false_eq_true, and_self] : Fresh _ b4).2)), (by first | exact ⟨by simp [sameF]; intro hx; subst hx; exact hl rfl, rfl⟩ | rfl)⟩
  · simp (dsimp := false) (maxSteps := 4000000) only [a, hn_b3, hr_b3, hn_b4, hr_b4, go_sem, ↓reduceIte, Nat.reduceEqDiff, Nat.reduceLT, Nat.reduceLeDiff, Nat.reduceAdd, Nat.reduceMul, Nat.reduceSub, reduceCtorEq, Int.reduceToNat, Int.reduceLT, Int.reduceLE, Int.reduceEq, Int.reduceNe, Int.reduceBEq, Nat.reduceBEq, Int.reduceBNe, Nat.reduceBNe, Int.reduceAdd, Int.reduceSub, Int.reduceMul, Int.reduceNeg]
    exact ⟨H, (AH.le_add (AH.le_add (AH.le_refl _) ((by simp only [fresh_add, fresh_set, ne_eq, hn_b3, not_false_eq_true, and_self] : Fresh _ b3).2)) ((by simp only [fresh_add, fresh_set, ne_eq, hn_b4, not_false_eq_true, and_self] : Fresh _ b4).2)), (by first | exact ⟨by simp [sameF, a], rfl⟩ | rfl)⟩
end Go.Proofs.YtmkbpdlijfjgkaaDoor.File
