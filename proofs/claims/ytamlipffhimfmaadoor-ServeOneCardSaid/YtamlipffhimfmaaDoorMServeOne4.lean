/- Texts of mine, one behind another. -/
import Derived.Test.YtamlipffhimfmaaDoorMServeOne3
import Derived.RangeFuncNested
import Derived.RangeFuncBound
import Derived.RangeFuncCalls
import Derived.RangeFuncLeaves
import Derived.RangeFuncFrom
import Derived.Shelf.Abstract
import Derived.Shelf.RegionOpen
import Derived.WalkKit
import Derived.OwnWalkIn
import Derived.TacticsInMore
import Derived.LoopNIn
import Derived.LoopIn
import Derived.Test.YtamlipffhimfmaaDoorProg
import Derived.Deep.Slices
import Derived.ProofKit
import Derived.OpenShut
import Derived.SizedLaws
import Derived.Lib.SmallJoins
/- file: Good, Same, and their references: what each comes to. -/
namespace Go.Proofs.YtamlipffhimfmaaDoor.File
set_option linter.unusedSimpArgs false
set_option linter.unusedVariables false
open Go Go.AX Go.Proofs Ty
set_option maxHeartbeats 4000000
set_option maxRecDepth 10000

def goodF (perm : Int) (R : List Rc) : Bool := match R with
  | [] => false
  | r :: l => decide (0 ≤ perm) && decide (perm ≤ 7) && decide (l.length < 256) && decide (r = hd perm l.length)
theorem goodF_bad {perm : Int} {R : List Rc} (h : perm < 0 ∨ 7 < perm) : goodF perm R = false := by
  unfold goodF
  split
  · rfl
  · rcases h with h | h
    · rw [decide_eq_false (p := 0 ≤ perm) (by omega)]; simp
    · rw [decide_eq_false (p := perm ≤ 7) (by omega)]; simp
theorem Good_c (perm : Int) (R : List Rc) (base : Option Addr) (cap : Nat) (H : AH) (hs : SlcIn H 4 base cap (R.map enc)) :
    ACalls Tryd.prog 25 #[fv perm base R.length cap] H (fun v H' => v = .bool (goodF perm R) ∧ H = H') := by
  have hbig := hs.big
  simp only [List.length_map] at hbig
  unfold fv
  refine ACalls.enter2 Tryd.func25 rfl Tryd.ntmps25 Tryd.results25 (by simp) ?_; simp (dsimp := false) (maxSteps := 4000000) only [go_sem, ↓reduceIte, Nat.reduceEqDiff, Nat.reduceLT, Nat.reduceLeDiff, Nat.reduceAdd, Nat.reduceMul, Nat.reduceSub, reduceCtorEq, Int.reduceToNat, Int.reduceLT, Int.reduceLE, Int.reduceEq, Int.reduceNe, Int.reduceBEq, Nat.reduceBEq, Int.reduceBNe, Nat.reduceBNe, Int.reduceAdd, Int.reduceSub, Int.reduceMul, Int.reduceNeg]
  refine AllB.mk fun b1 h_b1 => ?_; have hn_b1 := h_b1; (try simp only [fresh_add, fresh_set, ne_eq] at hn_b1); have hr_b1 := hn_b1; (try simp only [@eq_comm Nat b1] at hr_b1); simp (dsimp := false) (maxSteps := 4000000) only [hn_b1, hr_b1, go_sem, ↓reduceIte, Nat.reduceEqDiff, Nat.reduceLT, Nat.reduceLeDiff, Nat.reduceAdd, Nat.reduceMul, Nat.reduceSub, reduceCtorEq, Int.reduceToNat, Int.reduceLT, Int.reduceLE, Int.reduceEq, Int.reduceNe, Int.reduceBEq, Nat.reduceBEq, Int.reduceBNe, Nat.reduceBNe, Int.reduceAdd, Int.reduceSub, Int.reduceMul, Int.reduceNeg]
  refine AWp.gen [.pu, .rd, .pu, .pu, .pu, .rd, .pu, .pu, .pu, .pu, .pu, .pu, .pu, .pu, .pu, .pu, .pu, .pu, .rd, .pu, .rd, .pu, .rd, .pu, .pu, .ch, .pu, .pu, .pu] [0, 1, 3, 7, 15, 31, 63, 127, 255, 511, 1023, 2047, 4095, 8191, 16383, 32767, 65535, 131071, 262143, 524287, 1048575, 131071, 2228223, 131071, 8519679, 31588351, 67108863, 134217727, 268435455] 26 (_) mixed (by kernel_rfl) (AH.le_refl _) ?_
  by_cases a : 0 ≤ perm
  · by_cases b : perm ≤ 7
    · cases R with
      | nil =>
        simp (dsimp := false) (maxSteps := 4000000) only [a, b, List.length_nil, Int.natCast_zero, hn_b1, hr_b1, go_sem, ↓reduceIte, Nat.reduceEqDiff, Nat.reduceLT, Nat.reduceLeDiff, Nat.reduceAdd, Nat.reduceMul, Nat.reduceSub, reduceCtorEq, Int.reduceToNat, Int.reduceLT, Int.reduceLE, Int.reduceEq, Int.reduceNe, Int.reduceBEq, Nat.reduceBEq, Int.reduceBNe, Nat.reduceBNe, Int.reduceAdd, Int.reduceSub, Int.reduceMul, Int.reduceNeg]
        exact ⟨H, (AH.le_add (AH.le_refl _) ((by simp only [fresh_add, fresh_set, ne_eq, hn_b1, not_false_eq_true, and_self] : Fresh _ b1).2)), (by first | exact ⟨rfl, rfl⟩ | rfl)⟩
      | cons r l =>
        obtain ⟨b_, o, rfl, hrow, _⟩ := hs.get (r := enc r) (i := 0) rfl
        rw [Nat.zero_mul, Nat.add_zero] at hrow
        have n1 := h_b1.ne_row hrow
        simp only [List.length_cons] at hbig
        have c1 : (1 : Int) ≤ ((l.length + 1 : Nat) : Int) := by omega
        have c0 : (0 : Int) < ((l.length + 1 : Nat) : Int) := by omega
        have e1 : IntKind.i64.wrap (((l.length + 1 : Nat) : Int) - 1) = (l.length : Int) := by rw [i64_eq (by omega) (by omega)]; omega
        by_cases c : l.length < 256
        · have c' : ((l.length + 1 : Nat) : Int) ≤ 256 := by omega
          simp (dsimp := false) (maxSteps := 4000000) only [a, b, List.length_cons, c1, c0, c', n1, hrow, e1, AH.le_refl, hn_b1, hr_b1, go_sem, ↓reduceIte, Nat.reduceEqDiff, Nat.reduceLT, Nat.reduceLeDiff, Nat.reduceAdd, Nat.reduceMul, Nat.reduceSub, reduceCtorEq, Int.reduceToNat, Int.reduceLT, Int.reduceLE, Int.reduceEq, Int.reduceNe, Int.reduceBEq, Nat.reduceBEq, Int.reduceBNe, Nat.reduceBNe, Int.reduceAdd, Int.reduceSub, Int.reduceMul, Int.reduceNeg]
          refine (header_c perm l.length _).mono ?_; rintro _ _ ⟨rfl, rfl⟩
          simp (dsimp := false) (maxSteps := 4000000) only [a, b, c1, c', eqlRc, AH.le_refl, hn_b1, hr_b1, go_sem, ↓reduceIte, Nat.reduceEqDiff, Nat.reduceLT, Nat.reduceLeDiff, Nat.reduceAdd, Nat.reduceMul, Nat.reduceSub, reduceCtorEq, Int.reduceToNat, Int.reduceLT, Int.reduceLE, Int.reduceEq, Int.reduceNe, Int.reduceBEq, Nat.reduceBEq, Int.reduceBNe, Nat.reduceBNe, Int.reduceAdd, Int.reduceSub, Int.reduceMul, Int.reduceNeg]
          exact ⟨H, (AH.le_add (AH.le_refl _) ((by simp only [fresh_add, fresh_set, ne_eq, hn_b1, not_false_eq_true, and_self] : Fresh _ b1).2)), (by first | exact ⟨by simp [goodF, a, b, c], rfl⟩ | rfl)⟩
        · have c' : ¬ ((l.length + 1 : Nat) : Int) ≤ 256 := by omega
          simp (dsimp := false) (maxSteps := 4000000) only [a, b, List.length_cons, c1, c', e1, AH.le_refl, hn_b1, hr_b1, go_sem, ↓reduceIte, Nat.reduceEqDiff, Nat.reduceLT, Nat.reduceLeDiff, Nat.reduceAdd, Nat.reduceMul, Nat.reduceSub, reduceCtorEq, Int.reduceToNat, Int.reduceLT, Int.reduceLE, Int.reduceEq, Int.reduceNe, Int.reduceBEq, Nat.reduceBEq, Int.reduceBNe, Nat.reduceBNe, Int.reduceAdd, Int.reduceSub, Int.reduceMul, Int.reduceNeg]
          exact ⟨H, (AH.le_add (AH.le_refl _) ((by simp only [fresh_add, fresh_set, ne_eq, hn_b1, not_false_eq_true, and_self] : Fresh _ b1).2)), (by first | exact ⟨by simp [goodF, c], rfl⟩ | rfl)⟩
    · simp (dsimp := false) (maxSteps := 4000000) only [a, b, hn_b1, hr_b1, go_sem, ↓reduceIte, Nat.reduceEqDiff, Nat.reduceLT, Nat.reduceLeDiff, Nat.reduceAdd, Nat.reduceMul, Nat.reduceSub, reduceCtorEq, Int.reduceToNat, Int.reduceLT, Int.reduceLE, Int.reduceEq, Int.reduceNe, Int.reduceBEq, Nat.reduceBEq, Int.reduceBNe, Nat.reduceBNe, Int.reduceAdd, Int.reduceSub, Int.reduceMul, Int.reduceNeg]
      exact ⟨H, (AH.le_add (AH.le_refl _) ((by simp only [fresh_add, fresh_set, ne_eq, hn_b1, not_false_eq_true, and_self] : Fresh _ b1).2)), (by first | exact ⟨by unfold goodF; split <;> simp [b], rfl⟩ | rfl)⟩
  · simp (dsimp := false) (maxSteps := 4000000) only [a, hn_b1, hr_b1, go_sem, ↓reduceIte, Nat.reduceEqDiff, Nat.reduceLT, Nat.reduceLeDiff, Nat.reduceAdd, Nat.reduceMul, Nat.reduceSub, reduceCtorEq, Int.reduceToNat, Int.reduceLT, Int.reduceLE, Int.reduceEq, Int.reduceNe, Int.reduceBEq, Nat.reduceBEq, Int.reduceBNe, Nat.reduceBNe, Int.reduceAdd, Int.reduceSub, Int.reduceMul, Int.reduceNeg]
    exact ⟨H, (AH.le_add (AH.le_refl _) ((by simp only [fresh_add, fresh_set, ne_eq, hn_b1, not_false_eq_true, and_self] : Fresh _ b1).2)), (by first | exact ⟨by unfold goodF; split <;> simp [a], rfl⟩ | rfl)⟩
theorem RefGood_c (perm : Int) (R : List Rc) (base : Option Addr) (cap : Nat) (H : AH) (hs : SlcIn H 4 base cap (R.map enc)) :
    ACalls Tryd.prog 23 #[fv perm base R.length cap] H (fun v H' => v = .bool (goodF perm R) ∧ H = H') := by
  have hbig := hs.big
  simp only [List.length_map] at hbig
  unfold fv
  refine ACalls.enter2 Tryd.func23 rfl Tryd.ntmps23 Tryd.results23 (by simp) ?_; simp (dsimp := false) (maxSteps := 4000000) only [go_sem, ↓reduceIte, Nat.reduceEqDiff, Nat.reduceLT, Nat.reduceLeDiff, Nat.reduceAdd, Nat.reduceMul, Nat.reduceSub, reduceCtorEq, Int.reduceToNat, Int.reduceLT, Int.reduceLE, Int.reduceEq, Int.reduceNe, Int.reduceBEq, Nat.reduceBEq, Int.reduceBNe, Nat.reduceBNe, Int.reduceAdd, Int.reduceSub, Int.reduceMul, Int.reduceNeg]
  refine AllB.mk fun b1 h_b1 => ?_; have hn_b1 := h_b1; (try simp only [fresh_add, fresh_set, ne_eq] at hn_b1); have hr_b1 := hn_b1; (try simp only [@eq_comm Nat b1] at hr_b1); simp (dsimp := false) (maxSteps := 4000000) only [hn_b1, hr_b1, go_sem, ↓reduceIte, Nat.reduceEqDiff, Nat.reduceLT, Nat.reduceLeDiff, Nat.reduceAdd, Nat.reduceMul, Nat.reduceSub, reduceCtorEq, Int.reduceToNat, Int.reduceLT, Int.reduceLE, Int.reduceEq, Int.reduceNe, Int.reduceBEq, Nat.reduceBEq, Int.reduceBNe, Nat.reduceBNe, Int.reduceAdd, Int.reduceSub, Int.reduceMul, Int.reduceNeg]
  by_cases a : perm < 0
  · simp (dsimp := false) (maxSteps := 4000000) only [a, hn_b1, hr_b1, go_sem, ↓reduceIte, Nat.reduceEqDiff, Nat.reduceLT, Nat.reduceLeDiff, Nat.reduceAdd, Nat.reduceMul, Nat.reduceSub, reduceCtorEq, Int.reduceToNat, Int.reduceLT, Int.reduceLE, Int.reduceEq, Int.reduceNe, Int.reduceBEq, Nat.reduceBEq, Int.reduceBNe, Nat.reduceBNe, Int.reduceAdd, Int.reduceSub, Int.reduceMul, Int.reduceNeg]
    exact ⟨H, (AH.le_add (AH.le_refl _) ((by simp only [fresh_add, fresh_set, ne_eq, hn_b1, not_false_eq_true, and_self] : Fresh _ b1).2)), (by first | exact ⟨by rw [goodF_bad (.inl a)], rfl⟩ | rfl)⟩
  by_cases b : 7 < perm
  · simp (dsimp := false) (maxSteps := 4000000) only [a, b, hn_b1, hr_b1, go_sem, ↓reduceIte, Nat.reduceEqDiff, Nat.reduceLT, Nat.reduceLeDiff, Nat.reduceAdd, Nat.reduceMul, Nat.reduceSub, reduceCtorEq, Int.reduceToNat, Int.reduceLT, Int.reduceLE, Int.reduceEq, Int.reduceNe, Int.reduceBEq, Nat.reduceBEq, Int.reduceBNe, Nat.reduceBNe, Int.reduceAdd, Int.reduceSub, Int.reduceMul, Int.reduceNeg]
    exact ⟨H, (AH.le_add (AH.le_refl _) ((by simp only [fresh_add, fresh_set, ne_eq, hn_b1, not_false_eq_true, and_self] : Fresh _ b1).2)), (by first | exact ⟨by rw [goodF_bad (.inr b)], rfl⟩ | rfl)⟩
  cases R with
  | nil =>
    simp (dsimp := false) (maxSteps := 4000000) only [a, b, List.length_nil, Int.natCast_zero, hn_b1, hr_b1, go_sem, ↓reduceIte, Nat.reduceEqDiff, Nat.reduceLT, Nat.reduceLeDiff, Nat.reduceAdd, Nat.reduceMul, Nat.reduceSub, reduceCtorEq, Int.reduceToNat, Int.reduceLT, Int.reduceLE, Int.reduceEq, Int.reduceNe, Int.reduceBEq, Nat.reduceBEq, Int.reduceBNe, Nat.reduceBNe, Int.reduceAdd, Int.reduceSub, Int.reduceMul, Int.reduceNeg]
    exact ⟨H, (AH.le_add (AH.le_refl _) ((by simp only [fresh_add, fresh_set, ne_eq, hn_b1, not_false_eq_true, and_self] : Fresh _ b1).2)), (by first | exact ⟨rfl, rfl⟩ | rfl)⟩
  | cons r l =>
    obtain ⟨b_, o, rfl, hrow, _⟩ := hs.get (r := enc r) (i := 0) rfl
    rw [Nat.zero_mul, Nat.add_zero] at hrow
    have n1 := h_b1.ne_row hrow
    simp only [List.length_cons] at hbig
    have c1 : ¬ ((l.length + 1 : Nat) : Int) = 0 := by omega
    have c0 : (0 : Int) < ((l.length + 1 : Nat) : Int) := by omega
    have e1 : IntKind.i64.wrap (((l.length + 1 : Nat) : Int) - 1) = (l.length : Int) := by rw [i64_eq (by omega) (by omega)]; omega
    have a' : 0 ≤ perm := by omega
    have b' : perm ≤ 7 := by omega
    by_cases c : l.length < 256
    · have c' : ¬ (256 : Int) < ((l.length + 1 : Nat) : Int) := by omega
      simp (dsimp := false) (maxSteps := 4000000) only [a, b, List.length_cons, c1, c0, c', n1, hrow, e1, hn_b1, hr_b1, go_sem, ↓reduceIte, Nat.reduceEqDiff, Nat.reduceLT, Nat.reduceLeDiff, Nat.reduceAdd, Nat.reduceMul, Nat.reduceSub, reduceCtorEq, Int.reduceToNat, Int.reduceLT, Int.reduceLE, Int.reduceEq, Int.reduceNe, Int.reduceBEq, Nat.reduceBEq, Int.reduceBNe, Nat.reduceBNe, Int.reduceAdd, Int.reduceSub, Int.reduceMul, Int.reduceNeg]
      refine AWp.gen [.pu, .rd, .pu, .rd, .pu, .rd, .pu, .rd, .pu, .pu, .ch, .pu, .pu] [0, 1, 3, 7, 0, 16, 0, 64, 192, 448, 1008, 2047, 4095] 11 (_) mixed (by kernel_rfl) (AH.le_refl _) ?_
      simp (dsimp := false) (maxSteps := 4000000) only [List.length_cons, c0, n1, hrow, e1, hn_b1, hr_b1, go_sem, ↓reduceIte, Nat.reduceEqDiff, Nat.reduceLT, Nat.reduceLeDiff, Nat.reduceAdd, Nat.reduceMul, Nat.reduceSub, reduceCtorEq, Int.reduceToNat, Int.reduceLT, Int.reduceLE, Int.reduceEq, Int.reduceNe, Int.reduceBEq, Nat.reduceBEq, Int.reduceBNe, Nat.reduceBNe, Int.reduceAdd, Int.reduceSub, Int.reduceMul, Int.reduceNeg]
      refine (Header_c perm l.length _).mono ?_; rintro _ _ ⟨rfl, rfl⟩
      simp (dsimp := false) (maxSteps := 4000000) only [eqlRc, hn_b1, hr_b1, go_sem, ↓reduceIte, Nat.reduceEqDiff, Nat.reduceLT, Nat.reduceLeDiff, Nat.reduceAdd, Nat.reduceMul, Nat.reduceSub, reduceCtorEq, Int.reduceToNat, Int.reduceLT, Int.reduceLE, Int.reduceEq, Int.reduceNe, Int.reduceBEq, Nat.reduceBEq, Int.reduceBNe, Nat.reduceBNe, Int.reduceAdd, Int.reduceSub, Int.reduceMul, Int.reduceNeg]
      exact ⟨H, (AH.le_add (AH.le_refl _) ((by simp only [fresh_add, fresh_set, ne_eq, hn_b1, not_false_eq_true, and_self] : Fresh _ b1).2)), (by first | exact ⟨by simp [goodF, a', b', c], rfl⟩ | rfl)⟩
    · have c' : (256 : Int) < ((l.length + 1 : Nat) : Int) := by omega
      simp (dsimp := false) (maxSteps := 4000000) only [a, b, List.length_cons, c1, c', hn_b1, hr_b1, go_sem, ↓reduceIte, Nat.reduceEqDiff, Nat.reduceLT, Nat.reduceLeDiff, Nat.reduceAdd, Nat.reduceMul, Nat.reduceSub, reduceCtorEq, Int.reduceToNat, Int.reduceLT, Int.reduceLE, Int.reduceEq, Int.reduceNe, Int.reduceBEq, Nat.reduceBEq, Int.reduceBNe, Nat.reduceBNe, Int.reduceAdd, Int.reduceSub, Int.reduceMul, Int.reduceNeg]
      exact ⟨H, (AH.le_add (AH.le_refl _) ((by simp only [fresh_add, fresh_set, ne_eq, hn_b1, not_false_eq_true, and_self] : Fresh _ b1).2)), (by first | exact ⟨by simp [goodF, c], rfl⟩ | rfl)⟩

def sameF (p q : Int) (R S : List Rc) : Bool := decide (p = q ∧ R = S)
theorem lt_of_get {α : Type} {l : List α} {i : Nat} {s : α} (h : l[i]? = some s) : i < l.length := by
  rcases Nat.lt_or_ge i l.length with h' | h'
  · exact h'
  · rw [List.getElem?_eq_none h'] at h; cases h
theorem ext_of {R S : List Rc} {i : Nat} (hl : R.length = S.length) (hi : R.length ≤ i) (h : ∀ j, j < i → R[j]? = S[j]?) : R = S := by
  apply List.ext_getElem?
  intro j
  by_cases hj : j < i
  · exact h j hj
  · rw [List.getElem?_eq_none (by omega), List.getElem?_eq_none (by omega)]
theorem RefSame_c (p q : Int) (R S : List Rc) (b1 b2 : Option Addr) (c1 c2 : Nat) (H : AH) (hs : SlcIn H 4 b1 c1 (R.map enc)) (ht : SlcIn H 4 b2 c2 (S.map enc)) :
    ACalls Tryd.prog 20 #[fv p b1 R.length c1, fv q b2 S.length c2] H (fun v H' => v = .bool (sameF p q R S) ∧ H = H') := by
  have hbig := hs.big
  simp only [List.length_map] at hbig
  unfold fv
  refine ACalls.enter2 Tryd.func20 rfl Tryd.ntmps20 Tryd.results20 (by simp) ?_; simp (dsimp := false) (maxSteps := 4000000) only [go_sem, ↓reduceIte, Nat.reduceEqDiff, Nat.reduceLT, Nat.reduceLeDiff, Nat.reduceAdd, Nat.reduceMul, Nat.reduceSub, reduceCtorEq, Int.reduceToNat, Int.reduceLT, Int.reduceLE, Int.reduceEq, Int.reduceNe, Int.reduceBEq, Nat.reduceBEq, Int.reduceBNe, Nat.reduceBNe, Int.reduceAdd, Int.reduceSub, Int.reduceMul, Int.reduceNeg]
  refine AllB.mk fun b3 h_b3 => ?_; have hn_b3 := h_b3; (try simp only [fresh_add, fresh_set, ne_eq] at hn_b3); have hr_b3 := hn_b3; (try simp only [@eq_comm Nat b3] at hr_b3); simp (dsimp := false) (maxSteps := 4000000) only [hn_b3, hr_b3, go_sem, ↓reduceIte, Nat.reduceEqDiff, Nat.reduceLT, Nat.reduceLeDiff, Nat.reduceAdd, Nat.reduceMul, Nat.reduceSub, reduceCtorEq, Int.reduceToNat, Int.reduceLT, Int.reduceLE, Int.reduceEq, Int.reduceNe, Int.reduceBEq, Nat.reduceBEq, Int.reduceBNe, Nat.reduceBNe, Int.reduceAdd, Int.reduceSub, Int.reduceMul, Int.reduceNeg]
  refine AllB.mk fun b4 h_b4 => ?_; have hn_b4 := h_b4; (try simp only [fresh_add, fresh_set, ne_eq] at hn_b4); have hr_b4 := hn_b4; (try simp only [@eq_comm Nat b4] at hr_b4); simp (dsimp := false) (maxSteps := 4000000) only [hn_b3, hr_b3, hn_b4, hr_b4, go_sem, ↓reduceIte, Nat.reduceEqDiff, Nat.reduceLT, Nat.reduceLeDiff, Nat.reduceAdd, Nat.reduceMul, Nat.reduceSub, reduceCtorEq, Int.reduceToNat, Int.reduceLT, Int.reduceLE, Int.reduceEq, Int.reduceNe, Int.reduceBEq, Nat.reduceBEq, Int.reduceBNe, Nat.reduceBNe, Int.reduceAdd, Int.reduceSub, Int.reduceMul, Int.reduceNeg]
  by_cases a : p = q
  · subst a
    by_cases hl : R.length = S.length
    · have hl' : (S.length : Int) = (R.length : Int) := by omega
      simp (dsimp := false) (maxSteps := 4000000) only [hl', hn_b3, hr_b3, hn_b4, hr_b4, go_sem, ↓reduceIte, Nat.reduceEqDiff, Nat.reduceLT, Nat.reduceLeDiff, Nat.reduceAdd, Nat.reduceMul, Nat.reduceSub, reduceCtorEq, Int.reduceToNat, Int.reduceLT, Int.reduceLE, Int.reduceEq, Int.reduceNe, Int.reduceBEq, Nat.reduceBEq, Int.reduceBNe, Nat.reduceBNe, Int.reduceAdd, Int.reduceSub, Int.reduceMul, Int.reduceNeg]
      refine AWp.loopo (ι := Nat) (fun i => i ≤ R.length ∧ ∀ j, j < i → R[j]? = S[j]?) (fun i => [(5, .int .i64 i), (2, .pointer (some ⟨b3, 0, none⟩)), (3, .pointer (some ⟨b4, 0, none⟩))])
        (fun _ => (H.add b3 (.cells [.int .i64 p, .slice b1 R.length c1] 46 2)).add b4 (.cells [.int .i64 p, .slice b2 S.length c2] 46 2)) (fun i => R.length - i) 0 ⟨by omega, fun j hj => by omega⟩ (FrLe.of_lks ?_) (AH.le_refl _) fun i hi Q again out => ?_
      · simp (dsimp := false) (maxSteps := 4000000) only [hn_b3, hr_b3, hn_b4, hr_b4, go_sem, ↓reduceIte, Nat.reduceEqDiff, Nat.reduceLT, Nat.reduceLeDiff, Nat.reduceAdd, Nat.reduceMul, Nat.reduceSub, reduceCtorEq, Int.reduceToNat, Int.reduceLT, Int.reduceLE, Int.reduceEq, Int.reduceNe, Int.reduceBEq, Nat.reduceBEq, Int.reduceBNe, Nat.reduceBNe, Int.reduceAdd, Int.reduceSub, Int.reduceMul, Int.reduceNeg]
      · obtain ⟨hi, hall⟩ := hi
        by_cases h : (i : Int) < R.length
        · obtain ⟨r, hr⟩ := get_some (l := R) (i := i) (by omega)
          obtain ⟨s, hsi⟩ := get_some (l := S) (i := i) (by omega)
          obtain ⟨b, o, rfl, hrow, _⟩ := hs.get (map_get (f := enc) hr)
          obtain ⟨b', o', rfl, hrow', _⟩ := ht.get (map_get (f := enc) hsi)
          have e1 := i64_succ (i := i) (by omega)
          have n1 := h_b3.ne_row hrow
          have n2 := h_b3.ne_row hrow'
          have n3 := h_b4.ne_row (row_mono h_b3 hrow)
          have n4 := h_b4.ne_row (row_mono h_b3 hrow')
          have h2 : (i : Int) < S.length := by omega
          simp (dsimp := false) (maxSteps := 4000000) only [h, hn_b3, hr_b3, hn_b4, hr_b4, go_sem, ↓reduceIte, Nat.reduceEqDiff, Nat.reduceLT, Nat.reduceLeDiff, Nat.reduceAdd, Nat.reduceMul, Nat.reduceSub, reduceCtorEq, Int.reduceToNat, Int.reduceLT, Int.reduceLE, Int.reduceEq, Int.reduceNe, Int.reduceBEq, Nat.reduceBEq, Int.reduceBNe, Nat.reduceBNe, Int.reduceAdd, Int.reduceSub, Int.reduceMul, Int.reduceNeg]
          refine AWp.quiet mixed (by kernel_rfl) ?_
          by_cases e : r = s
          · simp (dsimp := false) (maxSteps := 4000000) only [h, h2, hrow, hrow', n1, n2, n3, n4, neqRc, e, e1, hn_b3, hr_b3, hn_b4, hr_b4, go_sem, ↓reduceIte, Nat.reduceEqDiff, Nat.reduceLT, Nat.reduceLeDiff, Nat.reduceAdd, Nat.reduceMul, Nat.reduceSub, reduceCtorEq, Int.reduceToNat, Int.reduceLT, Int.reduceLE, Int.reduceEq, Int.reduceNe, Int.reduceBEq, Nat.reduceBEq, Int.reduceBNe, Nat.reduceBNe, Int.reduceAdd, Int.reduceSub, Int.reduceMul, Int.reduceNeg]
            refine again (i + 1) _ _ ⟨by omega, fun j hj => ?_⟩ (FrLe.of_lks (by simp (dsimp := false) (maxSteps := 4000000) only [hn_b3, hr_b3, hn_b4, hr_b4, go_sem, ↓reduceIte, Nat.reduceEqDiff, Nat.reduceLT, Nat.reduceLeDiff, Nat.reduceAdd, Nat.reduceMul, Nat.reduceSub, reduceCtorEq, Int.reduceToNat, Int.reduceLT, Int.reduceLE, Int.reduceEq, Int.reduceNe, Int.reduceBEq, Nat.reduceBEq, Int.reduceBNe, Nat.reduceBNe, Int.reduceAdd, Int.reduceSub, Int.reduceMul, Int.reduceNeg])) (AH.le_refl _) (by omega)
            by_cases hji : j = i
            · subst hji; rw [hr, hsi, e]
            · exact hall j (by omega)
          · simp (dsimp := false) (maxSteps := 4000000) only [h, h2, hrow, hrow', n1, n2, n3, n4, neqRc, e, hn_b3, hr_b3, hn_b4, hr_b4, go_sem, ↓reduceIte, Nat.reduceEqDiff, Nat.reduceLT, Nat.reduceLeDiff, Nat.reduceAdd, Nat.reduceMul, Nat.reduceSub, reduceCtorEq, Int.reduceToNat, Int.reduceLT, Int.reduceLE, Int.reduceEq, Int.reduceNe, Int.reduceBEq, Nat.reduceBEq, Int.reduceBNe, Nat.reduceBNe, Int.reduceAdd, Int.reduceSub, Int.reduceMul, Int.reduceNeg]
            refine out _ _ _ (by simp) ?_
            simp (dsimp := false) (maxSteps := 4000000) only [hn_b3, hr_b3, hn_b4, hr_b4, go_sem, ↓reduceIte, Nat.reduceEqDiff, Nat.reduceLT, Nat.reduceLeDiff, Nat.reduceAdd, Nat.reduceMul, Nat.reduceSub, reduceCtorEq, Int.reduceToNat, Int.reduceLT, Int.reduceLE, Int.reduceEq, Int.reduceNe, Int.reduceBEq, Nat.reduceBEq, Int.reduceBNe, Nat.reduceBNe, Int.reduceAdd, Int.reduceSub, Int.reduceMul, Int.reduceNeg]
            exact ⟨H, (AH.le_add (AH.le_add (AH.le_refl _) ((by simp only [fresh_add, fresh_set, ne_eq, hn_b3, not_false_eq_true, and_self] : Fresh _ b3).2)) ((by simp only [fresh_add, fresh_set, ne_eq, hn_b4, not_false_eq_true, and_self] : Fresh _ b4).2)), (by first | exact ⟨by rw [sameF, decide_eq_false]; rintro ⟨_, hx⟩; subst hx; rw [hr] at hsi; cases hsi; exact e rfl, rfl⟩ | rfl)⟩
        · simp (dsimp := false) (maxSteps := 4000000) only [h, hn_b3, hr_b3, hn_b4, hr_b4, go_sem, ↓reduceIte, Nat.reduceEqDiff, Nat.reduceLT, Nat.reduceLeDiff, Nat.reduceAdd, Nat.reduceMul, Nat.reduceSub, reduceCtorEq, Int.reduceToNat, Int.reduceLT, Int.reduceLE, Int.reduceEq, Int.reduceNe, Int.reduceBEq, Nat.reduceBEq, Int.reduceBNe, Nat.reduceBNe, Int.reduceAdd, Int.reduceSub, Int.reduceMul, Int.reduceNeg]
          refine out _ _ _ (by simp) ?_
          simp (dsimp := false) (maxSteps := 4000000) only [hn_b3, hr_b3, hn_b4, hr_b4, go_sem, ↓reduceIte, Nat.reduceEqDiff, Nat.reduceLT, Nat.reduceLeDiff, Nat.reduceAdd, Nat.reduceMul, Nat.reduceSub, reduceCtorEq, Int.reduceToNat, Int.reduceLT, Int.reduceLE, Int.reduceEq, Int.reduceNe, Int.reduceBEq, Nat.reduceBEq, Int.reduceBNe, Nat.reduceBNe, Int.reduceAdd, Int.reduceSub, Int.reduceMul, Int.reduceNeg]
          exact ⟨H, (AH.le_add (AH.le_add (AH.le_refl _) ((by simp only [fresh_add, fresh_set, ne_eq, hn_b3, not_false_eq_true, and_self] : Fresh _ b3).2)) ((by simp only [fresh_add, fresh_set, ne_eq, hn_b4, not_false_eq_true, and_self] : Fresh _ b4).2)), (by first | exact ⟨by rw [sameF, decide_eq_true ⟨rfl, ext_of hl (by omega) hall⟩], rfl⟩ | rfl)⟩
    · have hl' : ¬ (R.length : Int) = (S.length : Int) := by omega
      simp (dsimp := false) (maxSteps := 4000000) only [hl', hn_b3, hr_b3, hn_b4, hr_b4, go_sem, ↓reduceIte, Nat.reduceEqDiff, Nat.reduceLT, Nat.reduceLeDiff, Nat.reduceAdd, Nat.reduceMul, Nat.reduceSub, reduceCtorEq, Int.reduceToNat, Int.reduceLT, Int.reduceLE, Int.reduceEq, Int.reduceNe, Int.reduceBEq, Nat.reduceBEq, Int.reduceBNe, Nat.reduceBNe, Int.reduceAdd, Int.reduceSub, Int.reduceMul, Int.reduceNeg]
      exact ⟨H, (AH.le_add (AH.le_add (AH.le_refl _) ((by simp only [fresh_add, fresh_set, ne_eq, hn_b3, not_false_eq_true, and_self] : Fresh _ b3).2)) ((by simp only [fresh_add, fresh_set, ne_eq, hn_b4, not_false_eq_true, and_self] : Fresh _ b4).2)), (by first | exact ⟨by simp [sameF]; intro hx; subst hx; exact hl rfl, rfl⟩ | rfl)⟩
  · simp (dsimp := false) (maxSteps := 4000000) only [a, hn_b3, hr_b3, hn_b4, hr_b4, go_sem, ↓reduceIte, Nat.reduceEqDiff, Nat.reduceLT, Nat.reduceLeDiff, Nat.reduceAdd, Nat.reduceMul, Nat.reduceSub, reduceCtorEq, Int.reduceToNat, Int.reduceLT, Int.reduceLE, Int.reduceEq, Int.reduceNe, Int.reduceBEq, Nat.reduceBEq, Int.reduceBNe, Nat.reduceBNe, Int.reduceAdd, Int.reduceSub, Int.reduceMul, Int.reduceNeg]
    exact ⟨H, (AH.le_add (AH.le_add (AH.le_refl _) ((by simp only [fresh_add, fresh_set, ne_eq, hn_b3, not_false_eq_true, and_self] : Fresh _ b3).2)) ((by simp only [fresh_add, fresh_set, ne_eq, hn_b4, not_false_eq_true, and_self] : Fresh _ b4).2)), (by first | exact ⟨by simp [sameF, a], rfl⟩ | rfl)⟩
end Go.Proofs.YtamlipffhimfmaaDoor.File

/- An append to a fresh empty slice: a copy. -/
namespace Go.AX
set_option linter.unusedSimpArgs false
set_option linter.unusedVariables false
open Go Go.RowKit

theorem srow_mono {H : AH} {b sz : Nat} {k : ABlk} {x : Value} {new : List Value} (hf : Fresh H b) (h : srow H sz x = some new) : srow (H.add b k) sz x = some new := by
  unfold srow at h ⊢
  split at h
  · exact row_mono hf h
  · exact h
  · exact h
  · cases h
theorem APD.clone {P : Program} {H : AH} {t t2 e sz bt b m : Nat} {zs new : List Value} {x : Value} {k : Value → AH → Prop} (hE : slE P t = some (e, sz, zs, bt)) (hz : zs.length = sz) (hbt : bt ≠ 0) (hni : nInt (P.underlying t2) = true)
    (hf : Fresh H b) (hx : slen x = some m) (hnew : srow H sz x = some new) (hsc : new.all scal = true) (hroom : (2 * m + 192) * bt ≤ 281474976710656)
    (hk : ∀ b' c' bs', Fresh H b' → m ≤ c' → c' * sz ≤ bs' → k (.slice (some ⟨b', 0, none⟩) m c') (H.add b' (.cells new e bs'))) : APD P (some t) (some t2) [.slice (some ⟨b, 0, none⟩) 0 0, x] (H.add b (.cells [] e 0)) k := by
  have hnew' : srow (H.add b (.cells [] e 0)) sz x = some new := srow_mono hf hnew
  have := APD.own2 (P := P) (H := H.add b (.cells [] e 0)) (t := t) (t2 := t2) (e := e) (sz := sz) (bt := bt) (b := b) (n := 0) (cap := 0) (m := m) (bs := 0) (zs := zs) (cs := []) (new := new) (x := x) (k := k) hE hz hbt hni (find_add_self _ _ _) (by simp) (by simp) hx hnew' (Nat.le_refl _) hsc (by rw [Nat.zero_add]; exact hroom) fun b' c' bs' HH hb hc hbs hHH => by
    rw [del_add_self, del_fresh hf, List.nil_append] at hHH
    subst hHH
    rw [Nat.zero_add] at hc ⊢
    refine hk b' c' bs' ?_ hc hbs
    rcases hb with rfl | h
    · exact hf
    · exact Fresh.of_le (AH.le_add (AH.le_refl _) hf.2) h
  exact this
/-- Nothing is appended, wherever it lies. -/
theorem APD.zero {P : Program} {H : AH} {t t2 e sz bt n cap c : Nat} {zs : List Value} {base a : Option Addr} {k : Value → AH → Prop} (hE : slE P t = some (e, sz, zs, bt)) (hni : nInt (P.underlying t2) = true) (hnc : n ≤ cap) (hk : k (.slice base n cap) H) :
    APD P (some t) (some t2) [.slice base n cap, .slice a 0 c] H k := fun ts ty h0 h1 => by
  obtain ⟨hu, i, z, hi, hz, h1', h2, h3⟩ := slE_some hE
  obtain ⟨u2, hu2⟩ : ∃ u, P.underlying t2 = some u := by cases hh : P.underlying t2 with
    | none => rw [hh] at hni; cases hni
    | some u => exact ⟨u, rfl⟩
  suffices hm : arun P (Builtin.append_ ts ty #[.slice base n cap, .slice a 0 c]) H k by
    intro E w hs
    obtain ⟨v, w', H', r1, r2, r5⟩ := arun_sound P _ _ _ w hm hs
    refine ⟨.value v, w', H', ?_, r2, r5⟩
    show (Builtin.append_ ts ty #[.slice base n cap, .slice a 0 c] >>= fun v => pure (Next.value v)).run P w = _
    simp only [Sem.run_bind, r1, Result.andThen_ok, Sem.run_pure]
  unfold Builtin.append_
  simp only [h0, h1]
  refine arun_qbind ((qrun_underlying t).trans hu) ?_
  refine arun_qbind (a := sz) (by rw [qrun_sizeOf, hi, Option.map_some, h1']) ?_
  refine arun_qbind ((qrun_underlying t2).trans hu2) ?_
  refine arun_qbind (a := false) (by cases u2 <;> first | rfl | (rw [hu2] at hni; cases hni)) ?_
  simp only [Bool.false_eq_true, if_false, Bool.not_false, if_true]
  refine arun_qbind (qrun_lenOf (n := 0) rfl) ?_
  rw [if_pos (by omega)]
  refine arun_qbind (a := #[]) ?_ ?_
  · cases a with
    | none => simp [Builtin.firstCells, qrun_pure]
    | some a => simp only [Builtin.firstCells, Nat.zero_mul]; rfl
  cases base with
  | none => exact hk
  | some a => exact hk
end Go.AX

/- The engine: copy, clear and delete; bytes as_ a string; an append of zeros to nothing. -/
namespace Go.AX
set_option linter.unusedSimpArgs false
set_option linter.unusedVariables false
open Go Go.RowKit

section
variable {P : Program} {H : AH} {n d : Nat} {ds : List (Option Tmp)} {fr : Fr} {K : Fr → AH → Prop} {q : Bool} {ty : TypeId} {pos : String} {af : Array Edge} {rest : List Oper}
def CPY (P : Program) (ts : Array TypeId) (ty : TypeId) (as_ : List Value) (H : AH) (k : Value → AH → Prop) (_t : Lk (k, H) := .mk) : Prop := ASem P (do pure (.value (← Builtin.copy_ ts ty as_.toArray))) H k
def CLR (P : Program) (ts : Array TypeId) (ty : TypeId) (as_ : List Value) (H : AH) (k : Value → AH → Prop) (_t : Lk (k, H) := .mk) : Prop := ASem P (do pure (.value (← Builtin.clear_ ts ty as_.toArray))) H k
def DEL (P : Program) (ts : Array TypeId) (ty : TypeId) (as_ : List Value) (H : AH) (k : Value → AH → Prop) (_t : Lk (k, H) := .mk) : Prop := ASem P (do pure (.value (← Builtin.delete_ ts ty as_.toArray))) H k
theorem maps_toArray (xs : Array Operand) (f : Operand → Value) : (xs.toList.map f).toArray = xs.map f := by rw [← Array.toList_map, Array.toArray_toList]
theorem T_copy {xs : Array Operand} {ts : Array TypeId} : vops q P n ds (⟨(some d), .call { callee := .builtin .copy, args := xs, argTypes := ts }, ty, pos, af, none⟩ :: rest) fr H K = (d < n ∧ q = false ∧ wvs fr xs.toList fun as_ => CPY P ts ty as_ H fun v H' => vops q P n ds rest ((d, v) :: fr) H' K) := by
  rw [← dok_some]
  apply propext
  constructor
  · rintro ⟨h1, h2, _, h3, h4⟩
    refine ⟨h1, h3, by simpa [Op.operands, Call.operands] using h2, ?_⟩
    show CPY P ts ty (xs.toList.map (evd fr)) H _
    unfold CPY
    rw [maps_toArray]; exact h4
  · rintro ⟨h1, h2, h3, h4⟩
    refine ⟨h1, by simpa [Op.operands, Call.operands] using h3, rfl, h2, ?_⟩
    have h4 : CPY P ts ty (xs.toList.map (evd fr)) H _ := h4
    unfold CPY at h4
    rw [maps_toArray] at h4; exact h4
theorem T_copy0 {xs : Array Operand} {ts : Array TypeId} : vops q P n ds (⟨none, .call { callee := .builtin .copy, args := xs, argTypes := ts }, ty, pos, af, none⟩ :: rest) fr H K = (q = false ∧ wvs fr xs.toList fun as_ => CPY P ts ty as_ H fun _ H' => vops q P n ds rest fr H' K) := by
  apply propext
  constructor
  · rintro ⟨_, h2, _, h3, h4⟩
    refine ⟨h3, by simpa [Op.operands, Call.operands] using h2, ?_⟩
    show CPY P ts ty (xs.toList.map (evd fr)) H _
    unfold CPY
    rw [maps_toArray]; exact h4
  · rintro ⟨h2, h3, h4⟩
    refine ⟨rfl, by simpa [Op.operands, Call.operands] using h3, rfl, h2, ?_⟩
    have h4 : CPY P ts ty (xs.toList.map (evd fr)) H _ := h4
    unfold CPY at h4
    rw [maps_toArray] at h4; exact h4
theorem T_clear {xs : Array Operand} {ts : Array TypeId} : vops q P n ds (⟨(some d), .call { callee := .builtin .clear, args := xs, argTypes := ts }, ty, pos, af, none⟩ :: rest) fr H K = (d < n ∧ q = false ∧ wvs fr xs.toList fun as_ => CLR P ts ty as_ H fun v H' => vops q P n ds rest ((d, v) :: fr) H' K) := by
  rw [← dok_some]
  apply propext
  constructor
  · rintro ⟨h1, h2, _, h3, h4⟩
    refine ⟨h1, h3, by simpa [Op.operands, Call.operands] using h2, ?_⟩
    show CLR P ts ty (xs.toList.map (evd fr)) H _
    unfold CLR
    rw [maps_toArray]; exact h4
  · rintro ⟨h1, h2, h3, h4⟩
    refine ⟨h1, by simpa [Op.operands, Call.operands] using h3, rfl, h2, ?_⟩
    have h4 : CLR P ts ty (xs.toList.map (evd fr)) H _ := h4
    unfold CLR at h4
    rw [maps_toArray] at h4; exact h4
theorem T_clear0 {xs : Array Operand} {ts : Array TypeId} : vops q P n ds (⟨none, .call { callee := .builtin .clear, args := xs, argTypes := ts }, ty, pos, af, none⟩ :: rest) fr H K = (q = false ∧ wvs fr xs.toList fun as_ => CLR P ts ty as_ H fun _ H' => vops q P n ds rest fr H' K) := by
  apply propext
  constructor
  · rintro ⟨_, h2, _, h3, h4⟩
    refine ⟨h3, by simpa [Op.operands, Call.operands] using h2, ?_⟩
    show CLR P ts ty (xs.toList.map (evd fr)) H _
    unfold CLR
    rw [maps_toArray]; exact h4
  · rintro ⟨h2, h3, h4⟩
    refine ⟨rfl, by simpa [Op.operands, Call.operands] using h3, rfl, h2, ?_⟩
    have h4 : CLR P ts ty (xs.toList.map (evd fr)) H _ := h4
    unfold CLR at h4
    rw [maps_toArray] at h4; exact h4
theorem T_delete {xs : Array Operand} {ts : Array TypeId} : vops q P n ds (⟨(some d), .call { callee := .builtin .delete, args := xs, argTypes := ts }, ty, pos, af, none⟩ :: rest) fr H K = (d < n ∧ q = false ∧ wvs fr xs.toList fun as_ => DEL P ts ty as_ H fun v H' => vops q P n ds rest ((d, v) :: fr) H' K) := by
  rw [← dok_some]
  apply propext
  constructor
  · rintro ⟨h1, h2, _, h3, h4⟩
    refine ⟨h1, h3, by simpa [Op.operands, Call.operands] using h2, ?_⟩
    show DEL P ts ty (xs.toList.map (evd fr)) H _
    unfold DEL
    rw [maps_toArray]; exact h4
  · rintro ⟨h1, h2, h3, h4⟩
    refine ⟨h1, by simpa [Op.operands, Call.operands] using h3, rfl, h2, ?_⟩
    have h4 : DEL P ts ty (xs.toList.map (evd fr)) H _ := h4
    unfold DEL at h4
    rw [maps_toArray] at h4; exact h4
theorem T_delete0 {xs : Array Operand} {ts : Array TypeId} : vops q P n ds (⟨none, .call { callee := .builtin .delete, args := xs, argTypes := ts }, ty, pos, af, none⟩ :: rest) fr H K = (q = false ∧ wvs fr xs.toList fun as_ => DEL P ts ty as_ H fun _ H' => vops q P n ds rest fr H' K) := by
  apply propext
  constructor
  · rintro ⟨_, h2, _, h3, h4⟩
    refine ⟨h3, by simpa [Op.operands, Call.operands] using h2, ?_⟩
    show DEL P ts ty (xs.toList.map (evd fr)) H _
    unfold DEL
    rw [maps_toArray]; exact h4
  · rintro ⟨h2, h3, h4⟩
    refine ⟨rfl, by simpa [Op.operands, Call.operands] using h3, rfl, h2, ?_⟩
    have h4 : DEL P ts ty (xs.toList.map (evd fr)) H _ := h4
    unfold DEL at h4
    rw [maps_toArray] at h4; exact h4
attribute [go_sem ↓] T_copy T_copy0 T_clear T_clear0 T_delete T_delete0
end

/-- Cells written over a row of a block of ours. -/
theorem arun_over {P : Program} {H H' : AH} {b o : Nat} {vs : List Value} {K : Unit → AH → Prop} (hw : H.wrs b o vs = some H') (hk : K () H') : arun P (storeCells ⟨b, o, none⟩ vs) H fun u A => ∃ B : AH, (∀ E w, Sat E A w → Sat E B w) ∧ K u B := by
  unfold AH.wrs at hw
  split at hw
  · rename_i cs e sz hf
    split at hw
    · rename_i hc
      cases hw
      refine arun_storeCells P b _ vs o 0 H cs e sz hf hc.1 hc.2.1 hc.2.2 ?_
      by_cases hv : vs = []
      · subst hv
        simp only [if_true]
        refine ⟨_, fun _ w hs => hs.of_find (H' := H.set b (.cells (lput cs o []) e sz)) rfl fun b' => ?_, hk⟩
        rw [find_set]
        split
        · rename_i h; subst h; rw [hf]; rfl
        · rfl
      · simp only [if_neg hv]
        exact ⟨_, fun _ _ h => h, hk⟩
    · cases hw
  · cases hw
theorem CPY.into {P : Program} {H H' : AH} {ts : Array TypeId} {ty t e sz bt b o dl dc m : Nat} {zs new : List Value} {x : Value} {k : Value → AH → Prop} (h0 : ts[0]? = some t) (hE : slE P t = some (e, sz, zs, bt)) (hx : slen x = some m)
    (hnew : ∀ {α : Type} (f : Array Value → Sem α) (K : α → AH → Prop), arun P (f new.toArray) H K → arun P (Builtin.firstCells sz (Nat.min m dl) x >>= f) H K) (hw : H.wrs b o new = some H') (hk : k (.int .i64 (Nat.min m dl : Nat)) H') : CPY P ts ty [.slice (some ⟨b, o, none⟩) dl dc, x] H k := by
  obtain ⟨hu, i, z, hi, hz, h1, h2, h3⟩ := slE_some hE
  suffices hm : arun P (Builtin.copy_ ts ty #[.slice (some ⟨b, o, none⟩) dl dc, x]) H (fun v A => ∃ B : AH, (∀ E w, Sat E A w → Sat E B w) ∧ k v B) by
    intro E w hs
    obtain ⟨v, w', A, r1, r2, B, r3, r5⟩ := arun_sound P _ _ _ w hm hs
    refine ⟨.value v, w', B, ?_, r3 _ _ r2, r5⟩
    show (Builtin.copy_ ts ty #[.slice (some ⟨b, o, none⟩) dl dc, x] >>= fun v => pure (Next.value v)).run P w = _
    simp only [Sem.run_bind, r1, Result.andThen_ok, Sem.run_pure]
  unfold Builtin.copy_
  simp only [h0]
  refine arun_qbind ((qrun_underlying t).trans hu) ?_
  refine arun_qbind (qrun_lenOf hx) ?_
  refine arun_qbind (a := sz) (by rw [qrun_sizeOf, hi, Option.map_some, h1]) ?_
  refine hnew _ _ ?_
  simp only
  rw [arun_bind]
  exact arun_over (K := fun _ A => k (.int .i64 (Nat.min m dl : Nat)) A) hw hk
theorem firstCells_row {P : Program} {H : AH} {sz n b o m c : Nat} {new : List Value} (h : H.row b o (n * sz) = some new) {α : Type} (f : Array Value → Sem α) (K : α → AH → Prop) (hk : arun P (f new.toArray) H K) :
    arun P (Builtin.firstCells sz n (.slice (some ⟨b, o, none⟩) m c) >>= f) H K := by
  refine arun_qbind ?_ hk
  have := qrun_firstCells (P := P) (H := H) (sz := sz) (n := n) (x := .slice (some ⟨b, o, none⟩) n c) (l := new) h rfl
  exact this.1
theorem CLR.row {P : Program} {H H' : AH} {ts : Array TypeId} {ty t e sz bt b o n c : Nat} {zs : List Value} {k : Value → AH → Prop} (h0 : ts[0]? = some t) (hE : slE P t = some (e, sz, zs, bt)) (hn : n ≠ 0)
    (hw : H.wrs b o (zf zs (n * sz)) = some H') (hzl : zs.length = sz) (hk : k (.tuple #[]) H') : CLR P ts ty [.slice (some ⟨b, o, none⟩) n c] H k := by
  obtain ⟨hu, i, z, hi, hz, h1, h2, h3⟩ := slE_some hE
  suffices hm : arun P (Builtin.clear_ ts ty #[.slice (some ⟨b, o, none⟩) n c]) H (fun v A => ∃ B : AH, (∀ E w, Sat E A w → Sat E B w) ∧ k v B) by
    intro E w hs
    obtain ⟨v, w', A, r1, r2, B, r3, r5⟩ := arun_sound P _ _ _ w hm hs
    refine ⟨.value v, w', B, ?_, r3 _ _ r2, r5⟩
    show (Builtin.clear_ ts ty #[.slice (some ⟨b, o, none⟩) n c] >>= fun v => pure (Next.value v)).run P w = _
    simp only [Sem.run_bind, r1, Result.andThen_ok, Sem.run_pure]
  unfold Builtin.clear_
  simp only [h0]
  refine arun_qbind ((qrun_underlying t).trans hu) ?_
  obtain ⟨n, rfl⟩ : ∃ n', n = n' + 1 := ⟨n - 1, by omega⟩
  have ez : (Builtin.zeroCells z.cells (n + 1)).toList = zf zs ((n + 1) * sz) := by
    rw [← h2] at hzl
    have hs : z.cells.size = sz := by simpa using hzl
    subst hs
    simp only [Builtin.zeroCells, zf, ← h2, Array.toList_map, Array.toList_range, Array.length_toList]
    refine List.map_congr_left fun i hi => ?_
    have hpos : 0 < z.cells.size := by
      rcases Nat.eq_zero_or_pos z.cells.size with h | h
      · rw [h] at hi; simp at hi
      · exact h
    have hlt := Nat.mod_lt i hpos
    rw [getElem!_pos z.cells _ hlt, getElem!_pos z.cells.toList _ (by simpa using hlt)]
    simp
  show arun P (zeroValue e >>= fun z => storeCells ⟨b, o, none⟩ (Builtin.zeroCells z.cells (n + 1)).toList >>= fun _ => pure (Value.tuple #[])) H _
  refine arun_qbind (qrun_zeroValue hi hz) ?_
  rw [arun_bind, ez]
  exact arun_over (K := fun _ A => k (.tuple #[]) A) hw hk
theorem CLR.none {P : Program} {H : AH} {ts : Array TypeId} {ty t e sz bt c : Nat} {a : Option Addr} {zs : List Value} {k : Value → AH → Prop} (h0 : ts[0]? = some t) (hE : slE P t = some (e, sz, zs, bt)) (hk : k (.tuple #[]) H) : CLR P ts ty [.slice a 0 c] H k := by
  obtain ⟨hu, i, z, hi, hz, h1, h2, h3⟩ := slE_some hE
  suffices hm : arun P (Builtin.clear_ ts ty #[.slice a 0 c]) H k by
    intro E w hs
    obtain ⟨v, w', A, r1, r2, r5⟩ := arun_sound P _ _ _ w hm hs
    refine ⟨.value v, w', A, ?_, r2, r5⟩
    show (Builtin.clear_ ts ty #[.slice a 0 c] >>= fun v => pure (Next.value v)).run P w = _
    simp only [Sem.run_bind, r1, Result.andThen_ok, Sem.run_pure]
  unfold Builtin.clear_
  simp only [h0]
  refine arun_qbind ((qrun_underlying t).trans hu) ?_
  cases a <;> exact hk

/-! ### An append of zeros to nothing -/
theorem APD.make {P : Program} {H : AH} {t t2 e sz bt m : Nat} {kd : IntKind} {zs : List Value} {k : Value → AH → Prop} (hE : slE P t = some (e, sz, zs, bt)) (hzl : zs.length = sz) (hsz : sz ≠ 0) (hni : P.underlying t2 = some (.int kd))
    (hm : m ≠ 0) (hroom : (2 * m + 192) * bt ≤ 281474976710656) (hbt : bt ≠ 0)
    (hk : ∀ b c, Fresh H b → m ≤ c → k (.slice (some ⟨b, 0, none⟩) m c) (H.add b (.cells [] e (c * sz)))) : APD P (some t) (some t2) [.slice none 0 0, .int .i64 m] H k := fun ts ty h0 h1 => by
  obtain ⟨hu, i, z, hi, hz, h1', h2, h3⟩ := slE_some hE
  have hbytes : qrun P (typeInfo e) H = some i := by simp only [typeInfo, program, qrun_bind, qrun, Option.bind_some, hi, qrun_pure]
  have hm2 : 2 * m + 192 ≤ 281474976710656 := Nat.le_trans (Nat.le_mul_of_pos_right _ (by omega)) hroom
  have hmb : m * bt ≤ 281474976710656 := Nat.le_trans (Nat.mul_le_mul_right bt (show m ≤ 2 * m + 192 by omega)) hroom
  have hmw : IntKind.i64.wrap (m : Int) = m := i64_eq (by omega) (by omega)
  suffices hm : arun P (Builtin.append_ ts ty #[.slice none 0 0, .int .i64 m]) H (fun v H' => ∃ H1 : AH, (∀ E w, Sat E H' w → Sat E H1 w) ∧ k v H1) by
    intro E w hs
    obtain ⟨v, w', H', r1, r2, H1, r3, r5⟩ := arun_sound P _ _ _ w hm hs
    refine ⟨.value v, w', H1, ?_, r3 _ _ r2, r5⟩
    show (Builtin.append_ ts ty #[.slice none 0 0, .int .i64 m] >>= fun v => pure (Next.value v)).run P w = _
    simp only [Sem.run_bind, r1, Result.andThen_ok, Sem.run_pure]
  unfold Builtin.append_
  simp only [h0, h1]
  refine arun_qbind ((qrun_underlying t).trans hu) ?_
  refine arun_qbind (a := sz) (by rw [qrun_sizeOf, hi, Option.map_some, h1']) ?_
  refine arun_qbind ((qrun_underlying t2).trans hni) ?_
  refine arun_qbind (a := true) rfl ?_
  simp only [if_true, Bool.not_true, Bool.false_eq_true, if_false]
  refine arun_qbind (a := (m : Int)) rfl ?_
  rw [hmw, if_neg (by omega)]
  refine arun_qbind hbytes ?_
  rw [if_neg (by
    have h48 : (2 : Int) ^ 48 = 281474976710656 := by decide
    rw [h48, h3, ← Int.natCast_mul]
    generalize m * bt = x at hmb
    omega)]
  refine arun_qbind (a := m) (by rw [Int.toNat_natCast]; rfl) ?_
  rw [Nat.zero_add, if_neg (by omega)]
  refine arun_qbind hbytes ?_
  rw [if_neg (by
    rintro ⟨h4, _⟩
    have : IntKind.i64.max = 9223372036854775807 := rfl
    omega)]
  refine arun_qbind hbytes ?_
  have hnx := nextcap_le (need := m) (old := 0) (by omega)
  rw [if_neg (by
    rw [h3]
    have := Nat.mul_le_mul_right bt hnx
    omega)]
  rw [arun_bind]
  simp only [choose, arun, Question.forced, Bool.false_eq_true, if_false]
  intro tt
  have hcut : m ≤ (Question.appendCap m 0 e).cut tt := by simp [Question.cut]
  generalize (Question.appendCap m 0 e).cut tt = c at hcut
  refine arun_qbind hbytes ?_
  have hroom2 : ∀ (x : Nat) (s2 : Sem Value) (K : Value → AH → Prop), arun P s2 H K → arun P (askRoom x >>= fun _ => s2) H K := fun x s2 K h => by
    unfold askRoom
    split
    · exact h
    · exact h
  refine hroom2 _ _ _ ?_
  refine arun_qbind (a := #[]) rfl ?_
  rw [if_neg (by rw [Nat.mul_eq_zero]; omega)]
  have hzs : z.cells.size = sz := by rw [← hzl, ← h2]; simp
  rw [arun_bind, arun_bind]
  refine arun_of_qrun _ _ _ (qrun_zeroValue hi hz) ?_
  show arun P (zeroValue e >>= _) H _
  refine arun_qbind (qrun_zeroValue hi hz) ?_
  rw [arun_bind]
  refine arun_newRow fun b hb => ?_
  have hk := hk b c hb hcut
  refine ⟨_, fun _ w hs => Sat.pre (rest := (#[] ++ Builtin.zeroCells z.cells m ++ Builtin.zeroCells z.cells (c - m)).toList) ?_, hk⟩
  have hsize : (#[] ++ Builtin.zeroCells z.cells m ++ Builtin.zeroCells z.cells (c - m)).size = c * sz := by
    simp only [Builtin.zeroCells, Array.size_append, Array.size_map, Array.size_range, hzs, List.size_toArray, List.length_nil, Nat.zero_add]
    rw [← Nat.add_mul, show m + (c - m) = c from by omega]
  rw [← hsize]
  simpa using hs

/-- An append of a slice that is given by its rows. -/
theorem APD.growS {H0 H : AH} {e sz cap n m c : Nat} {base a : Option Addr} {R : List (List Value)} {P : Program} {t t2 bt : Nat} {zs : List Value} {k : Value → AH → Prop} {R' : List (List Value)} (hO : OwnS H0 H e sz base cap R) (hl : H0.le H) (hE : slE P t = some (e, sz, zs, bt)) (hz : zs.length = sz) (hsz : sz ≠ 0) (hbt : bt ≠ 0) (hni : nInt (P.underlying t2) = true)
    (hn : n = R.length) (hm : m = R'.length) (hs : SlcIn H sz a c R') (hR' : ∀ r ∈ R', r.length = sz) (hsc : R'.flatten.all scal = true) (hroom : (2 * (n + m) + 192) * bt ≤ 281474976710656)
    (hk : ∀ base' cap' H', OwnS H0 H' e sz base' cap' (R ++ R') → Keep H H' (exB base) → (∀ a, base' = some a → (∃ a', base = some a' ∧ a.block = a'.block) ∨ Fresh H a.block) → ∃ H2, H2.le H' ∧ k (.slice base' (n + m) cap') H2) :
    APD P (some t) (some t2) [.slice base n cap, .slice a m c] H k := by
  by_cases h : R' = [] ∧ a ≠ none
  · obtain ⟨rfl, _⟩ := h
    subst hm
    obtain ⟨H2, h2, h3⟩ := hk base cap H (by rw [List.append_nil]; exact hO) Keep.refl (fun a ha => .inl ⟨a, ha, rfl⟩)
    intro ts ty h0 h1
    exact ((APD.zero (k := fun v H' => ∃ H2 : AH, H2.le H' ∧ k v H2) hE hni (hn ▸ hO.le) ⟨H2, h2, h3⟩) ts ty h0 h1).post (fun v H' ⟨H2, h2, h3⟩ => ⟨H2, fun _ _ hs => hs.mono h2, h3⟩) (fun w nx w' h => value_only (α := Unit) h)
  · have h1 : R' ≠ [] ∨ a = none := by
      by_cases h2 : R' = []
      · exact .inr (Classical.byContradiction fun h3 => h ⟨h2, h3⟩)
      · exact .inl h2
    exact APD.growW hO hl hE hz hbt hni hn hm rfl (hs.srow hR' hsz hm h1) hR' hsc hroom hk

theorem SlcIn.empty {H : AH} {sz cap : Nat} {base : Option Addr} : SlcIn H sz base cap [] where
  le := by simp
  big := by simp
  at_ := fun i hi => by simp at hi
  rd := fun b o _ i j r c h => by simp at h
  row := fun b o _ i r h => by simp at h
theorem SlcIn.recap {H : AH} {sz cap cap' : Nat} {base : Option Addr} {R : List (List Value)} (h : SlcIn H sz base cap R) (hc : R.length ≤ cap') : SlcIn H sz base cap' R := ⟨hc, h.big, h.at_, h.rd, h.row⟩
theorem SlcIn.past {A B : AH} {sz cap : Nat} {base : Option Addr} {R : List (List Value)} {ex : Nat → Prop} (h : SlcIn A sz base cap R) (hn : R = [] ∨ ∀ a, base = some a → ¬ ex a.block) (hk : Keep A B ex) : SlcIn B sz base cap R := by
  rcases hn with rfl | hn
  · exact SlcIn.empty
  · exact h.keep hk hn
theorem SlcIn.apart {H : AH} {sz cap bm : Nat} {base : Option Addr} {R : List (List Value)} (h : SlcIn H sz base cap R) (hf : Fresh H bm) : R = [] ∨ ∀ a, base = some a → ¬ a.block = bm := by
  cases R with
  | nil => exact .inl rfl
  | cons r R =>
    refine .inr fun a ha => ?_
    obtain ⟨b, o, hb⟩ := h.at_ 0 (by simp)
    rw [hb] at ha; cases ha
    have := h.row b o hb 0 r rfl
    exact fun e => hf.ne_row this e.symm
theorem lt_of_get {α : Type} {l : List α} {i : Nat} {s : α} (h : l[i]? = some s) : i < l.length := by
  rcases Nat.lt_or_ge i l.length with h' | h'
  · exact h'
  · rw [List.getElem?_eq_none h'] at h; cases h
theorem map_get {α : Type} {f : α → List Value} {L : List α} {i : Nat} {s : α} (h : L[i]? = some s) : (L.map f)[i]? = some (f s) := by rw [List.getElem?_map, h]; rfl
theorem get_in {α : Type} {l : List α} {i : Nat} (h : i < l.length) : ∃ x, l[i]? = some x := ⟨l[i], List.getElem?_eq_getElem h⟩

theorem AH.le_del' {H A : AH} {b : Nat} (h : H.le A) (hf : Fresh H b) : H.le (A.del b) := ⟨h.1, fun b' k hk => by
  rw [find_del]
  split
  · rename_i e; subst e; rw [hf.2] at hk; cases hk
  · exact h.2 _ _ hk⟩
theorem le_top1 {H A : AH} {b : Nat} {k : ABlk} (h : H.le A) (hf : Fresh H b) : H.le ((A.del b).add b k) := AH.le_add (AH.le_del' h hf) (by rw [find_del, if_pos rfl])
theorem le_top2 {H A : AH} {b1 b2 : Nat} {k1 k2 : ABlk} (h : H.le A) (f1 : Fresh H b1) (f2 : Fresh H b2) (hne : b2 ≠ b1) : H.le ((((A.del b1).del b2).add b1 k1).add b2 k2) :=
  AH.le_add (AH.le_add (AH.le_del' (AH.le_del' h f1) f2) (by rw [find_del]; split; rfl; rw [find_del, if_pos rfl])) (by rw [find_add, if_neg hne, find_del, if_pos rfl])
theorem Keep.top2 {A : AH} {b1 b2 : Nat} {k1 k2 : ABlk} (h1 : A.find b1 = some k1) (h2 : A.find b2 = some k2) (hne : b2 ≠ b1) : Keep A ((((A.del b1).del b2).add b1 k1).add b2 k2) fun _ => False := ⟨rfl, fun b _ _ => by
  rw [find_add, find_add, find_del, find_del]
  by_cases e2 : b = b2
  · subst e2; rw [if_pos rfl, h2]
  · rw [if_neg e2]
    by_cases e1 : b = b1
    · subst e1; rw [if_pos rfl, h1]
    · rw [if_neg e1, if_neg e2, if_neg e1]⟩
theorem Keep.top1 {A : AH} {b1 : Nat} {k1 : ABlk} (h1 : A.find b1 = some k1) : Keep A ((A.del b1).add b1 k1) fun _ => False := ⟨rfl, fun b _ _ => by
  rw [find_add, find_del]
  by_cases e1 : b = b1
  · subst e1; rw [if_pos rfl, h1]
  · rw [if_neg e1, if_neg e1]⟩
theorem firstCells_none {P : Program} {H : AH} {sz m c : Nat} {a : Option Addr} {α : Type} (f : Array Value → Sem α) (K : α → AH → Prop) (hk : arun P (f #[]) H K) : arun P (Builtin.firstCells sz 0 (.slice a m c) >>= f) H K := by
  refine arun_qbind ?_ hk
  cases a with
  | none => rfl
  | some a => simp only [Builtin.firstCells, Nat.zero_mul]; rfl

/-! ### Bytes -/
def encB (x : Int) : List Value := [.int .u8 x]
theorem encB_flat : ∀ L : List Int, (L.map encB).flatten = L.map (Value.int .u8)
  | [] => rfl
  | x :: L => by rw [List.map_cons, List.flatten_cons, encB_flat L]; rfl
theorem rowsB (L : List Int) : ∀ r ∈ L.map encB, r.length = 1 := fun r hr => by
  obtain ⟨w, _, rfl⟩ := List.mem_map.1 hr
  rfl
theorem scalB (L : List Int) : ((L.map encB).flatten).all scal = true := by
  rw [encB_flat, List.all_map, List.all_eq_true]
  intro _ _; rfl
def bstr (L : List Int) : ByteArray := ⟨(L.map fun x => UInt8.ofNat x.toNat).toArray⟩
theorem qrun_pushes {P : Program} {H : AH} : ∀ (L : List Int) (s : ByteArray), qrun P (forIn (m := Sem) (L.map (Value.int .u8)) s fun c s => do
      let .int .u8 n := c | stuck "bytesToString: byte expected"
      pure (ForInStep.yield (s.push (UInt8.ofNat n.toNat)))) H = some ⟨s.data ++ (L.map fun x => UInt8.ofNat x.toNat).toArray⟩
  | [], s => by simp [qrun_pure]
  | x :: L, s => by
    simp only [List.map_cons, List.forIn_cons, qrun_bind, qrun_pure, Option.bind_some, pure_bind]
    have := qrun_pushes (P := P) (H := H) L (s.push (UInt8.ofNat x.toNat))
    refine Eq.trans this ?_
    simp [ByteArray.push]
theorem qrun_bytesToString {P : Program} {H : AH} {L : List Int} {base : Option Addr} {n c : Nat} (hs : SlcIn H 1 base c (L.map encB)) (hn : n = L.length) : qrun P (Conv.bytesToString (.slice base n c)) H = some (.string (bstr L)) := by
  subst hn
  cases base with
  | none =>
    have : L = [] := by
      cases L with
      | nil => rfl
      | cons x L => obtain ⟨b, o, h⟩ := hs.at_ 0 (by simp); cases h
    subst this
    rfl
  | some a =>
    have hl : qrun P (loadCells a L.length) H = some (L.map (Value.int .u8)).toArray := by
      cases L with
      | nil => rfl
      | cons x L =>
        obtain ⟨b, o, h⟩ := hs.at_ 0 (by simp)
        cases h
        rw [qrun_loadCells P H b o _ (by simp)]
        have h2 := hs.srow (n := (x :: L).length) (rowsB _) (by decide) (by simp) (.inl (by simp))
        simp only [srow, Nat.mul_one] at h2
        rw [h2, encB_flat]; rfl
    simp only [Conv.bytesToString, qrun_bind, hl, Option.bind_some]
    rw [← Array.forIn_toList]
    have := qrun_pushes (P := P) (H := H) L ByteArray.empty
    rw [show (List.map (Value.int .u8) L).toArray.toList = L.map (Value.int .u8) from rfl]
    refine Eq.trans (congrArg (fun o => Option.bind o _) this) ?_
    have e0 : ∀ X : Array UInt8, ByteArray.empty.data ++ X = X := fun X => by rw [show ByteArray.empty.data = #[] from rfl, Array.empty_append]
    show some (Value.string ⟨ByteArray.empty.data ++ _⟩) = _
    rw [e0]; rfl
theorem cnv_bytes {P : Program} {H : AH} {L : List Int} {base : Option Addr} {n c s t e : Nat} (hu : P.underlying s = some (.slice e)) (he : P.underlying e = some (.int .u8)) (ht : P.underlying t = some .string) (hs : SlcIn H 1 base c (L.map encB)) (hn : n = L.length) {k : Value → Prop} :
    cnv (some (.slice e)) (some .string) P H s t (.slice base n c) k = nv (.string (bstr L)) k := by
  unfold cnv
  have : qrun P (convert s t (.slice base n c)) H = some (.string (bstr L)) := by
    have h1 := qrun_bytesToString (P := P) hs hn
    simp only [convert, qrun_bind, qrun_underlying, hu, ht, he, Option.bind_some]
    cases base <;> (try simp only [qrun_bind, qrun_underlying, he, Option.bind_some]) <;> exact h1
  rw [this, hu, ht]
  simp [wo_some]
theorem bstr_inj {A B : List Int} (hA : ∀ x ∈ A, 0 ≤ x ∧ x < 256) (hB : ∀ x ∈ B, 0 ≤ x ∧ x < 256) (h : bstr A = bstr B) : A = B := by
  have h1 : (A.map fun x => UInt8.ofNat x.toNat) = B.map fun x => UInt8.ofNat x.toNat := by
    have := congrArg (fun s : ByteArray => s.data.toList) h
    simpa [bstr] using this
  clear h
  induction A generalizing B with
  | nil => cases B with
    | nil => rfl
    | cons y B => simp at h1
  | cons x A ih => cases B with
    | nil => simp at h1
    | cons y B =>
      simp only [List.map_cons, List.cons.injEq] at h1
      have hx := hA x (by simp)
      have hy := hB y (by simp)
      have h2 := congrArg UInt8.toNat h1.1
      simp only [UInt8.toNat_ofNat'] at h2
      have h3 : x = y := by omega
      rw [h3, ih (fun z hz => hA z (by simp [hz])) (fun z hz => hB z (by simp [hz])) h1.2]
def Bts (L : List Int) : Prop := ∀ x ∈ L, 0 ≤ x ∧ x < 256
theorem bstr_toList (L : List Int) : (bstr L).toList = L.map fun x => UInt8.ofNat x.toNat := ByteArray.toList_mk _
theorem beq_bstr {X Y : List Int} (hX : Bts X) (hY : Bts Y) : ((bstr X).toList == (bstr Y).toList) = decide (X = Y) := by
  by_cases h : X = Y
  · subst h; simp
  · rw [decide_eq_false h, beq_eq_false_iff_ne]
    intro h2
    refine h (bstr_inj hX hY ?_)
    rw [bstr_toList, bstr_toList] at h2
    unfold bstr
    rw [h2]
theorem or_shift {x y : Int} {n : Nat} (hx : 0 ≤ x) (hy : 0 ≤ y) (hn : y < 2 ^ n) (hb : x * 2 ^ n < 9223372036854775808) (h64 : n < 63) : ibits .or .i64 (x * 2 ^ n) y = x * 2 ^ n + y := by
  obtain ⟨a, rfl⟩ : ∃ a : Nat, x = a := ⟨x.toNat, by omega⟩
  obtain ⟨b, rfl⟩ : ∃ b : Nat, y = b := ⟨y.toNat, by omega⟩
  have hp : (2 : Int) ^ n = ((2 ^ n : Nat) : Int) := by rw [Int.natCast_pow]; rfl
  have hn' : b < 2 ^ n := by rw [hp] at hn; omega
  have e1 : ((a : Int) * 2 ^ n) = ((a * 2 ^ n : Nat) : Int) := by rw [Int.natCast_mul, hp]
  rw [e1] at hb ⊢
  have hb' : a * 2 ^ n < 9223372036854775808 := by omega
  generalize hX : a * 2 ^ n = X at hb'
  have hlt : b < 18446744073709551616 := Nat.lt_trans hn' (Nat.pow_lt_pow_right (by omega) (show n < 64 by omega))
  have hor : X ||| b = X + b := by
    rw [← hX, ← Nat.shiftLeft_eq, Nat.shiftLeft_add_eq_or_of_lt hn']
  have hsum : X + b < 9223372036854775808 := by
    rw [← hX]
    have h1 : a * 2 ^ n + 2 ^ n ≤ 9223372036854775808 := by
      have h2 : (a + 1) * 2 ^ n ≤ 2 ^ (63 - n) * 2 ^ n := by
        refine Nat.mul_le_mul_right _ ?_
        have h3 : a * 2 ^ n < 2 ^ (63 - n) * 2 ^ n := by rw [← Nat.pow_add, show 63 - n + n = 63 from by omega, hX]; exact hb'
        exact Nat.lt_of_mul_lt_mul_right h3
      rw [← Nat.pow_add, show 63 - n + n = 63 from by omega] at h2
      rw [Nat.add_mul, Nat.one_mul] at h2
      exact h2
    omega
  have hbits : IntKind.i64.bits = 64 := rfl
  show IntKind.i64.wrap ((BitVec.ofInt IntKind.i64.bits (X : Int) ||| BitVec.ofInt IntKind.i64.bits (b : Int)).toNat : Int) = _
  have e2 : (BitVec.ofInt IntKind.i64.bits (X : Int) ||| BitVec.ofInt IntKind.i64.bits (b : Int)).toNat = X + b := by
    rw [BitVec.toNat_or, BitVec.ofInt_natCast, BitVec.ofInt_natCast, BitVec.toNat_ofNat, BitVec.toNat_ofNat, hbits, Nat.mod_eq_of_lt (by omega), Nat.mod_eq_of_lt (by omega), hor]
  rw [e2, i64_eq (by omega) (by omega), Int.natCast_add]
theorem rdop_arrayAt {P : Program} {H : AH} {t len e b o n c : Nat} {K : Value → Prop} (hu : P.underlying t = some (.array len e)) (h : len ≤ n) : rdop P H (Instr.arrayAt t (.slice (some ⟨b, o, none⟩) n c)) K = nv (.pointer (some ⟨b, o, none⟩)) K := by
  unfold rdop Instr.arrayAt
  simp only [qrun_bind, qrun_underlying, hu, Option.bind_some]
  rw [if_neg (by omega)]
  simp [qrun_pure, wo_some]
theorem bstr_eq {A B : List Int} (hA : ∀ x ∈ A, 0 ≤ x ∧ x < 256) (hB : ∀ x ∈ B, 0 ≤ x ∧ x < 256) : bstr A = bstr B ↔ A = B := ⟨bstr_inj hA hB, fun h => h ▸ rfl⟩
end Go.AX

/- file: bit, may, Clone, Clip. -/
namespace Go.Proofs.YtamlipffhimfmaaDoor.File
set_option linter.unusedSimpArgs false
set_option linter.unusedVariables false
open Go Go.AX Go.Proofs Ty
set_option maxHeartbeats 4000000
set_option maxRecDepth 10000

def bitF (op : Int) : Int := if op = 0 then 1 else if op = 1 then 2 else if op = 2 then 4 else 0
theorem bit_c (op : Int) (H : AH) : ACalls Tryd.prog 77 #[.int .i64 op] H (fun v H' => v = .int .i64 (bitF op) ∧ H = H') := by
  refine ACalls.enter2 Tryd.func77 rfl Tryd.ntmps77 Tryd.results77 (by simp) ?_; simp (dsimp := false) (maxSteps := 4000000) only [go_sem, ↓reduceIte, Nat.reduceEqDiff, Nat.reduceLT, Nat.reduceLeDiff, Nat.reduceAdd, Nat.reduceMul, Nat.reduceSub, reduceCtorEq, Int.reduceToNat, Int.reduceLT, Int.reduceLE, Int.reduceEq, Int.reduceNe, Int.reduceBEq, Nat.reduceBEq, Int.reduceBNe, Nat.reduceBNe, Int.reduceAdd, Int.reduceSub, Int.reduceMul, Int.reduceNeg]
  by_cases a : op = 0
  · subst a
    simp (dsimp := false) (maxSteps := 4000000) only [go_sem, ↓reduceIte, Nat.reduceEqDiff, Nat.reduceLT, Nat.reduceLeDiff, Nat.reduceAdd, Nat.reduceMul, Nat.reduceSub, reduceCtorEq, Int.reduceToNat, Int.reduceLT, Int.reduceLE, Int.reduceEq, Int.reduceNe, Int.reduceBEq, Nat.reduceBEq, Int.reduceBNe, Nat.reduceBNe, Int.reduceAdd, Int.reduceSub, Int.reduceMul, Int.reduceNeg]
    exact ⟨H, (AH.le_refl _), (by first | exact ⟨rfl, rfl⟩ | rfl)⟩
  by_cases b : op = 1
  · subst b
    simp (dsimp := false) (maxSteps := 4000000) only [go_sem, ↓reduceIte, Nat.reduceEqDiff, Nat.reduceLT, Nat.reduceLeDiff, Nat.reduceAdd, Nat.reduceMul, Nat.reduceSub, reduceCtorEq, Int.reduceToNat, Int.reduceLT, Int.reduceLE, Int.reduceEq, Int.reduceNe, Int.reduceBEq, Nat.reduceBEq, Int.reduceBNe, Nat.reduceBNe, Int.reduceAdd, Int.reduceSub, Int.reduceMul, Int.reduceNeg]
    exact ⟨H, (AH.le_refl _), (by first | exact ⟨rfl, rfl⟩ | rfl)⟩
  by_cases c : op = 2
  · subst c
    simp (dsimp := false) (maxSteps := 4000000) only [go_sem, ↓reduceIte, Nat.reduceEqDiff, Nat.reduceLT, Nat.reduceLeDiff, Nat.reduceAdd, Nat.reduceMul, Nat.reduceSub, reduceCtorEq, Int.reduceToNat, Int.reduceLT, Int.reduceLE, Int.reduceEq, Int.reduceNe, Int.reduceBEq, Nat.reduceBEq, Int.reduceBNe, Nat.reduceBNe, Int.reduceAdd, Int.reduceSub, Int.reduceMul, Int.reduceNeg]
    exact ⟨H, (AH.le_refl _), (by first | exact ⟨rfl, rfl⟩ | rfl)⟩
  simp (dsimp := false) (maxSteps := 4000000) only [a, b, c, go_sem, ↓reduceIte, Nat.reduceEqDiff, Nat.reduceLT, Nat.reduceLeDiff, Nat.reduceAdd, Nat.reduceMul, Nat.reduceSub, reduceCtorEq, Int.reduceToNat, Int.reduceLT, Int.reduceLE, Int.reduceEq, Int.reduceNe, Int.reduceBEq, Nat.reduceBEq, Int.reduceBNe, Nat.reduceBNe, Int.reduceAdd, Int.reduceSub, Int.reduceMul, Int.reduceNeg]
  exact ⟨H, (AH.le_refl _), (by first | exact ⟨by simp [bitF, a, b, c], rfl⟩ | rfl)⟩

/-- What stands in the way: the error's number. -/
def mayF (p : Int) (R : List Rc) (op rec : Int) : Int :=
  if goodF p R = false then 2 else if op < 0 ∨ 2 < op then 1 else if rec < 0 ∨ (R.length : Int) ≤ rec then 4 else
  if rec = 0 then (if op = 0 then 0 else 5) else if p / bitF op % 2 = 0 then 5 else 0
theorem goodF_p {p : Int} {R : List Rc} (h : goodF p R = true) : 0 ≤ p ∧ p ≤ 7 ∧ R.length ≠ 0 ∧ R.length ≤ 256 := by
  cases R with
  | nil => simp [goodF] at h
  | cons r l =>
    simp only [goodF, Bool.and_eq_true, decide_eq_true_eq] at h
    simp only [List.length_cons]
    omega
theorem and_bit {p op : Int} (h0 : 0 ≤ p) (h1 : p ≤ 7) (a0 : 0 ≤ op) (a1 : op ≤ 2) : (ibits .and .i64 p (bitF op) = 0) = (p / bitF op % 2 = 0) := by
  have : ∀ p : Fin 8, ∀ o : Fin 3, (ibits .and .i64 ((p.1 : Nat) : Int) (bitF ((o.1 : Nat) : Int)) = 0) = (((p.1 : Nat) : Int) / bitF ((o.1 : Nat) : Int) % 2 = 0) := by
    intro p o
    rw [eq_iff_iff]
    revert p o
    decide
  have := this ⟨p.toNat, by omega⟩ ⟨op.toNat, by omega⟩
  simpa [Int.toNat_of_nonneg h0, Int.toNat_of_nonneg a0] using this
theorem bit_zero {op : Int} (h : op < 0 ∨ 2 < op) : bitF op = 0 := by
  unfold bitF
  rw [if_neg (by omega), if_neg (by omega), if_neg (by omega)]
theorem bit_nz {op : Int} (h : ¬ (op < 0 ∨ 2 < op)) : ¬ bitF op = 0 := by
  unfold bitF
  split
  · decide
  · split
    · decide
    · split
      · decide
      · omega
theorem may_c (p op rec : Int) (R : List Rc) (base : Option Addr) (cap : Nat) (H : AH) (hs : SlcIn H 4 base cap (R.map enc)) :
    ACalls Tryd.prog 75 #[fv p base R.length cap, .int .i64 op, .int .i64 rec] H (fun v H' => v = .int .i64 (mayF p R op rec) ∧ H = H') := by
  unfold fv
  have hg := fun H1 (h1 : SlcIn H1 4 base cap (R.map enc)) => Good_c p R base cap H1 h1
  unfold fv at hg
  by_cases c0 : rec = 0
  · subst c0
    refine ACalls.enter2 Tryd.func75 rfl Tryd.ntmps75 Tryd.results75 (by simp) ?_; simp (dsimp := false) (maxSteps := 4000000) only [go_sem, ↓reduceIte, Nat.reduceEqDiff, Nat.reduceLT, Nat.reduceLeDiff, Nat.reduceAdd, Nat.reduceMul, Nat.reduceSub, reduceCtorEq, Int.reduceToNat, Int.reduceLT, Int.reduceLE, Int.reduceEq, Int.reduceNe, Int.reduceBEq, Nat.reduceBEq, Int.reduceBNe, Nat.reduceBNe, Int.reduceAdd, Int.reduceSub, Int.reduceMul, Int.reduceNeg]
    refine AllB.mk fun b1 h_b1 => ?_; have hn_b1 := h_b1; (try simp only [fresh_add, fresh_set, ne_eq] at hn_b1); have hr_b1 := hn_b1; (try simp only [@eq_comm Nat b1] at hr_b1); simp (dsimp := false) (maxSteps := 4000000) only [hn_b1, hr_b1, go_sem, ↓reduceIte, Nat.reduceEqDiff, Nat.reduceLT, Nat.reduceLeDiff, Nat.reduceAdd, Nat.reduceMul, Nat.reduceSub, reduceCtorEq, Int.reduceToNat, Int.reduceLT, Int.reduceLE, Int.reduceEq, Int.reduceNe, Int.reduceBEq, Nat.reduceBEq, Int.reduceBNe, Nat.reduceBNe, Int.reduceAdd, Int.reduceSub, Int.reduceMul, Int.reduceNeg]
    refine (hg _ (hs.add h_b1)).mono ?_; rintro _ _ ⟨rfl, rfl⟩
    by_cases g : goodF p R = true
    · obtain ⟨h0, h1, h2, h3⟩ := goodF_p g
      have h4 : ¬ (R.length : Int) ≤ 0 := by omega
      simp (dsimp := false) (maxSteps := 4000000) only [g, hn_b1, hr_b1, go_sem, ↓reduceIte, Nat.reduceEqDiff, Nat.reduceLT, Nat.reduceLeDiff, Nat.reduceAdd, Nat.reduceMul, Nat.reduceSub, reduceCtorEq, Int.reduceToNat, Int.reduceLT, Int.reduceLE, Int.reduceEq, Int.reduceNe, Int.reduceBEq, Nat.reduceBEq, Int.reduceBNe, Nat.reduceBNe, Int.reduceAdd, Int.reduceSub, Int.reduceMul, Int.reduceNeg]
      refine (bit_c op _).mono ?_; rintro _ _ ⟨rfl, rfl⟩
      by_cases a : op < 0 ∨ 2 < op
      · simp (dsimp := false) (maxSteps := 4000000) only [bit_zero a, hn_b1, hr_b1, go_sem, ↓reduceIte, Nat.reduceEqDiff, Nat.reduceLT, Nat.reduceLeDiff, Nat.reduceAdd, Nat.reduceMul, Nat.reduceSub, reduceCtorEq, Int.reduceToNat, Int.reduceLT, Int.reduceLE, Int.reduceEq, Int.reduceNe, Int.reduceBEq, Nat.reduceBEq, Int.reduceBNe, Nat.reduceBNe, Int.reduceAdd, Int.reduceSub, Int.reduceMul, Int.reduceNeg]
        exact ⟨H, (AH.le_add (AH.le_refl _) ((by simp only [fresh_add, fresh_set, ne_eq, hn_b1, not_false_eq_true, and_self] : Fresh _ b1).2)), (by first | exact ⟨by simp [mayF, g, a], rfl⟩ | rfl)⟩
      · simp (dsimp := false) (maxSteps := 4000000) only [bit_nz a, h4, hn_b1, hr_b1, go_sem, ↓reduceIte, Nat.reduceEqDiff, Nat.reduceLT, Nat.reduceLeDiff, Nat.reduceAdd, Nat.reduceMul, Nat.reduceSub, reduceCtorEq, Int.reduceToNat, Int.reduceLT, Int.reduceLE, Int.reduceEq, Int.reduceNe, Int.reduceBEq, Nat.reduceBEq, Int.reduceBNe, Nat.reduceBNe, Int.reduceAdd, Int.reduceSub, Int.reduceMul, Int.reduceNeg]
        by_cases b : op = 0
        · subst b
          simp (dsimp := false) (maxSteps := 4000000) only [hn_b1, hr_b1, go_sem, ↓reduceIte, Nat.reduceEqDiff, Nat.reduceLT, Nat.reduceLeDiff, Nat.reduceAdd, Nat.reduceMul, Nat.reduceSub, reduceCtorEq, Int.reduceToNat, Int.reduceLT, Int.reduceLE, Int.reduceEq, Int.reduceNe, Int.reduceBEq, Nat.reduceBEq, Int.reduceBNe, Nat.reduceBNe, Int.reduceAdd, Int.reduceSub, Int.reduceMul, Int.reduceNeg]
          exact ⟨H, (AH.le_add (AH.le_refl _) ((by simp only [fresh_add, fresh_set, ne_eq, hn_b1, not_false_eq_true, and_self] : Fresh _ b1).2)), (by first | exact ⟨by simp [mayF, g, h2], rfl⟩ | rfl)⟩
        · simp (dsimp := false) (maxSteps := 4000000) only [b, hn_b1, hr_b1, go_sem, ↓reduceIte, Nat.reduceEqDiff, Nat.reduceLT, Nat.reduceLeDiff, Nat.reduceAdd, Nat.reduceMul, Nat.reduceSub, reduceCtorEq, Int.reduceToNat, Int.reduceLT, Int.reduceLE, Int.reduceEq, Int.reduceNe, Int.reduceBEq, Nat.reduceBEq, Int.reduceBNe, Nat.reduceBNe, Int.reduceAdd, Int.reduceSub, Int.reduceMul, Int.reduceNeg]
          exact ⟨H, (AH.le_add (AH.le_refl _) ((by simp only [fresh_add, fresh_set, ne_eq, hn_b1, not_false_eq_true, and_self] : Fresh _ b1).2)), (by first | exact ⟨by simp only [mayF, g, a, h4]; simp [b], rfl⟩ | rfl)⟩
    · have g' : goodF p R = false := by simpa using g
      simp (dsimp := false) (maxSteps := 4000000) only [g', hn_b1, hr_b1, go_sem, ↓reduceIte, Nat.reduceEqDiff, Nat.reduceLT, Nat.reduceLeDiff, Nat.reduceAdd, Nat.reduceMul, Nat.reduceSub, reduceCtorEq, Int.reduceToNat, Int.reduceLT, Int.reduceLE, Int.reduceEq, Int.reduceNe, Int.reduceBEq, Nat.reduceBEq, Int.reduceBNe, Nat.reduceBNe, Int.reduceAdd, Int.reduceSub, Int.reduceMul, Int.reduceNeg]
      exact ⟨H, (AH.le_add (AH.le_refl _) ((by simp only [fresh_add, fresh_set, ne_eq, hn_b1, not_false_eq_true, and_self] : Fresh _ b1).2)), (by first | exact ⟨by simp [mayF, g'], rfl⟩ | rfl)⟩
  · refine ACalls.enter2 Tryd.func75 rfl Tryd.ntmps75 Tryd.results75 (by simp) ?_; simp (dsimp := false) (maxSteps := 4000000) only [c0, go_sem, ↓reduceIte, Nat.reduceEqDiff, Nat.reduceLT, Nat.reduceLeDiff, Nat.reduceAdd, Nat.reduceMul, Nat.reduceSub, reduceCtorEq, Int.reduceToNat, Int.reduceLT, Int.reduceLE, Int.reduceEq, Int.reduceNe, Int.reduceBEq, Nat.reduceBEq, Int.reduceBNe, Nat.reduceBNe, Int.reduceAdd, Int.reduceSub, Int.reduceMul, Int.reduceNeg]
    refine AllB.mk fun b1 h_b1 => ?_; have hn_b1 := h_b1; (try simp only [fresh_add, fresh_set, ne_eq] at hn_b1); have hr_b1 := hn_b1; (try simp only [@eq_comm Nat b1] at hr_b1); simp (dsimp := false) (maxSteps := 4000000) only [c0, hn_b1, hr_b1, go_sem, ↓reduceIte, Nat.reduceEqDiff, Nat.reduceLT, Nat.reduceLeDiff, Nat.reduceAdd, Nat.reduceMul, Nat.reduceSub, reduceCtorEq, Int.reduceToNat, Int.reduceLT, Int.reduceLE, Int.reduceEq, Int.reduceNe, Int.reduceBEq, Nat.reduceBEq, Int.reduceBNe, Nat.reduceBNe, Int.reduceAdd, Int.reduceSub, Int.reduceMul, Int.reduceNeg]
    refine (hg _ (hs.add h_b1)).mono ?_; rintro _ _ ⟨rfl, rfl⟩
    by_cases g : goodF p R = true
    · obtain ⟨h0, h1, h2, h3⟩ := goodF_p g
      simp (dsimp := false) (maxSteps := 4000000) only [g, c0, hn_b1, hr_b1, go_sem, ↓reduceIte, Nat.reduceEqDiff, Nat.reduceLT, Nat.reduceLeDiff, Nat.reduceAdd, Nat.reduceMul, Nat.reduceSub, reduceCtorEq, Int.reduceToNat, Int.reduceLT, Int.reduceLE, Int.reduceEq, Int.reduceNe, Int.reduceBEq, Nat.reduceBEq, Int.reduceBNe, Nat.reduceBNe, Int.reduceAdd, Int.reduceSub, Int.reduceMul, Int.reduceNeg]
      refine (bit_c op _).mono ?_; rintro _ _ ⟨rfl, rfl⟩
      by_cases a : op < 0 ∨ 2 < op
      · simp (dsimp := false) (maxSteps := 4000000) only [bit_zero a, c0, hn_b1, hr_b1, go_sem, ↓reduceIte, Nat.reduceEqDiff, Nat.reduceLT, Nat.reduceLeDiff, Nat.reduceAdd, Nat.reduceMul, Nat.reduceSub, reduceCtorEq, Int.reduceToNat, Int.reduceLT, Int.reduceLE, Int.reduceEq, Int.reduceNe, Int.reduceBEq, Nat.reduceBEq, Int.reduceBNe, Nat.reduceBNe, Int.reduceAdd, Int.reduceSub, Int.reduceMul, Int.reduceNeg]
        exact ⟨H, (AH.le_add (AH.le_refl _) ((by simp only [c0, fresh_add, fresh_set, ne_eq, hn_b1, not_false_eq_true, and_self] : Fresh _ b1).2)), (by first | exact ⟨by simp [mayF, g, a], rfl⟩ | rfl)⟩
      · simp (dsimp := false) (maxSteps := 4000000) only [bit_nz a, c0, hn_b1, hr_b1, go_sem, ↓reduceIte, Nat.reduceEqDiff, Nat.reduceLT, Nat.reduceLeDiff, Nat.reduceAdd, Nat.reduceMul, Nat.reduceSub, reduceCtorEq, Int.reduceToNat, Int.reduceLT, Int.reduceLE, Int.reduceEq, Int.reduceNe, Int.reduceBEq, Nat.reduceBEq, Int.reduceBNe, Nat.reduceBNe, Int.reduceAdd, Int.reduceSub, Int.reduceMul, Int.reduceNeg]
        by_cases b1_ : rec < 0
        · simp (dsimp := false) (maxSteps := 4000000) only [b1_, c0, hn_b1, hr_b1, go_sem, ↓reduceIte, Nat.reduceEqDiff, Nat.reduceLT, Nat.reduceLeDiff, Nat.reduceAdd, Nat.reduceMul, Nat.reduceSub, reduceCtorEq, Int.reduceToNat, Int.reduceLT, Int.reduceLE, Int.reduceEq, Int.reduceNe, Int.reduceBEq, Nat.reduceBEq, Int.reduceBNe, Nat.reduceBNe, Int.reduceAdd, Int.reduceSub, Int.reduceMul, Int.reduceNeg]
          exact ⟨H, (AH.le_add (AH.le_refl _) ((by simp only [c0, fresh_add, fresh_set, ne_eq, hn_b1, not_false_eq_true, and_self] : Fresh _ b1).2)), (by first | exact ⟨by simp [mayF, g, a, b1_], rfl⟩ | rfl)⟩
        by_cases b2_ : (R.length : Int) ≤ rec
        · simp (dsimp := false) (maxSteps := 4000000) only [b1_, b2_, c0, hn_b1, hr_b1, go_sem, ↓reduceIte, Nat.reduceEqDiff, Nat.reduceLT, Nat.reduceLeDiff, Nat.reduceAdd, Nat.reduceMul, Nat.reduceSub, reduceCtorEq, Int.reduceToNat, Int.reduceLT, Int.reduceLE, Int.reduceEq, Int.reduceNe, Int.reduceBEq, Nat.reduceBEq, Int.reduceBNe, Nat.reduceBNe, Int.reduceAdd, Int.reduceSub, Int.reduceMul, Int.reduceNeg]
          exact ⟨H, (AH.le_add (AH.le_refl _) ((by simp only [c0, fresh_add, fresh_set, ne_eq, hn_b1, not_false_eq_true, and_self] : Fresh _ b1).2)), (by first | exact ⟨by simp [mayF, g, a, b2_], rfl⟩ | rfl)⟩
        simp (dsimp := false) (maxSteps := 4000000) only [b1_, b2_, c0, hn_b1, hr_b1, go_sem, ↓reduceIte, Nat.reduceEqDiff, Nat.reduceLT, Nat.reduceLeDiff, Nat.reduceAdd, Nat.reduceMul, Nat.reduceSub, reduceCtorEq, Int.reduceToNat, Int.reduceLT, Int.reduceLE, Int.reduceEq, Int.reduceNe, Int.reduceBEq, Nat.reduceBEq, Int.reduceBNe, Nat.reduceBNe, Int.reduceAdd, Int.reduceSub, Int.reduceMul, Int.reduceNeg]
        refine AWp.gen [.pu, .rd, .pu, .ch, .pu, .pu, .pu] [0, 1, 0, 4, 15, 31, 63] 4 (_) mixed (by kernel_rfl) (AH.le_refl _) ?_
        simp (dsimp := false) (maxSteps := 4000000) only [c0, hn_b1, hr_b1, go_sem, ↓reduceIte, Nat.reduceEqDiff, Nat.reduceLT, Nat.reduceLeDiff, Nat.reduceAdd, Nat.reduceMul, Nat.reduceSub, reduceCtorEq, Int.reduceToNat, Int.reduceLT, Int.reduceLE, Int.reduceEq, Int.reduceNe, Int.reduceBEq, Nat.reduceBEq, Int.reduceBNe, Nat.reduceBNe, Int.reduceAdd, Int.reduceSub, Int.reduceMul, Int.reduceNeg]
        refine (bit_c op _).mono ?_; rintro _ _ ⟨rfl, rfl⟩
        have hab := and_bit (op := op) h0 h1 (by omega) (by omega)
        by_cases d : p / bitF op % 2 = 0
        · have d' : ibits .and .i64 p (bitF op) = 0 := by rw [hab]; exact d
          simp (dsimp := false) (maxSteps := 4000000) only [d', c0, hn_b1, hr_b1, go_sem, ↓reduceIte, Nat.reduceEqDiff, Nat.reduceLT, Nat.reduceLeDiff, Nat.reduceAdd, Nat.reduceMul, Nat.reduceSub, reduceCtorEq, Int.reduceToNat, Int.reduceLT, Int.reduceLE, Int.reduceEq, Int.reduceNe, Int.reduceBEq, Nat.reduceBEq, Int.reduceBNe, Nat.reduceBNe, Int.reduceAdd, Int.reduceSub, Int.reduceMul, Int.reduceNeg]
          exact ⟨H, (AH.le_add (AH.le_refl _) ((by simp only [c0, fresh_add, fresh_set, ne_eq, hn_b1, not_false_eq_true, and_self] : Fresh _ b1).2)), (by first | exact ⟨by simp [mayF, g, a, b1_, b2_, c0, d], rfl⟩ | rfl)⟩
        · have d' : ¬ ibits .and .i64 p (bitF op) = 0 := by rw [hab]; exact d
          simp (dsimp := false) (maxSteps := 4000000) only [d', c0, hn_b1, hr_b1, go_sem, ↓reduceIte, Nat.reduceEqDiff, Nat.reduceLT, Nat.reduceLeDiff, Nat.reduceAdd, Nat.reduceMul, Nat.reduceSub, reduceCtorEq, Int.reduceToNat, Int.reduceLT, Int.reduceLE, Int.reduceEq, Int.reduceNe, Int.reduceBEq, Nat.reduceBEq, Int.reduceBNe, Nat.reduceBNe, Int.reduceAdd, Int.reduceSub, Int.reduceMul, Int.reduceNeg]
          exact ⟨H, (AH.le_add (AH.le_refl _) ((by simp only [c0, fresh_add, fresh_set, ne_eq, hn_b1, not_false_eq_true, and_self] : Fresh _ b1).2)), (by first | exact ⟨by simp [mayF, g, a, b1_, b2_, c0, d], rfl⟩ | rfl)⟩
    · have g' : goodF p R = false := by simpa using g
      simp (dsimp := false) (maxSteps := 4000000) only [g', c0, hn_b1, hr_b1, go_sem, ↓reduceIte, Nat.reduceEqDiff, Nat.reduceLT, Nat.reduceLeDiff, Nat.reduceAdd, Nat.reduceMul, Nat.reduceSub, reduceCtorEq, Int.reduceToNat, Int.reduceLT, Int.reduceLE, Int.reduceEq, Int.reduceNe, Int.reduceBEq, Nat.reduceBEq, Int.reduceBNe, Nat.reduceBNe, Int.reduceAdd, Int.reduceSub, Int.reduceMul, Int.reduceNeg]
      exact ⟨H, (AH.le_add (AH.le_refl _) ((by simp only [c0, fresh_add, fresh_set, ne_eq, hn_b1, not_false_eq_true, and_self] : Fresh _ b1).2)), (by first | exact ⟨by simp [mayF, g'], rfl⟩ | rfl)⟩

theorem Clip_c (base : Option Addr) (n cap : Nat) (H : AH) (h : n ≤ cap) :
    ACalls Tryd.prog 29 #[.slice base n cap] H (fun v H' => v = .slice base n n ∧ H = H') := by
  refine ACalls.enter2 Tryd.func29 rfl Tryd.ntmps29 Tryd.results29 (by simp) ?_; simp (dsimp := false) (maxSteps := 4000000) only [go_sem, ↓reduceIte, Nat.reduceEqDiff, Nat.reduceLT, Nat.reduceLeDiff, Nat.reduceAdd, Nat.reduceMul, Nat.reduceSub, reduceCtorEq, Int.reduceToNat, Int.reduceLT, Int.reduceLE, Int.reduceEq, Int.reduceNe, Int.reduceBEq, Nat.reduceBEq, Int.reduceBNe, Nat.reduceBNe, Int.reduceAdd, Int.reduceSub, Int.reduceMul, Int.reduceNeg]
  have h' : (n : Int) ≤ cap := by omega
  simp (dsimp := false) (maxSteps := 4000000) only [h', Int.le_refl, go_sem, ↓reduceIte, Nat.reduceEqDiff, Nat.reduceLT, Nat.reduceLeDiff, Nat.reduceAdd, Nat.reduceMul, Nat.reduceSub, reduceCtorEq, Int.reduceToNat, Int.reduceLT, Int.reduceLE, Int.reduceEq, Int.reduceNe, Int.reduceBEq, Nat.reduceBEq, Int.reduceBNe, Nat.reduceBNe, Int.reduceAdd, Int.reduceSub, Int.reduceMul, Int.reduceNeg]
  exact ⟨H, (AH.le_refl _), (by first | exact ⟨rfl, rfl⟩ | rfl)⟩
theorem Clone_c (R : List Rc) (base : Option Addr) (cap : Nat) (H : AH) (hs : SlcIn H 4 base cap (R.map enc)) (hR : R.length ≤ 4096) :
    ACalls Tryd.prog 30 #[.slice base R.length cap] H (fun v H' => ∃ b' c', v = .slice b' R.length c' ∧ OwnS H H' 26 4 b' c' (R.map enc) ∧ Keep H H' fun _ => False) := by
  refine ACalls.enter2 Tryd.func30 rfl Tryd.ntmps30 Tryd.results30 (by simp) ?_; simp (dsimp := false) (maxSteps := 4000000) only [go_sem, ↓reduceIte, Nat.reduceEqDiff, Nat.reduceLT, Nat.reduceLeDiff, Nat.reduceAdd, Nat.reduceMul, Nat.reduceSub, reduceCtorEq, Int.reduceToNat, Int.reduceLT, Int.reduceLE, Int.reduceEq, Int.reduceNe, Int.reduceBEq, Nat.reduceBEq, Int.reduceBNe, Nat.reduceBNe, Int.reduceAdd, Int.reduceSub, Int.reduceMul, Int.reduceNeg]
  cases base with
  | none =>
    have hnil : R = [] := by
      cases R with
      | nil => rfl
      | cons r l =>
        obtain ⟨b, o, h, _⟩ := hs.get (r := enc r) (i := 0) rfl
        cases h
    subst hnil
    simp (dsimp := false) (maxSteps := 4000000) only [go_sem, ↓reduceIte, Nat.reduceEqDiff, Nat.reduceLT, Nat.reduceLeDiff, Nat.reduceAdd, Nat.reduceMul, Nat.reduceSub, reduceCtorEq, Int.reduceToNat, Int.reduceLT, Int.reduceLE, Int.reduceEq, Int.reduceNe, Int.reduceBEq, Nat.reduceBEq, Int.reduceBNe, Nat.reduceBNe, Int.reduceAdd, Int.reduceSub, Int.reduceMul, Int.reduceNeg]
    exact ⟨H, AH.le_refl _, none, 0, rfl, OwnS.nil, .refl⟩
  | some a =>
    simp (dsimp := false) (maxSteps := 4000000) only [go_sem, ↓reduceIte, Nat.reduceEqDiff, Nat.reduceLT, Nat.reduceLeDiff, Nat.reduceAdd, Nat.reduceMul, Nat.reduceSub, reduceCtorEq, Int.reduceToNat, Int.reduceLT, Int.reduceLE, Int.reduceEq, Int.reduceNe, Int.reduceBEq, Nat.reduceBEq, Int.reduceBNe, Nat.reduceBNe, Int.reduceAdd, Int.reduceSub, Int.reduceMul, Int.reduceNeg]
    refine AllB.mk fun bl h_bl => ?_
    simp (dsimp := false) (maxSteps := 4000000) only [go_sem, ↓reduceIte, Nat.reduceEqDiff, Nat.reduceLT, Nat.reduceLeDiff, Nat.reduceAdd, Nat.reduceMul, Nat.reduceSub, reduceCtorEq, Int.reduceToNat, Int.reduceLT, Int.reduceLE, Int.reduceEq, Int.reduceNe, Int.reduceBEq, Nat.reduceBEq, Int.reduceBNe, Nat.reduceBNe, Int.reduceAdd, Int.reduceSub, Int.reduceMul, Int.reduceNeg]
    refine APD.growS (H0 := H) (a := some a) (m := R.length) (c := cap) (R := []) (R' := R.map enc) (OwnS.new h_bl (AH.le_refl _) rfl rfl rfl (by simp) (by simp)) (AH.le_add (AH.le_refl _) h_bl.2) se_44 rfl (by decide) (by decide) (by rw [Tryd.underlying44]; rfl) rfl (by simp) (hs.add h_bl) (rows4 R) (scal4 R) (by omega) fun base' cap' A' hO' hK' hN' => ?_
    refine ⟨_, AH.le_refl _, ?_⟩
    simp (dsimp := false) (maxSteps := 4000000) only [go_sem, ↓reduceIte, Nat.reduceEqDiff, Nat.reduceLT, Nat.reduceLeDiff, Nat.reduceAdd, Nat.reduceMul, Nat.reduceSub, reduceCtorEq, Int.reduceToNat, Int.reduceLT, Int.reduceLE, Int.reduceEq, Int.reduceNe, Int.reduceBEq, Nat.reduceBEq, Int.reduceBNe, Nat.reduceBNe, Int.reduceAdd, Int.reduceSub, Int.reduceMul, Int.reduceNeg]
    exact ⟨A', AH.le_refl _, base', cap', rfl, hO', (Keep.refl.nw h_bl).ow hK' fun b ⟨a, ha, e⟩ => by cases ha; exact e ▸ h_bl⟩
end Go.Proofs.YtamlipffhimfmaaDoor.File

/- file.next: what it comes to: a loop over slices.Backward. -/
namespace Go.Proofs.YtamlipffhimfmaaDoor.Nxt
set_option linter.unusedSimpArgs false
set_option linter.unusedVariables false
open Go Go.Proofs Go.RowKit Go.Shelf
attribute [local go_sem] Oper.semAt_some

abbrev Al := { i : Nat // i < 4 } × Int
def encs (x : Al) : Array Value := #[.int .i64 (x.1.1 : Int), .int .u8 x.2]
/-- What a round keeps: the box of the slice, and bytes stay bytes. -/
def Kp (b Bs : Nat) (W W' : World) : Prop := W'.cell? ⟨Bs, 0, none⟩ = W.cell? ⟨Bs, 0, none⟩ ∧ ∀ j, j < 4 → (∃ x, W.cell? ⟨b, j, none⟩ = some (.int .u8 x)) → ∃ x, W'.cell? ⟨b, j, none⟩ = some (.int .u8 x)
def idxs (k : Nat) : List Nat := (List.range k).map (3 - ·)
theorem idxs_succ (k : Nat) : idxs (k + 1) = idxs k ++ [3 - k] := by simp [idxs, List.range_succ]

set_option maxRecDepth 100000 in
set_option maxHeartbeats 2000000 in
theorem back1_in (F : Fence) (n : Nat) (h7 : F.fn 79) (hro : F.round = none) (hn : 1 ≤ n) (l Bs b : Nat) (J Jx : List Al → World → Prop)
    (hY : ∀ pre x W, J pre W → pre.length < 4 → YieldAt F (n - 1) Tryd.prog l (encs x) W fun e W' =>
      (e = .returned (.bool true) ∧ J (pre ++ [x]) W' ∧ Kp b Bs W W') ∨ (e = .returned (.bool false) ∧ Jx (pre ++ [x]) W'))
    (W : World) (hBs : W.cell? ⟨Bs, 0, none⟩ = some (.slice (some ⟨b, 0, none⟩) 4 4)) (hc : ∀ j, j < 4 → ∃ x, W.cell? ⟨b, j, none⟩ = some (.int .u8 x)) (h0 : J [] W) :
    CallsIn F n Tryd.prog 79 #[.func (.yield l) #[] #[], .pointer (some ⟨Bs, 0, none⟩)] W fun e W' => (∃ v, e = .returned v) ∧
      ((∃ ys, ys.map (·.1.1) = idxs 4 ∧ J ys W') ∨ (∃ pre, (∃ k, k ≤ 4 ∧ pre.map (·.1.1) = idxs k) ∧ Jx pre W')) := by
  refine callsIn_of_wp Tryd.func79 rfl h7 ?_ hro
  simp only [Tryd.ntmps79, List.size_toArray, List.length_cons, List.length_nil, Nat.reduceAdd, Nat.reduceSub, Array.replicate_succ, Array.replicate_zero, List.push_toArray, List.append_toArray, List.nil_append, List.cons_append]
  gi_wp2
  gi_loopw [3] (fun i wr => ∃ (k : Nat) (pre : List Al), k ≤ 4 ∧ i = .int .i64 (3 - (k : Int)) ∧ pre.map (·.1.1) = idxs k ∧ J pre wr ∧ Kp b Bs W wr)
    (fun i _ => (intOf i + 1).toNat)
  case atStart => exact ⟨0, [], Nat.zero_le _, rfl, rfl, h0, rfl, fun j hj h => h⟩
  case round =>
    obtain ⟨k, pre, hk, rfl, hp, hJs, hK1, hK2⟩ := hrel
    have hBs' := hK1.trans hBs
    by_cases hlt : k < 4
    · obtain ⟨x, hx⟩ := hK2 (3 - k) (by omega) (hc (3 - k) (by omega))
      have hi : ((3 - k : Nat) : Int) = 3 - (k : Int) := by omega
      obtain ⟨fn, tmps, assign, body, hy, hR⟩ := hY pre (⟨3 - k, by omega⟩, x) wr hJs (by have := congrArg List.length hp; simp [idxs] at this; omega)
      dsimp only [encs] at hy
      rw [hi] at hy
      have hoff : (3 - (k : Int)).toNat = 3 - k := by omega
      have hge : 0 ≤ 3 - (k : Int) := by omega
      have hlt4 : 3 - (k : Int) < 4 := by omega
      gi_wp2
      refine hR.mono ?_
      rintro e W3 (⟨rfl, hJ3, hk3⟩ | ⟨rfl, hJx3⟩)
      · gi_wp2
        go_roundw
        case rel =>
          refine ⟨k + 1, pre ++ [(⟨3 - k, by omega⟩, x)], by omega, by simp; omega, by rw [idxs_succ, List.map_append, hp]; rfl, hJ3, hk3.1.trans hK1, fun j hj h => hk3.2 j hj (hK2 j hj h)⟩
        case measure => simp [intOf]; omega
      · gi_wp2
        refine bodyPost_ret (results_none rfl _ _ _) rfl ?_
        exact ⟨⟨_, rfl⟩, .inr ⟨_, ⟨k + 1, by omega, by rw [idxs_succ, List.map_append, hp]; rfl⟩, hJx3⟩⟩
    · obtain rfl : k = 4 := by omega
      gi_wp2
      go_end0
      exact ⟨⟨_, rfl⟩, .inl ⟨pre, hp, hJs⟩⟩

set_option maxRecDepth 100000 in
set_option maxHeartbeats 2000000 in
theorem Backward_in (F : Fence) (n : Nat) (h5 : F.fn 78) (hro : F.round = none) (a : Option Addr) (len cap : Nat) (w : World) :
    CallsIn F n Tryd.prog 78 #[.slice a len cap] w fun e w' => e = .returned (.func (.func 79) #[] #[.pointer (some ⟨w.heap.size, 0, none⟩)]) ∧ w' = w.alloc (.cells #[.slice a len cap] 81) := by
  refine callsIn_of_wp Tryd.func78 rfl h5 ?_ hro
  simp only [Tryd.ntmps78, List.size_toArray, List.length_cons, List.length_nil, Nat.reduceAdd, Nat.reduceSub, Array.replicate_succ, Array.replicate_zero, List.push_toArray, List.append_toArray, List.nil_append, List.cons_append]
  gi_wp2
  go_ret
  exact ⟨rfl, rfl⟩

theorem back_stops (F : Fence) (n : Nat) (h7 : F.fn 79) (hro : F.round = none) (hn : 1 ≤ n) (Bs b : Nat) (w : World) (hBs : Bs < w.heap.size) (hb : b < w.heap.size)
    (hc : w.cell? ⟨Bs, 0, none⟩ = some (.slice (some ⟨b, 0, none⟩) 4 4)) (hcs : ∀ j, j < 4 → ∃ x, w.cell? ⟨b, j, none⟩ = some (.int .u8 x)) :
    SeqStopsK F n Tryd.prog 79 #[.pointer (some ⟨Bs, 0, none⟩)] encs (Kp b Bs) (fun ys => ys.map (·.1.1) = idxs 4) (fun pre => ∃ k, k ≤ 4 ∧ pre.map (·.1.1) = idxs k) 4 w := fun l J Jx W hW _ _ hY h0 => by
  have hc' := (hW.cell (p := ⟨Bs, 0, none⟩) hBs).trans hc
  have hcs' : ∀ j, j < 4 → ∃ x, W.cell? ⟨b, j, none⟩ = some (.int .u8 x) := fun j hj => by
    obtain ⟨x, hx⟩ := hcs j hj
    exact ⟨x, (hW.cell (p := ⟨b, j, none⟩) hb).trans hx⟩
  refine (back1_in F n h7 hro hn l Bs b J Jx hY W hc' hcs' h0).mono ?_
  rintro e W' ⟨he, ⟨ys, h1, hj⟩ | ⟨pre, h1, hj⟩⟩
  · exact ⟨he, .inl ⟨_, h1, hj⟩⟩
  · exact ⟨he, .inr ⟨_, h1, hj⟩⟩

/-! ### The number, one more -/
abbrev Rc := Int × Int × Int × Int
def at_ (r : Rc) (i : Nat) : Int := match i with | 0 => r.1 | 1 => r.2.1 | 2 => r.2.2.1 | _ => r.2.2.2
def inc (r : Rc) (i : Nat) : Rc := match i with
  | 0 => (IntKind.u8.wrap (r.1 + 1), r.2)
  | 1 => (r.1, IntKind.u8.wrap (r.2.1 + 1), r.2.2)
  | 2 => (r.1, r.2.1, IntKind.u8.wrap (r.2.2.1 + 1), r.2.2.2)
  | _ => (r.1, r.2.1, r.2.2.1, IntKind.u8.wrap (r.2.2.2 + 1))
/-- All of these have come to 0. -/
def gone (r : Rc) : List Nat → Option Rc
  | [] => some r
  | i :: l => if at_ (inc r i) i = 0 then gone (inc r i) l else none
theorem gone_snoc (r : Rc) : ∀ (l : List Nat) (i : Nat), gone r (l ++ [i]) = (gone r l).bind fun s => if at_ (inc s i) i = 0 then some (inc s i) else none
  | [], i => by simp [gone]
  | j :: l, i => by
    simp only [List.cons_append, gone]
    split
    · exact gone_snoc _ l i
    · rfl
def nextR (r : Rc) : Rc :=
  if at_ (inc r 3) 3 ≠ 0 then inc r 3 else
  if at_ (inc (inc r 3) 2) 2 ≠ 0 then inc (inc r 3) 2 else
  if at_ (inc (inc (inc r 3) 2) 1) 1 ≠ 0 then inc (inc (inc r 3) 2) 1 else inc (inc (inc (inc r 3) 2) 1) 0
def bytes (r : Rc) : Array Value := #[.int .u8 r.1, .int .u8 r.2.1, .int .u8 r.2.2.1, .int .u8 r.2.2.2]

/-- The four bytes lie in block b. -/
def Lies (W : World) (b : Nat) (r : Rc) : Prop := ∀ j, j < 4 → W.cell? ⟨b, j, none⟩ = some (.int .u8 (at_ r j)) ∧ W.frozen? ⟨b, j, none⟩ = false

theorem stop_at {r : Rc} {k : Nat} {l : List Nat} {i : Nat} {s : Rc} (h : l ++ [i] = idxs k) (hk : k ≤ 4) (hg : gone r l = some s) (hn : at_ (inc s i) i ≠ 0) : inc s i = nextR r := by
  have hk' : k = 0 ∨ k = 1 ∨ k = 2 ∨ k = 3 ∨ k = 4 := by omega
  rcases hk' with rfl | rfl | rfl | rfl | rfl
  · have := congrArg List.length h; simp [idxs] at this
  all_goals
    have h1 := congrArg List.dropLast h
    have h2 := congrArg List.getLast? h
    simp [idxs, List.range_succ] at h1 h2
    subst h1; subst h2
    simp only [gone] at hg
    (repeat' split at hg) <;> first | (cases hg; done) | (cases hg; simp [nextR, *])
theorem all_gone {r s : Rc} (hg : gone r (idxs 4) = some s) : s = nextR r := by
  simp only [idxs, List.range_succ, List.range_zero, List.nil_append, List.cons_append, List.map_cons, List.map_nil, gone, Nat.reduceSub] at hg
  (repeat' split at hg) <;> first | (cases hg; done) | (cases hg; simp [nextR, *])

/-- The answer's block, as_ it was made. -/
def Zed (W : World) (b : Nat) : Prop := Lies W b (0, 0, 0, 0)
def II (w : World) (r : Rc) (pre : List Al) (W : World) : Prop := ∃ s, gone r (pre.map (·.1.1)) = some s ∧ Lies W w.heap.size s ∧ Zed W (w.heap.size + 1)
def IX (w : World) (r : Rc) (c : Code) (pre : List Al) (W : World) : Prop := c = .exit 0 ∧ ∃ l i s, pre.map (·.1.1) = l ++ [i] ∧ gone r l = some s ∧ at_ (inc s i) i ≠ 0 ∧ Lies W w.heap.size (inc s i) ∧ Zed W (w.heap.size + 1)
theorem at_inc_ne {r : Rc} {i j : Nat} (hi : i < 4) (hj : j < 4) (h : i ≠ j) : at_ (inc r i) j = at_ r j := by
  have hi' : i = 0 ∨ i = 1 ∨ i = 2 ∨ i = 3 := by omega
  have hj' : j = 0 ∨ j = 1 ∨ j = 2 ∨ j = 3 := by omega
  rcases hi' with rfl | rfl | rfl | rfl <;> rcases hj' with rfl | rfl | rfl | rfl <;> first | rfl | exact absurd rfl h
theorem at_inc_self {r : Rc} {i : Nat} (hi : i < 4) : at_ (inc r i) i = IntKind.u8.wrap (at_ r i + 1) := by
  have hi' : i = 0 ∨ i = 1 ∨ i = 2 ∨ i = 3 := by omega
  rcases hi' with rfl | rfl | rfl | rfl <;> rfl
theorem Lies.set {W : World} {b i : Nat} {r : Rc} (h : Lies W b r) (hi : i < 4) : Lies (W.setCell ⟨b, i, none⟩ (.int .u8 (IntKind.u8.wrap (at_ r i + 1)))) b (inc r i) := fun j hj => by
  rw [World.frozen?_setCell]
  refine ⟨?_, (h j hj).2⟩
  by_cases e : i = j
  · subst e
    rw [at_inc_self hi]
    exact World.cell?_setCell_same' _ _ _ (by rw [(h i hi).1]; rfl)
  · rw [at_inc_ne hi hj e]
    exact (World.cell?_setCell_other W ⟨b, i, none⟩ ⟨b, j, none⟩ _ (by simp only [ne_eq, Addr.mk.injEq]; omega)).trans (h j hj).1
theorem Lies.far {W : World} {b b' i : Nat} {r : Rc} {v : Value} (h : Lies W b r) (hb : b' ≠ b) : Lies (W.setCell ⟨b', i, none⟩ v) b r := fun j hj => by
  rw [World.frozen?_setCell]
  exact ⟨(World.cell?_setCell_other W ⟨b', i, none⟩ ⟨b, j, none⟩ _ (by simp only [ne_eq, Addr.mk.injEq]; omega)).trans (h j hj).1, (h j hj).2⟩
theorem lies_new (w : World) (r : Rc) (t : TypeId) : Lies (w.alloc (.cells (bytes r) t)) w.heap.size r := fun j hj => by
  have hj' : j = 0 ∨ j = 1 ∨ j = 2 ∨ j = 3 := by omega
  have hh := World.alloc_heap_new w (.cells (bytes r) t)
  rcases hj' with rfl | rfl | rfl | rfl <;> simp only [World.cell?, World.frozen?, hh] <;> simp [bytes, at_]
theorem one_new (w : World) (v : Value) (t : TypeId) : (w.alloc (.cells #[v] t)).cell? ⟨w.heap.size, 0, none⟩ = some v ∧ True := by
  have hh := World.alloc_heap_new w (.cells #[v] t)
  simp only [World.cell?, hh]; simp
theorem Lies.kept {A B : World} {b : Nat} {r : Rc} {row : Option Nat} (h : Lies A b r) (hg : A.grownBy B row) (hr : ∀ r, row = some r → ∃ o : Obj, A.heap[r]? = some o ∧ o.isCells = false) : Lies B b r := fun j hj => by
  obtain ⟨h1, h2⟩ := h j hj
  exact ⟨cell_kept h1 hg hr, (frozen_kept h1 hg hr).trans h2⟩
theorem Lies.alloc {W : World} {b : Nat} {r : Rc} (h : Lies W b r) (o : Obj) : Lies (W.alloc o) b r := h.kept (World.grownBy_alloc W o none) (fun r e => by cases e)
theorem Lies.hs {W : World} {b : Nat} {r : Rc} (h : Lies W b r) : (W.cell? ⟨b, 0, none⟩ = some (.int .u8 r.1) ∧ W.frozen? ⟨b, 0, none⟩ = false) ∧ (W.cell? ⟨b, 1, none⟩ = some (.int .u8 r.2.1) ∧ W.frozen? ⟨b, 1, none⟩ = false) ∧ (W.cell? ⟨b, 2, none⟩ = some (.int .u8 r.2.2.1) ∧ W.frozen? ⟨b, 2, none⟩ = false) ∧ (W.cell? ⟨b, 3, none⟩ = some (.int .u8 r.2.2.2) ∧ W.frozen? ⟨b, 3, none⟩ = false) :=
  ⟨h 0 (by omega), h 1 (by omega), h 2 (by omega), h 3 (by omega)⟩
theorem kp_b {b Bs : Nat} {w : World} (hBs : Bs < w.heap.size) (W : World) (l : Nat) (o o' : Obj) (hl : w.heap.size ≤ l) (h : W.heap[l]? = some o) (hc : o.isCells = false) (hw : o.isWalk = false) : Kp b Bs W (W.putObj l o') := by
  have hg := grownBy_putObj' W l o'
  have hr : ∀ r, some l = some r → ∃ o : Obj, W.heap[r]? = some o ∧ o.isCells = false := fun r e => by cases e; exact ⟨o, h, hc⟩
  exact ⟨(belowK_b (w := w) (Nat.le_refl _) W l o o' hl h hc hw).cell (p := ⟨Bs, 0, none⟩) hBs, fun j hj ⟨x, hx⟩ => ⟨x, cell_kept hx hg hr⟩⟩

def sets (W : World) (b : Nat) (r : Rc) : World := (((W.setCell ⟨b, 0, none⟩ (.int .u8 r.1)).setCell ⟨b, 1, none⟩ (.int .u8 r.2.1)).setCell ⟨b, 2, none⟩ (.int .u8 r.2.2.1)).setCell ⟨b, 3, none⟩ (.int .u8 r.2.2.2)
theorem oth (W : World) (b i j : Nat) (v : Value) (h : i ≠ j) : (W.setCell ⟨b, i, none⟩ v).cell? ⟨b, j, none⟩ = W.cell? ⟨b, j, none⟩ :=
  World.cell?_setCell_other W ⟨b, i, none⟩ ⟨b, j, none⟩ _ (by simp only [ne_eq, Addr.mk.injEq]; omega)
theorem sets_lies {W : World} {b : Nat} {s r : Rc} (h : Lies W b s) : Lies (sets W b r) b r := by
  obtain ⟨⟨c0, f0⟩, ⟨c1, f1⟩, ⟨c2, f2⟩, ⟨c3, f3⟩⟩ := h.hs
  have fr : ∀ j, (sets W b r).frozen? ⟨b, j, none⟩ = W.frozen? ⟨b, j, none⟩ := fun j => by
    unfold sets
    rw [World.frozen?_setCell, World.frozen?_setCell, World.frozen?_setCell, World.frozen?_setCell]
  have d0 : (sets W b r).cell? ⟨b, 0, none⟩ = some (.int .u8 r.1) := by
    unfold sets
    rw [oth _ b 3 0 _ (by omega), oth _ b 2 0 _ (by omega), oth _ b 1 0 _ (by omega)]
    exact World.cell?_setCell_same' _ _ _ (by rw [c0]; rfl)
  have d1 : (sets W b r).cell? ⟨b, 1, none⟩ = some (.int .u8 r.2.1) := by
    unfold sets
    rw [oth _ b 3 1 _ (by omega), oth _ b 2 1 _ (by omega)]
    exact World.cell?_setCell_same' _ _ _ (by rw [oth _ b 0 1 _ (by omega), c1]; rfl)
  have d2 : (sets W b r).cell? ⟨b, 2, none⟩ = some (.int .u8 r.2.2.1) := by
    unfold sets
    rw [oth _ b 3 2 _ (by omega)]
    exact World.cell?_setCell_same' _ _ _ (by rw [oth _ b 1 2 _ (by omega), oth _ b 0 2 _ (by omega), c2]; rfl)
  have d3 : (sets W b r).cell? ⟨b, 3, none⟩ = some (.int .u8 r.2.2.2) := by
    unfold sets
    exact World.cell?_setCell_same' _ _ _ (by rw [oth _ b 2 3 _ (by omega), oth _ b 1 3 _ (by omega), oth _ b 0 3 _ (by omega), c3]; rfl)
  intro j hj
  rw [fr]
  have hj' : j = 0 ∨ j = 1 ∨ j = 2 ∨ j = 3 := by omega
  rcases hj' with rfl | rfl | rfl | rfl
  · exact ⟨d0, f0⟩
  · exact ⟨d1, f1⟩
  · exact ⟨d2, f2⟩
  · exact ⟨d3, f3⟩
theorem sets_below {n : Nat} {w W : World} {b : Nat} (r : Rc) (h : Below n w W) (hb : n ≤ b) : Below n w (sets W b r) := (((h.setCell (p := ⟨b, 0, none⟩) hb _).setCell (p := ⟨b, 1, none⟩) hb _).setCell (p := ⟨b, 2, none⟩) hb _).setCell (p := ⟨b, 3, none⟩) hb _
theorem sets_keeps (W : World) (b : Nat) (r : Rc) {D : Nat} {o : Obj} (hK : W.heap[D]? = some o) (ho : o.isCells = false) : (sets W b r).heap[D]? = some o :=
  (KeepsOthers.setCell _ _ _).same D _ ((KeepsOthers.setCell _ _ _).same D _ ((KeepsOthers.setCell _ _ _).same D _ ((KeepsOthers.setCell _ _ _).same D _ hK ho) ho) ho) ho

set_option maxRecDepth 100000 in
set_option maxHeartbeats 4000000 in
theorem next_in (F : Fence) (n : Nat) (h3 : F.fn 76) (h5 : F.fn 78) (h6 : F.fn 79) (hro : F.round = none) (hn : 3 ≤ n) (r : Rc) (w : World) :
    CallsIn F n Tryd.prog 76 #[.agg (bytes r)] w fun e W' => e = .returned (.agg (bytes (nextR r))) ∧ Below w.heap.size w W' := by
  have h1 : 1 ≤ n := by omega
  refine callsIn_of_wp_marks Tryd.func76 rfl h3 ?_ hro
  unfold bytes
  simp only [Tryd.ntmps76, List.size_toArray, List.length_cons, List.length_nil, Nat.reduceAdd, Nat.reduceSub, Array.replicate_succ, Array.replicate_zero, List.push_toArray, List.append_toArray, List.nil_append, List.cons_append]
  gi_wp2_with (gi_at_call 78; refine (Backward_in F (n - 1) h5 hro _ _ _ _).mono ?_; rintro e w' ⟨rfl, rfl⟩)
  have hB0 : Below w.heap.size w (((w.alloc (.cells (bytes r) 26)).alloc (.cells (bytes (0, 0, 0, 0)) 26)).alloc (.cells #[.slice (some ⟨w.heap.size, 0, none⟩) 4 4] 81)) := (((Below.refl _ w).alloc (Nat.le_refl _) _).alloc (by simp) _).alloc (by simp; omega) _
  obtain ⟨W0, hW0⟩ : ∃ W0, (((w.alloc (.cells (bytes r) 26)).alloc (.cells (bytes (0, 0, 0, 0)) 26)).alloc (.cells #[.slice (some ⟨w.heap.size, 0, none⟩) 4 4] 81)) = W0 := ⟨_, rfl⟩
  have hsz : W0.heap.size = w.heap.size + 1 + 1 + 1 := by rw [← hW0]; simp
  have hL : Lies W0 w.heap.size r := by rw [← hW0]; exact ((lies_new w r _).alloc _).alloc _
  have hZ : Zed W0 (w.heap.size + 1) := by
    rw [← hW0]
    have := lies_new (w.alloc (.cells (bytes r) 26)) (0, 0, 0, 0) 26
    rw [World.size_alloc] at this
    exact this.alloc _
  have hS : W0.cell? ⟨w.heap.size + 1 + 1, 0, none⟩ = some (.slice (some ⟨w.heap.size, 0, none⟩) 4 4) := by
    rw [← hW0]
    have := (one_new ((w.alloc (.cells (bytes r) 26)).alloc (.cells (bytes (0, 0, 0, 0)) 26)) (.slice (some ⟨w.heap.size, 0, none⟩) 4 4) 81).1
    rw [World.size_alloc, World.size_alloc] at this
    exact this
  rw [hW0] at hB0
  unfold bytes at hW0
  simp only at hW0
  rw [hW0]
  refine wpIn_rangeFunc_ownF hro h1 (gf := 79) (lb := #[.pointer (some ⟨w.heap.size + 1 + 1, 0, none⟩)]) rfl h6 (enters_of Tryd.func79 (by kernel_rfl) rfl)
    (back_stops F (n - 1) h6 hro (by omega) (w.heap.size + 1 + 1) w.heap.size W0 (by omega) (by omega) hS (fun j hj => ⟨_, (hL j hj).1⟩))
    (fun h k => ⟨k.1.trans h.1, fun j hj hx => k.2 j hj (h.2 j hj hx)⟩) (kp_b (by omega)) (Below.refl _ _) (fun _ => rfl)
    (fun pre W => II w r pre W ∧ Below w.heap.size w W) (fun c pre W => IX w r c pre W ∧ Below w.heap.size w W) 
    (OwnFrom.and (Own.from (fun s A B row ⟨x, h1, h2, h3⟩ hg hr => ⟨x, h1, h2.kept hg (fun r e => (hr r e)), h3.kept hg (fun r e => (hr r e))⟩) _) (ownFrom_below (Nat.le_refl _) (by omega)))
    (fun c => OwnFrom.and (Own.from (fun s A B row ⟨e, l, i, x, h0, h1, h4, h2, h3⟩ hg hr => ⟨e, l, i, x, h0, h1, h4, h2.kept hg (fun r e => (hr r e)), h3.kept hg (fun r e => (hr r e))⟩) _) (ownFrom_below (Nat.le_refl _) (by omega)))
    ⟨⟨r, rfl, hL, hZ⟩, hB0⟩
    (fun x => { tmps := #[.agg #[.int .u8 r.1, .int .u8 r.2.1, .int .u8 r.2.2.1, .int .u8 r.2.2.2], .pointer (some ⟨w.heap.size, 0, none⟩), .pointer (some ⟨w.heap.size + 1, 0, none⟩), .int .i64 (x.1.1 : Int), .slice (some ⟨w.heap.size, 0, none⟩) 4 4, .func (.func 79) #[] #[.pointer (some ⟨w.heap.size + 1 + 1, 0, none⟩)], .int .i64 (x.1.1 : Int), .int .u8 x.2, undef, undef, undef, undef, undef, undef, undef, undef, undef, undef], defers := [] }) ?assign ?body ?done ?stop
  case assign =>
    intro l x W K hK
    unfold encs
    gi_wp2
    exact hK
  case body =>
    rintro l pre ⟨⟨i, hi⟩, y⟩ W ⟨⟨s, hg, hLs, hZs⟩, hB⟩ _
    have hi' : i = 0 ∨ i = 1 ∨ i = 2 ∨ i = 3 := by omega
    obtain ⟨⟨c0, f0⟩, ⟨c1, f1⟩, ⟨c2, f2⟩, ⟨c3, f3⟩⟩ := hLs.hs
    rcases hi' with rfl | rfl | rfl | rfl
    all_goals
      gi_wp2
      · rename_i hne
        have hset := hLs.set hi
        rw [IntKind.wrap_u8] at hset
        refine ⟨KeepsOthers.setCell _ _ _, ⟨rfl, pre.map (·.1.1), _, s, by rw [List.map_append]; rfl, hg, ?_, hset, hZs.far (b' := w.heap.size) (by omega)⟩, hB.setCell (Nat.le_refl _) _⟩
        rw [at_inc_self hi, IntKind.wrap_u8]
        simpa [at_] using hne
      · rename_i hne
        have hset := hLs.set hi
        rw [IntKind.wrap_u8] at hset
        refine ⟨KeepsOthers.setCell _ _ _, ⟨World.cell?_setCell_other _ _ _ _ (by simp only [ne_eq, Addr.mk.injEq]; omega), fun j hj _ => ⟨_, (hset j hj).1⟩⟩, ⟨_, ?_, hset, hZs.far (b' := w.heap.size) (by omega)⟩, hB.setCell (Nat.le_refl _) _⟩
        rw [List.map_append, List.map_cons, List.map_nil, gone_snoc, hg]
        simp only [Option.bind_some]
        rw [if_pos]
        rw [at_inc_self hi, IntKind.wrap_u8]
        simpa [at_] using hne
  case done =>
    rintro D ys W hD hys ⟨⟨s, hg, hLs, hZs⟩, hB⟩ hK
    rw [hys] at hg
    have hs := all_gone hg
    subst hs
    obtain ⟨⟨c0, f0⟩, ⟨c1, f1⟩, ⟨c2, f2⟩, ⟨c3, f3⟩⟩ := hLs.hs
    obtain ⟨⟨d0, g0⟩, ⟨d1, g1⟩, ⟨d2, g2⟩, ⟨d3, g3⟩⟩ := hZs.hs
    gi_wp2
    show bodyPostM _ _ _ _ _ _ _ (sets W (w.heap.size + 1) (nextR r))
    have hK' := sets_keeps W (w.heap.size + 1) (nextR r) hK rfl
    have hB' := sets_below (nextR r) hB (show w.heap.size ≤ w.heap.size + 1 by omega)
    refine ⟨by simp, .inl ⟨_, _, rfl, run_takeDeferred hK', ?_⟩⟩
    have hfin := (sets_lies (r := nextR r) hZs).kept (grownBy_putObj' _ D (.deferred none)) (fun r e => by cases e; exact ⟨_, hK', rfl⟩)
    obtain ⟨⟨e0, _⟩, ⟨e1, _⟩, ⟨e2, _⟩, ⟨e3, _⟩⟩ := hfin.hs
    refine ⟨.agg (bytes (nextR r)), ?_, rfl, hB'.trans (belowK_b (w := w) (Nat.le_refl _) _ D _ _ (by omega) hK' rfl rfl)⟩
    simp [results, Tryd.f76, go_sem, e0, e1, e2, e3, bytes]
  case stop =>
    rintro D c pre W hD ⟨k, hk, hp⟩ ⟨⟨rfl, l, i, s, h0, hg, hne, hLs, hZs⟩, hB⟩ hK
    rw [h0] at hp
    have hs := stop_at hp hk hg hne
    rw [hs] at hLs
    obtain ⟨⟨c0, f0⟩, ⟨c1, f1⟩, ⟨c2, f2⟩, ⟨c3, f3⟩⟩ := hLs.hs
    obtain ⟨⟨d0, g0⟩, ⟨d1, g1⟩, ⟨d2, g2⟩, ⟨d3, g3⟩⟩ := hZs.hs
    gi_wp2
    show bodyPostM _ _ _ _ _ _ _ (sets W (w.heap.size + 1) (nextR r))
    have hK' := sets_keeps W (w.heap.size + 1) (nextR r) hK rfl
    have hB' := sets_below (nextR r) hB (show w.heap.size ≤ w.heap.size + 1 by omega)
    refine ⟨by simp, .inl ⟨_, _, rfl, run_takeDeferred hK', ?_⟩⟩
    have hfin := (sets_lies (r := nextR r) hZs).kept (grownBy_putObj' _ D (.deferred none)) (fun r e => by cases e; exact ⟨_, hK', rfl⟩)
    obtain ⟨⟨e0, _⟩, ⟨e1, _⟩, ⟨e2, _⟩, ⟨e3, _⟩⟩ := hfin.hs
    refine ⟨.agg (bytes (nextR r)), ?_, rfl, hB'.trans (belowK_b (w := w) (Nat.le_refl _) _ D _ _ (by omega) hK' rfl rfl)⟩
    simp [results, Tryd.f76, go_sem, e0, e1, e2, e3, bytes]

theorem next_calls (r : Rc) (w : World) : Calls Tryd.prog 76 #[.agg (bytes r)] w fun e W' => e = .returned (.agg (bytes (nextR r))) ∧ Below w.heap.size w W' :=
  (callsIn_wide (n := 3)).1 (next_in Fence.wide 3 trivial trivial trivial rfl (by omega) r w)
end Go.Proofs.YtamlipffhimfmaaDoor.Nxt

/- file.Do: what it comes to. -/
namespace Go.Proofs.YtamlipffhimfmaaDoor.File
set_option linter.unusedSimpArgs false
set_option linter.unusedVariables false
open Go Go.AX Go.Proofs Ty
set_option maxHeartbeats 4000000
set_option maxRecDepth 10000

theorem Clone_at (R : List Rc) (base : Option Addr) (cap : Nat) (H : AH) (hs : SlcIn H 4 base cap (R.map enc)) (hR : R.length ≤ 4096) (h0 : R.length ≠ 0) :
    ACalls Tryd.prog 30 #[.slice base R.length cap] H (fun v H' => ∃ b c bs, Fresh H b ∧ v = .slice (some ⟨b, 0, none⟩) R.length c ∧ R.length ≤ c ∧ R.length * 4 ≤ bs ∧ H' = H.add b (.cells (R.map enc).flatten 26 bs)) :=
  (Clone_c R base cap H hs hR).monoW fun v H' ⟨b', c', hv, hO, hK⟩ => by
    rcases hO.at_ with ⟨_, h, _⟩ | ⟨b, bs, rfl, h1, h2, h3⟩
    · rw [List.map_eq_nil_iff] at h; subst h; exact absurd rfl h0
    · have hle := hO.le
      rw [List.length_map] at hle
      exact ⟨_, AH.le_cons h1 (hK.all), b, c', bs, h3, hv, hle, Nat.le_trans (Nat.mul_le_mul_right _ hle) h2, rfl⟩
theorem next_c (r : Rc) (H : AH) : ACalls Tryd.prog 76 #[.agg (enc r).toArray] H (fun v H' => v = .agg (enc (Nxt.nextR r)).toArray ∧ H = H') := ACalls.of_calls (Nxt.next_calls r)

def doR (R : List Rc) (op : Int) (rec : Nat) (v : Rc) : List Rc := if op = 1 then R.set rec v else if op = 2 then R.set rec (Nxt.nextR (R.getD rec zr)) else R
def dbad (e : Int) : Value := .tuple #[.agg #[.int .i64 0, .slice none 0 0], .agg (enc zr).toArray, .int .i64 e]
theorem enc_take (r : Rc) : (enc r).take 4 = enc r := rfl
theorem enc_z4 (r : Rc) : lput [.int .u8 0, .int .u8 0, .int .u8 0, .int .u8 0] 0 (enc r) = enc r := rfl
theorem flat4 (L : List Rc) : (L.map enc).flatten.length = L.length * 4 := by rw [flat_len (rows4 L), List.length_map]
theorem row4 {L : List Rc} {i : Nat} {r : Rc} (h : L[i]? = some r) : ((L.map enc).flatten.drop (i * 4)).take 4 = enc r := flat_row (rows4 L) i _ (map_get h)
theorem put4 {L : List Rc} {i : Nat} (r : Rc) (h : i < L.length) : lput (L.map enc).flatten (i * 4) (enc r) = ((L.set i r).map enc).flatten := by
  rw [flat_lput (rows4 L) i (enc r) (by rw [List.length_map]; exact h) rfl, List.map_set]
theorem getD4 {L : List Rc} {i : Nat} {r : Rc} (h : L[i]? = some r) : L.getD i zr = r := by rw [List.getD_eq_getElem?_getD, h]; rfl
theorem mayF_ok {p op : Int} {rec : Int} {R : List Rc} (h : mayF p R op rec = 0) : goodF p R = true ∧ 0 ≤ op ∧ op ≤ 2 ∧ 0 ≤ rec ∧ rec < R.length ∧ R.length ≤ 256 ∧ 0 ≤ p ∧ p ≤ 7 := by
  unfold mayF at h
  split at h
  · cases h
  · rename_i g
    simp only [Bool.not_eq_false] at g
    obtain ⟨h0, h1, h2, h3⟩ := goodF_p g
    split at h
    · cases h
    · split at h
      · cases h
      · exact ⟨g, by omega, by omega, by omega, by omega, h3, h0, h1⟩
theorem Do_bad (p op rec : Int) (R : List Rc) (v : Rc) (base : Option Addr) (cap : Nat) (H : AH) (hs : SlcIn H 4 base cap (R.map enc)) (hm : ¬ mayF p R op rec = 0) :
    ACalls Tryd.prog 72 #[fv p base R.length cap, .int .i64 op, .int .i64 rec, .agg (enc v).toArray] H (fun v H' => v = dbad (mayF p R op rec) ∧ H = H') := by
  unfold fv
  have hg := fun H1 (h1 : SlcIn H1 4 base cap (R.map enc)) => may_c p op rec R base cap H1 h1
  unfold fv at hg
  refine ACalls.enter2 Tryd.func72 rfl Tryd.ntmps72 Tryd.results72 (by simp) ?_; simp (dsimp := false) (maxSteps := 4000000) only [hm, go_sem, ↓reduceIte, Nat.reduceEqDiff, Nat.reduceLT, Nat.reduceLeDiff, Nat.reduceAdd, Nat.reduceMul, Nat.reduceSub, reduceCtorEq, Int.reduceToNat, Int.reduceLT, Int.reduceLE, Int.reduceEq, Int.reduceNe, Int.reduceBEq, Nat.reduceBEq, Int.reduceBNe, Nat.reduceBNe, Int.reduceAdd, Int.reduceSub, Int.reduceMul, Int.reduceNeg]
  refine AllB.mk fun b4 h_b4 => ?_; have hn_b4 := h_b4; (try simp only [fresh_add, fresh_set, ne_eq] at hn_b4); have hr_b4 := hn_b4; (try simp only [@eq_comm Nat b4] at hr_b4); simp (dsimp := false) (maxSteps := 4000000) only [hm, hn_b4, hr_b4, go_sem, ↓reduceIte, Nat.reduceEqDiff, Nat.reduceLT, Nat.reduceLeDiff, Nat.reduceAdd, Nat.reduceMul, Nat.reduceSub, reduceCtorEq, Int.reduceToNat, Int.reduceLT, Int.reduceLE, Int.reduceEq, Int.reduceNe, Int.reduceBEq, Nat.reduceBEq, Int.reduceBNe, Nat.reduceBNe, Int.reduceAdd, Int.reduceSub, Int.reduceMul, Int.reduceNeg]
  refine AllB.mk fun b7 h_b7 => ?_; have hn_b7 := h_b7; (try simp only [fresh_add, fresh_set, ne_eq] at hn_b7); have hr_b7 := hn_b7; (try simp only [@eq_comm Nat b7] at hr_b7); simp (dsimp := false) (maxSteps := 4000000) only [hm, hn_b4, hr_b4, hn_b7, hr_b7, go_sem, ↓reduceIte, Nat.reduceEqDiff, Nat.reduceLT, Nat.reduceLeDiff, Nat.reduceAdd, Nat.reduceMul, Nat.reduceSub, reduceCtorEq, Int.reduceToNat, Int.reduceLT, Int.reduceLE, Int.reduceEq, Int.reduceNe, Int.reduceBEq, Nat.reduceBEq, Int.reduceBNe, Nat.reduceBNe, Int.reduceAdd, Int.reduceSub, Int.reduceMul, Int.reduceNeg]
  refine AllB.mk fun b8 h_b8 => ?_; have hn_b8 := h_b8; (try simp only [fresh_add, fresh_set, ne_eq] at hn_b8); have hr_b8 := hn_b8; (try simp only [@eq_comm Nat b8] at hr_b8); simp (dsimp := false) (maxSteps := 4000000) only [hm, hn_b4, hr_b4, hn_b7, hr_b7, hn_b8, hr_b8, go_sem, ↓reduceIte, Nat.reduceEqDiff, Nat.reduceLT, Nat.reduceLeDiff, Nat.reduceAdd, Nat.reduceMul, Nat.reduceSub, reduceCtorEq, Int.reduceToNat, Int.reduceLT, Int.reduceLE, Int.reduceEq, Int.reduceNe, Int.reduceBEq, Nat.reduceBEq, Int.reduceBNe, Nat.reduceBNe, Int.reduceAdd, Int.reduceSub, Int.reduceMul, Int.reduceNeg]
  refine AllB.mk fun b9 h_b9 => ?_; have hn_b9 := h_b9; (try simp only [fresh_add, fresh_set, ne_eq] at hn_b9); have hr_b9 := hn_b9; (try simp only [@eq_comm Nat b9] at hr_b9); simp (dsimp := false) (maxSteps := 4000000) only [hm, hn_b4, hr_b4, hn_b7, hr_b7, hn_b8, hr_b8, hn_b9, hr_b9, go_sem, ↓reduceIte, Nat.reduceEqDiff, Nat.reduceLT, Nat.reduceLeDiff, Nat.reduceAdd, Nat.reduceMul, Nat.reduceSub, reduceCtorEq, Int.reduceToNat, Int.reduceLT, Int.reduceLE, Int.reduceEq, Int.reduceNe, Int.reduceBEq, Nat.reduceBEq, Int.reduceBNe, Nat.reduceBNe, Int.reduceAdd, Int.reduceSub, Int.reduceMul, Int.reduceNeg]
  refine (hg _ ((((hs.add h_b4).add h_b7).add h_b8).add h_b9)).mono ?_; rintro _ _ ⟨rfl, rfl⟩
  simp (dsimp := false) (maxSteps := 4000000) only [hm, hn_b4, hr_b4, hn_b7, hr_b7, hn_b8, hr_b8, hn_b9, hr_b9, go_sem, ↓reduceIte, Nat.reduceEqDiff, Nat.reduceLT, Nat.reduceLeDiff, Nat.reduceAdd, Nat.reduceMul, Nat.reduceSub, reduceCtorEq, Int.reduceToNat, Int.reduceLT, Int.reduceLE, Int.reduceEq, Int.reduceNe, Int.reduceBEq, Nat.reduceBEq, Int.reduceBNe, Nat.reduceBNe, Int.reduceAdd, Int.reduceSub, Int.reduceMul, Int.reduceNeg]
  exact ⟨H, (AH.le_add (AH.le_add (AH.le_add (AH.le_add (AH.le_refl _) ((by simp only [hm, fresh_add, fresh_set, ne_eq, hn_b4, not_false_eq_true, and_self] : Fresh _ b4).2)) ((by simp only [hm, fresh_add, fresh_set, ne_eq, hn_b7, not_false_eq_true, and_self] : Fresh _ b7).2)) ((by simp only [hm, fresh_add, fresh_set, ne_eq, hn_b8, not_false_eq_true, and_self] : Fresh _ b8).2)) ((by simp only [hm, fresh_add, fresh_set, ne_eq, hn_b9, not_false_eq_true, and_self] : Fresh _ b9).2)), (by first | exact ⟨rfl, rfl⟩ | rfl)⟩
theorem Do_ok (p op : Int) (rec : Nat) (R : List Rc) (v : Rc) (base : Option Addr) (cap : Nat) (H : AH) (hs : SlcIn H 4 base cap (R.map enc)) (hm : mayF p R op rec = 0) :
    ACalls Tryd.prog 72 #[fv p base R.length cap, .int .i64 op, .int .i64 rec, .agg (enc v).toArray] H (fun x H' => ∃ b bs, Fresh H b ∧ x = .tuple #[fv p (some ⟨b, 0, none⟩) R.length R.length, .agg (enc ((doR R op rec v).getD rec zr)).toArray, .int .i64 0] ∧ R.length * 4 ≤ bs ∧ H' = H.add b (.cells ((doR R op rec v).map enc).flatten 26 bs)) := by
  obtain ⟨hgd, ho0, ho1, hr0, hr1, hR, hp0, hp1⟩ := mayF_ok hm
  obtain ⟨r0, hr0_⟩ := get_some (l := R) (i := rec) (by omega)
  have hl4 := flat4 R
  have c4 : rec * 4 + 4 ≤ R.length * 4 := by omega
  have c5 : 0 + (rec * 4) + 4 ≤ R.length * 4 := by omega
  have c6 : 0 + (R.length * 4) ≤ R.length * 4 := by omega
  have hbs : True := trivial
  unfold fv
  have hg := fun H1 (h1 : SlcIn H1 4 base cap (R.map enc)) => may_c p op rec R base cap H1 h1
  unfold fv at hg
  refine ACalls.enter2 Tryd.func72 rfl Tryd.ntmps72 Tryd.results72 (by simp) ?_; simp (dsimp := false) (maxSteps := 4000000) only [hm, hr1, enc_len, enc_scal, enc_take, enc_z4, hbs, hl4, c4, c5, c6, go_sem, ↓reduceIte, Nat.reduceEqDiff, Nat.reduceLT, Nat.reduceLeDiff, Nat.reduceAdd, Nat.reduceMul, Nat.reduceSub, reduceCtorEq, Int.reduceToNat, Int.reduceLT, Int.reduceLE, Int.reduceEq, Int.reduceNe, Int.reduceBEq, Nat.reduceBEq, Int.reduceBNe, Nat.reduceBNe, Int.reduceAdd, Int.reduceSub, Int.reduceMul, Int.reduceNeg]
  refine AllB.mk fun b4 h_b4 => ?_; have hn_b4 := h_b4; (try simp only [fresh_add, fresh_set, ne_eq] at hn_b4); have hr_b4 := hn_b4; (try simp only [@eq_comm Nat b4] at hr_b4); simp (dsimp := false) (maxSteps := 4000000) only [hm, hr1, enc_len, enc_scal, enc_take, enc_z4, hbs, hl4, c4, c5, c6, hn_b4, hr_b4, go_sem, ↓reduceIte, Nat.reduceEqDiff, Nat.reduceLT, Nat.reduceLeDiff, Nat.reduceAdd, Nat.reduceMul, Nat.reduceSub, reduceCtorEq, Int.reduceToNat, Int.reduceLT, Int.reduceLE, Int.reduceEq, Int.reduceNe, Int.reduceBEq, Nat.reduceBEq, Int.reduceBNe, Nat.reduceBNe, Int.reduceAdd, Int.reduceSub, Int.reduceMul, Int.reduceNeg]
  refine AllB.mk fun b7 h_b7 => ?_; have hn_b7 := h_b7; (try simp only [fresh_add, fresh_set, ne_eq] at hn_b7); have hr_b7 := hn_b7; (try simp only [@eq_comm Nat b7] at hr_b7); simp (dsimp := false) (maxSteps := 4000000) only [hm, hr1, enc_len, enc_scal, enc_take, enc_z4, hbs, hl4, c4, c5, c6, hn_b4, hr_b4, hn_b7, hr_b7, go_sem, ↓reduceIte, Nat.reduceEqDiff, Nat.reduceLT, Nat.reduceLeDiff, Nat.reduceAdd, Nat.reduceMul, Nat.reduceSub, reduceCtorEq, Int.reduceToNat, Int.reduceLT, Int.reduceLE, Int.reduceEq, Int.reduceNe, Int.reduceBEq, Nat.reduceBEq, Int.reduceBNe, Nat.reduceBNe, Int.reduceAdd, Int.reduceSub, Int.reduceMul, Int.reduceNeg]
  refine AllB.mk fun b8 h_b8 => ?_; have hn_b8 := h_b8; (try simp only [fresh_add, fresh_set, ne_eq] at hn_b8); have hr_b8 := hn_b8; (try simp only [@eq_comm Nat b8] at hr_b8); simp (dsimp := false) (maxSteps := 4000000) only [hm, hr1, enc_len, enc_scal, enc_take, enc_z4, hbs, hl4, c4, c5, c6, hn_b4, hr_b4, hn_b7, hr_b7, hn_b8, hr_b8, go_sem, ↓reduceIte, Nat.reduceEqDiff, Nat.reduceLT, Nat.reduceLeDiff, Nat.reduceAdd, Nat.reduceMul, Nat.reduceSub, reduceCtorEq, Int.reduceToNat, Int.reduceLT, Int.reduceLE, Int.reduceEq, Int.reduceNe, Int.reduceBEq, Nat.reduceBEq, Int.reduceBNe, Nat.reduceBNe, Int.reduceAdd, Int.reduceSub, Int.reduceMul, Int.reduceNeg]
  refine AllB.mk fun b9 h_b9 => ?_; have hn_b9 := h_b9; (try simp only [fresh_add, fresh_set, ne_eq] at hn_b9); have hr_b9 := hn_b9; (try simp only [@eq_comm Nat b9] at hr_b9); simp (dsimp := false) (maxSteps := 4000000) only [hm, hr1, enc_len, enc_scal, enc_take, enc_z4, hbs, hl4, c4, c5, c6, hn_b4, hr_b4, hn_b7, hr_b7, hn_b8, hr_b8, hn_b9, hr_b9, go_sem, ↓reduceIte, Nat.reduceEqDiff, Nat.reduceLT, Nat.reduceLeDiff, Nat.reduceAdd, Nat.reduceMul, Nat.reduceSub, reduceCtorEq, Int.reduceToNat, Int.reduceLT, Int.reduceLE, Int.reduceEq, Int.reduceNe, Int.reduceBEq, Nat.reduceBEq, Int.reduceBNe, Nat.reduceBNe, Int.reduceAdd, Int.reduceSub, Int.reduceMul, Int.reduceNeg]
  refine (hg _ ((((hs.add h_b4).add h_b7).add h_b8).add h_b9)).mono ?_; rintro _ _ ⟨rfl, rfl⟩
  simp (dsimp := false) (maxSteps := 4000000) only [hm, hr1, enc_len, enc_scal, enc_take, enc_z4, hbs, hl4, c4, c5, c6, hn_b4, hr_b4, hn_b7, hr_b7, hn_b8, hr_b8, hn_b9, hr_b9, go_sem, ↓reduceIte, Nat.reduceEqDiff, Nat.reduceLT, Nat.reduceLeDiff, Nat.reduceAdd, Nat.reduceMul, Nat.reduceSub, reduceCtorEq, Int.reduceToNat, Int.reduceLT, Int.reduceLE, Int.reduceEq, Int.reduceNe, Int.reduceBEq, Nat.reduceBEq, Int.reduceBNe, Nat.reduceBNe, Int.reduceAdd, Int.reduceSub, Int.reduceMul, Int.reduceNeg]
  refine (Clone_at R base cap _ ((((hs.add h_b4).add h_b7).add h_b8).add h_b9) (by omega) (by omega)).mono ?_; rintro _ _ ⟨bl, cl, bs, h_bl, rfl, hcl, hbs, rfl⟩
  have hn_bl := h_bl; (try simp only [fresh_add, fresh_set, ne_eq] at hn_bl); have hr_bl := hn_bl; (try simp only [@eq_comm Nat bl] at hr_bl)
  simp (dsimp := false) (maxSteps := 4000000) only [hm, hr1, enc_len, enc_scal, enc_take, enc_z4, hbs, hl4, c4, c5, c6, hn_b4, hr_b4, hn_b7, hr_b7, hn_b8, hr_b8, hn_b9, hr_b9, hn_bl, hr_bl, go_sem, ↓reduceIte, Nat.reduceEqDiff, Nat.reduceLT, Nat.reduceLeDiff, Nat.reduceAdd, Nat.reduceMul, Nat.reduceSub, reduceCtorEq, Int.reduceToNat, Int.reduceLT, Int.reduceLE, Int.reduceEq, Int.reduceNe, Int.reduceBEq, Nat.reduceBEq, Int.reduceBNe, Nat.reduceBNe, Int.reduceAdd, Int.reduceSub, Int.reduceMul, Int.reduceNeg]
  refine (Clip_c _ _ _ _ hcl).mono ?_; rintro _ _ ⟨rfl, rfl⟩
  simp (dsimp := false) (maxSteps := 4000000) only [hm, hr1, enc_len, enc_scal, enc_take, enc_z4, hbs, hl4, c4, c5, c6, hn_b4, hr_b4, hn_b7, hr_b7, hn_b8, hr_b8, hn_b9, hr_b9, hn_bl, hr_bl, go_sem, ↓reduceIte, Nat.reduceEqDiff, Nat.reduceLT, Nat.reduceLeDiff, Nat.reduceAdd, Nat.reduceMul, Nat.reduceSub, reduceCtorEq, Int.reduceToNat, Int.reduceLT, Int.reduceLE, Int.reduceEq, Int.reduceNe, Int.reduceBEq, Nat.reduceBEq, Int.reduceBNe, Nat.reduceBNe, Int.reduceAdd, Int.reduceSub, Int.reduceMul, Int.reduceNeg]
  by_cases a : op = 1
  · subst a
    have hp := put4 v (L := R) (i := rec) (by omega)
    have hs_ : (R.set rec v)[rec]? = some v := by rw [List.getElem?_set_self (by omega)]
    have hrow := row4 hs_
    simp (dsimp := false) (maxSteps := 4000000) only [hp, hm, hr1, enc_len, enc_scal, enc_take, enc_z4, hbs, hl4, c4, c5, c6, hn_b4, hr_b4, hn_b7, hr_b7, hn_b8, hr_b8, hn_b9, hr_b9, hn_bl, hr_bl, go_sem, ↓reduceIte, Nat.reduceEqDiff, Nat.reduceLT, Nat.reduceLeDiff, Nat.reduceAdd, Nat.reduceMul, Nat.reduceSub, reduceCtorEq, Int.reduceToNat, Int.reduceLT, Int.reduceLE, Int.reduceEq, Int.reduceNe, Int.reduceBEq, Nat.reduceBEq, Int.reduceBNe, Nat.reduceBNe, Int.reduceAdd, Int.reduceSub, Int.reduceMul, Int.reduceNeg]
    refine AWp.gen [.rd, .pu, .rd, .pu, .pu, .rd, .ch, .ch, .pu] [0, 0, 2, 0, 14, 30, 1, 127, 255] 7 ((H.add b4 (.cells [.int .i64 p, .slice (some ⟨bl, 0, none⟩) R.length R.length] 46 2)).add bl (.cells ((R.set rec v).map enc).flatten 26 bs)) mixed (by kernel_rfl) (?_) ?_
    · exact (by refine AH.le_cons ?_ ?_; (show AH.find _ _ = _; simp only [find_add_self, find_add_ne, find_fresh, fresh_add, fresh_set, ne_eq, not_false_eq_true, true_and, and_true, and_self, hm, hr1, enc_len, enc_scal, enc_take, enc_z4, hbs, hl4, c4, c5, c6, hn_b4, hr_b4, hn_b7, hr_b7, hn_b8, hr_b8, hn_b9, hr_b9, hn_bl, hr_bl]); refine AH.le_cons ?_ ?_; (show AH.find _ _ = _; simp only [find_add_self, find_add_ne, find_fresh, fresh_add, fresh_set, ne_eq, not_false_eq_true, true_and, and_true, and_self, hm, hr1, enc_len, enc_scal, enc_take, enc_z4, hbs, hl4, c4, c5, c6, hn_b4, hr_b4, hn_b7, hr_b7, hn_b8, hr_b8, hn_b9, hr_b9, hn_bl, hr_bl]); (repeat (first | exact AH.le_refl _ | refine AH.le_add ?_ ?_)); all_goals (first | exact AH.le_refl _ | (show AH.find _ _ = _; simp only [find_add_self, find_add_ne, find_fresh, fresh_add, fresh_set, ne_eq, not_false_eq_true, true_and, and_true, and_self, hm, hr1, enc_len, enc_scal, enc_take, enc_z4, hbs, hl4, c4, c5, c6, hn_b4, hr_b4, hn_b7, hr_b7, hn_b8, hr_b8, hn_b9, hr_b9, hn_bl, hr_bl])))
    have hl4' := flat4 (R.set rec v)
    rw [List.length_set] at hl4'
    simp (dsimp := false) (maxSteps := 4000000) only [hl4', hrow, hm, hr1, enc_len, enc_scal, enc_take, enc_z4, hbs, hl4, c4, c5, c6, hn_b4, hr_b4, hn_b7, hr_b7, hn_b8, hr_b8, hn_b9, hr_b9, hn_bl, hr_bl, go_sem, ↓reduceIte, Nat.reduceEqDiff, Nat.reduceLT, Nat.reduceLeDiff, Nat.reduceAdd, Nat.reduceMul, Nat.reduceSub, reduceCtorEq, Int.reduceToNat, Int.reduceLT, Int.reduceLE, Int.reduceEq, Int.reduceNe, Int.reduceBEq, Nat.reduceBEq, Int.reduceBNe, Nat.reduceBNe, Int.reduceAdd, Int.reduceSub, Int.reduceMul, Int.reduceNeg]
    refine ⟨(by refine AH.le_cons ?_ ?_; (show AH.find _ _ = _; simp only [find_add_self, find_add_ne, find_fresh, fresh_add, fresh_set, ne_eq, not_false_eq_true, true_and, and_true, and_self, hm, hr1, enc_len, enc_scal, enc_take, enc_z4, hbs, hl4, c4, c5, c6, hn_b4, hr_b4, hn_b7, hr_b7, hn_b8, hr_b8, hn_b9, hr_b9, hn_bl, hr_bl]); refine AH.le_cons ?_ ?_; (show AH.find _ _ = _; simp only [find_add_self, find_add_ne, find_fresh, fresh_add, fresh_set, ne_eq, not_false_eq_true, true_and, and_true, and_self, hm, hr1, enc_len, enc_scal, enc_take, enc_z4, hbs, hl4, c4, c5, c6, hn_b4, hr_b4, hn_b7, hr_b7, hn_b8, hr_b8, hn_b9, hr_b9, hn_bl, hr_bl]); (repeat (first | exact AH.le_refl _ | refine AH.le_add ?_ ?_)); all_goals (first | exact AH.le_refl _ | (show AH.find _ _ = _; simp only [find_add_self, find_add_ne, find_fresh, fresh_add, fresh_set, ne_eq, not_false_eq_true, true_and, and_true, and_self, hm, hr1, enc_len, enc_scal, enc_take, enc_z4, hbs, hl4, c4, c5, c6, hn_b4, hr_b4, hn_b7, hr_b7, hn_b8, hr_b8, hn_b9, hr_b9, hn_bl, hr_bl]))), ?_⟩
    have hd1 : doR R 1 rec v = R.set rec v := by simp [doR]
    rw [hd1]
    exact ⟨_, (by refine AH.le_cons ?_ ?_; (show AH.find _ _ = _; simp only [find_add_self, find_add_ne, find_fresh, fresh_add, fresh_set, ne_eq, not_false_eq_true, true_and, and_true, and_self, hm, hr1, enc_len, enc_scal, enc_take, enc_z4, hbs, hl4, c4, c5, c6, hn_b4, hr_b4, hn_b7, hr_b7, hn_b8, hr_b8, hn_b9, hr_b9, hn_bl, hr_bl]); (repeat (first | exact AH.le_refl _ | refine AH.le_add ?_ ?_)); all_goals (first | exact AH.le_refl _ | (show AH.find _ _ = _; simp only [find_add_self, find_add_ne, find_fresh, fresh_add, fresh_set, ne_eq, not_false_eq_true, true_and, and_true, and_self, hm, hr1, enc_len, enc_scal, enc_take, enc_z4, hbs, hl4, c4, c5, c6, hn_b4, hr_b4, hn_b7, hr_b7, hn_b8, hr_b8, hn_b9, hr_b9, hn_bl, hr_bl]))), bl, bs, hn_bl.2.2.2.2, by rw [getD4 hs_], hbs, rfl⟩
  by_cases b : op = 2
  · subst b
    have hp := put4 (Nxt.nextR r0) (L := R) (i := rec) (by omega)
    have hs_ : (R.set rec (Nxt.nextR r0))[rec]? = some (Nxt.nextR r0) := by rw [List.getElem?_set_self (by omega)]
    have hrow0 := row4 hr0_
    have hrow := row4 hs_
    simp (dsimp := false) (maxSteps := 4000000) only [hm, hr1, enc_len, enc_scal, enc_take, enc_z4, hbs, hl4, c4, c5, c6, hn_b4, hr_b4, hn_b7, hr_b7, hn_b8, hr_b8, hn_b9, hr_b9, hn_bl, hr_bl, go_sem, ↓reduceIte, Nat.reduceEqDiff, Nat.reduceLT, Nat.reduceLeDiff, Nat.reduceAdd, Nat.reduceMul, Nat.reduceSub, reduceCtorEq, Int.reduceToNat, Int.reduceLT, Int.reduceLE, Int.reduceEq, Int.reduceNe, Int.reduceBEq, Nat.reduceBEq, Int.reduceBNe, Nat.reduceBNe, Int.reduceAdd, Int.reduceSub, Int.reduceMul, Int.reduceNeg]
    refine AWp.gen [.pu, .rd, .pu, .pu, .rd, .pu, .pu, .rd, .ch, .pu, .ch] [0, 1, 0, 0, 8, 0, 56, 120, 248, 511, 1023] 9 (_) mixed (by kernel_rfl) (AH.le_refl _) ?_
    simp (dsimp := false) (maxSteps := 4000000) only [hrow0, hm, hr1, enc_len, enc_scal, enc_take, enc_z4, hbs, hl4, c4, c5, c6, hn_b4, hr_b4, hn_b7, hr_b7, hn_b8, hr_b8, hn_b9, hr_b9, hn_bl, hr_bl, go_sem, ↓reduceIte, Nat.reduceEqDiff, Nat.reduceLT, Nat.reduceLeDiff, Nat.reduceAdd, Nat.reduceMul, Nat.reduceSub, reduceCtorEq, Int.reduceToNat, Int.reduceLT, Int.reduceLE, Int.reduceEq, Int.reduceNe, Int.reduceBEq, Nat.reduceBEq, Int.reduceBNe, Nat.reduceBNe, Int.reduceAdd, Int.reduceSub, Int.reduceMul, Int.reduceNeg]
    refine (next_c r0 _).mono ?_; rintro _ _ ⟨rfl, rfl⟩
    simp (dsimp := false) (maxSteps := 4000000) only [hp, AH.le_refl, hm, hr1, enc_len, enc_scal, enc_take, enc_z4, hbs, hl4, c4, c5, c6, hn_b4, hr_b4, hn_b7, hr_b7, hn_b8, hr_b8, hn_b9, hr_b9, hn_bl, hr_bl, go_sem, ↓reduceIte, Nat.reduceEqDiff, Nat.reduceLT, Nat.reduceLeDiff, Nat.reduceAdd, Nat.reduceMul, Nat.reduceSub, reduceCtorEq, Int.reduceToNat, Int.reduceLT, Int.reduceLE, Int.reduceEq, Int.reduceNe, Int.reduceBEq, Nat.reduceBEq, Int.reduceBNe, Nat.reduceBNe, Int.reduceAdd, Int.reduceSub, Int.reduceMul, Int.reduceNeg]
    refine AWp.gen [.rd, .pu, .rd, .pu, .pu, .rd, .ch, .ch, .pu] [0, 0, 2, 0, 14, 30, 1, 127, 255] 7 ((H.add b4 (.cells [.int .i64 p, .slice (some ⟨bl, 0, none⟩) R.length R.length] 46 2)).add bl (.cells ((R.set rec (Nxt.nextR r0)).map enc).flatten 26 bs)) mixed (by kernel_rfl) (?_) ?_
    · exact (by refine AH.le_cons ?_ ?_; (show AH.find _ _ = _; simp only [find_add_self, find_add_ne, find_fresh, fresh_add, fresh_set, ne_eq, not_false_eq_true, true_and, and_true, and_self, hm, hr1, enc_len, enc_scal, enc_take, enc_z4, hbs, hl4, c4, c5, c6, hn_b4, hr_b4, hn_b7, hr_b7, hn_b8, hr_b8, hn_b9, hr_b9, hn_bl, hr_bl]); refine AH.le_cons ?_ ?_; (show AH.find _ _ = _; simp only [find_add_self, find_add_ne, find_fresh, fresh_add, fresh_set, ne_eq, not_false_eq_true, true_and, and_true, and_self, hm, hr1, enc_len, enc_scal, enc_take, enc_z4, hbs, hl4, c4, c5, c6, hn_b4, hr_b4, hn_b7, hr_b7, hn_b8, hr_b8, hn_b9, hr_b9, hn_bl, hr_bl]); (repeat (first | exact AH.le_refl _ | refine AH.le_add ?_ ?_)); all_goals (first | exact AH.le_refl _ | (show AH.find _ _ = _; simp only [find_add_self, find_add_ne, find_fresh, fresh_add, fresh_set, ne_eq, not_false_eq_true, true_and, and_true, and_self, hm, hr1, enc_len, enc_scal, enc_take, enc_z4, hbs, hl4, c4, c5, c6, hn_b4, hr_b4, hn_b7, hr_b7, hn_b8, hr_b8, hn_b9, hr_b9, hn_bl, hr_bl])))
    have hl4' := flat4 (R.set rec (Nxt.nextR r0))
    rw [List.length_set] at hl4'
    simp (dsimp := false) (maxSteps := 4000000) only [hl4', hrow, hm, hr1, enc_len, enc_scal, enc_take, enc_z4, hbs, hl4, c4, c5, c6, hn_b4, hr_b4, hn_b7, hr_b7, hn_b8, hr_b8, hn_b9, hr_b9, hn_bl, hr_bl, go_sem, ↓reduceIte, Nat.reduceEqDiff, Nat.reduceLT, Nat.reduceLeDiff, Nat.reduceAdd, Nat.reduceMul, Nat.reduceSub, reduceCtorEq, Int.reduceToNat, Int.reduceLT, Int.reduceLE, Int.reduceEq, Int.reduceNe, Int.reduceBEq, Nat.reduceBEq, Int.reduceBNe, Nat.reduceBNe, Int.reduceAdd, Int.reduceSub, Int.reduceMul, Int.reduceNeg]
    refine ⟨(by refine AH.le_cons ?_ ?_; (show AH.find _ _ = _; simp only [find_add_self, find_add_ne, find_fresh, fresh_add, fresh_set, ne_eq, not_false_eq_true, true_and, and_true, and_self, hm, hr1, enc_len, enc_scal, enc_take, enc_z4, hbs, hl4, c4, c5, c6, hn_b4, hr_b4, hn_b7, hr_b7, hn_b8, hr_b8, hn_b9, hr_b9, hn_bl, hr_bl]); refine AH.le_cons ?_ ?_; (show AH.find _ _ = _; simp only [find_add_self, find_add_ne, find_fresh, fresh_add, fresh_set, ne_eq, not_false_eq_true, true_and, and_true, and_self, hm, hr1, enc_len, enc_scal, enc_take, enc_z4, hbs, hl4, c4, c5, c6, hn_b4, hr_b4, hn_b7, hr_b7, hn_b8, hr_b8, hn_b9, hr_b9, hn_bl, hr_bl]); (repeat (first | exact AH.le_refl _ | refine AH.le_add ?_ ?_)); all_goals (first | exact AH.le_refl _ | (show AH.find _ _ = _; simp only [find_add_self, find_add_ne, find_fresh, fresh_add, fresh_set, ne_eq, not_false_eq_true, true_and, and_true, and_self, hm, hr1, enc_len, enc_scal, enc_take, enc_z4, hbs, hl4, c4, c5, c6, hn_b4, hr_b4, hn_b7, hr_b7, hn_b8, hr_b8, hn_b9, hr_b9, hn_bl, hr_bl]))), ?_⟩
    have hd1 : doR R 2 rec v = R.set rec (Nxt.nextR r0) := by rw [doR, if_neg (by omega), if_pos rfl, getD4 hr0_]
    rw [hd1]
    exact ⟨_, (by refine AH.le_cons ?_ ?_; (show AH.find _ _ = _; simp only [find_add_self, find_add_ne, find_fresh, fresh_add, fresh_set, ne_eq, not_false_eq_true, true_and, and_true, and_self, hm, hr1, enc_len, enc_scal, enc_take, enc_z4, hbs, hl4, c4, c5, c6, hn_b4, hr_b4, hn_b7, hr_b7, hn_b8, hr_b8, hn_b9, hr_b9, hn_bl, hr_bl]); (repeat (first | exact AH.le_refl _ | refine AH.le_add ?_ ?_)); all_goals (first | exact AH.le_refl _ | (show AH.find _ _ = _; simp only [find_add_self, find_add_ne, find_fresh, fresh_add, fresh_set, ne_eq, not_false_eq_true, true_and, and_true, and_self, hm, hr1, enc_len, enc_scal, enc_take, enc_z4, hbs, hl4, c4, c5, c6, hn_b4, hr_b4, hn_b7, hr_b7, hn_b8, hr_b8, hn_b9, hr_b9, hn_bl, hr_bl]))), bl, bs, hn_bl.2.2.2.2, by rw [getD4 hs_], hbs, rfl⟩
  have hrow := row4 hr0_
  simp (dsimp := false) (maxSteps := 4000000) only [a, b, hm, hr1, enc_len, enc_scal, enc_take, enc_z4, hbs, hl4, c4, c5, c6, hn_b4, hr_b4, hn_b7, hr_b7, hn_b8, hr_b8, hn_b9, hr_b9, hn_bl, hr_bl, go_sem, ↓reduceIte, Nat.reduceEqDiff, Nat.reduceLT, Nat.reduceLeDiff, Nat.reduceAdd, Nat.reduceMul, Nat.reduceSub, reduceCtorEq, Int.reduceToNat, Int.reduceLT, Int.reduceLE, Int.reduceEq, Int.reduceNe, Int.reduceBEq, Nat.reduceBEq, Int.reduceBNe, Nat.reduceBNe, Int.reduceAdd, Int.reduceSub, Int.reduceMul, Int.reduceNeg]
  refine AWp.gen [.rd, .pu, .rd, .pu, .pu, .rd, .ch, .ch, .pu] [0, 0, 2, 0, 14, 30, 1, 127, 255] 7 ((H.add b4 (.cells [.int .i64 p, .slice (some ⟨bl, 0, none⟩) R.length R.length] 46 2)).add bl (.cells (R.map enc).flatten 26 bs)) mixed (by kernel_rfl) (?_) ?_
  · exact (by refine AH.le_cons ?_ ?_; (show AH.find _ _ = _; simp only [find_add_self, find_add_ne, find_fresh, fresh_add, fresh_set, ne_eq, not_false_eq_true, true_and, and_true, and_self, hm, hr1, enc_len, enc_scal, enc_take, enc_z4, hbs, hl4, c4, c5, c6, hn_b4, hr_b4, hn_b7, hr_b7, hn_b8, hr_b8, hn_b9, hr_b9, hn_bl, hr_bl]); refine AH.le_cons ?_ ?_; (show AH.find _ _ = _; simp only [find_add_self, find_add_ne, find_fresh, fresh_add, fresh_set, ne_eq, not_false_eq_true, true_and, and_true, and_self, hm, hr1, enc_len, enc_scal, enc_take, enc_z4, hbs, hl4, c4, c5, c6, hn_b4, hr_b4, hn_b7, hr_b7, hn_b8, hr_b8, hn_b9, hr_b9, hn_bl, hr_bl]); (repeat (first | exact AH.le_refl _ | refine AH.le_add ?_ ?_)); all_goals (first | exact AH.le_refl _ | (show AH.find _ _ = _; simp only [find_add_self, find_add_ne, find_fresh, fresh_add, fresh_set, ne_eq, not_false_eq_true, true_and, and_true, and_self, hm, hr1, enc_len, enc_scal, enc_take, enc_z4, hbs, hl4, c4, c5, c6, hn_b4, hr_b4, hn_b7, hr_b7, hn_b8, hr_b8, hn_b9, hr_b9, hn_bl, hr_bl])))
  simp (dsimp := false) (maxSteps := 4000000) only [hrow, hm, hr1, enc_len, enc_scal, enc_take, enc_z4, hbs, hl4, c4, c5, c6, hn_b4, hr_b4, hn_b7, hr_b7, hn_b8, hr_b8, hn_b9, hr_b9, hn_bl, hr_bl, go_sem, ↓reduceIte, Nat.reduceEqDiff, Nat.reduceLT, Nat.reduceLeDiff, Nat.reduceAdd, Nat.reduceMul, Nat.reduceSub, reduceCtorEq, Int.reduceToNat, Int.reduceLT, Int.reduceLE, Int.reduceEq, Int.reduceNe, Int.reduceBEq, Nat.reduceBEq, Int.reduceBNe, Nat.reduceBNe, Int.reduceAdd, Int.reduceSub, Int.reduceMul, Int.reduceNeg]
  refine ⟨(by refine AH.le_cons ?_ ?_; (show AH.find _ _ = _; simp only [find_add_self, find_add_ne, find_fresh, fresh_add, fresh_set, ne_eq, not_false_eq_true, true_and, and_true, and_self, hm, hr1, enc_len, enc_scal, enc_take, enc_z4, hbs, hl4, c4, c5, c6, hn_b4, hr_b4, hn_b7, hr_b7, hn_b8, hr_b8, hn_b9, hr_b9, hn_bl, hr_bl]); refine AH.le_cons ?_ ?_; (show AH.find _ _ = _; simp only [find_add_self, find_add_ne, find_fresh, fresh_add, fresh_set, ne_eq, not_false_eq_true, true_and, and_true, and_self, hm, hr1, enc_len, enc_scal, enc_take, enc_z4, hbs, hl4, c4, c5, c6, hn_b4, hr_b4, hn_b7, hr_b7, hn_b8, hr_b8, hn_b9, hr_b9, hn_bl, hr_bl]); (repeat (first | exact AH.le_refl _ | refine AH.le_add ?_ ?_)); all_goals (first | exact AH.le_refl _ | (show AH.find _ _ = _; simp only [find_add_self, find_add_ne, find_fresh, fresh_add, fresh_set, ne_eq, not_false_eq_true, true_and, and_true, and_self, hm, hr1, enc_len, enc_scal, enc_take, enc_z4, hbs, hl4, c4, c5, c6, hn_b4, hr_b4, hn_b7, hr_b7, hn_b8, hr_b8, hn_b9, hr_b9, hn_bl, hr_bl]))), ?_⟩
  have hd1 : doR R op rec v = R := by simp [doR, a, b]
  rw [hd1]
  exact ⟨_, (by refine AH.le_cons ?_ ?_; (show AH.find _ _ = _; simp only [find_add_self, find_add_ne, find_fresh, fresh_add, fresh_set, ne_eq, not_false_eq_true, true_and, and_true, and_self, hm, hr1, enc_len, enc_scal, enc_take, enc_z4, hbs, hl4, c4, c5, c6, hn_b4, hr_b4, hn_b7, hr_b7, hn_b8, hr_b8, hn_b9, hr_b9, hn_bl, hr_bl]); (repeat (first | exact AH.le_refl _ | refine AH.le_add ?_ ?_)); all_goals (first | exact AH.le_refl _ | (show AH.find _ _ = _; simp only [find_add_self, find_add_ne, find_fresh, fresh_add, fresh_set, ne_eq, not_false_eq_true, true_and, and_true, and_self, hm, hr1, enc_len, enc_scal, enc_take, enc_z4, hbs, hl4, c4, c5, c6, hn_b4, hr_b4, hn_b7, hr_b7, hn_b8, hr_b8, hn_b9, hr_b9, hn_bl, hr_bl]))), bl, bs, hn_bl.2.2.2.2, by rw [getD4 hr0_], hbs, rfl⟩
end Go.Proofs.YtamlipffhimfmaaDoor.File

/- file's reference, Do: what it comes to. -/
namespace Go.Proofs.YtamlipffhimfmaaDoor.File
set_option linter.unusedSimpArgs false
set_option linter.unusedVariables false
open Go Go.AX Go.Proofs Ty
set_option maxHeartbeats 4000000
set_option maxRecDepth 10000

def RcOk (r : Rc) : Prop := (0 ≤ r.1 ∧ r.1 ≤ 255) ∧ (0 ≤ r.2.1 ∧ r.2.1 ≤ 255) ∧ (0 ≤ r.2.2.1 ∧ r.2.2.1 ≤ 255) ∧ (0 ≤ r.2.2.2 ∧ r.2.2.2 ≤ 255)
theorem enc_0 (r : Rc) : (enc r)[0]? = some (.int .u8 r.1) := rfl
theorem enc_1 (r : Rc) : (enc r)[1]? = some (.int .u8 r.2.1) := rfl
theorem enc_2 (r : Rc) : (enc r)[2]? = some (.int .u8 r.2.2.1) := rfl
theorem enc_3 (r : Rc) : (enc r)[3]? = some (.int .u8 r.2.2.2) := rfl
theorem qrem {p : Int} (n : Int) (h0 : 0 ≤ p) (h1 : p ≤ 7) (hn : 0 < n) : (IntKind.i64.wrap (p.tdiv n)).tmod 2 = p / n % 2 := by
  have a : 0 ≤ p / n := Int.ediv_nonneg h0 (by omega)
  have b : p / n ≤ p := Int.ediv_le_self n h0
  rw [Int.tdiv_eq_ediv_of_nonneg h0, i64_eq (by omega) (by omega), Int.tmod_eq_emod_of_nonneg a]
theorem u8w (x : Int) : IntKind.u8.wrap x = x % 256 := rfl
theorem u32w (x : Int) : IntKind.u32.wrap x = x % 4294967296 := rfl
theorem next4 {r : Rc} (h : RcOk r) : enc (Nxt.nextR r) = [.int .u8 ((r.1 * 16777216 + r.2.1 * 65536 + r.2.2.1 * 256 + r.2.2.2 + 1) % 4294967296 / 16777216), .int .u8 ((r.1 * 16777216 + r.2.1 * 65536 + r.2.2.1 * 256 + r.2.2.2 + 1) / 65536 % 256), .int .u8 ((r.1 * 16777216 + r.2.1 * 65536 + r.2.2.1 * 256 + r.2.2.2 + 1) / 256 % 256), .int .u8 ((r.1 * 16777216 + r.2.1 * 65536 + r.2.2.1 * 256 + r.2.2.2 + 1) % 256)] := by
  obtain ⟨x0, x1, x2, x3⟩ := r
  obtain ⟨⟨a0, a1⟩, ⟨b0, b1⟩, ⟨c0, c1⟩, ⟨d0, d1⟩⟩ := h
  simp only at a0 a1 b0 b1 c0 c1 d0 d1
  unfold Nxt.nextR
  simp only [Nxt.inc, Nxt.at_, u8w, ne_eq]
  split
  · simp only [enc, List.cons.injEq, Value.int.injEq, true_and, and_true]; omega
  · split
    · simp only [enc, List.cons.injEq, Value.int.injEq, true_and, and_true]; omega
    · split
      · simp only [enc, List.cons.injEq, Value.int.injEq, true_and, and_true]; omega
      · simp only [enc, List.cons.injEq, Value.int.injEq, true_and, and_true]; omega
theorem sum4 {r : Rc} (h : RcOk r) : IntKind.u32.wrap (IntKind.u32.wrap (IntKind.u32.wrap (IntKind.u32.wrap (IntKind.u32.wrap (IntKind.u32.wrap r.1 * 16777216) + IntKind.u32.wrap (IntKind.u32.wrap r.2.1 * 65536)) + IntKind.u32.wrap (IntKind.u32.wrap r.2.2.1 * 256)) + IntKind.u32.wrap r.2.2.2) + 1) = (r.1 * 16777216 + r.2.1 * 65536 + r.2.2.1 * 256 + r.2.2.2 + 1) % 4294967296 := by
  obtain ⟨x0, x1, x2, x3⟩ := r
  obtain ⟨⟨a0, a1⟩, ⟨b0, b1⟩, ⟨c0, c1⟩, ⟨d0, d1⟩⟩ := h
  simp only at a0 a1 b0 b1 c0 c1 d0 d1
  simp only [u32w]
  omega
theorem put_next {L : List Rc} {i : Nat} {r : Rc} (h : RcOk r) (hi : i < L.length) : (((((L.map enc).flatten.set (i * 4) (.int .u8 (IntKind.u8.wrap (IntKind.u32.wrap ((IntKind.u32.wrap (IntKind.u32.wrap (IntKind.u32.wrap (IntKind.u32.wrap (IntKind.u32.wrap (IntKind.u32.wrap r.1 * 16777216) + IntKind.u32.wrap (IntKind.u32.wrap r.2.1 * 65536)) + IntKind.u32.wrap (IntKind.u32.wrap r.2.2.1 * 256)) + IntKind.u32.wrap r.2.2.2) + 1)).tdiv 16777216))))).set (i * 4 + 1) (.int .u8 (IntKind.u8.wrap ((IntKind.u32.wrap ((IntKind.u32.wrap (IntKind.u32.wrap (IntKind.u32.wrap (IntKind.u32.wrap (IntKind.u32.wrap (IntKind.u32.wrap r.1 * 16777216) + IntKind.u32.wrap (IntKind.u32.wrap r.2.1 * 65536)) + IntKind.u32.wrap (IntKind.u32.wrap r.2.2.1 * 256)) + IntKind.u32.wrap r.2.2.2) + 1)).tdiv 65536)).tmod 256)))).set (i * 4 + 1 + 1) (.int .u8 (IntKind.u8.wrap ((IntKind.u32.wrap ((IntKind.u32.wrap (IntKind.u32.wrap (IntKind.u32.wrap (IntKind.u32.wrap (IntKind.u32.wrap (IntKind.u32.wrap r.1 * 16777216) + IntKind.u32.wrap (IntKind.u32.wrap r.2.1 * 65536)) + IntKind.u32.wrap (IntKind.u32.wrap r.2.2.1 * 256)) + IntKind.u32.wrap r.2.2.2) + 1)).tdiv 256)).tmod 256)))).set (i * 4 + 1 + 1 + 1) (.int .u8 (IntKind.u8.wrap ((IntKind.u32.wrap (IntKind.u32.wrap (IntKind.u32.wrap (IntKind.u32.wrap (IntKind.u32.wrap (IntKind.u32.wrap r.1 * 16777216) + IntKind.u32.wrap (IntKind.u32.wrap r.2.1 * 65536)) + IntKind.u32.wrap (IntKind.u32.wrap r.2.2.1 * 256)) + IntKind.u32.wrap r.2.2.2) + 1)).tmod 256)))) = ((L.set i (Nxt.nextR r)).map enc).flatten := by
  rw [sum4 h, ← put4 (Nxt.nextR r) hi, next4 h]
  obtain ⟨x0, x1, x2, x3⟩ := r
  obtain ⟨⟨a0, a1⟩, ⟨b0, b1⟩, ⟨c0, c1⟩, ⟨d0, d1⟩⟩ := h
  simp only at a0 a1 b0 b1 c0 c1 d0 d1
  have hn : 0 ≤ x0 * 16777216 + x1 * 65536 + x2 * 256 + x3 + 1 := by omega
  generalize x0 * 16777216 + x1 * 65536 + x2 * 256 + x3 + 1 = N at hn ⊢
  have hm : 0 ≤ N % 4294967296 := by omega
  simp only [lput, u8w, u32w]
  have e1 : ((N % 4294967296).tdiv 16777216 % 4294967296 % 256) = N % 4294967296 / 16777216 := by
    rw [Int.tdiv_eq_ediv_of_nonneg hm]; omega
  have e2 : (((N % 4294967296).tdiv 65536 % 4294967296).tmod 256) % 256 = N / 65536 % 256 := by
    rw [Int.tdiv_eq_ediv_of_nonneg hm, Int.tmod_eq_emod_of_nonneg (by omega)]; omega
  have e3 : (((N % 4294967296).tdiv 256 % 4294967296).tmod 256) % 256 = N / 256 % 256 := by
    rw [Int.tdiv_eq_ediv_of_nonneg hm, Int.tmod_eq_emod_of_nonneg (by omega)]; omega
  have e4 : ((N % 4294967296).tmod 256) % 256 = N % 256 := by
    rw [Int.tmod_eq_emod_of_nonneg hm]; omega
  rw [e1, e2, e3, e4]
theorem mayF_perm {p op rec : Int} {R : List Rc} (g : goodF p R = true) (a : ¬ op < 0) (a2 : ¬ 2 < op) (b1 : ¬ rec < 0) (b2 : ¬ (R.length : Int) ≤ rec) (c0 : ¬ rec = 0) : mayF p R op rec = if p / bitF op % 2 = 0 then 5 else 0 := by
  unfold mayF
  rw [if_neg (by rw [g]; decide), if_neg (by omega), if_neg (by omega), if_neg c0]
theorem mayF_head {p op : Int} {R : List Rc} (g : goodF p R = true) (a : ¬ op < 0) (a2 : ¬ 2 < op) (b2 : R.length ≠ 0) : mayF p R op 0 = if op = 0 then 0 else 5 := by
  unfold mayF
  rw [if_neg (by rw [g]; decide), if_neg (by omega), if_neg (by omega), if_pos rfl]
end Go.Proofs.YtamlipffhimfmaaDoor.File

/- addr and its reference: what each function comes to. -/
namespace Go.Proofs.YtamlipffhimfmaaDoor
set_option linter.unusedSimpArgs false
set_option linter.unusedVariables false
open Go Go.AX Go.Proofs Ty
set_option maxHeartbeats 2000000
set_option maxRecDepth 10000

theorem u8_eq {c : Int} (h0 : 0 ≤ c) (h1 : c < 256) : IntKind.u8.wrap c = c := by rw [IntKind.wrap_u8]; omega
theorem i64_eq {c : Int} (h0 : -9223372036854775808 ≤ c) (h1 : c < 9223372036854775808) : IntKind.i64.wrap c = c := by rw [IntKind.wrap_i64]; omega

def agood (a b c : Int) : Bool := decide (0 ≤ a ∧ a ≤ 2 ∧ 0 ≤ b ∧ b < 64 ∧ 0 ≤ c ∧ c < 256)

theorem Good_c (a b c : Int) (H : AH) : ACalls Tryd.prog 41 #[.agg #[.int .i64 a, .int .i64 b, .int .i64 c]] H (fun v H' => v = .bool (agood a b c) ∧ H = H') := by
  refine ACalls.enter2 Tryd.func41 rfl Tryd.ntmps41 Tryd.results41 (by simp) ?_; simp (dsimp := false) (maxSteps := 4000000) only [go_sem, ↓reduceIte, Nat.reduceEqDiff, Nat.reduceLT, Nat.reduceLeDiff, Nat.reduceAdd, Nat.reduceMul, Nat.reduceSub, reduceCtorEq, Int.reduceToNat, Int.reduceLT, Int.reduceLE, Int.reduceEq, Int.reduceNe, Int.reduceBEq, Nat.reduceBEq, Int.reduceBNe, Nat.reduceBNe, Int.reduceAdd, Int.reduceSub, Int.reduceMul, Int.reduceNeg]
  refine AllB.mk fun b1 h_b1 => ?_; have hn_b1 := h_b1; (try simp only [fresh_add, fresh_set, ne_eq] at hn_b1); have hr_b1 := hn_b1; (try simp only [@eq_comm Nat b1] at hr_b1); simp (dsimp := false) (maxSteps := 4000000) only [hn_b1, hr_b1, go_sem, ↓reduceIte, Nat.reduceEqDiff, Nat.reduceLT, Nat.reduceLeDiff, Nat.reduceAdd, Nat.reduceMul, Nat.reduceSub, reduceCtorEq, Int.reduceToNat, Int.reduceLT, Int.reduceLE, Int.reduceEq, Int.reduceNe, Int.reduceBEq, Nat.reduceBEq, Int.reduceBNe, Nat.reduceBNe, Int.reduceAdd, Int.reduceSub, Int.reduceMul, Int.reduceNeg]
  (repeat' first | refine And.intro ?_ ?_ | (refine imp.mk fun _ => ?_; simp (dsimp := false) (maxSteps := 4000000) only [hn_b1, hr_b1, go_sem, ↓reduceIte, Nat.reduceEqDiff, Nat.reduceLT, Nat.reduceLeDiff, Nat.reduceAdd, Nat.reduceMul, Nat.reduceSub, reduceCtorEq, Int.reduceToNat, Int.reduceLT, Int.reduceLE, Int.reduceEq, Int.reduceNe, Int.reduceBEq, Nat.reduceBEq, Int.reduceBNe, Nat.reduceBNe, Int.reduceAdd, Int.reduceSub, Int.reduceMul, Int.reduceNeg])) <;> exact ⟨H, (AH.le_add (AH.le_refl _) ((by simp only [fresh_add, fresh_set, ne_eq, hn_b1, not_false_eq_true, and_self] : Fresh _ b1).2)), (by first | exact ⟨congrArg Value.bool (Bool.eq_iff_iff.2 (by simp only [agood, decide_eq_true_eq, Bool.false_eq_true, false_iff, true_iff]; omega)), rfl⟩ | rfl)⟩

def aputv (a b c : Int) : Value := if agood a b c = true then .tuple #[.agg #[.int .u8 (64 * a + b), .int .u8 c], .int .i64 0] else .tuple #[.agg #[.int .u8 0, .int .u8 0], .int .i64 1]

theorem or_64 : ∀ (x : Fin 3) (y : Fin 64), IntKind.u8.wrap (ibits .or .i64 (IntKind.i64.wrap ((x.val : Int) * 2 ^ min 6 64)) (y.val : Int)) = 64 * (x.val : Int) + y.val := by decide +kernel

theorem or_eq {a b c : Int} (h : agood a b c = true) : IntKind.u8.wrap (ibits .or .i64 (IntKind.i64.wrap (a * 2 ^ min 6 64)) b) = 64 * a + b := by
  simp only [agood, decide_eq_true_eq] at h
  obtain ⟨x, rfl⟩ := Int.eq_ofNat_of_zero_le h.1
  obtain ⟨y, rfl⟩ := Int.eq_ofNat_of_zero_le h.2.2.1
  exact or_64 ⟨x, by omega⟩ ⟨y, by omega⟩

theorem Put_c (a b c : Int) (H : AH) : ACalls Tryd.prog 31 #[.agg #[.int .i64 a, .int .i64 b, .int .i64 c]] H (fun v H' => v = aputv a b c ∧ H = H') := by
  refine ACalls.enter2 Tryd.func31 rfl Tryd.ntmps31 Tryd.results31 (by simp) ?_; simp (dsimp := false) (maxSteps := 4000000) only [go_sem, ↓reduceIte, Nat.reduceEqDiff, Nat.reduceLT, Nat.reduceLeDiff, Nat.reduceAdd, Nat.reduceMul, Nat.reduceSub, reduceCtorEq, Int.reduceToNat, Int.reduceLT, Int.reduceLE, Int.reduceEq, Int.reduceNe, Int.reduceBEq, Nat.reduceBEq, Int.reduceBNe, Nat.reduceBNe, Int.reduceAdd, Int.reduceSub, Int.reduceMul, Int.reduceNeg]
  refine AllB.mk fun b1 h_b1 => ?_; have hn_b1 := h_b1; (try simp only [fresh_add, fresh_set, ne_eq] at hn_b1); have hr_b1 := hn_b1; (try simp only [@eq_comm Nat b1] at hr_b1); simp (dsimp := false) (maxSteps := 4000000) only [hn_b1, hr_b1, go_sem, ↓reduceIte, Nat.reduceEqDiff, Nat.reduceLT, Nat.reduceLeDiff, Nat.reduceAdd, Nat.reduceMul, Nat.reduceSub, reduceCtorEq, Int.reduceToNat, Int.reduceLT, Int.reduceLE, Int.reduceEq, Int.reduceNe, Int.reduceBEq, Nat.reduceBEq, Int.reduceBNe, Nat.reduceBNe, Int.reduceAdd, Int.reduceSub, Int.reduceMul, Int.reduceNeg]
  refine AllB.mk fun b2 h_b2 => ?_; have hn_b2 := h_b2; (try simp only [fresh_add, fresh_set, ne_eq] at hn_b2); have hr_b2 := hn_b2; (try simp only [@eq_comm Nat b2] at hr_b2); simp (dsimp := false) (maxSteps := 4000000) only [hn_b1, hr_b1, hn_b2, hr_b2, go_sem, ↓reduceIte, Nat.reduceEqDiff, Nat.reduceLT, Nat.reduceLeDiff, Nat.reduceAdd, Nat.reduceMul, Nat.reduceSub, reduceCtorEq, Int.reduceToNat, Int.reduceLT, Int.reduceLE, Int.reduceEq, Int.reduceNe, Int.reduceBEq, Nat.reduceBEq, Int.reduceBNe, Nat.reduceBNe, Int.reduceAdd, Int.reduceSub, Int.reduceMul, Int.reduceNeg]
  refine (Good_c a b c _).mono ?_; rintro _ _ ⟨rfl, rfl⟩
  cases hg : agood a b c
  · simp (dsimp := false) (maxSteps := 4000000) only [hn_b1, hr_b1, hn_b2, hr_b2, go_sem, ↓reduceIte, Nat.reduceEqDiff, Nat.reduceLT, Nat.reduceLeDiff, Nat.reduceAdd, Nat.reduceMul, Nat.reduceSub, reduceCtorEq, Int.reduceToNat, Int.reduceLT, Int.reduceLE, Int.reduceEq, Int.reduceNe, Int.reduceBEq, Nat.reduceBEq, Int.reduceBNe, Nat.reduceBNe, Int.reduceAdd, Int.reduceSub, Int.reduceMul, Int.reduceNeg]
    exact ⟨H, (AH.le_add (AH.le_add (AH.le_refl _) ((by simp only [fresh_add, fresh_set, ne_eq, hn_b1, not_false_eq_true, and_self] : Fresh _ b1).2)) ((by simp only [fresh_add, fresh_set, ne_eq, hn_b2, not_false_eq_true, and_self] : Fresh _ b2).2)), (by first | exact ⟨by simp [aputv, hg], rfl⟩ | rfl)⟩
  · simp (dsimp := false) (maxSteps := 4000000) only [hn_b1, hr_b1, hn_b2, hr_b2, go_sem, ↓reduceIte, Nat.reduceEqDiff, Nat.reduceLT, Nat.reduceLeDiff, Nat.reduceAdd, Nat.reduceMul, Nat.reduceSub, reduceCtorEq, Int.reduceToNat, Int.reduceLT, Int.reduceLE, Int.reduceEq, Int.reduceNe, Int.reduceBEq, Nat.reduceBEq, Int.reduceBNe, Nat.reduceBNe, Int.reduceAdd, Int.reduceSub, Int.reduceMul, Int.reduceNeg]
    refine ⟨H, (AH.le_add (AH.le_add (AH.le_refl _) ((by simp only [fresh_add, fresh_set, ne_eq, hn_b1, not_false_eq_true, and_self] : Fresh _ b1).2)) ((by simp only [fresh_add, fresh_set, ne_eq, hn_b2, not_false_eq_true, and_self] : Fresh _ b2).2)), ?_, rfl⟩
    rw [or_eq hg]
    simp only [aputv, hg, if_true]
    simp only [agood, decide_eq_true_eq] at hg
    rw [u8_eq (by omega) (by omega)]

end Go.Proofs.YtamlipffhimfmaaDoor

/- ifs: files by their numbers, what a store comes to. -/
namespace Go.Proofs.YtamlipffhimfmaaDoor.Ifs
set_option linter.unusedSimpArgs false
set_option linter.unusedVariables false
open Go Go.AX Go.Proofs Go.Proofs.YtamlipffhimfmaaDoor.File

/-! ### Files by their numbers -/
abbrev Fl := Int × List Rc
abbrev Nf := Int × Fl
instance : DecidableEq Nf := fun a b => decidable_of_iff (a.1 = b.1 ∧ a.2.1 = b.2.1 ∧ a.2.2 = b.2.2) ⟨fun h => by
  obtain ⟨x, y, z⟩ := a
  obtain ⟨x', y', z'⟩ := b
  obtain ⟨h1, h2, h3⟩ := h
  dsimp only at h1 h2 h3
  rw [h1, h2, h3], fun h => by subst h; exact ⟨rfl, rfl, rfl⟩⟩
def lk (n : Int) : List Nf → Option Fl
  | [] => none
  | x :: l => if x.1 = n then some x.2 else lk n l
def Kd (X : List Nf) : Prop := (X.map (·.1)).Nodup
theorem lk_some {n : Int} {f : Fl} : ∀ {X : List Nf}, lk n X = some f → (n, f) ∈ X
  | x :: l, h => by
    rw [lk] at h
    split at h
    · rename_i e; cases h; subst e; exact List.mem_cons_self ..
    · exact List.mem_cons_of_mem _ (lk_some h)
theorem lk_none {n : Int} : ∀ {X : List Nf}, lk n X = none ↔ ∀ x ∈ X, x.1 ≠ n
  | [] => by simp [lk]
  | x :: l => by
    rw [lk]
    split
    · rename_i e; simp [e]
    · rename_i e; simp [e, lk_none (X := l)]
theorem Kd.cons {x : Nf} {X : List Nf} (h : Kd (x :: X)) : Kd X ∧ ∀ y ∈ X, y.1 ≠ x.1 := by
  simp only [Kd, List.map_cons, List.nodup_cons, List.mem_map, not_exists, not_and] at h
  exact ⟨h.2, fun y hy e => h.1 y hy e⟩
theorem lk_mem {n : Int} {f : Fl} : ∀ {X : List Nf}, Kd X → (n, f) ∈ X → lk n X = some f
  | x :: l, hk, h => by
    obtain ⟨h1, h2⟩ := hk.cons
    rw [lk]
    rcases List.mem_cons.1 h with h | h
    · subst h; simp
    · rw [if_neg (fun e => h2 _ h e.symm)]; exact lk_mem h1 h
theorem Kd.perm {X Y : List Nf} (h : X.Perm Y) (hk : Kd X) : Kd Y := (h.map _).nodup_iff.1 hk
theorem lk_perm {X Y : List Nf} (h : X.Perm Y) (hk : Kd X) (n : Int) : lk n X = lk n Y := by
  cases hx : lk n X with
  | some f => exact (lk_mem (hk.perm h) (h.mem_iff.1 (lk_some hx))).symm
  | none => exact (lk_none.2 fun y hy => lk_none.1 hx y (h.mem_iff.2 hy)).symm

def rp (n : Int) (f : Fl) (X : List Nf) : List Nf := X.map fun x => if x.1 = n then (n, f) else x
theorem rp_keys (n : Int) (f : Fl) (X : List Nf) : (rp n f X).map (·.1) = X.map (·.1) := by
  rw [rp, List.map_map]
  apply List.map_congr_left
  intro x _
  simp only [Function.comp]
  split
  · rename_i e; exact e.symm
  · rfl
theorem rp_len (n : Int) (f : Fl) (X : List Nf) : (rp n f X).length = X.length := by simp [rp]
theorem rp_kd {n : Int} {f : Fl} {X : List Nf} (h : Kd X) : Kd (rp n f X) := by unfold Kd; rw [rp_keys]; exact h
theorem rp_perm {n : Int} {f : Fl} {X Y : List Nf} (h : X.Perm Y) : (rp n f X).Perm (rp n f Y) := h.map _
theorem lk_rp (m n : Int) (f : Fl) : ∀ X : List Nf, lk m (rp n f X) = if m = n then (lk n X).map (fun _ => f) else lk m X
  | [] => by simp [rp, lk]
  | x :: l => by
    have ih := lk_rp m n f l
    simp only [rp, List.map_cons] at ih ⊢
    by_cases e : x.1 = n
    · rw [if_pos e]
      by_cases hm : m = n
      · subst hm; simp [lk, e]
      · rw [if_neg hm] at ih
        have e1 : ¬ n = m := fun h => hm h.symm
        have e2 : ¬ x.1 = m := fun h => hm (h.symm.trans e)
        simp only [lk, if_neg hm, if_neg e1, if_neg e2, ih]
    · rw [if_neg e]
      by_cases hm : m = n
      · subst hm
        rw [if_pos rfl] at ih ⊢
        rw [lk, if_neg e, ih, lk, if_neg e]
      · rw [if_neg hm] at ih ⊢
        rw [lk, ih, lk]
theorem rp_mem {n : Int} {f : Fl} {X : List Nf} {x : Nf} (h : x ∈ rp n f X) : x = (n, f) ∧ (∃ g, (n, g) ∈ X) ∨ x ∈ X := by
  obtain ⟨y, hy, he⟩ := List.mem_map.1 h
  split at he
  · rename_i e
    exact .inl ⟨he.symm, y.2, by rw [← e]; exact hy⟩
  · exact .inr (he ▸ hy)

def ins (n : Int) (f : Fl) : List Nf → List Nf
  | [] => [(n, f)]
  | x :: l => if x.1 < n then x :: ins n f l else (n, f) :: x :: l
def Srt (X : List Nf) : Prop := X.Pairwise fun a b => a.1 < b.1
theorem ins_perm (n : Int) (f : Fl) : ∀ X : List Nf, (ins n f X).Perm ((n, f) :: X)
  | [] => .refl _
  | x :: l => by
    rw [ins]
    split
    · exact ((ins_perm n f l).cons x).trans (.swap ..)
    · exact .refl _
theorem ins_mem {n : Int} {f : Fl} {X : List Nf} {x : Nf} : x ∈ ins n f X ↔ x = (n, f) ∨ x ∈ X := by
  rw [(ins_perm n f X).mem_iff, List.mem_cons]
theorem ins_srt {n : Int} {f : Fl} : ∀ {X : List Nf}, Srt X → lk n X = none → Srt (ins n f X)
  | [], _, _ => by simp [Srt, ins]
  | x :: l, h, hn => by
    simp only [Srt, List.pairwise_cons] at h
    have hl := lk_none.1 hn
    rw [ins]
    split
    · rename_i hlt
      have := ins_srt (n := n) (f := f) (X := l) h.2 (lk_none.2 fun y hy => hl y (List.mem_cons_of_mem _ hy))
      simp only [Srt, List.pairwise_cons]
      refine ⟨fun y hy => ?_, this⟩
      rcases ins_mem.1 hy with rfl | hy
      · exact hlt
      · exact h.1 y hy
    · rename_i hge
      have hx := hl x (List.mem_cons_self ..)
      simp only [Srt, List.pairwise_cons]
      refine ⟨fun y hy => ?_, h.1, h.2⟩
      rcases List.mem_cons.1 hy with rfl | hy
      · show n < _; omega
      · have := h.1 y hy
        show n < _; omega
theorem Srt.kd {X : List Nf} (h : Srt X) : Kd X := by
  unfold Kd
  rw [List.Nodup, List.pairwise_map]
  exact h.imp fun hab e => by omega
theorem Srt.uniq : ∀ {X Y : List Nf}, X.Perm Y → Srt X → Srt Y → X = Y
  | [], Y, h, _, _ => (List.nil_perm.1 h).symm
  | x :: X, [], h, _, _ => absurd h.symm (by simp)
  | x :: X, y :: Y, h, hx, hy => by
    simp only [Srt, List.pairwise_cons] at hx hy
    have e : x = y := by
      rcases List.mem_cons.1 (h.mem_iff.1 (List.mem_cons_self ..)) with e | e
      · exact e
      · rcases List.mem_cons.1 (h.mem_iff.2 (List.mem_cons_self ..)) with e2 | e2
        · exact e2.symm
        · have := hx.1 _ e2; have := hy.1 _ e; omega
    subst e
    rw [Srt.uniq (List.Perm.cons_inv h) hx.2 hy.2]
theorem rp_srt {n : Int} {f : Fl} {X : List Nf} (h : Srt X) : Srt (rp n f X) := by
  have : ((rp n f X).map (·.1)).Pairwise (· < ·) := by
    rw [rp_keys, List.pairwise_map]; exact h
  rw [List.pairwise_map] at this
  exact this

/-! ### What a store comes to -/
def addE (X : List Nf) (n : Int) (f : Fl) : Int := if n < 0 ∨ 64 ≤ n then 1 else if goodF f.1 f.2 = false then 2 else if (lk n X).isSome then 10 else 0
def addX (X : List Nf) (n : Int) (f : Fl) : List Nf := if addE X n f = 0 then X ++ [(n, f)] else X
def doE (X : List Nf) (op fl rec : Int) : Int := if agood op fl rec = false then 1 else match lk fl X with | none => 3 | some f => mayF f.1 f.2 op rec
def doF (f : Fl) (op rec : Int) (v : Rc) : Fl := (f.1, doR f.2 op rec.toNat v)
def doW (X : List Nf) (op fl rec : Int) (v : Rc) : Rc := if doE X op fl rec = 0 then match lk fl X with | none => zr | some f => (doR f.2 op rec.toNat v).getD rec.toNat zr else zr
def doX (X : List Nf) (op fl rec : Int) (v : Rc) : List Nf := if doE X op fl rec = 0 then match lk fl X with | none => X | some f => rp fl (doF f op rec v) X else X
def doD (X : List Nf) (op fl rec : Int) (d : Int) : Int := if doE X op fl rec = 5 then IntKind.i64.wrap (d + 1) else d
def getW (X : List Nf) (n rec : Int) : Option Rc := (lk n X).bind fun f => if rec < 0 then none else f.2[rec.toNat]?
def setOk (X : List Nf) (n rec : Int) : Bool := (getW X n rec).isSome && decide (rec ≠ 0)
def setX (X : List Nf) (n rec : Int) (v : Rc) : List Nf := if setOk X n rec = true then match lk n X with | none => X | some f => rp n (f.1, f.2.set rec.toNat v) X else X

/-- What holds of each store's files. -/
structure OkX (X : List Nf) : Prop where
  kd : Kd X
  ok : ∀ x ∈ X, (0 ≤ x.1 ∧ x.1 < 64) ∧ goodF x.2.1 x.2.2 = true ∧ ∀ r ∈ x.2.2, RcOk r
theorem OkX.nil : OkX [] := ⟨by simp [Kd], by simp⟩
theorem OkX.perm {X Y : List Nf} (h : OkX X) (hp : X.Perm Y) : OkX Y := ⟨h.kd.perm hp, fun x hx => h.ok x (hp.mem_iff.2 hx)⟩
theorem OkX.lk {X : List Nf} (h : OkX X) {n : Int} {f : Fl} (hf : lk n X = some f) : (0 ≤ n ∧ n < 64) ∧ goodF f.1 f.2 = true ∧ ∀ r ∈ f.2, RcOk r := h.ok _ (lk_some hf)
theorem goodF_len {p : Int} {R : List Rc} (h : goodF p R = true) : 1 ≤ R.length ∧ R.length ≤ 256 := by
  unfold goodF at h
  split at h
  · cases h
  · simp only [Bool.and_eq_true, decide_eq_true_eq] at h
    simp only [List.length_cons]; omega
theorem goodF_set {p : Int} {R : List Rc} {i : Nat} {v : Rc} (h : goodF p R = true) (hi : i ≠ 0) : goodF p (R.set i v) = true := by
  cases R with
  | nil => exact h
  | cons r l =>
    cases i with
    | zero => exact absurd rfl hi
    | succ i => simpa [goodF] using h
theorem OkX.rp {X : List Nf} (h : OkX X) {n : Int} {f g : Fl} (hf : Ifs.lk n X = some g) (hg : goodF f.1 f.2 = true) (hr : ∀ r ∈ f.2, RcOk r) : OkX (rp n f X) :=
  ⟨rp_kd h.kd, fun x hx => by
    rcases rp_mem hx with ⟨rfl, _⟩ | hx
    · exact ⟨(h.lk hf).1, hg, hr⟩
    · exact h.ok x hx⟩
theorem OkX.app {X : List Nf} (h : OkX X) {n : Int} {f : Fl} (hn : 0 ≤ n ∧ n < 64) (hf : Ifs.lk n X = none) (hg : goodF f.1 f.2 = true) (hr : ∀ r ∈ f.2, RcOk r) : OkX (X ++ [(n, f)]) :=
  OkX.perm (X := (n, f) :: X) ⟨by
    have := lk_none.1 hf
    simp only [Kd, List.map_cons, List.nodup_cons, List.mem_map, not_exists, not_and]
    exact ⟨fun x hx e => this x hx e, h.kd⟩, fun x hx => by
    rcases List.mem_cons.1 hx with rfl | hx
    · exact ⟨hn, hg, hr⟩
    · exact h.ok x hx⟩ (List.perm_append_singleton (n, f) X).symm
theorem OkX.add {X : List Nf} (h : OkX X) (n : Int) (f : Fl) (hr : ∀ r ∈ f.2, RcOk r) : OkX (addX X n f) := by
  unfold addX
  split
  · rename_i e
    unfold addE at e
    split at e
    · cases e
    split at e
    · cases e
    split at e
    · cases e
    rename_i h1 h2 h3
    exact h.app (by omega) (by simpa using h3) (by simpa using h2) hr
  · exact h
theorem OkX.set {X : List Nf} (h : OkX X) (n rec : Int) {v : Rc} (hv : RcOk v) : OkX (setX X n rec v) := by
  unfold setX
  split
  · rename_i e
    simp only [setOk, Bool.and_eq_true, decide_eq_true_eq] at e
    cases hl : Ifs.lk n X with
    | none => exact h
    | some f =>
      obtain ⟨_, h2, h3⟩ := h.lk hl
      have hr : rec.toNat ≠ 0 := by
        have := e.1
        simp only [getW, hl, Option.bind_some] at this
        split at this
        · cases this
        · omega
      refine h.rp hl (goodF_set h2 hr) fun r hr => ?_
      rcases List.mem_or_eq_of_mem_set hr with hr | hr
      · exact h3 r hr
      · subst hr; exact hv
  · exact h
end Go.Proofs.YtamlipffhimfmaaDoor.Ifs

/- From a call over the abstract heap to what a statement asks: true is handed back, the arguments read as_ they did. -/
namespace Go.AX
set_option linter.unusedSimpArgs false
set_option linter.unusedVariables false
open Go Go.RowKit Go.ChangeShapes Go.WideShapes Go.ChangeAt
section
variable {P : Program} {HT : Type} {enc : TypeId × Value → HT}

theorem trodAll_stays (hl : laidOutB P = true) {W W' : World} {sp : Nat → Bool} (hb : Below W.heap.size W W') : ∀ (ts : List TypeId) (vs : List Value) (ds : List (DataW HT)) (ps : List MemPlace),
    (ts.all fun t => P.readableRec t && decide (t < P.types.size)) = true → DataW.TrodAll enc P W 0 (fun _ => true) true ts vs ds ps → (∀ x ∈ ps, x.block < W.heap.size ∧ sp x.block = true) →
    DataW.TrodAll enc P W' 0 sp true ts vs ds ps
  | [], vs, ds, ps, _, h, _ => by
    obtain ⟨rfl, rfl, rfl⟩ := trodAll_nil h
    rfl
  | t :: ts, vs, ds, ps, hr, h, hp => by
    simp only [List.all_cons, Bool.and_eq_true, decide_eq_true_eq] at hr
    obtain ⟨v, vs', d, ds', p, q, rfl, rfl, rfl, h1, h2⟩ := trodAll_cons h
    refine ⟨p, q, WideElems.Trod_stays hl hr.1.1 hr.1.2 h1 (fun x hx => hb.same (hp x (by simp [hx])).1) (fun x hx => (hp x (by simp [hx])).2), ?_, rfl⟩
    exact trodAll_stays hl hb ts vs' ds' q (by simpa using hr.2) h2 (fun x hx => hp x (by simp [hx]))

theorem law_post {f : FuncId} {fn : Func} {s : ChangeSpec} {W : World} {args : Array Value} {ds gs : List (DataW HT)} {before : List MemPlace} {tb : TypeId}
    (hl : laidOutB P = true) (hps : (fn.params.toList.all fun t => P.readableRec t && decide (t < P.types.size)) = true) (hvars : s.vars = []) (hrt : fn.resultTypes = #[tb]) (hb : P.underlying tb = some .bool)
    (hW : DataW.Whole enc P fn.params.toList s.vars false W args.toList ds gs before)
    (hres : (s.fn HT (ds ++ gs)).results = [.lit (.bool true)]) (hargs : (s.fn HT (ds ++ gs)).args = ds) (hvs : (s.fn HT (ds ++ gs)).vars = [])
    (hc : ACalls P f args ⟨W, []⟩ (fun v H' => v = .bool true ∧ H'.w0 = W)) :
    Calls P f args W fun e W' => ∃ v, e = .returned v ∧ s.post enc P fn false true false false W args v W' := by
  refine (hc _ W (Sat.start W)).mono ?_
  rintro e W' ⟨v, H', rfl, hs, rfl, hw⟩
  have hbel : Below W.heap.size W W' := hw ▸ hs.below
  refine ⟨_, rfl, ?_⟩
  have hW0 := hW
  obtain ⟨p, q, hA, hV, rfl, _, _⟩ := hW
  have hq : q = [] := by
    rw [hvars] at hV
    cases gs with
    | nil => exact hV
    | cons g gs => exact hV.elim
  subst hq
  refine ⟨ds, gs, p ++ [], [], p, [], hW0, ?_, ?_, ?_, hbel.frame _, fun h => by cases h⟩
  · rw [hres, hrt]
    exact trodAll_mk1 (shut_bool hb true)
  · rw [hargs]
    exact trodAll_stays hl hbel _ _ _ _ hps hA (fun x hx => by
      have := hW0.lt x (by simp [hx])
      exact ⟨this, by simpa using this⟩)
  · rw [hvars, hvs]; rfl

/-! ### What a typed value is -/
theorem okWide_agg {W : World} {r : Reach} {base : Nat} {t : TypeId} {v : Value} {n : Nat} {e : TypeId} (hu : P.underlying t = some (.array n e)) (h : Value.okWide P W r base t v) : ∃ cs, v = .agg cs ∧ cs.size = P.cellsOf t := by
  simp only [Value.okWide, hu] at h
  obtain ⟨cs, h1, h2, _⟩ := h
  exact ⟨cs, h1, h2⟩

/-- An array of integers, opened. -/
theorem open_arr_int {w : World} {base : Nat} {sp : Nat → Bool} {held : Bool} {r : Reach} {b0 : Nat} {t n e : Nat} {k : IntKind} {v : Value} {d : DataW HT} {ps : List MemPlace}
    (hu : P.underlying t = some (.array n e)) (he : P.underlying e = some (.int k)) (hc : P.cellsOf t = n) (h1 : P.cellsOf e = 1)
    (hv : Value.okWide P w r b0 t v) (h : DataW.Trod enc P w base sp held t v d ps) :
    ∃ ns : List Int, ns.length = n ∧ v = .agg (ns.map (Value.int k)).toArray ∧ ∀ x ∈ ns, (Lit.int k x).wf = true := by
  obtain ⟨cs, rfl, hsz⟩ := okWide_agg hu hv
  obtain ⟨fuel, hf⟩ := h
  replace hf : DataW.trod enc P w base sp held fuel t cs.toList = some (d, ps) := hf
  obtain ⟨xs, m, _, _, hl, hxl, hall⟩ := DataW.trod_array hu hf
  rw [hc] at hl
  have hint : ∀ c ∈ cs.toList, ∃ x, c = .int k x ∧ (Lit.int k x).wf = true := by
    intro c hcm
    obtain ⟨i, hi, rfl⟩ := List.mem_iff_getElem.1 hcm
    have hin : i < n := by omega
    have := hall i hin
    rw [h1, Nat.mul_one] at this
    have hx : xs[i]? = some (xs[i]'(by omega)) := List.getElem?_eq_getElem _
    rw [hx] at this
    obtain ⟨x, e1, _, e3⟩ := DataW.trod_int he this
    refine ⟨x, ?_, e3⟩
    have h2 : (cs.toList.drop i).take 1 = [cs.toList[i]] := by
      rw [List.drop_eq_getElem_cons hi]; rfl
    rw [h2] at e1
    exact (List.cons.inj e1).1
  refine ⟨cs.toList.map (fun c => match c with | .int _ x => x | _ => 0), by simp; simpa using hl, ?_, ?_⟩
  · congr 1
    apply Array.ext'
    simp only [List.map_map]
    symm
    conv => rhs; rw [← List.map_id cs.toList]
    apply List.map_congr_left
    intro c hcm
    obtain ⟨x, rfl, _⟩ := hint c hcm
    rfl
  · intro x hx
    simp only [List.mem_map] at hx
    obtain ⟨c, hcm, rfl⟩ := hx
    obtain ⟨x, rfl, hw⟩ := hint c hcm
    exact hw

/-- An array of bools, opened. -/
theorem open_arr_bool {w : World} {base : Nat} {sp : Nat → Bool} {held : Bool} {r : Reach} {b0 : Nat} {t n e : Nat} {v : Value} {d : DataW HT} {ps : List MemPlace}
    (hu : P.underlying t = some (.array n e)) (he : P.underlying e = some .bool) (hc : P.cellsOf t = n) (h1 : P.cellsOf e = 1)
    (hv : Value.okWide P w r b0 t v) (h : DataW.Trod enc P w base sp held t v d ps) :
    ∃ ns : List Bool, ns.length = n ∧ v = .agg (ns.map Value.bool).toArray := by
  obtain ⟨cs, rfl, hsz⟩ := okWide_agg hu hv
  obtain ⟨fuel, hf⟩ := h
  replace hf : DataW.trod enc P w base sp held fuel t cs.toList = some (d, ps) := hf
  obtain ⟨xs, m, _, _, hl, hxl, hall⟩ := DataW.trod_array hu hf
  rw [hc] at hl
  have hint : ∀ c ∈ cs.toList, ∃ x, c = .bool x := by
    intro c hcm
    obtain ⟨i, hi, rfl⟩ := List.mem_iff_getElem.1 hcm
    have hin : i < n := by omega
    have := hall i hin
    rw [h1, Nat.mul_one] at this
    have hx : xs[i]? = some (xs[i]'(by omega)) := List.getElem?_eq_getElem _
    rw [hx] at this
    obtain ⟨x, e1, _⟩ := DataW.trod_bool he this
    refine ⟨x, ?_⟩
    have h2 : (cs.toList.drop i).take 1 = [cs.toList[i]] := by
      rw [List.drop_eq_getElem_cons hi]; rfl
    rw [h2] at e1
    exact (List.cons.inj e1).1
  refine ⟨cs.toList.map (fun c => match c with | .bool x => x | _ => false), by simp; simpa using hl, ?_⟩
  · congr 1
    apply Array.ext'
    simp only [List.map_map]
    symm
    conv => rhs; rw [← List.map_id cs.toList]
    apply List.map_congr_left
    intro c hcm
    obtain ⟨x, rfl⟩ := hint c hcm
    rfl

/-- The arguments of a row, in abstract words (a program written out must not be unfolded here). -/
theorem okw1 {W : World} {r : Reach} {b t0 : Nat} {v0 : Value} (h : ∀ (j : Nat) t v, (#[t0] : Array Nat)[j]? = some t → (#[v0] : Array Value)[j]? = some v → Value.okWide P W r b t v) : Value.okWide P W r b t0 v0 :=
  h 0 t0 v0 rfl rfl
theorem okw2 {W : World} {r : Reach} {b t0 t1 : Nat} {v0 v1 : Value} (h : ∀ (j : Nat) t v, (#[t0, t1] : Array Nat)[j]? = some t → (#[v0, v1] : Array Value)[j]? = some v → Value.okWide P W r b t v) :
    Value.okWide P W r b t0 v0 ∧ Value.okWide P W r b t1 v1 := ⟨h 0 t0 v0 rfl rfl, h 1 t1 v1 rfl rfl⟩
theorem okw3 {W : World} {r : Reach} {b t0 t1 t2 : Nat} {v0 v1 v2 : Value} (h : ∀ (j : Nat) t v, (#[t0, t1, t2] : Array Nat)[j]? = some t → (#[v0, v1, v2] : Array Value)[j]? = some v → Value.okWide P W r b t v) :
    Value.okWide P W r b t0 v0 ∧ Value.okWide P W r b t1 v1 ∧ Value.okWide P W r b t2 v2 := ⟨h 0 t0 v0 rfl rfl, h 1 t1 v1 rfl rfl, h 2 t2 v2 rfl rfl⟩

theorem okw4 {W : World} {r : Reach} {b t0 t1 t2 t3 : Nat} {v0 v1 v2 v3 : Value} (h : ∀ (j : Nat) t v, (#[t0, t1, t2, t3] : Array Nat)[j]? = some t → (#[v0, v1, v2, v3] : Array Value)[j]? = some v → Value.okWide P W r b t v) :
    Value.okWide P W r b t0 v0 ∧ Value.okWide P W r b t1 v1 ∧ Value.okWide P W r b t2 v2 ∧ Value.okWide P W r b t3 v3 := ⟨h 0 t0 v0 rfl rfl, h 1 t1 v1 rfl rfl, h 2 t2 v2 rfl rfl, h 3 t3 v3 rfl rfl⟩

theorem okw5 {W : World} {r : Reach} {b t0 t1 t2 t3 t4 : Nat} {v0 v1 v2 v3 v4 : Value} (h : ∀ (j : Nat) t v, (#[t0, t1, t2, t3, t4] : Array Nat)[j]? = some t → (#[v0, v1, v2, v3, v4] : Array Value)[j]? = some v → Value.okWide P W r b t v) :
    Value.okWide P W r b t0 v0 ∧ Value.okWide P W r b t1 v1 ∧ Value.okWide P W r b t2 v2 ∧ Value.okWide P W r b t3 v3 ∧ Value.okWide P W r b t4 v4 := ⟨h 0 t0 v0 rfl rfl, h 1 t1 v1 rfl rfl, h 2 t2 v2 rfl rfl, h 3 t3 v3 rfl rfl, h 4 t4 v4 rfl rfl⟩
theorem trodAll_five {w : World} {base : Nat} {spare : Nat → Bool} {held : Bool} {t0 t1 t2 t3 t4 : TypeId} {args : Array Value} {ds : List (DataW HT)} {ps : List MemPlace} (h : DataW.TrodAll enc P w base spare held [t0, t1, t2, t3, t4] args.toList ds ps) :
    ∃ v0 v1 v2 v3 v4 d0 d1 d2 d3 d4 p0 p1 p2 p3 p4, args = #[v0, v1, v2, v3, v4] ∧ ds = [d0, d1, d2, d3, d4] ∧ ps = p0 ++ p1 ++ p2 ++ p3 ++ p4 ∧ DataW.Trod enc P w base spare held t0 v0 d0 p0 ∧ DataW.Trod enc P w base spare held t1 v1 d1 p1 ∧ DataW.Trod enc P w base spare held t2 v2 d2 p2 ∧ DataW.Trod enc P w base spare held t3 v3 d3 p3 ∧ DataW.Trod enc P w base spare held t4 v4 d4 p4 := by
  obtain ⟨v0, vs0, d0, ds0, p0, q0, hargs, rfl, rfl, h0, r0⟩ := trodAll_cons h
  obtain ⟨v1, vs1, d1, ds1, p1, q1, rfl, rfl, rfl, h1, r1⟩ := trodAll_cons r0
  obtain ⟨v2, vs2, d2, ds2, p2, q2, rfl, rfl, rfl, h2, r2⟩ := trodAll_cons r1
  obtain ⟨v3, vs3, d3, ds3, p3, q3, rfl, rfl, rfl, h3, r3⟩ := trodAll_cons r2
  obtain ⟨v4, vs4, d4, ds4, p4, q4, rfl, rfl, rfl, h4, r4⟩ := trodAll_cons r3
  obtain ⟨rfl, rfl, rfl⟩ := trodAll_nil r4
  exact ⟨v0, v1, v2, v3, v4, d0, d1, d2, d3, d4, p0, p1, p2, p3, p4, by cases args; simp_all, rfl, by simp, h0, h1, h2, h3, h4⟩
theorem okw6 {W : World} {r : Reach} {b t0 t1 t2 t3 t4 t5 : Nat} {v0 v1 v2 v3 v4 v5 : Value} (h : ∀ (j : Nat) t v, (#[t0, t1, t2, t3, t4, t5] : Array Nat)[j]? = some t → (#[v0, v1, v2, v3, v4, v5] : Array Value)[j]? = some v → Value.okWide P W r b t v) :
    Value.okWide P W r b t0 v0 ∧ Value.okWide P W r b t1 v1 ∧ Value.okWide P W r b t2 v2 ∧ Value.okWide P W r b t3 v3 ∧ Value.okWide P W r b t4 v4 ∧ Value.okWide P W r b t5 v5 := ⟨h 0 t0 v0 rfl rfl, h 1 t1 v1 rfl rfl, h 2 t2 v2 rfl rfl, h 3 t3 v3 rfl rfl, h 4 t4 v4 rfl rfl, h 5 t5 v5 rfl rfl⟩
theorem trodAll_six {w : World} {base : Nat} {spare : Nat → Bool} {held : Bool} {t0 t1 t2 t3 t4 t5 : TypeId} {args : Array Value} {ds : List (DataW HT)} {ps : List MemPlace} (h : DataW.TrodAll enc P w base spare held [t0, t1, t2, t3, t4, t5] args.toList ds ps) :
    ∃ v0 v1 v2 v3 v4 v5 d0 d1 d2 d3 d4 d5 p0 p1 p2 p3 p4 p5, args = #[v0, v1, v2, v3, v4, v5] ∧ ds = [d0, d1, d2, d3, d4, d5] ∧ ps = p0 ++ p1 ++ p2 ++ p3 ++ p4 ++ p5 ∧ DataW.Trod enc P w base spare held t0 v0 d0 p0 ∧ DataW.Trod enc P w base spare held t1 v1 d1 p1 ∧ DataW.Trod enc P w base spare held t2 v2 d2 p2 ∧ DataW.Trod enc P w base spare held t3 v3 d3 p3 ∧ DataW.Trod enc P w base spare held t4 v4 d4 p4 ∧ DataW.Trod enc P w base spare held t5 v5 d5 p5 := by
  obtain ⟨v0, vs0, d0, ds0, p0, q0, hargs, rfl, rfl, h0, r0⟩ := trodAll_cons h
  obtain ⟨v1, vs1, d1, ds1, p1, q1, rfl, rfl, rfl, h1, r1⟩ := trodAll_cons r0
  obtain ⟨v2, vs2, d2, ds2, p2, q2, rfl, rfl, rfl, h2, r2⟩ := trodAll_cons r1
  obtain ⟨v3, vs3, d3, ds3, p3, q3, rfl, rfl, rfl, h3, r3⟩ := trodAll_cons r2
  obtain ⟨v4, vs4, d4, ds4, p4, q4, rfl, rfl, rfl, h4, r4⟩ := trodAll_cons r3
  obtain ⟨v5, vs5, d5, ds5, p5, q5, rfl, rfl, rfl, h5, r5⟩ := trodAll_cons r4
  obtain ⟨rfl, rfl, rfl⟩ := trodAll_nil r5
  exact ⟨v0, v1, v2, v3, v4, v5, d0, d1, d2, d3, d4, d5, p0, p1, p2, p3, p4, p5, by cases args; simp_all, rfl, by simp, h0, h1, h2, h3, h4, h5⟩
theorem okw7 {W : World} {r : Reach} {b t0 t1 t2 t3 t4 t5 t6 : Nat} {v0 v1 v2 v3 v4 v5 v6 : Value} (h : ∀ (j : Nat) t v, (#[t0, t1, t2, t3, t4, t5, t6] : Array Nat)[j]? = some t → (#[v0, v1, v2, v3, v4, v5, v6] : Array Value)[j]? = some v → Value.okWide P W r b t v) :
    Value.okWide P W r b t0 v0 ∧ Value.okWide P W r b t1 v1 ∧ Value.okWide P W r b t2 v2 ∧ Value.okWide P W r b t3 v3 ∧ Value.okWide P W r b t4 v4 ∧ Value.okWide P W r b t5 v5 ∧ Value.okWide P W r b t6 v6 := ⟨h 0 t0 v0 rfl rfl, h 1 t1 v1 rfl rfl, h 2 t2 v2 rfl rfl, h 3 t3 v3 rfl rfl, h 4 t4 v4 rfl rfl, h 5 t5 v5 rfl rfl, h 6 t6 v6 rfl rfl⟩
theorem trodAll_seven {w : World} {base : Nat} {spare : Nat → Bool} {held : Bool} {t0 t1 t2 t3 t4 t5 t6 : TypeId} {args : Array Value} {ds : List (DataW HT)} {ps : List MemPlace} (h : DataW.TrodAll enc P w base spare held [t0, t1, t2, t3, t4, t5, t6] args.toList ds ps) :
    ∃ v0 v1 v2 v3 v4 v5 v6 d0 d1 d2 d3 d4 d5 d6 p0 p1 p2 p3 p4 p5 p6, args = #[v0, v1, v2, v3, v4, v5, v6] ∧ ds = [d0, d1, d2, d3, d4, d5, d6] ∧ ps = p0 ++ p1 ++ p2 ++ p3 ++ p4 ++ p5 ++ p6 ∧ DataW.Trod enc P w base spare held t0 v0 d0 p0 ∧ DataW.Trod enc P w base spare held t1 v1 d1 p1 ∧ DataW.Trod enc P w base spare held t2 v2 d2 p2 ∧ DataW.Trod enc P w base spare held t3 v3 d3 p3 ∧ DataW.Trod enc P w base spare held t4 v4 d4 p4 ∧ DataW.Trod enc P w base spare held t5 v5 d5 p5 ∧ DataW.Trod enc P w base spare held t6 v6 d6 p6 := by
  obtain ⟨v0, vs0, d0, ds0, p0, q0, hargs, rfl, rfl, h0, r0⟩ := trodAll_cons h
  obtain ⟨v1, vs1, d1, ds1, p1, q1, rfl, rfl, rfl, h1, r1⟩ := trodAll_cons r0
  obtain ⟨v2, vs2, d2, ds2, p2, q2, rfl, rfl, rfl, h2, r2⟩ := trodAll_cons r1
  obtain ⟨v3, vs3, d3, ds3, p3, q3, rfl, rfl, rfl, h3, r3⟩ := trodAll_cons r2
  obtain ⟨v4, vs4, d4, ds4, p4, q4, rfl, rfl, rfl, h4, r4⟩ := trodAll_cons r3
  obtain ⟨v5, vs5, d5, ds5, p5, q5, rfl, rfl, rfl, h5, r5⟩ := trodAll_cons r4
  obtain ⟨v6, vs6, d6, ds6, p6, q6, rfl, rfl, rfl, h6, r6⟩ := trodAll_cons r5
  obtain ⟨rfl, rfl, rfl⟩ := trodAll_nil r6
  exact ⟨v0, v1, v2, v3, v4, v5, v6, d0, d1, d2, d3, d4, d5, d6, p0, p1, p2, p3, p4, p5, p6, by cases args; simp_all, rfl, by simp, h0, h1, h2, h3, h4, h5, h6⟩

/-! ### Rows of one-cell parts -/
/-- The types of a type's cells, where all of them lie side by side. -/
def leafTs (P : Program) : Nat → TypeId → Option (List TypeId)
  | 0, _ => none
  | d + 1, t => match P.underlying t with
    | some (.struct fs) => fs.toList.foldl (fun acc f => acc.bind fun l => if l.length = f.offset then (leafTs P d f.type).bind fun m => if m.length = P.cellsOf f.type then some (l ++ m) else none else none) (some [])
    | some (.array n e) => (leafTs P d e).bind fun m => if m.length = P.cellsOf e then some (List.replicate n m).flatten else none
    | some _ => if P.cellsOf t = 1 then some [t] else none
    | none => none

def Leafy (enc : TypeId × Value → HT) (P : Program) (w : World) (base : Nat) (sp : Nat → Bool) (held : Bool) (ts : List TypeId) (cs : List Value) : Prop :=
  ∀ (i : Nat) (t : TypeId) (c : Value), ts[i]? = some t → cs[i]? = some c → ∃ n y, DataW.trod enc P w base sp held n t [c] = some y

theorem leafy_struct {w : World} {base : Nat} {sp : Nat → Bool} {held : Bool} {d n : Nat} {cs : List Value}
    (ih : ∀ t cs ts x, leafTs P d t = some ts → DataW.trod enc P w base sp held n t cs = some x → cs.length = P.cellsOf t → ts.length = P.cellsOf t → Leafy enc P w base sp held ts cs) :
    ∀ (fs : List Field) (l ts : List TypeId), (∀ f ∈ fs, ∃ x, DataW.trod enc P w base sp held n f.type ((cs.drop f.offset).take (P.cellsOf f.type)) = some x) →
      Leafy enc P w base sp held l cs → fs.foldl (fun acc f => acc.bind fun l => if l.length = f.offset then (leafTs P d f.type).bind fun m => if m.length = P.cellsOf f.type then some (l ++ m) else none else none) (some l) = some ts →
      ts.length ≤ cs.length → Leafy enc P w base sp held ts cs
  | [], l, ts, _, hl, h, _ => by
    simp only [List.foldl_nil, Option.some.injEq] at h; subst h; exact hl
  | f :: fs, l, ts, hf, hl, h, hle => by
    simp only [List.foldl_cons, Option.bind_some] at h
    have none_fold : ∀ (fs : List Field), fs.foldl (fun acc f => acc.bind fun l => if l.length = f.offset then (leafTs P d f.type).bind fun m => if m.length = P.cellsOf f.type then some (l ++ m) else none else none) (none : Option (List TypeId)) = none := by
      intro fs; induction fs with
      | nil => rfl
      | cons f fs ih => simpa using ih
    have len_fold : ∀ (fs : List Field) (l ts : List TypeId), fs.foldl (fun acc f => acc.bind fun l => if l.length = f.offset then (leafTs P d f.type).bind fun m => if m.length = P.cellsOf f.type then some (l ++ m) else none else none) (some l) = some ts → l.length ≤ ts.length := by
      intro fs; induction fs with
      | nil => intro l ts h; simp only [List.foldl_nil, Option.some.injEq] at h; subst h; exact Nat.le_refl _
      | cons f fs ih =>
        intro l ts h
        simp only [List.foldl_cons, Option.bind_some] at h
        split at h
        · cases hm : leafTs P d f.type with
          | none => rw [hm] at h; simp only [Option.bind_none] at h; rw [none_fold] at h; cases h
          | some m =>
            rw [hm] at h
            simp only [Option.bind_some] at h
            split at h
            · have := ih _ _ h; simp at this; omega
            · rw [none_fold] at h; cases h
        · rw [none_fold] at h; cases h
    split at h
    · rename_i ho
      cases hm : leafTs P d f.type with
      | none => rw [hm] at h; simp only [Option.bind_none] at h; rw [none_fold] at h; cases h
      | some m =>
        rw [hm] at h
        simp only [Option.bind_some] at h
        split at h
        · rename_i hml
          have hlen := len_fold _ _ _ h
          simp only [List.length_append] at hlen
          refine leafy_struct ih fs (l ++ m) ts (fun g hg => hf g (by simp [hg])) ?_ h hle
          obtain ⟨x, hx⟩ := hf f (by simp)
          have h1 := ih f.type _ m x hm hx (by simp; omega) hml
          intro i t c ht hc
          by_cases hi : i < l.length
          · rw [List.getElem?_append_left hi] at ht; exact hl i t c ht hc
          · rw [List.getElem?_append_right (by omega)] at ht
            have hi2 : i - l.length < m.length := by
              rcases Nat.lt_or_ge (i - l.length) m.length with h | h
              · exact h
              · rw [List.getElem?_eq_none h] at ht; cases ht
            refine h1 (i - l.length) t c ht ?_
            rw [List.getElem?_take, if_pos (by omega), List.getElem?_drop, show f.offset + (i - l.length) = i from by omega]
            exact hc
        · rw [none_fold] at h; cases h
    · rw [none_fold] at h; cases h

theorem leafy {w : World} {base : Nat} {sp : Nat → Bool} {held : Bool} : ∀ (n d : Nat) (t : TypeId) (cs : List Value) (ts : List TypeId) (x : DataW HT × List MemPlace), leafTs P d t = some ts → DataW.trod enc P w base sp held n t cs = some x →
    cs.length = P.cellsOf t → ts.length = P.cellsOf t → Leafy enc P w base sp held ts cs
  | n, 0, t, cs, ts, x, h, _, _, _ => by cases h
  | 0, d + 1, t, cs, ts, x, _, hx, _, _ => by simp [DataW.trod] at hx
  | n + 1, d + 1, t, cs, ts, x, h, hx, hl, hlt => by
    simp only [leafTs] at h
    split at h
    · rename_i fs hu
      obtain ⟨xs, n', hn, _, _, hxl, hf⟩ := DataW.trod_struct hu hx
      have hn' : n' = n := by omega
      subst hn'
      refine leafy_struct (fun t cs ts x h1 h2 h3 h4 => leafy n' d t cs ts x h1 h2 h3 h4) fs.toList [] ts (fun f hf' => ?_) (fun i t c h => by simp at h) h (by omega)
      obtain ⟨i, hi⟩ := List.mem_iff_getElem?.1 hf'
      have hi' : fs[i]? = some f := by simpa using hi
      have hlt : i < xs.length := by
        rw [hxl]
        rcases Nat.lt_or_ge i fs.size with h | h
        · exact h
        · rw [Array.getElem?_eq_none h] at hi'; cases hi'
      exact ⟨xs[i], by rw [hf i f hi']; exact List.getElem?_eq_getElem hlt⟩
    · rename_i m e hu
      obtain ⟨l, hle, h⟩ := Option.bind_eq_some_iff.1 h
      split at h
      · rename_i hll
        cases h
        unfold DataW.trod at hx
        simp only [hu] at hx
        rw [if_pos hl] at hx
        obtain ⟨xs, hxs, _⟩ := Option.map_eq_some_iff.1 hx
        have hel : ∀ j, j < m → ∃ y, DataW.trod enc P w base sp held n e ((cs.drop (j * P.cellsOf e)).take (P.cellsOf e)) = some y := fun j hj => by
          have hl' := mapM_some_length hxs
          have hg := mapM_some_get hxs j j (by simp [hj])
          have hlt : j < xs.length := by rw [hl']; simpa using hj
          exact ⟨xs[j], by rw [hg]; exact List.getElem?_eq_getElem hlt⟩
        intro i t c ht hc
        have hflat : ∀ (m i : Nat) (t : TypeId), (List.replicate m l).flatten[i]? = some t → ∃ j k, j < m ∧ k < l.length ∧ i = j * l.length + k ∧ l[k]? = some t := by
          intro m
          induction m with
          | zero => intro i t h; simp at h
          | succ m ih =>
            intro i t h
            rw [List.replicate_succ, List.flatten_cons] at h
            by_cases hi : i < l.length
            · rw [List.getElem?_append_left hi] at h; exact ⟨0, i, by omega, hi, by simp, h⟩
            · rw [List.getElem?_append_right (by omega)] at h
              obtain ⟨j, k, h1, h2, h3, h4⟩ := ih _ _ h
              exact ⟨j + 1, k, by omega, h2, by rw [Nat.succ_mul]; omega, h4⟩
        obtain ⟨j, k, h1, h2, h3, h4⟩ := hflat m i t ht
        obtain ⟨y, hy⟩ := hel j h1
        have hlen : (List.replicate m l).flatten.length = m * l.length := by simp
        have hle2 : (j + 1) * l.length ≤ m * l.length := Nat.mul_le_mul_right _ (by omega)
        rw [Nat.succ_mul] at hle2
        have hcs : cs.length = m * l.length := by rw [hl, ← hlt, hlen]
        refine leafy n d e _ l y hle hy (by rw [List.length_take, List.length_drop, ← hll]; omega) hll k t c h4 ?_
        rw [List.getElem?_take, if_pos (by omega), List.getElem?_drop, ← hll, ← h3]; exact hc
      · cases h
    · rename_i u hns hna hu
      split at h
      · rename_i h1
        cases h
        intro i t' c ht hc
        have hi : i = 0 := by
          rcases i with _ | i
          · rfl
          · simp at ht
        subst hi
        simp at ht; subst ht
        rw [h1] at hl
        match cs, hl with
        | [c0], _ => simp at hc; subst hc; exact ⟨_, _, hx⟩
      · cases h
    · cases h

/-- A slice among the arguments, or in a field of one, by its rows. -/
theorem open_slcC {w : World} {r : Reach} {b0 t e sz : Nat} {v : Value} {y : DataW HT × List MemPlace} {sp : Nat → Bool} {held : Bool} {ts : List TypeId} (hu : P.underlying t = some (.slice e)) (hz : P.cellsOf e = sz) (h0 : sz ≠ 0)
    (hl : leafTs P 20 e = some ts) (hts : ts.length = sz) (h1 : Cell.okWide P w r b0 t v) (h : ∃ fuel, DataW.trod enc P w 0 sp held fuel t [v] = some y) :
    ∃ base n cap R, v = .slice base n cap ∧ R.length = n ∧ SlcIn ⟨w, []⟩ sz base cap R ∧ ∀ (i : Nat) (r : List Value), R[i]? = some r → r.length = sz ∧ Leafy enc P w 0 sp held ts r := by
  obtain ⟨d, ps⟩ := y
  have hc : Cell.ok P w r b0 t v := by
    unfold Cell.okWide at h1
    rw [hu] at h1
    exact h1
  have hform : v = .slice none 0 0 ∨ ∃ a len cap, v = .slice (some a) len cap ∧ a.spot = none ∧ (cap : Int) ≤ IntKind.i64.max ∧ ∃ s, w.shape? a.block = some s := by
    unfold Cell.ok at hc
    rw [hu] at hc
    split at hc <;> simp_all [World.has]
    obtain ⟨q1, q2, q3, q4, row, cells, q5, q6⟩ := hc
    exact ⟨_, _, _, ⟨rfl, rfl, rfl⟩, q4, q2, _, _, q5⟩
  obtain ⟨fuel, h⟩ := h
  rcases hform with rfl | ⟨a, len, cap, rfl, hsp, hcap, shp, hshp⟩
  · exact ⟨none, 0, 0, [], rfl, rfl, ⟨by simp, by simp, fun i hi => by simp at hi, fun b o hb => (by cases hb), fun b o hb => (by cases hb)⟩, fun i r hr => by simp at hr⟩
  · rcases Go.Deep.open_slice hu h with ⟨h1, _⟩ | ⟨a', len', cap', m, n, D, Pl, h1, hb, hle, hm, hmm, _, hx⟩
    · have h2 : (Value.slice (some a) len cap) = .slice none 0 0 := by
        have : [Value.slice (some a) len cap] = [.slice none 0 0] := h1
        simp at this
      cases h2
    · have h2 : (Value.slice (some a) len cap) = .slice (some a') len' cap' := by
        have : [Value.slice (some a) len cap] = [.slice (some a') len' cap'] := h1
        simpa using this
      cases h2
      obtain ⟨b, o, spot⟩ := a
      simp only at hsp
      subst hsp
      have hlm : len ≤ m := by rw [hmm]; split <;> omega
      obtain ⟨f, hf⟩ := Go.Deep.choose_lt (n := len) (p := fun i cs' => w.cells? 0 ((⟨b, o, none⟩ : Addr).add (i * P.cellsOf e)) (P.cellsOf e) = some cs' ∧ ∃ x, DataW.trod enc P w 0 sp held n e cs' = some x)
        (fun i hi => by obtain ⟨cs', h3, h4⟩ := hx i (by omega); exact ⟨cs', h3, _, h4⟩)
      have hcell : ∀ i, i < len → (f i).length = sz ∧ ∀ j, j < sz → w.cell? ⟨b, o + (i * sz + j), none⟩ = (f i)[j]? := fun i hi => by
        obtain ⟨h3, _⟩ := hf i hi
        rw [hz] at h3
        obtain ⟨_, hlen, hcell⟩ := World.cells?_some h3
        refine ⟨hlen, fun j hj => ?_⟩
        have := hcell j hj
        rw [Go.Deep.add_add, Go.AX.add_plain] at this
        exact this
      have hrow : ∀ (i : Nat) (r : List Value), ((List.range len).map f)[i]? = some r → i < len ∧ r = f i := fun i r hr => by
        rw [List.getElem?_map] at hr
        obtain ⟨j, hj, rfl⟩ := Option.map_eq_some_iff.1 hr
        have hi : i < len := by
          rcases Nat.lt_or_ge i len with h | h
          · exact h
          · rw [List.getElem?_eq_none (by simpa using h)] at hj; cases hj
        rw [List.getElem?_range hi] at hj
        cases hj; exact ⟨hi, rfl⟩
      have hlt : ∀ {off : Nat} {c : Value}, w.cell? ⟨b, off, none⟩ = some c → b < w.heap.size := fun {off c} hcc => by
        unfold World.cell? at hcc
        rcases Nat.lt_or_ge b w.heap.size with h | h
        · exact h
        · simp only at hcc; rw [Array.getElem?_eq_none h] at hcc; cases hcc
      refine ⟨some ⟨b, o, none⟩, len, cap, (List.range len).map f, rfl, by simp, ⟨by simpa using hle, by simp [IntKind.max, IntKind.signed, IntKind.bits] at hcap ⊢; omega, fun _ _ => ⟨b, o, rfl⟩, ?_, ?_⟩, ?_⟩
      · intro b' o' hb' i j r c hr hc
        cases hb'
        obtain ⟨hi, rfl⟩ := hrow i r hr
        obtain ⟨q1, q2⟩ := hcell i hi
        have hj : j < sz := by
          rw [← q1]
          rcases Nat.lt_or_ge j (f i).length with h | h
          · exact h
          · rw [List.getElem?_eq_none h] at hc; cases hc
        have := q2 j hj
        rw [hc] at this
        show (if b < w.heap.size then w.cell? ⟨b, o + (i * sz + j), none⟩ else none) = some c
        rw [if_pos (hlt this)]; exact this
      · intro b' o' hb' i r hr
        cases hb'
        obtain ⟨hi, rfl⟩ := hrow i r hr
        obtain ⟨q1, q2⟩ := hcell i hi
        have hbr := baseRow_of (w := w) (b := b) (f i) (o + i * sz) (fun j hj => by rw [show o + i * sz + j = o + (i * sz + j) from by omega]; exact q2 j (by omega))
        have h00 := q2 0 (by omega)
        have hb2 : b < w.heap.size := hlt (h00.trans (List.getElem?_eq_getElem (by omega)))
        show (if b < w.heap.size then baseRow w b (o + i * sz) sz else none) = some (f i)
        rw [if_pos hb2]
        rw [q1] at hbr; exact hbr
      · intro i r hr
        obtain ⟨hi, rfl⟩ := hrow i r hr
        obtain ⟨q1, q2⟩ := hcell i hi
        obtain ⟨_, x, hx'⟩ := hf i hi
        exact ⟨q1, leafy n 20 e (f i) ts x hl hx' (by rw [q1, hz]) (by rw [hts, hz])⟩
/-- A slice that is trodden, by its rows: an empty one may lie anywhere. -/
theorem open_slcT {w : World} {t e sz : Nat} {v : Value} {y : DataW HT × List MemPlace} {sp : Nat → Bool} {held : Bool} {ts : List TypeId} (hu : P.underlying t = some (.slice e)) (hz : P.cellsOf e = sz) (h0 : sz ≠ 0)
    (hl : leafTs P 20 e = some ts) (hts : ts.length = sz) (h : ∃ fuel, DataW.trod enc P w 0 sp held fuel t [v] = some y) :
    ∃ base n cap R, v = .slice base n cap ∧ R.length = n ∧ SlcIn ⟨w, []⟩ sz base cap R ∧ ∀ (i : Nat) (r : List Value), R[i]? = some r → r.length = sz ∧ Leafy enc P w 0 sp held ts r := by
  obtain ⟨d, ps⟩ := y
  obtain ⟨fuel, h⟩ := h
  rcases Go.Deep.open_slice hu h with ⟨h1, _⟩ | ⟨a, len, cap, m, n, D, Pl, h1, hb, hle, hm, hmm, _, hx⟩
  · cases h1
    exact ⟨none, 0, 0, [], rfl, rfl, ⟨by simp, by simp, fun i hi => by simp at hi, fun b o hb => (by cases hb), fun b o hb => (by cases hb)⟩, fun i r hr => by simp at hr⟩
  · cases h1
    have hcap : cap < 9223372036854775808 := by
      have : maxLen < 9223372036854775808 := by decide
      omega
    by_cases hlen : len = 0
    · subst hlen
      exact ⟨some a, 0, cap, [], rfl, rfl, ⟨by simp, by simp, fun i hi => by simp at hi, fun b o _ i j r c h1 _ => by simp at h1, fun b o _ i r h1 => by simp at h1⟩, fun i r hr => by simp at hr⟩
    · obtain ⟨b, o, spot⟩ := a
      have hsp : spot = none := by
        obtain ⟨cs', h3, _⟩ := hx 0 (by rw [hmm]; split <;> omega)
        rw [hz] at h3
        obtain ⟨_, hlen', hcell⟩ := World.cells?_some h3
        have h4 := hcell 0 (by omega)
        cases spot with
        | none => rfl
        | some q =>
          rw [List.getElem?_eq_getElem (by omega)] at h4
          simp only [Nat.zero_mul] at h4
          unfold World.cell? at h4
          split at h4
          · have : ((Addr.add (Addr.add ⟨b, o, some q⟩ 0) 0).spot.isSome) = true := rfl
            rw [this] at h4; simp at h4
          · cases h4
      subst hsp
      have hlm : len ≤ m := by rw [hmm]; split <;> omega
      obtain ⟨f, hf⟩ := Go.Deep.choose_lt (n := len) (p := fun i cs' => w.cells? 0 ((⟨b, o, none⟩ : Addr).add (i * P.cellsOf e)) (P.cellsOf e) = some cs' ∧ ∃ x, DataW.trod enc P w 0 sp held n e cs' = some x)
        (fun i hi => by obtain ⟨cs', h3, h4⟩ := hx i (by omega); exact ⟨cs', h3, _, h4⟩)
      have hcell : ∀ i, i < len → (f i).length = sz ∧ ∀ j, j < sz → w.cell? ⟨b, o + (i * sz + j), none⟩ = (f i)[j]? := fun i hi => by
        obtain ⟨h3, _⟩ := hf i hi
        rw [hz] at h3
        obtain ⟨_, hlen, hcell⟩ := World.cells?_some h3
        refine ⟨hlen, fun j hj => ?_⟩
        have := hcell j hj
        rw [Go.Deep.add_add, Go.AX.add_plain] at this
        exact this
      have hrow : ∀ (i : Nat) (r : List Value), ((List.range len).map f)[i]? = some r → i < len ∧ r = f i := fun i r hr => by
        rw [List.getElem?_map] at hr
        obtain ⟨j, hj, rfl⟩ := Option.map_eq_some_iff.1 hr
        have hi : i < len := by
          rcases Nat.lt_or_ge i len with h | h
          · exact h
          · rw [List.getElem?_eq_none (by simpa using h)] at hj; cases hj
        rw [List.getElem?_range hi] at hj
        cases hj; exact ⟨hi, rfl⟩
      have hlt : ∀ {off : Nat} {c : Value}, w.cell? ⟨b, off, none⟩ = some c → b < w.heap.size := fun {off c} hcc => by
        unfold World.cell? at hcc
        rcases Nat.lt_or_ge b w.heap.size with h | h
        · exact h
        · simp only at hcc; rw [Array.getElem?_eq_none h] at hcc; cases hcc
      refine ⟨some ⟨b, o, none⟩, len, cap, (List.range len).map f, rfl, by simp, ⟨by simpa using hle, by simp only [List.length_map, List.length_range]; omega, fun _ _ => ⟨b, o, rfl⟩, ?_, ?_⟩, ?_⟩
      · intro b' o' hb' i j r c hr hc
        cases hb'
        obtain ⟨hi, rfl⟩ := hrow i r hr
        obtain ⟨q1, q2⟩ := hcell i hi
        have hj : j < sz := by
          rw [← q1]
          rcases Nat.lt_or_ge j (f i).length with h | h
          · exact h
          · rw [List.getElem?_eq_none h] at hc; cases hc
        have := q2 j hj
        rw [hc] at this
        show (if b < w.heap.size then w.cell? ⟨b, o + (i * sz + j), none⟩ else none) = some c
        rw [if_pos (hlt this)]; exact this
      · intro b' o' hb' i r hr
        cases hb'
        obtain ⟨hi, rfl⟩ := hrow i r hr
        obtain ⟨q1, q2⟩ := hcell i hi
        have hbr := baseRow_of (w := w) (b := b) (f i) (o + i * sz) (fun j hj => by rw [show o + i * sz + j = o + (i * sz + j) from by omega]; exact q2 j (by omega))
        have h00 := q2 0 (by omega)
        have hb2 : b < w.heap.size := hlt (h00.trans (List.getElem?_eq_getElem (by omega)))
        show (if b < w.heap.size then baseRow w b (o + i * sz) sz else none) = some (f i)
        rw [if_pos hb2]
        rw [q1] at hbr; exact hbr
      · intro i r hr
        obtain ⟨hi, rfl⟩ := hrow i r hr
        obtain ⟨q1, q2⟩ := hcell i hi
        obtain ⟨_, x, hx'⟩ := hf i hi
        exact ⟨q1, leafy n 20 e (f i) ts x hl hx' (by rw [q1, hz]) (by rw [hts, hz])⟩
theorem cell_slc {w : World} {r : Reach} {b0 t e : Nat} {v : Value} (hu : P.underlying t = some (.slice e)) (hv : Value.okWide P w r b0 t v) : Cell.okWide P w r b0 t v := by
  simp only [Value.okWide, hu] at hv
  exact hv
theorem cells_slc {w : World} {r : Reach} {b0 t e : Nat} {v : Value} (hu : P.underlying t = some (.slice e)) (hv : Cell.okWide P w r b0 t v) : v.cells.toList = [v] := by
  unfold Cell.okWide at hv
  rw [hu] at hv
  unfold Cell.ok at hv
  rw [hu] at hv
  cases v <;> first | rfl | simp at hv
/-- A slice among the arguments, by its rows. -/
theorem open_slc {w : World} {r : Reach} {b0 t e sz : Nat} {v : Value} {d : DataW HT} {ps : List MemPlace} {sp : Nat → Bool} {held : Bool} {ts : List TypeId} (hu : P.underlying t = some (.slice e)) (hz : P.cellsOf e = sz) (h0 : sz ≠ 0)
    (hl : leafTs P 20 e = some ts) (hts : ts.length = sz) (hv : Value.okWide P w r b0 t v) (h : DataW.Trod enc P w 0 sp held t v d ps) :
    ∃ base n cap R, v = .slice base n cap ∧ R.length = n ∧ SlcIn ⟨w, []⟩ sz base cap R ∧ ∀ (i : Nat) (r : List Value), R[i]? = some r → r.length = sz ∧ Leafy enc P w 0 sp held ts r := by
  obtain ⟨fuel, h⟩ := h
  rw [cells_slc hu (cell_slc hu hv)] at h
  exact open_slcC hu hz h0 hl hts (cell_slc hu hv) ⟨fuel, h⟩
/-- A struct among the arguments, by its cells. -/
theorem open_flat {w : World} {r : Reach} {b0 t sz : Nat} {fs : Array Field} {v : Value} {d : DataW HT} {ps : List MemPlace} {sp : Nat → Bool} {held : Bool} {ts : List TypeId} (hs : P.underlying t = some (.struct fs)) (hz : P.cellsOf t = sz)
    (hl : leafTs P 20 t = some ts) (hts : ts.length = sz) (hv : Value.okWide P w r b0 t v) (h : DataW.Trod enc P w 0 sp held t v d ps) :
    ∃ cs : List Value, v = .agg cs.toArray ∧ cs.length = sz ∧ Leafy enc P w 0 sp held ts cs := by
  obtain ⟨cs, rfl, hsz⟩ := Go.WideShapes.okWide_struct hs hv
  obtain ⟨fuel, h⟩ := h
  exact ⟨cs.toList, by simp, by simp [hsz, hz], leafy fuel 20 t cs.toList ts _ hl h (by simp [hsz]) (by rw [hts, hz])⟩
/-- A field of one cell of a struct among the arguments. -/
theorem okw_cell {w : World} {r : Reach} {b0 t u i : Nat} {fs : Array Field} {cs : Array Value} {v : Value} {ts : List TypeId} (hs : P.underlying t = some (.struct fs)) (hv : Value.okWide P w r b0 t (.agg cs)) (hts : P.cellTypes P.depth t = some ts) (hu : ts[i]? = some u) (hi : cs[i]? = some v) : Cell.okWide P w r b0 u v := by
  simp only [Value.okWide, hs] at hv
  obtain ⟨cs', h1, h2, ts', h3, h4, h5⟩ := hv
  cases h1
  rw [hts] at h3; cases h3
  obtain ⟨u', h6, h7⟩ := h5 i v hi
  have hlt : i < ts.length := by
    rcases Nat.lt_or_ge i ts.length with h | h
    · exact h
    · rw [List.getElem?_eq_none h] at hu; cases hu
  rw [Nat.mod_eq_of_lt hlt, hu] at h6
  cases h6; exact h7

theorem list6 {α : Type} {l : List α} (h : l.length = 6) : ∃ x0 x1 x2 x3 x4 x5, l = [x0, x1, x2, x3, x4, x5] := by
  match l, h with
  | [x0, x1, x2, x3, x4, x5], _ => exact ⟨x0, x1, x2, x3, x4, x5, rfl⟩
theorem list7 {α : Type} {l : List α} (h : l.length = 7) : ∃ x0 x1 x2 x3 x4 x5 x6, l = [x0, x1, x2, x3, x4, x5, x6] := by
  match l, h with
  | [x0, x1, x2, x3, x4, x5, x6], _ => exact ⟨x0, x1, x2, x3, x4, x5, x6, rfl⟩
theorem list8 {α : Type} {l : List α} (h : l.length = 8) : ∃ x0 x1 x2 x3 x4 x5 x6 x7, l = [x0, x1, x2, x3, x4, x5, x6, x7] := by
  match l, h with
  | [x0, x1, x2, x3, x4, x5, x6, x7], _ => exact ⟨x0, x1, x2, x3, x4, x5, x6, x7, rfl⟩
theorem list9 {α : Type} {l : List α} (h : l.length = 9) : ∃ x0 x1 x2 x3 x4 x5 x6 x7 x8, l = [x0, x1, x2, x3, x4, x5, x6, x7, x8] := by
  match l, h with
  | [x0, x1, x2, x3, x4, x5, x6, x7, x8], _ => exact ⟨x0, x1, x2, x3, x4, x5, x6, x7, x8, rfl⟩
theorem list10 {α : Type} {l : List α} (h : l.length = 10) : ∃ x0 x1 x2 x3 x4 x5 x6 x7 x8 x9, l = [x0, x1, x2, x3, x4, x5, x6, x7, x8, x9] := by
  match l, h with
  | [x0, x1, x2, x3, x4, x5, x6, x7, x8, x9], _ => exact ⟨x0, x1, x2, x3, x4, x5, x6, x7, x8, x9, rfl⟩
theorem list11 {α : Type} {l : List α} (h : l.length = 11) : ∃ x0 x1 x2 x3 x4 x5 x6 x7 x8 x9 x10, l = [x0, x1, x2, x3, x4, x5, x6, x7, x8, x9, x10] := by
  match l, h with
  | [x0, x1, x2, x3, x4, x5, x6, x7, x8, x9, x10], _ => exact ⟨x0, x1, x2, x3, x4, x5, x6, x7, x8, x9, x10, rfl⟩
theorem list12 {α : Type} {l : List α} (h : l.length = 12) : ∃ x0 x1 x2 x3 x4 x5 x6 x7 x8 x9 x10 x11, l = [x0, x1, x2, x3, x4, x5, x6, x7, x8, x9, x10, x11] := by
  match l, h with
  | [x0, x1, x2, x3, x4, x5, x6, x7, x8, x9, x10, x11], _ => exact ⟨x0, x1, x2, x3, x4, x5, x6, x7, x8, x9, x10, x11, rfl⟩
theorem list13 {α : Type} {l : List α} (h : l.length = 13) : ∃ x0 x1 x2 x3 x4 x5 x6 x7 x8 x9 x10 x11 x12, l = [x0, x1, x2, x3, x4, x5, x6, x7, x8, x9, x10, x11, x12] := by
  match l, h with
  | [x0, x1, x2, x3, x4, x5, x6, x7, x8, x9, x10, x11, x12], _ => exact ⟨x0, x1, x2, x3, x4, x5, x6, x7, x8, x9, x10, x11, x12, rfl⟩
theorem list14 {α : Type} {l : List α} (h : l.length = 14) : ∃ x0 x1 x2 x3 x4 x5 x6 x7 x8 x9 x10 x11 x12 x13, l = [x0, x1, x2, x3, x4, x5, x6, x7, x8, x9, x10, x11, x12, x13] := by
  match l, h with
  | [x0, x1, x2, x3, x4, x5, x6, x7, x8, x9, x10, x11, x12, x13], _ => exact ⟨x0, x1, x2, x3, x4, x5, x6, x7, x8, x9, x10, x11, x12, x13, rfl⟩
theorem list15 {α : Type} {l : List α} (h : l.length = 15) : ∃ x0 x1 x2 x3 x4 x5 x6 x7 x8 x9 x10 x11 x12 x13 x14, l = [x0, x1, x2, x3, x4, x5, x6, x7, x8, x9, x10, x11, x12, x13, x14] := by
  match l, h with
  | [x0, x1, x2, x3, x4, x5, x6, x7, x8, x9, x10, x11, x12, x13, x14], _ => exact ⟨x0, x1, x2, x3, x4, x5, x6, x7, x8, x9, x10, x11, x12, x13, x14, rfl⟩
theorem list16 {α : Type} {l : List α} (h : l.length = 16) : ∃ x0 x1 x2 x3 x4 x5 x6 x7 x8 x9 x10 x11 x12 x13 x14 x15, l = [x0, x1, x2, x3, x4, x5, x6, x7, x8, x9, x10, x11, x12, x13, x14, x15] := by
  match l, h with
  | [x0, x1, x2, x3, x4, x5, x6, x7, x8, x9, x10, x11, x12, x13, x14, x15], _ => exact ⟨x0, x1, x2, x3, x4, x5, x6, x7, x8, x9, x10, x11, x12, x13, x14, x15, rfl⟩
theorem list17 {α : Type} {l : List α} (h : l.length = 17) : ∃ x0 x1 x2 x3 x4 x5 x6 x7 x8 x9 x10 x11 x12 x13 x14 x15 x16, l = [x0, x1, x2, x3, x4, x5, x6, x7, x8, x9, x10, x11, x12, x13, x14, x15, x16] := by
  match l, h with
  | [x0, x1, x2, x3, x4, x5, x6, x7, x8, x9, x10, x11, x12, x13, x14, x15, x16], _ => exact ⟨x0, x1, x2, x3, x4, x5, x6, x7, x8, x9, x10, x11, x12, x13, x14, x15, x16, rfl⟩
theorem list18 {α : Type} {l : List α} (h : l.length = 18) : ∃ x0 x1 x2 x3 x4 x5 x6 x7 x8 x9 x10 x11 x12 x13 x14 x15 x16 x17, l = [x0, x1, x2, x3, x4, x5, x6, x7, x8, x9, x10, x11, x12, x13, x14, x15, x16, x17] := by
  match l, h with
  | [x0, x1, x2, x3, x4, x5, x6, x7, x8, x9, x10, x11, x12, x13, x14, x15, x16, x17], _ => exact ⟨x0, x1, x2, x3, x4, x5, x6, x7, x8, x9, x10, x11, x12, x13, x14, x15, x16, x17, rfl⟩
theorem list19 {α : Type} {l : List α} (h : l.length = 19) : ∃ x0 x1 x2 x3 x4 x5 x6 x7 x8 x9 x10 x11 x12 x13 x14 x15 x16 x17 x18, l = [x0, x1, x2, x3, x4, x5, x6, x7, x8, x9, x10, x11, x12, x13, x14, x15, x16, x17, x18] := by
  match l, h with
  | [x0, x1, x2, x3, x4, x5, x6, x7, x8, x9, x10, x11, x12, x13, x14, x15, x16, x17, x18], _ => exact ⟨x0, x1, x2, x3, x4, x5, x6, x7, x8, x9, x10, x11, x12, x13, x14, x15, x16, x17, x18, rfl⟩
theorem list20 {α : Type} {l : List α} (h : l.length = 20) : ∃ x0 x1 x2 x3 x4 x5 x6 x7 x8 x9 x10 x11 x12 x13 x14 x15 x16 x17 x18 x19, l = [x0, x1, x2, x3, x4, x5, x6, x7, x8, x9, x10, x11, x12, x13, x14, x15, x16, x17, x18, x19] := by
  match l, h with
  | [x0, x1, x2, x3, x4, x5, x6, x7, x8, x9, x10, x11, x12, x13, x14, x15, x16, x17, x18, x19], _ => exact ⟨x0, x1, x2, x3, x4, x5, x6, x7, x8, x9, x10, x11, x12, x13, x14, x15, x16, x17, x18, x19, rfl⟩
theorem list21 {α : Type} {l : List α} (h : l.length = 21) : ∃ x0 x1 x2 x3 x4 x5 x6 x7 x8 x9 x10 x11 x12 x13 x14 x15 x16 x17 x18 x19 x20, l = [x0, x1, x2, x3, x4, x5, x6, x7, x8, x9, x10, x11, x12, x13, x14, x15, x16, x17, x18, x19, x20] := by
  match l, h with
  | [x0, x1, x2, x3, x4, x5, x6, x7, x8, x9, x10, x11, x12, x13, x14, x15, x16, x17, x18, x19, x20], _ => exact ⟨x0, x1, x2, x3, x4, x5, x6, x7, x8, x9, x10, x11, x12, x13, x14, x15, x16, x17, x18, x19, x20, rfl⟩
theorem list22 {α : Type} {l : List α} (h : l.length = 22) : ∃ x0 x1 x2 x3 x4 x5 x6 x7 x8 x9 x10 x11 x12 x13 x14 x15 x16 x17 x18 x19 x20 x21, l = [x0, x1, x2, x3, x4, x5, x6, x7, x8, x9, x10, x11, x12, x13, x14, x15, x16, x17, x18, x19, x20, x21] := by
  match l, h with
  | [x0, x1, x2, x3, x4, x5, x6, x7, x8, x9, x10, x11, x12, x13, x14, x15, x16, x17, x18, x19, x20, x21], _ => exact ⟨x0, x1, x2, x3, x4, x5, x6, x7, x8, x9, x10, x11, x12, x13, x14, x15, x16, x17, x18, x19, x20, x21, rfl⟩
theorem list23 {α : Type} {l : List α} (h : l.length = 23) : ∃ x0 x1 x2 x3 x4 x5 x6 x7 x8 x9 x10 x11 x12 x13 x14 x15 x16 x17 x18 x19 x20 x21 x22, l = [x0, x1, x2, x3, x4, x5, x6, x7, x8, x9, x10, x11, x12, x13, x14, x15, x16, x17, x18, x19, x20, x21, x22] := by
  match l, h with
  | [x0, x1, x2, x3, x4, x5, x6, x7, x8, x9, x10, x11, x12, x13, x14, x15, x16, x17, x18, x19, x20, x21, x22], _ => exact ⟨x0, x1, x2, x3, x4, x5, x6, x7, x8, x9, x10, x11, x12, x13, x14, x15, x16, x17, x18, x19, x20, x21, x22, rfl⟩
theorem list24 {α : Type} {l : List α} (h : l.length = 24) : ∃ x0 x1 x2 x3 x4 x5 x6 x7 x8 x9 x10 x11 x12 x13 x14 x15 x16 x17 x18 x19 x20 x21 x22 x23, l = [x0, x1, x2, x3, x4, x5, x6, x7, x8, x9, x10, x11, x12, x13, x14, x15, x16, x17, x18, x19, x20, x21, x22, x23] := by
  match l, h with
  | [x0, x1, x2, x3, x4, x5, x6, x7, x8, x9, x10, x11, x12, x13, x14, x15, x16, x17, x18, x19, x20, x21, x22, x23], _ => exact ⟨x0, x1, x2, x3, x4, x5, x6, x7, x8, x9, x10, x11, x12, x13, x14, x15, x16, x17, x18, x19, x20, x21, x22, x23, rfl⟩
theorem list1 {α : Type} {l : List α} (h : l.length = 1) : ∃ x0, l = [x0] := by
  match l, h with
  | [x0], _ => exact ⟨x0, rfl⟩
theorem list2 {α : Type} {l : List α} (h : l.length = 2) : ∃ x0 x1, l = [x0, x1] := by
  match l, h with
  | [x0, x1], _ => exact ⟨x0, x1, rfl⟩
theorem list3 {α : Type} {l : List α} (h : l.length = 3) : ∃ x0 x1 x2, l = [x0, x1, x2] := by
  match l, h with
  | [x0, x1, x2], _ => exact ⟨x0, x1, x2, rfl⟩
theorem list4 {α : Type} {l : List α} (h : l.length = 4) : ∃ x0 x1 x2 x3, l = [x0, x1, x2, x3] := by
  match l, h with
  | [x0, x1, x2, x3], _ => exact ⟨x0, x1, x2, x3, rfl⟩
theorem list5 {α : Type} {l : List α} (h : l.length = 5) : ∃ x0 x1 x2 x3 x4, l = [x0, x1, x2, x3, x4] := by
  match l, h with
  | [x0, x1, x2, x3, x4], _ => exact ⟨x0, x1, x2, x3, x4, rfl⟩

end
end Go.AX
