/- Declarations cut out of other texts of mine. -/
import Derived.Test.YtapfabjmooagaaaTy
import Derived.Test.YtapfabjmooagaaaAx20
namespace Go.Proofs.Ytapfabjmooagaaa.Tck
set_option linter.unusedSimpArgs false
set_option linter.unusedVariables false
open Go Go.AX Go.Proofs Ty
set_option maxHeartbeats 4000000
set_option maxRecDepth 10000

structure Stp where
  at_ : Int
  rate : Int
def enc (s : Stp) : List Value := [.int .i64 s.at_, .int .i64 s.rate]
def okS (last : Int) (s : Stp) : Bool := decide (last < s.at_) && decide (s.at_ ≤ 4294967296) && decide (-20000 ≤ s.rate) && decide (s.rate ≤ 20000)
def goodR (last : Int) : List Stp → Bool
  | [] => true
  | s :: l => okS last s && goodR s.at_ l
def good (L : List Stp) : Bool := decide (L.length ≤ 64) && goodR (-1) L
theorem drop_cons {α : Type} {L : List α} {i : Nat} {s : α} (h : L[i]? = some s) : L.drop i = s :: L.drop (i + 1) := by
  have hi : i < L.length := by
    rcases Nat.lt_or_ge i L.length with h' | h'
    · exact h'
    · rw [List.getElem?_eq_none h'] at h; cases h
  rw [List.drop_eq_getElem_cons hi]
  rw [List.getElem?_eq_getElem hi] at h
  cases h; rfl
theorem okS_bad {last : Int} {s : Stp} (h : s.at_ ≤ last ∨ 4294967296 < s.at_ ∨ s.rate < -20000 ∨ 20000 < s.rate) : okS last s = false := by
  cases hk : okS last s with
  | false => rfl
  | true => simp only [okS, Bool.and_eq_true, decide_eq_true_eq] at hk; omega
theorem okS_ok {last : Int} {s : Stp} (h : last < s.at_ ∧ s.at_ ≤ 4294967296 ∧ -20000 ≤ s.rate ∧ s.rate ≤ 20000) : okS last s = true := by
  simp only [okS, Bool.and_eq_true, decide_eq_true_eq]; omega
theorem good_bad {L l : List Stp} {last : Int} {s : Stp} (hg : goodR (-1) L = goodR last (s :: l)) (h : s.at_ ≤ last ∨ 4294967296 < s.at_ ∨ s.rate < -20000 ∨ 20000 < s.rate) : good L = false := by
  unfold good; rw [hg]; simp only [goodR, okS_bad h, Bool.false_and, Bool.and_false]
theorem good_end {L : List Stp} {last : Int} (hg : goodR (-1) L = goodR last []) : good L = decide (L.length ≤ 64) := by
  unfold good; rw [hg]; simp only [goodR, Bool.and_true]
/-- The time of the step ahead of the i-th one. -/
def lastAt (L : List Stp) : Nat → Int
  | 0 => -1
  | i + 1 => match L[i]? with
    | some s => s.at_
    | none => -1
theorem RefGood_c (L : List Stp) (base : Option Addr) (cap : Nat) (H : AH) (hs : SlcIn H 2 base cap (L.map enc)) :
    ACalls Try.prog 7 #[.slice base L.length cap] H (fun v H' => v = .bool (good L) ∧ H = H') := by
  have hle := hs.le
  have hbig := hs.big
  simp only [List.length_map] at hle hbig
  refine ACalls.enter2 Try.func7 rfl Try.ntmps7 Try.results7 (by simp) ?_; simp (dsimp := false) (maxSteps := 4000000) only [go_sem, ↓reduceIte, Nat.reduceEqDiff, Nat.reduceLT, Nat.reduceLeDiff, Nat.reduceAdd, Nat.reduceMul, Nat.reduceSub, reduceCtorEq, Int.reduceToNat, Int.reduceLT, Int.reduceLE, Int.reduceEq, Int.reduceNe, Int.reduceBEq, Nat.reduceBEq, Int.reduceBNe, Nat.reduceBNe, Int.reduceAdd, Int.reduceSub, Int.reduceMul, Int.reduceNeg]
  refine AWp.loopo (ι := Nat) (fun i => i ≤ L.length ∧ goodR (-1) L = goodR (lastAt L i) (L.drop i) ∧ -1 ≤ lastAt L i ∧ (0 < i → 0 ≤ lastAt L i)) (fun i => [(3, .int .i64 i), (0, .slice base L.length cap)])
    (fun _ => H) (fun i => L.length - i) 0 ⟨by simp, rfl, by simp [lastAt], by omega⟩ (FrLe.of_lks ?_) (AH.le_refl _) fun i hi Q again out => ?_
  · simp (dsimp := false) (maxSteps := 4000000) only [go_sem, ↓reduceIte, Nat.reduceEqDiff, Nat.reduceLT, Nat.reduceLeDiff, Nat.reduceAdd, Nat.reduceMul, Nat.reduceSub, reduceCtorEq, Int.reduceToNat, Int.reduceLT, Int.reduceLE, Int.reduceEq, Int.reduceNe, Int.reduceBEq, Nat.reduceBEq, Int.reduceBNe, Nat.reduceBNe, Int.reduceAdd, Int.reduceSub, Int.reduceMul, Int.reduceNeg]
  · obtain ⟨hi, hg, hl1, hl2⟩ := hi
    by_cases h : (i : Int) < L.length
    · obtain ⟨s, hx⟩ := get_some (l := L) (i := i) (by omega)
      obtain ⟨b, o, rfl, hrow, hrd⟩ := hs.get (map_get (f := enc) hx)
      have r0 := hrd 0 _ rfl
      have r1 := hrd 1 _ rfl
      rw [Nat.add_zero] at r0
      have e1 := i64_succ (i := i) (by omega)
      rw [drop_cons hx] at hg
      by_cases c0 : s.at_ < 0
      · simp (dsimp := false) (maxSteps := 4000000) only [h, r0, r1, c0, go_sem, ↓reduceIte, Nat.reduceEqDiff, Nat.reduceLT, Nat.reduceLeDiff, Nat.reduceAdd, Nat.reduceMul, Nat.reduceSub, reduceCtorEq, Int.reduceToNat, Int.reduceLT, Int.reduceLE, Int.reduceEq, Int.reduceNe, Int.reduceBEq, Nat.reduceBEq, Int.reduceBNe, Nat.reduceBNe, Int.reduceAdd, Int.reduceSub, Int.reduceMul, Int.reduceNeg]
        refine out _ _ _ (by simp) ?_
        simp (dsimp := false) (maxSteps := 4000000) only [go_sem, ↓reduceIte, Nat.reduceEqDiff, Nat.reduceLT, Nat.reduceLeDiff, Nat.reduceAdd, Nat.reduceMul, Nat.reduceSub, reduceCtorEq, Int.reduceToNat, Int.reduceLT, Int.reduceLE, Int.reduceEq, Int.reduceNe, Int.reduceBEq, Nat.reduceBEq, Int.reduceBNe, Nat.reduceBNe, Int.reduceAdd, Int.reduceSub, Int.reduceMul, Int.reduceNeg]
        exact ⟨H, (AH.le_refl _), (by first | exact ⟨by rw [good_bad hg (by omega)], rfl⟩ | rfl)⟩
      by_cases c2 : 4294967296 < s.at_
      · simp (dsimp := false) (maxSteps := 4000000) only [h, r0, r1, c0, c2, go_sem, ↓reduceIte, Nat.reduceEqDiff, Nat.reduceLT, Nat.reduceLeDiff, Nat.reduceAdd, Nat.reduceMul, Nat.reduceSub, reduceCtorEq, Int.reduceToNat, Int.reduceLT, Int.reduceLE, Int.reduceEq, Int.reduceNe, Int.reduceBEq, Nat.reduceBEq, Int.reduceBNe, Nat.reduceBNe, Int.reduceAdd, Int.reduceSub, Int.reduceMul, Int.reduceNeg]
        refine out _ _ _ (by simp) ?_
        simp (dsimp := false) (maxSteps := 4000000) only [go_sem, ↓reduceIte, Nat.reduceEqDiff, Nat.reduceLT, Nat.reduceLeDiff, Nat.reduceAdd, Nat.reduceMul, Nat.reduceSub, reduceCtorEq, Int.reduceToNat, Int.reduceLT, Int.reduceLE, Int.reduceEq, Int.reduceNe, Int.reduceBEq, Nat.reduceBEq, Int.reduceBNe, Nat.reduceBNe, Int.reduceAdd, Int.reduceSub, Int.reduceMul, Int.reduceNeg]
        exact ⟨H, (AH.le_refl _), (by first | exact ⟨by rw [good_bad hg (by omega)], rfl⟩ | rfl)⟩
      by_cases c4 : 20000 < s.rate
      · simp (dsimp := false) (maxSteps := 4000000) only [h, r0, r1, c0, c2, c4, go_sem, ↓reduceIte, Nat.reduceEqDiff, Nat.reduceLT, Nat.reduceLeDiff, Nat.reduceAdd, Nat.reduceMul, Nat.reduceSub, reduceCtorEq, Int.reduceToNat, Int.reduceLT, Int.reduceLE, Int.reduceEq, Int.reduceNe, Int.reduceBEq, Nat.reduceBEq, Int.reduceBNe, Nat.reduceBNe, Int.reduceAdd, Int.reduceSub, Int.reduceMul, Int.reduceNeg]
        refine out _ _ _ (by simp) ?_
        simp (dsimp := false) (maxSteps := 4000000) only [go_sem, ↓reduceIte, Nat.reduceEqDiff, Nat.reduceLT, Nat.reduceLeDiff, Nat.reduceAdd, Nat.reduceMul, Nat.reduceSub, reduceCtorEq, Int.reduceToNat, Int.reduceLT, Int.reduceLE, Int.reduceEq, Int.reduceNe, Int.reduceBEq, Nat.reduceBEq, Int.reduceBNe, Nat.reduceBNe, Int.reduceAdd, Int.reduceSub, Int.reduceMul, Int.reduceNeg]
        exact ⟨H, (AH.le_refl _), (by first | exact ⟨by rw [good_bad hg (by omega)], rfl⟩ | rfl)⟩
      by_cases c3 : s.rate < -20000
      · simp (dsimp := false) (maxSteps := 4000000) only [h, r0, r1, c0, c2, c4, c3, go_sem, ↓reduceIte, Nat.reduceEqDiff, Nat.reduceLT, Nat.reduceLeDiff, Nat.reduceAdd, Nat.reduceMul, Nat.reduceSub, reduceCtorEq, Int.reduceToNat, Int.reduceLT, Int.reduceLE, Int.reduceEq, Int.reduceNe, Int.reduceBEq, Nat.reduceBEq, Int.reduceBNe, Nat.reduceBNe, Int.reduceAdd, Int.reduceSub, Int.reduceMul, Int.reduceNeg]
        refine out _ _ _ (by simp) ?_
        simp (dsimp := false) (maxSteps := 4000000) only [go_sem, ↓reduceIte, Nat.reduceEqDiff, Nat.reduceLT, Nat.reduceLeDiff, Nat.reduceAdd, Nat.reduceMul, Nat.reduceSub, reduceCtorEq, Int.reduceToNat, Int.reduceLT, Int.reduceLE, Int.reduceEq, Int.reduceNe, Int.reduceBEq, Nat.reduceBEq, Int.reduceBNe, Nat.reduceBNe, Int.reduceAdd, Int.reduceSub, Int.reduceMul, Int.reduceNeg]
        exact ⟨H, (AH.le_refl _), (by first | exact ⟨by rw [good_bad hg (by omega)], rfl⟩ | rfl)⟩
      simp (dsimp := false) (maxSteps := 4000000) only [h, r0, r1, c0, c2, c4, c3, go_sem, ↓reduceIte, Nat.reduceEqDiff, Nat.reduceLT, Nat.reduceLeDiff, Nat.reduceAdd, Nat.reduceMul, Nat.reduceSub, reduceCtorEq, Int.reduceToNat, Int.reduceLT, Int.reduceLE, Int.reduceEq, Int.reduceNe, Int.reduceBEq, Nat.reduceBEq, Int.reduceBNe, Nat.reduceBNe, Int.reduceAdd, Int.reduceSub, Int.reduceMul, Int.reduceNeg]
      refine AWp.quiet mixed (by kernel_rfl) ?_
      have hnext : lastAt L (i + 1) = s.at_ := by simp only [lastAt, hx]
      cases i with
      | zero =>
        simp (dsimp := false) (maxSteps := 4000000) only [h, r0, r1, c0, c2, c4, c3, e1, go_sem, ↓reduceIte, Nat.reduceEqDiff, Nat.reduceLT, Nat.reduceLeDiff, Nat.reduceAdd, Nat.reduceMul, Nat.reduceSub, reduceCtorEq, Int.reduceToNat, Int.reduceLT, Int.reduceLE, Int.reduceEq, Int.reduceNe, Int.reduceBEq, Nat.reduceBEq, Int.reduceBNe, Nat.reduceBNe, Int.reduceAdd, Int.reduceSub, Int.reduceMul, Int.reduceNeg]
        refine again 1 _ _ ⟨by omega, ?_, by rw [hnext]; omega, fun _ => by rw [hnext]; omega⟩ (FrLe.of_lks (by simp (dsimp := false) (maxSteps := 4000000) only [go_sem, ↓reduceIte, Nat.reduceEqDiff, Nat.reduceLT, Nat.reduceLeDiff, Nat.reduceAdd, Nat.reduceMul, Nat.reduceSub, reduceCtorEq, Int.reduceToNat, Int.reduceLT, Int.reduceLE, Int.reduceEq, Int.reduceNe, Int.reduceBEq, Nat.reduceBEq, Int.reduceBNe, Nat.reduceBNe, Int.reduceAdd, Int.reduceSub, Int.reduceMul, Int.reduceNeg] <;> rfl)) (AH.le_refl _) (by omega)
        rw [hg, hnext]; simp only [goodR, okS_ok (last := lastAt L 0) (s := s) (by simp only [lastAt]; omega), Bool.true_and]
      | succ i =>
        obtain ⟨s', hx'⟩ := get_some (l := L) (i := i) (by omega)
        obtain ⟨b', o', hb', hrow', hrd'⟩ := hs.get (map_get (f := enc) hx')
        cases hb'
        have q0 := hrd' 0 _ rfl
        rw [Nat.add_zero] at q0
        have hpos : (0 : Int) < ((i + 1 : Nat) : Int) := by omega
        have hlast : lastAt L (i + 1) = s'.at_ := by simp only [lastAt, hx']
        have e2 : IntKind.i64.wrap (((i + 1 : Nat) : Int) - 1) = (i : Int) := by rw [i64_eq (by omega) (by omega)]; omega
        have hlt : (i : Int) < L.length := by omega
        rw [hlast] at hg
        by_cases c1 : s.at_ ≤ s'.at_
        · simp (dsimp := false) (maxSteps := 4000000) only [h, r0, r1, hpos, e2, hlt, q0, c1, go_sem, ↓reduceIte, Nat.reduceEqDiff, Nat.reduceLT, Nat.reduceLeDiff, Nat.reduceAdd, Nat.reduceMul, Nat.reduceSub, reduceCtorEq, Int.reduceToNat, Int.reduceLT, Int.reduceLE, Int.reduceEq, Int.reduceNe, Int.reduceBEq, Nat.reduceBEq, Int.reduceBNe, Nat.reduceBNe, Int.reduceAdd, Int.reduceSub, Int.reduceMul, Int.reduceNeg]
          refine out _ _ _ (by simp) ?_
          simp (dsimp := false) (maxSteps := 4000000) only [go_sem, ↓reduceIte, Nat.reduceEqDiff, Nat.reduceLT, Nat.reduceLeDiff, Nat.reduceAdd, Nat.reduceMul, Nat.reduceSub, reduceCtorEq, Int.reduceToNat, Int.reduceLT, Int.reduceLE, Int.reduceEq, Int.reduceNe, Int.reduceBEq, Nat.reduceBEq, Int.reduceBNe, Nat.reduceBNe, Int.reduceAdd, Int.reduceSub, Int.reduceMul, Int.reduceNeg]
          exact ⟨H, (AH.le_refl _), (by first | exact ⟨by rw [good_bad hg (by omega)], rfl⟩ | rfl)⟩
        · simp (dsimp := false) (maxSteps := 4000000) only [h, r0, r1, hpos, e2, hlt, q0, c1, e1, go_sem, ↓reduceIte, Nat.reduceEqDiff, Nat.reduceLT, Nat.reduceLeDiff, Nat.reduceAdd, Nat.reduceMul, Nat.reduceSub, reduceCtorEq, Int.reduceToNat, Int.reduceLT, Int.reduceLE, Int.reduceEq, Int.reduceNe, Int.reduceBEq, Nat.reduceBEq, Int.reduceBNe, Nat.reduceBNe, Int.reduceAdd, Int.reduceSub, Int.reduceMul, Int.reduceNeg]
          refine again (i + 1 + 1) _ _ ⟨by omega, ?_, by rw [hnext]; omega, fun _ => by rw [hnext]; omega⟩ (FrLe.of_lks (by simp (dsimp := false) (maxSteps := 4000000) only [e1, go_sem, ↓reduceIte, Nat.reduceEqDiff, Nat.reduceLT, Nat.reduceLeDiff, Nat.reduceAdd, Nat.reduceMul, Nat.reduceSub, reduceCtorEq, Int.reduceToNat, Int.reduceLT, Int.reduceLE, Int.reduceEq, Int.reduceNe, Int.reduceBEq, Nat.reduceBEq, Int.reduceBNe, Nat.reduceBNe, Int.reduceAdd, Int.reduceSub, Int.reduceMul, Int.reduceNeg])) (AH.le_refl _) (by omega)
          rw [hg, hnext]; simp only [goodR, okS_ok (last := s'.at_) (s := s) (by omega), Bool.true_and]
    · have hiL : i = L.length := by omega
      rw [hiL, List.drop_length] at hg
      simp (dsimp := false) (maxSteps := 4000000) only [h, go_sem, ↓reduceIte, Nat.reduceEqDiff, Nat.reduceLT, Nat.reduceLeDiff, Nat.reduceAdd, Nat.reduceMul, Nat.reduceSub, reduceCtorEq, Int.reduceToNat, Int.reduceLT, Int.reduceLE, Int.reduceEq, Int.reduceNe, Int.reduceBEq, Nat.reduceBEq, Int.reduceBNe, Nat.reduceBNe, Int.reduceAdd, Int.reduceSub, Int.reduceMul, Int.reduceNeg]
      refine out _ _ _ (by simp) ?_
      simp (dsimp := false) (maxSteps := 4000000) only [go_sem, ↓reduceIte, Nat.reduceEqDiff, Nat.reduceLT, Nat.reduceLeDiff, Nat.reduceAdd, Nat.reduceMul, Nat.reduceSub, reduceCtorEq, Int.reduceToNat, Int.reduceLT, Int.reduceLE, Int.reduceEq, Int.reduceNe, Int.reduceBEq, Nat.reduceBEq, Int.reduceBNe, Nat.reduceBNe, Int.reduceAdd, Int.reduceSub, Int.reduceMul, Int.reduceNeg]
      refine ⟨H, AH.le_refl _, ?_, rfl⟩
      rw [good_end hg]
      congr 1; congr 1
      exact propext ⟨fun h => by omega, fun h => by omega⟩
def toOf (t : Int) : List Stp → Int
  | [] => t
  | s :: _ => if s.at_ < t then s.at_ else t
def pos (x : Int) : Int := if 0 > x then 0 else x
def sumT (t : Int) : List Stp → Int
  | [] => 0
  | s :: l => pos (toOf t l - s.at_) * s.rate + sumT t l
def clamp (t : Int) : Int := pos (if 4294967296 < t then 4294967296 else t)
def localv (L : List Stp) (t : Int) : Int := (clamp t * 1000000 + sumT (clamp t) L).tdiv 1000000
theorem clamp_ge (t : Int) : 0 ≤ clamp t := by unfold clamp pos; split <;> omega
theorem clamp_le (t : Int) : clamp t ≤ 4294967296 := by unfold clamp pos; split <;> split <;> omega
theorem toOf_le (t : Int) (l : List Stp) : toOf t l ≤ t := by cases l <;> simp only [toOf] <;> (try split) <;> omega
theorem pos_ge (x : Int) : 0 ≤ pos x := by unfold pos; split <;> omega
theorem pos_le {x y : Int} (h : x ≤ y) (hy : 0 ≤ y) : pos x ≤ y := by unfold pos; split <;> omega
theorem goodR_cons {last : Int} {s : Stp} {l : List Stp} (h : goodR last (s :: l) = true) : last < s.at_ ∧ s.at_ ≤ 4294967296 ∧ -20000 ≤ s.rate ∧ s.rate ≤ 20000 ∧ goodR s.at_ l = true := by
  simp only [goodR, okS, Bool.and_eq_true, decide_eq_true_eq] at h
  exact ⟨h.1.1.1.1, h.1.1.1.2, h.1.1.2, h.1.2, h.2⟩
theorem term_bound {x r : Int} (h0 : 0 ≤ x) (h1 : x ≤ 4294967296) (h2 : -20000 ≤ r) (h3 : r ≤ 20000) : -85899345920000 ≤ x * r ∧ x * r ≤ 85899345920000 := by
  have a := Int.mul_le_mul_of_nonneg_left h3 h0
  have b := Int.mul_le_mul_of_nonneg_left h2 h0
  omega
theorem posd (x : Int) : (if 0 > x then 0 else x) = pos x := rfl
theorem parts_c (L : List Stp) (t : Int) (ht0 : 0 ≤ t) (ht1 : t ≤ 4294967296) (hg : good L = true) (base : Option Addr) (cap : Nat) (H : AH) (hs : SlcIn H 2 base cap (L.map enc)) :
    ACalls Try.prog 37 #[.slice base L.length cap, .int .i64 t] H (fun v H' => v = .int .i64 (t * 1000000 + sumT t L) ∧ H = H') := by
  simp only [good, Bool.and_eq_true, decide_eq_true_eq] at hg
  obtain ⟨h64, hg⟩ := hg
  have e0 : IntKind.i64.wrap (t * 1000000) = t * 1000000 := i64_eq (by omega) (by omega)
  refine ACalls.enter2 Try.func37 rfl Try.ntmps37 Try.results37 (by simp) ?_; simp (dsimp := false) (maxSteps := 4000000) only [e0, go_sem, ↓reduceIte, Nat.reduceEqDiff, Nat.reduceLT, Nat.reduceLeDiff, Nat.reduceAdd, Nat.reduceMul, Nat.reduceSub, reduceCtorEq, Int.reduceToNat, Int.reduceLT, Int.reduceLE, Int.reduceEq, Int.reduceNe, Int.reduceBEq, Nat.reduceBEq, Int.reduceBNe, Nat.reduceBNe, Int.reduceAdd, Int.reduceSub, Int.reduceMul, Int.reduceNeg]
  refine AWp.loopo (ι := Nat × Int × Int) (fun p => p.1 ≤ L.length ∧ t * 1000000 + sumT t L = p.2.1 + sumT t (L.drop p.1) ∧ goodR p.2.2 (L.drop p.1) = true ∧ -1 ≤ p.2.2 ∧ -(p.1 * 85899345920000) ≤ p.2.1 - t * 1000000 ∧ p.2.1 - t * 1000000 ≤ p.1 * 85899345920000)
    (fun p => [(13, .int .i64 p.1), (5, .int .i64 p.2.1), (12, .int .i64 L.length), (11, .slice base L.length cap), (0, .slice base L.length cap), (1, .int .i64 t)])
    (fun _ => H) (fun p => L.length - p.1) (0, t * 1000000, -1) ⟨by simp, by simp, by simpa using hg, by simp, by simp, by simp⟩ (FrLe.of_lks ?_) (AH.le_refl _) fun p hi Q again out => ?_
  · simp (dsimp := false) (maxSteps := 4000000) only [e0, go_sem, ↓reduceIte, Nat.reduceEqDiff, Nat.reduceLT, Nat.reduceLeDiff, Nat.reduceAdd, Nat.reduceMul, Nat.reduceSub, reduceCtorEq, Int.reduceToNat, Int.reduceLT, Int.reduceLE, Int.reduceEq, Int.reduceNe, Int.reduceBEq, Nat.reduceBEq, Int.reduceBNe, Nat.reduceBNe, Int.reduceAdd, Int.reduceSub, Int.reduceMul, Int.reduceNeg]
  · obtain ⟨i, n, last⟩ := p
    obtain ⟨hi, hn, hg, hl, b1_, b2_⟩ := hi
    simp only at hi hn hg hl b1_ b2_ ⊢
    by_cases h : (i : Int) < L.length
    · obtain ⟨s, hx⟩ := get_some (l := L) (i := i) (by omega)
      obtain ⟨b, o, rfl, hrow, hrd⟩ := hs.get (map_get (f := enc) hx)
      have e1 := i64_succ (i := i) (by omega)
      rw [drop_cons hx] at hn hg
      obtain ⟨g1, g2, g3, g4, g5⟩ := goodR_cons hg
      unfold enc at hrow
      
      simp (dsimp := false) (maxSteps := 4000000) only [h, hrow, e0, go_sem, ↓reduceIte, Nat.reduceEqDiff, Nat.reduceLT, Nat.reduceLeDiff, Nat.reduceAdd, Nat.reduceMul, Nat.reduceSub, reduceCtorEq, Int.reduceToNat, Int.reduceLT, Int.reduceLE, Int.reduceEq, Int.reduceNe, Int.reduceBEq, Nat.reduceBEq, Int.reduceBNe, Nat.reduceBNe, Int.reduceAdd, Int.reduceSub, Int.reduceMul, Int.reduceNeg]
      refine AllB.mk fun b1 h_b1 => ?_; have hn_b1 := h_b1; (try simp only [fresh_add, fresh_set, ne_eq] at hn_b1); have hr_b1 := hn_b1; (try simp only [@eq_comm Nat b1] at hr_b1); simp (dsimp := false) (maxSteps := 4000000) only [e0, hn_b1, hr_b1, go_sem, ↓reduceIte, Nat.reduceEqDiff, Nat.reduceLT, Nat.reduceLeDiff, Nat.reduceAdd, Nat.reduceMul, Nat.reduceSub, reduceCtorEq, Int.reduceToNat, Int.reduceLT, Int.reduceLE, Int.reduceEq, Int.reduceNe, Int.reduceBEq, Nat.reduceBEq, Int.reduceBNe, Nat.reduceBNe, Int.reduceAdd, Int.reduceSub, Int.reduceMul, Int.reduceNeg]
      simp only [sumT] at hn
      have hto := toOf_le t (L.drop (i + 1))
      have hp0 := pos_ge (toOf t (L.drop (i + 1)) - s.at_)
      have hp1 : pos (toOf t (L.drop (i + 1)) - s.at_) ≤ 4294967296 := pos_le (by omega) (by omega)
      have htb := term_bound hp0 hp1 g3 g4
      have fin : ∀ to, to = toOf t (L.drop (i + 1)) → IntKind.i64.wrap (to - s.at_) = to - s.at_ ∧ IntKind.i64.wrap (pos (to - s.at_) * s.rate) = pos (to - s.at_) * s.rate ∧ IntKind.i64.wrap (n + pos (to - s.at_) * s.rate) = n + pos (to - s.at_) * s.rate := fun to hto' => by
        have : -1 ≤ to := by
          rw [hto']
          cases hd : L.drop (i + 1) with
          | nil => simp only [toOf]; omega
          | cons s' l' =>
            rw [hd] at g5
            have := (goodR_cons g5).1
            simp only [toOf]; split <;> omega
        rw [← hto'] at htb hto
        have hi64 : (i : Int) ≤ 63 := by omega
        exact ⟨i64_eq (by omega) (by omega), i64_eq (by omega) (by omega), i64_eq (by omega) (by omega)⟩
      by_cases h1 : ((i + 1 : Nat) : Int) < L.length
      · obtain ⟨s', hx'⟩ := get_some (l := L) (i := i + 1) (by omega)
        obtain ⟨b', o', hb', hrow', hrd'⟩ := hs.get (map_get (f := enc) hx')
        cases hb'
        have q0 := hrd' 0 _ rfl
        rw [Nat.add_zero] at q0
        have q1 := rd_mono (k := .cells [.int .i64 s.at_, .int .i64 s.rate] 38 2) h_b1 q0
        obtain ⟨f1, f2, f3⟩ := fin (if s'.at_ < t then s'.at_ else t) (by rw [drop_cons hx']; rfl)
        simp (dsimp := false) (maxSteps := 4000000) only [e1, h1, q1, f1, posd, f2, f3, e0, hn_b1, hr_b1, go_sem, ↓reduceIte, Nat.reduceEqDiff, Nat.reduceLT, Nat.reduceLeDiff, Nat.reduceAdd, Nat.reduceMul, Nat.reduceSub, reduceCtorEq, Int.reduceToNat, Int.reduceLT, Int.reduceLE, Int.reduceEq, Int.reduceNe, Int.reduceBEq, Nat.reduceBEq, Int.reduceBNe, Nat.reduceBNe, Int.reduceAdd, Int.reduceSub, Int.reduceMul, Int.reduceNeg]
        refine again (i + 1, n + pos (toOf t (L.drop (i + 1)) - s.at_) * s.rate, s.at_) _ _ ⟨by simp only; omega, by simp only; omega, g5, by simp only; omega, by simp only; omega, by simp only; omega⟩ (FrLe.of_lks (by rw [drop_cons hx']; simp (dsimp := false) (maxSteps := 4000000) only [toOf, e0, hn_b1, hr_b1, go_sem, ↓reduceIte, Nat.reduceEqDiff, Nat.reduceLT, Nat.reduceLeDiff, Nat.reduceAdd, Nat.reduceMul, Nat.reduceSub, reduceCtorEq, Int.reduceToNat, Int.reduceLT, Int.reduceLE, Int.reduceEq, Int.reduceNe, Int.reduceBEq, Nat.reduceBEq, Int.reduceBNe, Nat.reduceBNe, Int.reduceAdd, Int.reduceSub, Int.reduceMul, Int.reduceNeg])) (AH.le_add (AH.le_refl _) ((by simp only [fresh_add, fresh_set, ne_eq, hn_b1, not_false_eq_true, and_self] : Fresh _ b1).2)) (by simp only; omega)
      · have hd : L.drop (i + 1) = [] := List.drop_eq_nil_of_le (by omega)
        obtain ⟨f1, f2, f3⟩ := fin t (by rw [hd]; rfl)
        simp (dsimp := false) (maxSteps := 4000000) only [e1, h1, f1, posd, f2, f3, e0, hn_b1, hr_b1, go_sem, ↓reduceIte, Nat.reduceEqDiff, Nat.reduceLT, Nat.reduceLeDiff, Nat.reduceAdd, Nat.reduceMul, Nat.reduceSub, reduceCtorEq, Int.reduceToNat, Int.reduceLT, Int.reduceLE, Int.reduceEq, Int.reduceNe, Int.reduceBEq, Nat.reduceBEq, Int.reduceBNe, Nat.reduceBNe, Int.reduceAdd, Int.reduceSub, Int.reduceMul, Int.reduceNeg]
        refine again (i + 1, n + pos (toOf t (L.drop (i + 1)) - s.at_) * s.rate, s.at_) _ _ ⟨by simp only; omega, by simp only; omega, g5, by simp only; omega, by simp only; omega, by simp only; omega⟩ (FrLe.of_lks (by rw [hd]; simp (dsimp := false) (maxSteps := 4000000) only [toOf, e0, hn_b1, hr_b1, go_sem, ↓reduceIte, Nat.reduceEqDiff, Nat.reduceLT, Nat.reduceLeDiff, Nat.reduceAdd, Nat.reduceMul, Nat.reduceSub, reduceCtorEq, Int.reduceToNat, Int.reduceLT, Int.reduceLE, Int.reduceEq, Int.reduceNe, Int.reduceBEq, Nat.reduceBEq, Int.reduceBNe, Nat.reduceBNe, Int.reduceAdd, Int.reduceSub, Int.reduceMul, Int.reduceNeg])) (AH.le_add (AH.le_refl _) ((by simp only [fresh_add, fresh_set, ne_eq, hn_b1, not_false_eq_true, and_self] : Fresh _ b1).2)) (by simp only; omega)
    · 
      have hiL : i = L.length := by omega
      rw [hiL, List.drop_length] at hn
      simp (dsimp := false) (maxSteps := 4000000) only [h, e0, go_sem, ↓reduceIte, Nat.reduceEqDiff, Nat.reduceLT, Nat.reduceLeDiff, Nat.reduceAdd, Nat.reduceMul, Nat.reduceSub, reduceCtorEq, Int.reduceToNat, Int.reduceLT, Int.reduceLE, Int.reduceEq, Int.reduceNe, Int.reduceBEq, Nat.reduceBEq, Int.reduceBNe, Nat.reduceBNe, Int.reduceAdd, Int.reduceSub, Int.reduceMul, Int.reduceNeg]
      refine out _ _ _ (by simp) ?_
      simp (dsimp := false) (maxSteps := 4000000) only [e0, go_sem, ↓reduceIte, Nat.reduceEqDiff, Nat.reduceLT, Nat.reduceLeDiff, Nat.reduceAdd, Nat.reduceMul, Nat.reduceSub, reduceCtorEq, Int.reduceToNat, Int.reduceLT, Int.reduceLE, Int.reduceEq, Int.reduceNe, Int.reduceBEq, Nat.reduceBEq, Int.reduceBNe, Nat.reduceBNe, Int.reduceAdd, Int.reduceSub, Int.reduceMul, Int.reduceNeg]
      exact ⟨H, (AH.le_refl _), (by first | exact ⟨by rw [hn]; simp [sumT], rfl⟩ | rfl)⟩
theorem pos_of {x : Int} (h : 0 ≤ x) : pos x = x := by unfold pos; rw [if_neg (by omega)]
theorem pos_neg {x : Int} (h : x ≤ 0) : pos x = 0 := by unfold pos; split <;> omega
theorem mulR {x r : Int} (h0 : 0 ≤ x) (h2 : -20000 ≤ r) (h3 : r ≤ 20000) : x * -20000 ≤ x * r ∧ x * r ≤ x * 20000 :=
  ⟨Int.mul_le_mul_of_nonneg_left h2 h0, Int.mul_le_mul_of_nonneg_left h3 h0⟩
theorem sumT_abs (t : Int) : ∀ (l : List Stp) (s : Stp) (last : Int), goodR last (s :: l) = true → pos (t - s.at_) * -20000 ≤ sumT t (s :: l) ∧ sumT t (s :: l) ≤ pos (t - s.at_) * 20000
  | [], s, last, h => by
    obtain ⟨g1, g2, g3, g4, _⟩ := goodR_cons h
    simp only [sumT, toOf, Int.add_zero]
    exact mulR (pos_ge _) g3 g4
  | s' :: l, s, last, h => by
    obtain ⟨g1, g2, g3, g4, g5⟩ := goodR_cons h
    have g6 := (goodR_cons g5).1
    have ih := sumT_abs t l s' _ g5
    have e : sumT t (s :: s' :: l) = pos ((if s'.at_ < t then s'.at_ else t) - s.at_) * s.rate + sumT t (s' :: l) := rfl
    rw [e]
    have hm := mulR (pos_ge ((if s'.at_ < t then s'.at_ else t) - s.at_)) g3 g4
    have hsum : pos ((if s'.at_ < t then s'.at_ else t) - s.at_) + pos (t - s'.at_) = pos (t - s.at_) := by
      unfold pos; (repeat' split) <;> omega
    generalize pos ((if s'.at_ < t then s'.at_ else t) - s.at_) * s.rate = X at hm ⊢
    generalize sumT t (s' :: l) = Y at ih ⊢
    omega
theorem sumT_range {t : Int} (ht : 0 ≤ t) {L : List Stp} (h : goodR (-1) L = true) : t * -20000 ≤ sumT t L ∧ sumT t L ≤ t * 20000 := by
  cases L with
  | nil => simp only [sumT]; omega
  | cons s l =>
    have := sumT_abs t l s _ h
    have h1 := (goodR_cons h).1
    have : pos (t - s.at_) ≤ t := pos_le (by omega) ht
    omega
theorem good_R {L : List Stp} (h : good L = true) : L.length ≤ 64 ∧ goodR (-1) L = true := by
  simpa only [good, Bool.and_eq_true, decide_eq_true_eq] using h
theorem localv_div {L : List Stp} (h : good L = true) (t : Int) : localv L t = (clamp t * 1000000 + sumT (clamp t) L) / 1000000 ∧ IntKind.i64.wrap (localv L t) = localv L t := by
  have h0 := clamp_ge t
  have h1 := clamp_le t
  have hr := sumT_range h0 (good_R h).2
  have e : localv L t = (clamp t * 1000000 + sumT (clamp t) L) / 1000000 := Int.tdiv_eq_ediv_of_nonneg (by omega)
  exact ⟨e, by rw [e]; exact i64_eq (by omega) (by omega)⟩
theorem Local_c (L : List Stp) (t : Int) (hg : good L = true) (base : Option Addr) (cap : Nat) (H : AH) (hs : SlcIn H 2 base cap (L.map enc)) :
    ACalls Try.prog 26 #[.slice base L.length cap, .int .i64 t] H (fun v H' => v = .int .i64 (localv L t) ∧ H = H') := by
  have e := (localv_div hg t).2
  refine ACalls.enter2 Try.func26 rfl Try.ntmps26 Try.results26 (by simp) ?_; simp (dsimp := false) (maxSteps := 4000000) only [go_sem, ↓reduceIte, Nat.reduceEqDiff, Nat.reduceLT, Nat.reduceLeDiff, Nat.reduceAdd, Nat.reduceMul, Nat.reduceSub, reduceCtorEq, Int.reduceToNat, Int.reduceLT, Int.reduceLE, Int.reduceEq, Int.reduceNe, Int.reduceBEq, Nat.reduceBEq, Int.reduceBNe, Nat.reduceBNe, Int.reduceAdd, Int.reduceSub, Int.reduceMul, Int.reduceNeg]
  refine (parts_c L (clamp t) (clamp_ge t) (clamp_le t) hg base cap _ hs).mono ?_; rintro _ _ ⟨rfl, rfl⟩
  have e' : IntKind.i64.wrap ((clamp t * 1000000 + sumT (clamp t) L).tdiv 1000000) = localv L t := e
  simp (dsimp := false) (maxSteps := 4000000) only [e', go_sem, ↓reduceIte, Nat.reduceEqDiff, Nat.reduceLT, Nat.reduceLeDiff, Nat.reduceAdd, Nat.reduceMul, Nat.reduceSub, reduceCtorEq, Int.reduceToNat, Int.reduceLT, Int.reduceLE, Int.reduceEq, Int.reduceNe, Int.reduceBEq, Nat.reduceBEq, Int.reduceBNe, Nat.reduceBNe, Int.reduceAdd, Int.reduceSub, Int.reduceMul, Int.reduceNeg]
  exact ⟨H, (AH.le_refl _), (by first | exact ⟨rfl, rfl⟩ | rfl)⟩

/-! ### The reference -/
def refR (t : Int) : Int → Int → Int → List Stp → Int
  | n, a, r, [] => n + (t - a) * (1000000 + r)
  | n, a, r, s :: l => if s.at_ < t then refR t (n + (s.at_ - a) * (1000000 + r)) s.at_ s.rate l else n + (t - a) * (1000000 + r)
theorem sumT_late (t : Int) : ∀ (l : List Stp) (last : Int), goodR last l = true → t ≤ last + 1 → sumT t l = 0
  | [], _, _, _ => rfl
  | s :: l, last, h, ht => by
    obtain ⟨g1, g2, g3, g4, g5⟩ := goodR_cons h
    have := toOf_le t l
    simp only [sumT, pos_neg (show toOf t l - s.at_ ≤ 0 from by omega), Int.zero_mul, sumT_late t l _ g5 (by omega), Int.add_zero]
theorem refR_eq (t : Int) : ∀ (l : List Stp) (n a r : Int), goodR a l = true → a ≤ t → refR t n a r l = n + (t - a) * 1000000 + (toOf t l - a) * r + sumT t l
  | [], n, a, r, _, _ => by simp only [refR, toOf, sumT, Int.mul_add]; omega
  | s :: l, n, a, r, h, ha => by
    obtain ⟨g1, g2, g3, g4, g5⟩ := goodR_cons h
    simp only [refR, toOf]
    split
    · rename_i hlt
      rw [refR_eq t l _ _ _ g5 (by omega)]
      have hto : s.at_ ≤ toOf t l := by
        cases l with
        | nil => simp only [toOf]; omega
        | cons s' l' => have := (goodR_cons g5).1; simp only [toOf]; split <;> omega
      simp only [sumT, pos_of (show 0 ≤ toOf t l - s.at_ from by omega), Int.mul_add]
      omega
    · simp only [sumT_late t (s :: l) (s.at_ - 1) (by simp only [goodR, okS_ok (last := s.at_ - 1) (s := s) (by omega), g5, Bool.and_self]) (by omega), Int.mul_add]
      omega
theorem refR_localv {L : List Stp} (h : good L = true) (t : Int) : refR (clamp t) 0 0 0 L = clamp t * 1000000 + sumT (clamp t) L := by
  have h0 := clamp_ge t
  cases L with
  | nil => simp only [refR, sumT]; omega
  | cons s l =>
    obtain ⟨g1, g2, g3, g4, g5⟩ := goodR_cons (good_R h).2
    have := refR_eq (clamp t) (s :: l) 0 0 0
    by_cases hs : 0 < s.at_
    · rw [refR_eq (clamp t) (s :: l) 0 0 0 (by simp only [goodR, okS_ok (last := 0) (s := s) (by omega), g5, Bool.and_self]) h0]
      omega
    · have hs0 : s.at_ = 0 := by omega
      simp only [refR]
      split
      · rw [refR_eq (clamp t) l _ _ _ g5 (by omega)]
        have hto : s.at_ ≤ toOf (clamp t) l := by
          cases l with
          | nil => simp only [toOf]; omega
          | cons s' l' => have := (goodR_cons g5).1; simp only [toOf]; split <;> omega
        simp only [sumT, pos_of (show 0 ≤ toOf (clamp t) l - s.at_ from by omega)]
        omega
      · have hc : clamp t = 0 := by omega
        rw [hc] at *
        have := sumT_late 0 (s :: l) (-1) (good_R h).2 (by omega)
        rw [this]; omega
theorem RefLocal_c (L : List Stp) (t : Int) (hg : good L = true) (base : Option Addr) (cap : Nat) (H : AH) (hs : SlcIn H 2 base cap (L.map enc)) :
    ACalls Try.prog 28 #[.slice base L.length cap, .int .i64 t] H (fun v H' => v = .int .i64 (localv L t) ∧ H = H') := by
  have hw := (localv_div hg t).2
  have hr := refR_localv hg t
  have h0 := clamp_ge t
  have h1 := clamp_le t
  obtain ⟨h64, hgR⟩ := good_R hg
  have hlv : localv L t = (clamp t * 1000000 + sumT (clamp t) L).tdiv 1000000 := rfl
  rw [hlv, ← hr] at hw
  rw [hlv, ← hr]
  have hct : clamp t = if t < 0 then 0 else if 4294967296 < t then 4294967296 else t := by
    unfold clamp pos; (repeat' split) <;> omega
  generalize clamp t = u at *
  have facts : ∀ (x a r n : Int), 0 ≤ a → a ≤ x → x ≤ 4294967296 → -20000 ≤ r → r ≤ 20000 → 0 ≤ n → n ≤ a * 1020000 →
      IntKind.i64.wrap (x - a) = x - a ∧ IntKind.i64.wrap (1000000 + r) = 1000000 + r ∧ IntKind.i64.wrap ((x - a) * (1000000 + r)) = (x - a) * (1000000 + r) ∧ IntKind.i64.wrap (n + (x - a) * (1000000 + r)) = n + (x - a) * (1000000 + r) ∧
      0 ≤ n + (x - a) * (1000000 + r) ∧ n + (x - a) * (1000000 + r) ≤ x * 1020000 := fun x a r n q1 q2 q3 q4 q5 q6 q7 => by
    have m1 := Int.mul_le_mul_of_nonneg_left (show 1000000 + r ≤ 1020000 from by omega) (show 0 ≤ x - a from by omega)
    have m2 := Int.mul_nonneg (show 0 ≤ x - a from by omega) (show 0 ≤ 1000000 + r from by omega)
    generalize (x - a) * (1000000 + r) = X at *
    exact ⟨i64_eq (by omega) (by omega), i64_eq (by omega) (by omega), i64_eq (by omega) (by omega), i64_eq (by omega) (by omega), by omega, by omega⟩
  refine ACalls.enter2 Try.func28 rfl Try.ntmps28 Try.results28 (by simp) ?_; simp (dsimp := false) (maxSteps := 4000000) only [go_sem, ↓reduceIte, Nat.reduceEqDiff, Nat.reduceLT, Nat.reduceLeDiff, Nat.reduceAdd, Nat.reduceMul, Nat.reduceSub, reduceCtorEq, Int.reduceToNat, Int.reduceLT, Int.reduceLE, Int.reduceEq, Int.reduceNe, Int.reduceBEq, Nat.reduceBEq, Int.reduceBNe, Nat.reduceBNe, Int.reduceAdd, Int.reduceSub, Int.reduceMul, Int.reduceNeg]
  have cases3 : (t < 0 ∧ u = 0) ∨ (¬ t < 0 ∧ 4294967296 < t ∧ u = 4294967296) ∨ (¬ t < 0 ∧ ¬ 4294967296 < t ∧ u = t) := by
    rw [hct]; (repeat' split) <;> omega
  have c0 : ¬ (4294967296 : Int) < 0 := by omega
  rcases cases3 with ⟨c1, c2⟩ | ⟨c1, c3, c2⟩ | ⟨c1, c3, c2⟩
  · simp (dsimp := false) (maxSteps := 4000000) only [c1, c0, go_sem, ↓reduceIte, Nat.reduceEqDiff, Nat.reduceLT, Nat.reduceLeDiff, Nat.reduceAdd, Nat.reduceMul, Nat.reduceSub, reduceCtorEq, Int.reduceToNat, Int.reduceLT, Int.reduceLE, Int.reduceEq, Int.reduceNe, Int.reduceBEq, Nat.reduceBEq, Int.reduceBNe, Nat.reduceBNe, Int.reduceAdd, Int.reduceSub, Int.reduceMul, Int.reduceNeg]
    refine AWp.loopo (ι := Nat × Int × Int × Int × Int) (fun p => p.1 ≤ L.length ∧ refR u 0 0 0 L = refR u p.2.1 p.2.2.1 p.2.2.2.1 (L.drop p.1) ∧ goodR p.2.2.2.2 (L.drop p.1) = true ∧ 0 ≤ p.2.2.1 ∧ p.2.2.1 ≤ u ∧ p.2.2.1 ≤ p.2.2.2.2 + 1 ∧ -20000 ≤ p.2.2.2.1 ∧ p.2.2.2.1 ≤ 20000 ∧ 0 ≤ p.2.1 ∧ p.2.1 ≤ p.2.2.1 * 1020000)
      (fun p => [(8, .int .i64 p.1), (5, .int .i64 p.2.1), (6, .int .i64 p.2.2.1), (7, .int .i64 p.2.2.2.1), (0, .slice base L.length cap), (1, .int .i64 u)])
      (fun _ => H) (fun p => L.length - p.1) (0, 0, 0, 0, -1) ⟨by simp, by simp, by simpa using hgR, by simp, by simpa using h0, by simp, by simp, by simp, by simp, by simp⟩ (FrLe.of_lks ?_) (AH.le_refl _) fun p hi Q again out => ?_
    · simp (dsimp := false) (maxSteps := 4000000) only [go_sem, ↓reduceIte, Nat.reduceEqDiff, Nat.reduceLT, Nat.reduceLeDiff, Nat.reduceAdd, Nat.reduceMul, Nat.reduceSub, reduceCtorEq, Int.reduceToNat, Int.reduceLT, Int.reduceLE, Int.reduceEq, Int.reduceNe, Int.reduceBEq, Nat.reduceBEq, Int.reduceBNe, Nat.reduceBNe, Int.reduceAdd, Int.reduceSub, Int.reduceMul, Int.reduceNeg]
      rw [c2]
    · obtain ⟨i, n, a, r, last⟩ := p
      obtain ⟨hi, hn, hg, k1, k2, k3, k4, k5, k6, k7⟩ := hi
      simp only at hi hn hg k1 k2 k3 k4 k5 k6 k7 ⊢
      have f0 := facts u a r n k1 k2 h1 k4 k5 k6 k7
      by_cases h : (i : Int) < L.length
      · obtain ⟨s, hx⟩ := get_some (l := L) (i := i) (by omega)
        obtain ⟨b, o, rfl, hrow, hrd⟩ := hs.get (map_get (f := enc) hx)
        have r0 := hrd 0 _ rfl
        have r1 := hrd 1 _ rfl
        rw [Nat.add_zero] at r0
        have e1 := i64_succ (i := i) (by omega)
        rw [drop_cons hx] at hn hg
        obtain ⟨g1, g2, g3, g4, g5⟩ := goodR_cons hg
        by_cases hlt : s.at_ < u
        · have f1 := facts s.at_ a r n k1 (by omega) g2 k4 k5 k6 k7
          simp only [refR, hlt, if_true] at hn
          simp (dsimp := false) (maxSteps := 4000000) only [h, r0, r1, hlt, f1.1, f1.2.1, f1.2.2.1, f1.2.2.2.1, go_sem, ↓reduceIte, Nat.reduceEqDiff, Nat.reduceLT, Nat.reduceLeDiff, Nat.reduceAdd, Nat.reduceMul, Nat.reduceSub, reduceCtorEq, Int.reduceToNat, Int.reduceLT, Int.reduceLE, Int.reduceEq, Int.reduceNe, Int.reduceBEq, Nat.reduceBEq, Int.reduceBNe, Nat.reduceBNe, Int.reduceAdd, Int.reduceSub, Int.reduceMul, Int.reduceNeg]
          refine AWp.quiet mixed (by kernel_rfl) ?_
          simp (dsimp := false) (maxSteps := 4000000) only [h, r0, r1, e1, go_sem, ↓reduceIte, Nat.reduceEqDiff, Nat.reduceLT, Nat.reduceLeDiff, Nat.reduceAdd, Nat.reduceMul, Nat.reduceSub, reduceCtorEq, Int.reduceToNat, Int.reduceLT, Int.reduceLE, Int.reduceEq, Int.reduceNe, Int.reduceBEq, Nat.reduceBEq, Int.reduceBNe, Nat.reduceBNe, Int.reduceAdd, Int.reduceSub, Int.reduceMul, Int.reduceNeg]
          exact again (i + 1, n + (s.at_ - a) * (1000000 + r), s.at_, s.rate, s.at_) _ _ ⟨by simp only; omega, hn, g5, by simp only; omega, by simp only; omega, by simp only; omega, g3, g4, f1.2.2.2.2.1, f1.2.2.2.2.2⟩ (FrLe.of_lks (by simp (dsimp := false) (maxSteps := 4000000) only [go_sem, ↓reduceIte, Nat.reduceEqDiff, Nat.reduceLT, Nat.reduceLeDiff, Nat.reduceAdd, Nat.reduceMul, Nat.reduceSub, reduceCtorEq, Int.reduceToNat, Int.reduceLT, Int.reduceLE, Int.reduceEq, Int.reduceNe, Int.reduceBEq, Nat.reduceBEq, Int.reduceBNe, Nat.reduceBNe, Int.reduceAdd, Int.reduceSub, Int.reduceMul, Int.reduceNeg])) (AH.le_refl _) (by simp only; omega)
        · simp only [refR, hlt, if_false] at hn
          simp (dsimp := false) (maxSteps := 4000000) only [h, r0, hlt, go_sem, ↓reduceIte, Nat.reduceEqDiff, Nat.reduceLT, Nat.reduceLeDiff, Nat.reduceAdd, Nat.reduceMul, Nat.reduceSub, reduceCtorEq, Int.reduceToNat, Int.reduceLT, Int.reduceLE, Int.reduceEq, Int.reduceNe, Int.reduceBEq, Nat.reduceBEq, Int.reduceBNe, Nat.reduceBNe, Int.reduceAdd, Int.reduceSub, Int.reduceMul, Int.reduceNeg]
          refine out _ _ _ (by simp) ?_
          rw [hn] at hw
          simp (dsimp := false) (maxSteps := 4000000) only [f0.1, f0.2.1, f0.2.2.1, f0.2.2.2.1, hw, go_sem, ↓reduceIte, Nat.reduceEqDiff, Nat.reduceLT, Nat.reduceLeDiff, Nat.reduceAdd, Nat.reduceMul, Nat.reduceSub, reduceCtorEq, Int.reduceToNat, Int.reduceLT, Int.reduceLE, Int.reduceEq, Int.reduceNe, Int.reduceBEq, Nat.reduceBEq, Int.reduceBNe, Nat.reduceBNe, Int.reduceAdd, Int.reduceSub, Int.reduceMul, Int.reduceNeg]
          exact ⟨H, (AH.le_refl _), (by first | exact ⟨by rw [hn], rfl⟩ | rfl)⟩
      · have hiL : i = L.length := by omega
        rw [hiL, List.drop_length] at hn
        simp only [refR] at hn
        simp (dsimp := false) (maxSteps := 4000000) only [h, go_sem, ↓reduceIte, Nat.reduceEqDiff, Nat.reduceLT, Nat.reduceLeDiff, Nat.reduceAdd, Nat.reduceMul, Nat.reduceSub, reduceCtorEq, Int.reduceToNat, Int.reduceLT, Int.reduceLE, Int.reduceEq, Int.reduceNe, Int.reduceBEq, Nat.reduceBEq, Int.reduceBNe, Nat.reduceBNe, Int.reduceAdd, Int.reduceSub, Int.reduceMul, Int.reduceNeg]
        refine out _ _ _ (by simp) ?_
        rw [hn] at hw
        simp (dsimp := false) (maxSteps := 4000000) only [f0.1, f0.2.1, f0.2.2.1, f0.2.2.2.1, hw, go_sem, ↓reduceIte, Nat.reduceEqDiff, Nat.reduceLT, Nat.reduceLeDiff, Nat.reduceAdd, Nat.reduceMul, Nat.reduceSub, reduceCtorEq, Int.reduceToNat, Int.reduceLT, Int.reduceLE, Int.reduceEq, Int.reduceNe, Int.reduceBEq, Nat.reduceBEq, Int.reduceBNe, Nat.reduceBNe, Int.reduceAdd, Int.reduceSub, Int.reduceMul, Int.reduceNeg]
        exact ⟨H, (AH.le_refl _), (by first | exact ⟨by rw [hn], rfl⟩ | rfl)⟩
  · simp (dsimp := false) (maxSteps := 4000000) only [c1, c3, go_sem, ↓reduceIte, Nat.reduceEqDiff, Nat.reduceLT, Nat.reduceLeDiff, Nat.reduceAdd, Nat.reduceMul, Nat.reduceSub, reduceCtorEq, Int.reduceToNat, Int.reduceLT, Int.reduceLE, Int.reduceEq, Int.reduceNe, Int.reduceBEq, Nat.reduceBEq, Int.reduceBNe, Nat.reduceBNe, Int.reduceAdd, Int.reduceSub, Int.reduceMul, Int.reduceNeg]
    refine AWp.loopo (ι := Nat × Int × Int × Int × Int) (fun p => p.1 ≤ L.length ∧ refR u 0 0 0 L = refR u p.2.1 p.2.2.1 p.2.2.2.1 (L.drop p.1) ∧ goodR p.2.2.2.2 (L.drop p.1) = true ∧ 0 ≤ p.2.2.1 ∧ p.2.2.1 ≤ u ∧ p.2.2.1 ≤ p.2.2.2.2 + 1 ∧ -20000 ≤ p.2.2.2.1 ∧ p.2.2.2.1 ≤ 20000 ∧ 0 ≤ p.2.1 ∧ p.2.1 ≤ p.2.2.1 * 1020000)
      (fun p => [(8, .int .i64 p.1), (5, .int .i64 p.2.1), (6, .int .i64 p.2.2.1), (7, .int .i64 p.2.2.2.1), (0, .slice base L.length cap), (1, .int .i64 u)])
      (fun _ => H) (fun p => L.length - p.1) (0, 0, 0, 0, -1) ⟨by simp, by simp, by simpa using hgR, by simp, by simpa using h0, by simp, by simp, by simp, by simp, by simp⟩ (FrLe.of_lks ?_) (AH.le_refl _) fun p hi Q again out => ?_
    · simp (dsimp := false) (maxSteps := 4000000) only [go_sem, ↓reduceIte, Nat.reduceEqDiff, Nat.reduceLT, Nat.reduceLeDiff, Nat.reduceAdd, Nat.reduceMul, Nat.reduceSub, reduceCtorEq, Int.reduceToNat, Int.reduceLT, Int.reduceLE, Int.reduceEq, Int.reduceNe, Int.reduceBEq, Nat.reduceBEq, Int.reduceBNe, Nat.reduceBNe, Int.reduceAdd, Int.reduceSub, Int.reduceMul, Int.reduceNeg]
      rw [c2]
    · obtain ⟨i, n, a, r, last⟩ := p
      obtain ⟨hi, hn, hg, k1, k2, k3, k4, k5, k6, k7⟩ := hi
      simp only at hi hn hg k1 k2 k3 k4 k5 k6 k7 ⊢
      have f0 := facts u a r n k1 k2 h1 k4 k5 k6 k7
      by_cases h : (i : Int) < L.length
      · obtain ⟨s, hx⟩ := get_some (l := L) (i := i) (by omega)
        obtain ⟨b, o, rfl, hrow, hrd⟩ := hs.get (map_get (f := enc) hx)
        have r0 := hrd 0 _ rfl
        have r1 := hrd 1 _ rfl
        rw [Nat.add_zero] at r0
        have e1 := i64_succ (i := i) (by omega)
        rw [drop_cons hx] at hn hg
        obtain ⟨g1, g2, g3, g4, g5⟩ := goodR_cons hg
        by_cases hlt : s.at_ < u
        · have f1 := facts s.at_ a r n k1 (by omega) g2 k4 k5 k6 k7
          simp only [refR, hlt, if_true] at hn
          simp (dsimp := false) (maxSteps := 4000000) only [h, r0, r1, hlt, f1.1, f1.2.1, f1.2.2.1, f1.2.2.2.1, go_sem, ↓reduceIte, Nat.reduceEqDiff, Nat.reduceLT, Nat.reduceLeDiff, Nat.reduceAdd, Nat.reduceMul, Nat.reduceSub, reduceCtorEq, Int.reduceToNat, Int.reduceLT, Int.reduceLE, Int.reduceEq, Int.reduceNe, Int.reduceBEq, Nat.reduceBEq, Int.reduceBNe, Nat.reduceBNe, Int.reduceAdd, Int.reduceSub, Int.reduceMul, Int.reduceNeg]
          refine AWp.quiet mixed (by kernel_rfl) ?_
          simp (dsimp := false) (maxSteps := 4000000) only [h, r0, r1, e1, go_sem, ↓reduceIte, Nat.reduceEqDiff, Nat.reduceLT, Nat.reduceLeDiff, Nat.reduceAdd, Nat.reduceMul, Nat.reduceSub, reduceCtorEq, Int.reduceToNat, Int.reduceLT, Int.reduceLE, Int.reduceEq, Int.reduceNe, Int.reduceBEq, Nat.reduceBEq, Int.reduceBNe, Nat.reduceBNe, Int.reduceAdd, Int.reduceSub, Int.reduceMul, Int.reduceNeg]
          exact again (i + 1, n + (s.at_ - a) * (1000000 + r), s.at_, s.rate, s.at_) _ _ ⟨by simp only; omega, hn, g5, by simp only; omega, by simp only; omega, by simp only; omega, g3, g4, f1.2.2.2.2.1, f1.2.2.2.2.2⟩ (FrLe.of_lks (by simp (dsimp := false) (maxSteps := 4000000) only [go_sem, ↓reduceIte, Nat.reduceEqDiff, Nat.reduceLT, Nat.reduceLeDiff, Nat.reduceAdd, Nat.reduceMul, Nat.reduceSub, reduceCtorEq, Int.reduceToNat, Int.reduceLT, Int.reduceLE, Int.reduceEq, Int.reduceNe, Int.reduceBEq, Nat.reduceBEq, Int.reduceBNe, Nat.reduceBNe, Int.reduceAdd, Int.reduceSub, Int.reduceMul, Int.reduceNeg])) (AH.le_refl _) (by simp only; omega)
        · simp only [refR, hlt, if_false] at hn
          simp (dsimp := false) (maxSteps := 4000000) only [h, r0, hlt, go_sem, ↓reduceIte, Nat.reduceEqDiff, Nat.reduceLT, Nat.reduceLeDiff, Nat.reduceAdd, Nat.reduceMul, Nat.reduceSub, reduceCtorEq, Int.reduceToNat, Int.reduceLT, Int.reduceLE, Int.reduceEq, Int.reduceNe, Int.reduceBEq, Nat.reduceBEq, Int.reduceBNe, Nat.reduceBNe, Int.reduceAdd, Int.reduceSub, Int.reduceMul, Int.reduceNeg]
          refine out _ _ _ (by simp) ?_
          rw [hn] at hw
          simp (dsimp := false) (maxSteps := 4000000) only [f0.1, f0.2.1, f0.2.2.1, f0.2.2.2.1, hw, go_sem, ↓reduceIte, Nat.reduceEqDiff, Nat.reduceLT, Nat.reduceLeDiff, Nat.reduceAdd, Nat.reduceMul, Nat.reduceSub, reduceCtorEq, Int.reduceToNat, Int.reduceLT, Int.reduceLE, Int.reduceEq, Int.reduceNe, Int.reduceBEq, Nat.reduceBEq, Int.reduceBNe, Nat.reduceBNe, Int.reduceAdd, Int.reduceSub, Int.reduceMul, Int.reduceNeg]
          exact ⟨H, (AH.le_refl _), (by first | exact ⟨by rw [hn], rfl⟩ | rfl)⟩
      · have hiL : i = L.length := by omega
        rw [hiL, List.drop_length] at hn
        simp only [refR] at hn
        simp (dsimp := false) (maxSteps := 4000000) only [h, go_sem, ↓reduceIte, Nat.reduceEqDiff, Nat.reduceLT, Nat.reduceLeDiff, Nat.reduceAdd, Nat.reduceMul, Nat.reduceSub, reduceCtorEq, Int.reduceToNat, Int.reduceLT, Int.reduceLE, Int.reduceEq, Int.reduceNe, Int.reduceBEq, Nat.reduceBEq, Int.reduceBNe, Nat.reduceBNe, Int.reduceAdd, Int.reduceSub, Int.reduceMul, Int.reduceNeg]
        refine out _ _ _ (by simp) ?_
        rw [hn] at hw
        simp (dsimp := false) (maxSteps := 4000000) only [f0.1, f0.2.1, f0.2.2.1, f0.2.2.2.1, hw, go_sem, ↓reduceIte, Nat.reduceEqDiff, Nat.reduceLT, Nat.reduceLeDiff, Nat.reduceAdd, Nat.reduceMul, Nat.reduceSub, reduceCtorEq, Int.reduceToNat, Int.reduceLT, Int.reduceLE, Int.reduceEq, Int.reduceNe, Int.reduceBEq, Nat.reduceBEq, Int.reduceBNe, Nat.reduceBNe, Int.reduceAdd, Int.reduceSub, Int.reduceMul, Int.reduceNeg]
        exact ⟨H, (AH.le_refl _), (by first | exact ⟨by rw [hn], rfl⟩ | rfl)⟩
  · simp (dsimp := false) (maxSteps := 4000000) only [c1, c3, go_sem, ↓reduceIte, Nat.reduceEqDiff, Nat.reduceLT, Nat.reduceLeDiff, Nat.reduceAdd, Nat.reduceMul, Nat.reduceSub, reduceCtorEq, Int.reduceToNat, Int.reduceLT, Int.reduceLE, Int.reduceEq, Int.reduceNe, Int.reduceBEq, Nat.reduceBEq, Int.reduceBNe, Nat.reduceBNe, Int.reduceAdd, Int.reduceSub, Int.reduceMul, Int.reduceNeg]
    refine AWp.loopo (ι := Nat × Int × Int × Int × Int) (fun p => p.1 ≤ L.length ∧ refR u 0 0 0 L = refR u p.2.1 p.2.2.1 p.2.2.2.1 (L.drop p.1) ∧ goodR p.2.2.2.2 (L.drop p.1) = true ∧ 0 ≤ p.2.2.1 ∧ p.2.2.1 ≤ u ∧ p.2.2.1 ≤ p.2.2.2.2 + 1 ∧ -20000 ≤ p.2.2.2.1 ∧ p.2.2.2.1 ≤ 20000 ∧ 0 ≤ p.2.1 ∧ p.2.1 ≤ p.2.2.1 * 1020000)
      (fun p => [(8, .int .i64 p.1), (5, .int .i64 p.2.1), (6, .int .i64 p.2.2.1), (7, .int .i64 p.2.2.2.1), (0, .slice base L.length cap), (1, .int .i64 u)])
      (fun _ => H) (fun p => L.length - p.1) (0, 0, 0, 0, -1) ⟨by simp, by simp, by simpa using hgR, by simp, by simpa using h0, by simp, by simp, by simp, by simp, by simp⟩ (FrLe.of_lks ?_) (AH.le_refl _) fun p hi Q again out => ?_
    · simp (dsimp := false) (maxSteps := 4000000) only [go_sem, ↓reduceIte, Nat.reduceEqDiff, Nat.reduceLT, Nat.reduceLeDiff, Nat.reduceAdd, Nat.reduceMul, Nat.reduceSub, reduceCtorEq, Int.reduceToNat, Int.reduceLT, Int.reduceLE, Int.reduceEq, Int.reduceNe, Int.reduceBEq, Nat.reduceBEq, Int.reduceBNe, Nat.reduceBNe, Int.reduceAdd, Int.reduceSub, Int.reduceMul, Int.reduceNeg]
      rw [c2]
    · obtain ⟨i, n, a, r, last⟩ := p
      obtain ⟨hi, hn, hg, k1, k2, k3, k4, k5, k6, k7⟩ := hi
      simp only at hi hn hg k1 k2 k3 k4 k5 k6 k7 ⊢
      have f0 := facts u a r n k1 k2 h1 k4 k5 k6 k7
      by_cases h : (i : Int) < L.length
      · obtain ⟨s, hx⟩ := get_some (l := L) (i := i) (by omega)
        obtain ⟨b, o, rfl, hrow, hrd⟩ := hs.get (map_get (f := enc) hx)
        have r0 := hrd 0 _ rfl
        have r1 := hrd 1 _ rfl
        rw [Nat.add_zero] at r0
        have e1 := i64_succ (i := i) (by omega)
        rw [drop_cons hx] at hn hg
        obtain ⟨g1, g2, g3, g4, g5⟩ := goodR_cons hg
        by_cases hlt : s.at_ < u
        · have f1 := facts s.at_ a r n k1 (by omega) g2 k4 k5 k6 k7
          simp only [refR, hlt, if_true] at hn
          simp (dsimp := false) (maxSteps := 4000000) only [h, r0, r1, hlt, f1.1, f1.2.1, f1.2.2.1, f1.2.2.2.1, go_sem, ↓reduceIte, Nat.reduceEqDiff, Nat.reduceLT, Nat.reduceLeDiff, Nat.reduceAdd, Nat.reduceMul, Nat.reduceSub, reduceCtorEq, Int.reduceToNat, Int.reduceLT, Int.reduceLE, Int.reduceEq, Int.reduceNe, Int.reduceBEq, Nat.reduceBEq, Int.reduceBNe, Nat.reduceBNe, Int.reduceAdd, Int.reduceSub, Int.reduceMul, Int.reduceNeg]
          refine AWp.quiet mixed (by kernel_rfl) ?_
          simp (dsimp := false) (maxSteps := 4000000) only [h, r0, r1, e1, go_sem, ↓reduceIte, Nat.reduceEqDiff, Nat.reduceLT, Nat.reduceLeDiff, Nat.reduceAdd, Nat.reduceMul, Nat.reduceSub, reduceCtorEq, Int.reduceToNat, Int.reduceLT, Int.reduceLE, Int.reduceEq, Int.reduceNe, Int.reduceBEq, Nat.reduceBEq, Int.reduceBNe, Nat.reduceBNe, Int.reduceAdd, Int.reduceSub, Int.reduceMul, Int.reduceNeg]
          exact again (i + 1, n + (s.at_ - a) * (1000000 + r), s.at_, s.rate, s.at_) _ _ ⟨by simp only; omega, hn, g5, by simp only; omega, by simp only; omega, by simp only; omega, g3, g4, f1.2.2.2.2.1, f1.2.2.2.2.2⟩ (FrLe.of_lks (by simp (dsimp := false) (maxSteps := 4000000) only [go_sem, ↓reduceIte, Nat.reduceEqDiff, Nat.reduceLT, Nat.reduceLeDiff, Nat.reduceAdd, Nat.reduceMul, Nat.reduceSub, reduceCtorEq, Int.reduceToNat, Int.reduceLT, Int.reduceLE, Int.reduceEq, Int.reduceNe, Int.reduceBEq, Nat.reduceBEq, Int.reduceBNe, Nat.reduceBNe, Int.reduceAdd, Int.reduceSub, Int.reduceMul, Int.reduceNeg])) (AH.le_refl _) (by simp only; omega)
        · simp only [refR, hlt, if_false] at hn
          simp (dsimp := false) (maxSteps := 4000000) only [h, r0, hlt, go_sem, ↓reduceIte, Nat.reduceEqDiff, Nat.reduceLT, Nat.reduceLeDiff, Nat.reduceAdd, Nat.reduceMul, Nat.reduceSub, reduceCtorEq, Int.reduceToNat, Int.reduceLT, Int.reduceLE, Int.reduceEq, Int.reduceNe, Int.reduceBEq, Nat.reduceBEq, Int.reduceBNe, Nat.reduceBNe, Int.reduceAdd, Int.reduceSub, Int.reduceMul, Int.reduceNeg]
          refine out _ _ _ (by simp) ?_
          rw [hn] at hw
          simp (dsimp := false) (maxSteps := 4000000) only [f0.1, f0.2.1, f0.2.2.1, f0.2.2.2.1, hw, go_sem, ↓reduceIte, Nat.reduceEqDiff, Nat.reduceLT, Nat.reduceLeDiff, Nat.reduceAdd, Nat.reduceMul, Nat.reduceSub, reduceCtorEq, Int.reduceToNat, Int.reduceLT, Int.reduceLE, Int.reduceEq, Int.reduceNe, Int.reduceBEq, Nat.reduceBEq, Int.reduceBNe, Nat.reduceBNe, Int.reduceAdd, Int.reduceSub, Int.reduceMul, Int.reduceNeg]
          exact ⟨H, (AH.le_refl _), (by first | exact ⟨by rw [hn], rfl⟩ | rfl)⟩
      · have hiL : i = L.length := by omega
        rw [hiL, List.drop_length] at hn
        simp only [refR] at hn
        simp (dsimp := false) (maxSteps := 4000000) only [h, go_sem, ↓reduceIte, Nat.reduceEqDiff, Nat.reduceLT, Nat.reduceLeDiff, Nat.reduceAdd, Nat.reduceMul, Nat.reduceSub, reduceCtorEq, Int.reduceToNat, Int.reduceLT, Int.reduceLE, Int.reduceEq, Int.reduceNe, Int.reduceBEq, Nat.reduceBEq, Int.reduceBNe, Nat.reduceBNe, Int.reduceAdd, Int.reduceSub, Int.reduceMul, Int.reduceNeg]
        refine out _ _ _ (by simp) ?_
        rw [hn] at hw
        simp (dsimp := false) (maxSteps := 4000000) only [f0.1, f0.2.1, f0.2.2.1, f0.2.2.2.1, hw, go_sem, ↓reduceIte, Nat.reduceEqDiff, Nat.reduceLT, Nat.reduceLeDiff, Nat.reduceAdd, Nat.reduceMul, Nat.reduceSub, reduceCtorEq, Int.reduceToNat, Int.reduceLT, Int.reduceLE, Int.reduceEq, Int.reduceNe, Int.reduceBEq, Nat.reduceBEq, Int.reduceBNe, Nat.reduceBNe, Int.reduceAdd, Int.reduceSub, Int.reduceMul, Int.reduceNeg]
        exact ⟨H, (AH.le_refl _), (by first | exact ⟨by rw [hn], rfl⟩ | rfl)⟩
/-- Halving, k times at most. -/
def bsF (p : Int → Bool) : Nat → Int → Int → Int
  | 0, i, _ => i
  | k + 1, i, j => if i < j then if p ((i + j) / 2) then bsF p k i ((i + j) / 2) else bsF p k ((i + j) / 2 + 1) j else i
theorem bsF_step {p : Int → Bool} {k : Nat} {i j : Int} (h : i < j) : bsF p (k + 1) i j = if p ((i + j) / 2) then bsF p k i ((i + j) / 2) else bsF p k ((i + j) / 2 + 1) j := by
  rw [bsF, if_pos h]
theorem bsF_end {p : Int → Bool} {k : Nat} {i j : Int} (h : ¬ i < j) : bsF p k i j = i := by cases k <;> simp [bsF, h]
theorem Search_c (g : Nat) (caps : List Value) (hok : fnOk Try.prog g = true) (p : Int → Bool) (n : Int) (hn0 : 0 ≤ n) (hn : n ≤ 4294967296) (H : AH)
    (hcall : ∀ h : Int, 0 ≤ h → h < n → ACalls Try.prog g (Value.int .i64 h :: caps).toArray H (fun v H' => v = .bool (p h) ∧ H = H')) :
    ACalls Try.prog 35 #[.int .i64 n, .func (.func g) (List.toArray []) caps.toArray] H (fun v H' => v = .int .i64 (bsF p 33 0 n) ∧ H = H') := by
  generalize hR : bsF p 33 0 n = R
  refine ACalls.enter2 Try.func35 rfl Try.ntmps35 Try.results35 (by simp) ?_; simp (dsimp := false) (maxSteps := 4000000) only [hok, go_sem, ↓reduceIte, Nat.reduceEqDiff, Nat.reduceLT, Nat.reduceLeDiff, Nat.reduceAdd, Nat.reduceMul, Nat.reduceSub, reduceCtorEq, Int.reduceToNat, Int.reduceLT, Int.reduceLE, Int.reduceEq, Int.reduceNe, Int.reduceBEq, Nat.reduceBEq, Int.reduceBNe, Nat.reduceBNe, Int.reduceAdd, Int.reduceSub, Int.reduceMul, Int.reduceNeg]
  refine AWp.loopo (ι := Int × Int × Nat) (fun q => 0 ≤ q.1 ∧ q.1 ≤ q.2.1 ∧ q.2.1 ≤ n ∧ q.2.1 - q.1 < 2 ^ q.2.2 ∧ R = bsF p q.2.2 q.1 q.2.1)
    (fun q => [(5, .int .i64 q.1), (6, .int .i64 q.2.1), (1, .func (.func g) (List.toArray []) caps.toArray)])
    (fun _ => H) (fun q => (q.2.1 - q.1).toNat) (0, n, 33) ⟨by simp, by simpa using hn0, by simp, by simp only; omega, hR.symm⟩ (FrLe.of_lks ?_) (AH.le_refl _) fun q hi Q again out => ?_
  · simp (dsimp := false) (maxSteps := 4000000) only [hok, go_sem, ↓reduceIte, Nat.reduceEqDiff, Nat.reduceLT, Nat.reduceLeDiff, Nat.reduceAdd, Nat.reduceMul, Nat.reduceSub, reduceCtorEq, Int.reduceToNat, Int.reduceLT, Int.reduceLE, Int.reduceEq, Int.reduceNe, Int.reduceBEq, Nat.reduceBEq, Int.reduceBNe, Nat.reduceBNe, Int.reduceAdd, Int.reduceSub, Int.reduceMul, Int.reduceNeg]
  · obtain ⟨i, j, k⟩ := q
    obtain ⟨k1, k2, k3, k4, k5⟩ := hi
    simp only at k1 k2 k3 k4 k5 ⊢
    by_cases h : i < j
    · cases k with
      | zero => simp at k4; omega
      | succ k =>
        have hp : (2 : Int) ^ (k + 1) = 2 ^ k * 2 := Int.pow_succ _ _
        have e1 : IntKind.i64.wrap (i + j) = i + j := i64_eq (by omega) (by omega)
        have e2 : IntKind.u64.wrap (i + j) = i + j := u64_eq (by omega) (by omega)
        have e3 : (i + j).fdiv (2 ^ min 1 IntKind.u64.bits) = (i + j) / 2 := by
          rw [show min 1 IntKind.u64.bits = 1 from rfl, fdiv_pow]; rfl
        have e4 : IntKind.i64.wrap ((i + j) / 2) = (i + j) / 2 := i64_eq (by omega) (by omega)
        have e5 : IntKind.i64.wrap ((i + j) / 2 + 1) = (i + j) / 2 + 1 := i64_eq (by omega) (by omega)
        rw [bsF_step h] at k5
        have e3' : (i + j).fdiv (2 ^ min 1 64) = (i + j) / 2 := e3
        simp (dsimp := false) (maxSteps := 4000000) only [h, e1, e2, e3', e4, hok, go_sem, ↓reduceIte, Nat.reduceEqDiff, Nat.reduceLT, Nat.reduceLeDiff, Nat.reduceAdd, Nat.reduceMul, Nat.reduceSub, reduceCtorEq, Int.reduceToNat, Int.reduceLT, Int.reduceLE, Int.reduceEq, Int.reduceNe, Int.reduceBEq, Nat.reduceBEq, Int.reduceBNe, Nat.reduceBNe, Int.reduceAdd, Int.reduceSub, Int.reduceMul, Int.reduceNeg]
        refine (hcall ((i + j) / 2) (by omega) (by omega)).mono ?_; rintro _ _ ⟨rfl, rfl⟩
        cases hp' : p ((i + j) / 2) with
        | true =>
          simp only [hp', if_true] at k5
          simp (dsimp := false) (maxSteps := 4000000) only [hok, go_sem, ↓reduceIte, Nat.reduceEqDiff, Nat.reduceLT, Nat.reduceLeDiff, Nat.reduceAdd, Nat.reduceMul, Nat.reduceSub, reduceCtorEq, Int.reduceToNat, Int.reduceLT, Int.reduceLE, Int.reduceEq, Int.reduceNe, Int.reduceBEq, Nat.reduceBEq, Int.reduceBNe, Nat.reduceBNe, Int.reduceAdd, Int.reduceSub, Int.reduceMul, Int.reduceNeg]
          exact again (i, (i + j) / 2, k) _ _ ⟨by simp only; omega, by simp only; omega, by simp only; omega, by simp only; omega, k5⟩ (FrLe.of_lks (by simp (dsimp := false) (maxSteps := 4000000) only [hok, go_sem, ↓reduceIte, Nat.reduceEqDiff, Nat.reduceLT, Nat.reduceLeDiff, Nat.reduceAdd, Nat.reduceMul, Nat.reduceSub, reduceCtorEq, Int.reduceToNat, Int.reduceLT, Int.reduceLE, Int.reduceEq, Int.reduceNe, Int.reduceBEq, Nat.reduceBEq, Int.reduceBNe, Nat.reduceBNe, Int.reduceAdd, Int.reduceSub, Int.reduceMul, Int.reduceNeg])) (AH.le_refl _) (by simp only; omega)
        | false =>
          simp only [hp', Bool.false_eq_true, if_false] at k5
          simp (dsimp := false) (maxSteps := 4000000) only [e5, hok, go_sem, ↓reduceIte, Nat.reduceEqDiff, Nat.reduceLT, Nat.reduceLeDiff, Nat.reduceAdd, Nat.reduceMul, Nat.reduceSub, reduceCtorEq, Int.reduceToNat, Int.reduceLT, Int.reduceLE, Int.reduceEq, Int.reduceNe, Int.reduceBEq, Nat.reduceBEq, Int.reduceBNe, Nat.reduceBNe, Int.reduceAdd, Int.reduceSub, Int.reduceMul, Int.reduceNeg]
          exact again ((i + j) / 2 + 1, j, k) _ _ ⟨by simp only; omega, by simp only; omega, by simp only; omega, by simp only; omega, k5⟩ (FrLe.of_lks (by simp (dsimp := false) (maxSteps := 4000000) only [hok, go_sem, ↓reduceIte, Nat.reduceEqDiff, Nat.reduceLT, Nat.reduceLeDiff, Nat.reduceAdd, Nat.reduceMul, Nat.reduceSub, reduceCtorEq, Int.reduceToNat, Int.reduceLT, Int.reduceLE, Int.reduceEq, Int.reduceNe, Int.reduceBEq, Nat.reduceBEq, Int.reduceBNe, Nat.reduceBNe, Int.reduceAdd, Int.reduceSub, Int.reduceMul, Int.reduceNeg])) (AH.le_refl _) (by simp only; omega)
    · rw [bsF_end h] at k5
      simp (dsimp := false) (maxSteps := 4000000) only [h, hok, go_sem, ↓reduceIte, Nat.reduceEqDiff, Nat.reduceLT, Nat.reduceLeDiff, Nat.reduceAdd, Nat.reduceMul, Nat.reduceSub, reduceCtorEq, Int.reduceToNat, Int.reduceLT, Int.reduceLE, Int.reduceEq, Int.reduceNe, Int.reduceBEq, Nat.reduceBEq, Int.reduceBNe, Nat.reduceBNe, Int.reduceAdd, Int.reduceSub, Int.reduceMul, Int.reduceNeg]
      refine out _ _ _ (by simp) ?_
      simp (dsimp := false) (maxSteps := 4000000) only [hok, go_sem, ↓reduceIte, Nat.reduceEqDiff, Nat.reduceLT, Nat.reduceLeDiff, Nat.reduceAdd, Nat.reduceMul, Nat.reduceSub, reduceCtorEq, Int.reduceToNat, Int.reduceLT, Int.reduceLE, Int.reduceEq, Int.reduceNe, Int.reduceBEq, Nat.reduceBEq, Int.reduceBNe, Nat.reduceBNe, Int.reduceAdd, Int.reduceSub, Int.reduceMul, Int.reduceNeg]
      exact ⟨H, (AH.le_refl _), (by first | exact ⟨by rw [k5], rfl⟩ | rfl)⟩
def globalv (L : List Stp) (n : Int) : Int := bsF (fun t => decide (n ≤ localv L t)) 33 0 4294967296
theorem probe_c (L : List Stp) (n : Int) (hg : good L = true) (base : Option Addr) (cap b1 b2 : Nat) (H : AH) (hs : SlcIn H 2 base cap (L.map enc)) (h1 : H.rd ⟨b1, 0, none⟩ = some (.slice base L.length cap)) (h2 : H.rd ⟨b2, 0, none⟩ = some (.int .i64 n)) (t : Int) :
    ACalls Try.prog 36 #[.int .i64 t, .pointer (some ⟨b1, 0, none⟩), .pointer (some ⟨b2, 0, none⟩)] H (fun v H' => v = .bool (decide (n ≤ localv L t)) ∧ H = H') := by
  refine ACalls.enter2 Try.func36 rfl Try.ntmps36 Try.results36 (by simp) ?_; simp (dsimp := false) (maxSteps := 4000000) only [h1, h2, go_sem, ↓reduceIte, Nat.reduceEqDiff, Nat.reduceLT, Nat.reduceLeDiff, Nat.reduceAdd, Nat.reduceMul, Nat.reduceSub, reduceCtorEq, Int.reduceToNat, Int.reduceLT, Int.reduceLE, Int.reduceEq, Int.reduceNe, Int.reduceBEq, Nat.reduceBEq, Int.reduceBNe, Nat.reduceBNe, Int.reduceAdd, Int.reduceSub, Int.reduceMul, Int.reduceNeg]
  refine AWp.quiet mixed (by kernel_rfl) ?_
  simp (dsimp := false) (maxSteps := 4000000) only [h1, h2, go_sem, ↓reduceIte, Nat.reduceEqDiff, Nat.reduceLT, Nat.reduceLeDiff, Nat.reduceAdd, Nat.reduceMul, Nat.reduceSub, reduceCtorEq, Int.reduceToNat, Int.reduceLT, Int.reduceLE, Int.reduceEq, Int.reduceNe, Int.reduceBEq, Nat.reduceBEq, Int.reduceBNe, Nat.reduceBNe, Int.reduceAdd, Int.reduceSub, Int.reduceMul, Int.reduceNeg]
  refine QCalls.mk (Local_c L t hg base cap _ hs) ?_
  simp (dsimp := false) (maxSteps := 4000000) only [h1, h2, go_sem, ↓reduceIte, Nat.reduceEqDiff, Nat.reduceLT, Nat.reduceLeDiff, Nat.reduceAdd, Nat.reduceMul, Nat.reduceSub, reduceCtorEq, Int.reduceToNat, Int.reduceLT, Int.reduceLE, Int.reduceEq, Int.reduceNe, Int.reduceBEq, Nat.reduceBEq, Int.reduceBNe, Nat.reduceBNe, Int.reduceAdd, Int.reduceSub, Int.reduceMul, Int.reduceNeg]
  exact ⟨H, (AH.le_refl _), (by first | exact ⟨rfl, rfl⟩ | rfl)⟩
theorem Global_c (L : List Stp) (n : Int) (hg : good L = true) (base : Option Addr) (cap : Nat) (H : AH) (hs : SlcIn H 2 base cap (L.map enc)) :
    ACalls Try.prog 24 #[.slice base L.length cap, .int .i64 n] H (fun v H' => v = .int .i64 (globalv L n) ∧ H = H') := by
  refine ACalls.enter2 Try.func24 rfl Try.ntmps24 Try.results24 (by simp) ?_; simp (dsimp := false) (maxSteps := 4000000) only [go_sem, ↓reduceIte, Nat.reduceEqDiff, Nat.reduceLT, Nat.reduceLeDiff, Nat.reduceAdd, Nat.reduceMul, Nat.reduceSub, reduceCtorEq, Int.reduceToNat, Int.reduceLT, Int.reduceLE, Int.reduceEq, Int.reduceNe, Int.reduceBEq, Nat.reduceBEq, Int.reduceBNe, Nat.reduceBNe, Int.reduceAdd, Int.reduceSub, Int.reduceMul, Int.reduceNeg]
  refine AllB.mk fun b1 h_b1 => ?_; have hn_b1 := h_b1; (try simp only [fresh_add, fresh_set, ne_eq] at hn_b1); have hr_b1 := hn_b1; (try simp only [@eq_comm Nat b1] at hr_b1); simp (dsimp := false) (maxSteps := 4000000) only [hn_b1, hr_b1, go_sem, ↓reduceIte, Nat.reduceEqDiff, Nat.reduceLT, Nat.reduceLeDiff, Nat.reduceAdd, Nat.reduceMul, Nat.reduceSub, reduceCtorEq, Int.reduceToNat, Int.reduceLT, Int.reduceLE, Int.reduceEq, Int.reduceNe, Int.reduceBEq, Nat.reduceBEq, Int.reduceBNe, Nat.reduceBNe, Int.reduceAdd, Int.reduceSub, Int.reduceMul, Int.reduceNeg]
  refine AllB.mk fun b2 h_b2 => ?_; have hn_b2 := h_b2; (try simp only [fresh_add, fresh_set, ne_eq] at hn_b2); have hr_b2 := hn_b2; (try simp only [@eq_comm Nat b2] at hr_b2); simp (dsimp := false) (maxSteps := 4000000) only [hn_b1, hr_b1, hn_b2, hr_b2, go_sem, ↓reduceIte, Nat.reduceEqDiff, Nat.reduceLT, Nat.reduceLeDiff, Nat.reduceAdd, Nat.reduceMul, Nat.reduceSub, reduceCtorEq, Int.reduceToNat, Int.reduceLT, Int.reduceLE, Int.reduceEq, Int.reduceNe, Int.reduceBEq, Nat.reduceBEq, Int.reduceBNe, Nat.reduceBNe, Int.reduceAdd, Int.reduceSub, Int.reduceMul, Int.reduceNeg]
  refine (Search_c 36 [.pointer (some ⟨b1, 0, none⟩), .pointer (some ⟨b2, 0, none⟩)] ok_36 (fun t => decide (n ≤ localv L t)) 4294967296 (by omega) (by omega) _ (fun t _ _ =>
    probe_c L n hg base cap b1 b2 _ ((hs.add h_b1).add h_b2) (by simp (dsimp := false) (maxSteps := 4000000) only [hn_b1, hr_b1, hn_b2, hr_b2, go_sem, ↓reduceIte, Nat.reduceEqDiff, Nat.reduceLT, Nat.reduceLeDiff, Nat.reduceAdd, Nat.reduceMul, Nat.reduceSub, reduceCtorEq, Int.reduceToNat, Int.reduceLT, Int.reduceLE, Int.reduceEq, Int.reduceNe, Int.reduceBEq, Nat.reduceBEq, Int.reduceBNe, Nat.reduceBNe, Int.reduceAdd, Int.reduceSub, Int.reduceMul, Int.reduceNeg]) (by simp (dsimp := false) (maxSteps := 4000000) only [hn_b1, hr_b1, hn_b2, hr_b2, go_sem, ↓reduceIte, Nat.reduceEqDiff, Nat.reduceLT, Nat.reduceLeDiff, Nat.reduceAdd, Nat.reduceMul, Nat.reduceSub, reduceCtorEq, Int.reduceToNat, Int.reduceLT, Int.reduceLE, Int.reduceEq, Int.reduceNe, Int.reduceBEq, Nat.reduceBEq, Int.reduceBNe, Nat.reduceBNe, Int.reduceAdd, Int.reduceSub, Int.reduceMul, Int.reduceNeg]) t)).mono ?_
  rintro _ _ ⟨rfl, rfl⟩
  simp (dsimp := false) (maxSteps := 4000000) only [hn_b1, hr_b1, hn_b2, hr_b2, go_sem, ↓reduceIte, Nat.reduceEqDiff, Nat.reduceLT, Nat.reduceLeDiff, Nat.reduceAdd, Nat.reduceMul, Nat.reduceSub, reduceCtorEq, Int.reduceToNat, Int.reduceLT, Int.reduceLE, Int.reduceEq, Int.reduceNe, Int.reduceBEq, Nat.reduceBEq, Int.reduceBNe, Nat.reduceBNe, Int.reduceAdd, Int.reduceSub, Int.reduceMul, Int.reduceNeg]
  exact ⟨H, (AH.le_add (AH.le_add (AH.le_refl _) ((by simp only [fresh_add, fresh_set, ne_eq, hn_b1, not_false_eq_true, and_self] : Fresh _ b1).2)) ((by simp only [fresh_add, fresh_set, ne_eq, hn_b2, not_false_eq_true, and_self] : Fresh _ b2).2)), (by first | exact ⟨rfl, rfl⟩ | rfl)⟩
theorem RefGlobal_c (L : List Stp) (n : Int) (hg : good L = true) (base : Option Addr) (cap : Nat) (H : AH) (hs : SlcIn H 2 base cap (L.map enc)) :
    ACalls Try.prog 34 #[.slice base L.length cap, .int .i64 n] H (fun v H' => v = .int .i64 (globalv L n) ∧ H = H') := by
  refine ACalls.enter2 Try.func34 rfl Try.ntmps34 Try.results34 (by simp) ?_; simp (dsimp := false) (maxSteps := 4000000) only [go_sem, ↓reduceIte, Nat.reduceEqDiff, Nat.reduceLT, Nat.reduceLeDiff, Nat.reduceAdd, Nat.reduceMul, Nat.reduceSub, reduceCtorEq, Int.reduceToNat, Int.reduceLT, Int.reduceLE, Int.reduceEq, Int.reduceNe, Int.reduceBEq, Nat.reduceBEq, Int.reduceBNe, Nat.reduceBNe, Int.reduceAdd, Int.reduceSub, Int.reduceMul, Int.reduceNeg]
  refine AWp.loopo (ι := Int × Int × Nat) (fun q => 0 ≤ q.1 ∧ q.1 ≤ q.2.1 ∧ q.2.1 ≤ 4294967296 ∧ q.2.1 - q.1 < 2 ^ q.2.2 ∧ globalv L n = bsF (fun t => decide (n ≤ localv L t)) q.2.2 q.1 q.2.1)
    (fun q => [(5, .int .i64 q.1), (6, .int .i64 q.2.1), (0, .slice base L.length cap), (1, .int .i64 n)])
    (fun _ => H) (fun q => (q.2.1 - q.1).toNat) (0, 4294967296, 33) ⟨by simp, by simp, by simp, by simp, rfl⟩ (FrLe.of_lks ?_) (AH.le_refl _) fun q hi Q again out => ?_
  · simp (dsimp := false) (maxSteps := 4000000) only [go_sem, ↓reduceIte, Nat.reduceEqDiff, Nat.reduceLT, Nat.reduceLeDiff, Nat.reduceAdd, Nat.reduceMul, Nat.reduceSub, reduceCtorEq, Int.reduceToNat, Int.reduceLT, Int.reduceLE, Int.reduceEq, Int.reduceNe, Int.reduceBEq, Nat.reduceBEq, Int.reduceBNe, Nat.reduceBNe, Int.reduceAdd, Int.reduceSub, Int.reduceMul, Int.reduceNeg]
  · obtain ⟨i, j, k⟩ := q
    obtain ⟨k1, k2, k3, k4, k5⟩ := hi
    simp only at k1 k2 k3 k4 k5 ⊢
    by_cases h : i < j
    · cases k with
      | zero => simp at k4; omega
      | succ k =>
        have hp : (2 : Int) ^ (k + 1) = 2 ^ k * 2 := Int.pow_succ _ _
        have e1 : IntKind.i64.wrap (j - i) = j - i := i64_eq (by omega) (by omega)
        have e2 : (j - i).tdiv 2 = (j - i) / 2 := Int.tdiv_eq_ediv_of_nonneg (by omega)
        have e3 : IntKind.i64.wrap ((j - i) / 2) = (j - i) / 2 := i64_eq (by omega) (by omega)
        have e4 : IntKind.i64.wrap (i + (j - i) / 2) = (i + j) / 2 := by rw [i64_eq (by omega) (by omega)]; omega
        have e5 : IntKind.i64.wrap ((i + j) / 2 + 1) = (i + j) / 2 + 1 := i64_eq (by omega) (by omega)
        rw [bsF_step h] at k5
        simp (dsimp := false) (maxSteps := 4000000) only [h, e1, e2, e3, e4, go_sem, ↓reduceIte, Nat.reduceEqDiff, Nat.reduceLT, Nat.reduceLeDiff, Nat.reduceAdd, Nat.reduceMul, Nat.reduceSub, reduceCtorEq, Int.reduceToNat, Int.reduceLT, Int.reduceLE, Int.reduceEq, Int.reduceNe, Int.reduceBEq, Nat.reduceBEq, Int.reduceBNe, Nat.reduceBNe, Int.reduceAdd, Int.reduceSub, Int.reduceMul, Int.reduceNeg]
        refine (RefLocal_c L ((i + j) / 2) hg base cap _ hs).mono ?_; rintro _ _ ⟨rfl, rfl⟩
        by_cases hp' : n ≤ localv L ((i + j) / 2)
        · simp only [hp', decide_true, if_true] at k5
          simp (dsimp := false) (maxSteps := 4000000) only [hp', go_sem, ↓reduceIte, Nat.reduceEqDiff, Nat.reduceLT, Nat.reduceLeDiff, Nat.reduceAdd, Nat.reduceMul, Nat.reduceSub, reduceCtorEq, Int.reduceToNat, Int.reduceLT, Int.reduceLE, Int.reduceEq, Int.reduceNe, Int.reduceBEq, Nat.reduceBEq, Int.reduceBNe, Nat.reduceBNe, Int.reduceAdd, Int.reduceSub, Int.reduceMul, Int.reduceNeg]
          exact again (i, (i + j) / 2, k) _ _ ⟨by simp only; omega, by simp only; omega, by simp only; omega, by simp only; omega, k5⟩ (FrLe.of_lks (by simp (dsimp := false) (maxSteps := 4000000) only [go_sem, ↓reduceIte, Nat.reduceEqDiff, Nat.reduceLT, Nat.reduceLeDiff, Nat.reduceAdd, Nat.reduceMul, Nat.reduceSub, reduceCtorEq, Int.reduceToNat, Int.reduceLT, Int.reduceLE, Int.reduceEq, Int.reduceNe, Int.reduceBEq, Nat.reduceBEq, Int.reduceBNe, Nat.reduceBNe, Int.reduceAdd, Int.reduceSub, Int.reduceMul, Int.reduceNeg])) (AH.le_refl _) (by simp only; omega)
        · simp only [hp', decide_false, Bool.false_eq_true, if_false] at k5
          simp (dsimp := false) (maxSteps := 4000000) only [hp', e5, go_sem, ↓reduceIte, Nat.reduceEqDiff, Nat.reduceLT, Nat.reduceLeDiff, Nat.reduceAdd, Nat.reduceMul, Nat.reduceSub, reduceCtorEq, Int.reduceToNat, Int.reduceLT, Int.reduceLE, Int.reduceEq, Int.reduceNe, Int.reduceBEq, Nat.reduceBEq, Int.reduceBNe, Nat.reduceBNe, Int.reduceAdd, Int.reduceSub, Int.reduceMul, Int.reduceNeg]
          exact again ((i + j) / 2 + 1, j, k) _ _ ⟨by simp only; omega, by simp only; omega, by simp only; omega, by simp only; omega, k5⟩ (FrLe.of_lks (by simp (dsimp := false) (maxSteps := 4000000) only [go_sem, ↓reduceIte, Nat.reduceEqDiff, Nat.reduceLT, Nat.reduceLeDiff, Nat.reduceAdd, Nat.reduceMul, Nat.reduceSub, reduceCtorEq, Int.reduceToNat, Int.reduceLT, Int.reduceLE, Int.reduceEq, Int.reduceNe, Int.reduceBEq, Nat.reduceBEq, Int.reduceBNe, Nat.reduceBNe, Int.reduceAdd, Int.reduceSub, Int.reduceMul, Int.reduceNeg])) (AH.le_refl _) (by simp only; omega)
    · rw [bsF_end h] at k5
      simp (dsimp := false) (maxSteps := 4000000) only [h, go_sem, ↓reduceIte, Nat.reduceEqDiff, Nat.reduceLT, Nat.reduceLeDiff, Nat.reduceAdd, Nat.reduceMul, Nat.reduceSub, reduceCtorEq, Int.reduceToNat, Int.reduceLT, Int.reduceLE, Int.reduceEq, Int.reduceNe, Int.reduceBEq, Nat.reduceBEq, Int.reduceBNe, Nat.reduceBNe, Int.reduceAdd, Int.reduceSub, Int.reduceMul, Int.reduceNeg]
      refine out _ _ _ (by simp) ?_
      simp (dsimp := false) (maxSteps := 4000000) only [go_sem, ↓reduceIte, Nat.reduceEqDiff, Nat.reduceLT, Nat.reduceLeDiff, Nat.reduceAdd, Nat.reduceMul, Nat.reduceSub, reduceCtorEq, Int.reduceToNat, Int.reduceLT, Int.reduceLE, Int.reduceEq, Int.reduceNe, Int.reduceBEq, Nat.reduceBEq, Int.reduceBNe, Nat.reduceBNe, Int.reduceAdd, Int.reduceSub, Int.reduceMul, Int.reduceNeg]
      exact ⟨H, (AH.le_refl _), (by first | exact ⟨by rw [k5], rfl⟩ | rfl)⟩
theorem sumT_step (t : Int) : ∀ (l : List Stp) (last : Int), goodR last l = true → -20000 ≤ sumT (t + 1) l - sumT t l ∧ sumT (t + 1) l - sumT t l ≤ 20000
  | [], _, _ => by simp [sumT]
  | [s], last, h => by
    obtain ⟨g1, g2, g3, g4, _⟩ := goodR_cons h
    simp only [sumT, toOf, Int.add_zero]
    by_cases hs : t + 1 ≤ s.at_
    · rw [pos_neg (show t + 1 - s.at_ ≤ 0 from by omega), pos_neg (show t - s.at_ ≤ 0 from by omega)]; omega
    · rw [pos_of (show 0 ≤ t + 1 - s.at_ from by omega), pos_of (show 0 ≤ t - s.at_ from by omega), show t + 1 - s.at_ = (t - s.at_) + 1 from by omega, Int.add_mul, Int.one_mul]; omega
  | s :: s' :: l, last, h => by
    obtain ⟨g1, g2, g3, g4, g5⟩ := goodR_cons h
    obtain ⟨k1, k2, k3, k4, k5⟩ := goodR_cons g5
    have e : ∀ u, sumT u (s :: s' :: l) = pos ((if s'.at_ < u then s'.at_ else u) - s.at_) * s.rate + sumT u (s' :: l) := fun u => rfl
    rw [e, e]
    by_cases hs : t + 1 ≤ s'.at_
    · have hg : goodR (s'.at_ - 1) (s' :: l) = true := by simp only [goodR, okS_ok (last := s'.at_ - 1) (s := s') (by omega), k5, Bool.and_self]
      rw [sumT_late (t + 1) (s' :: l) _ hg (by omega), sumT_late t (s' :: l) _ hg (by omega), if_neg (by omega), if_neg (by omega)]
      by_cases hs2 : t + 1 ≤ s.at_
      · rw [pos_neg (show t + 1 - s.at_ ≤ 0 from by omega), pos_neg (show t - s.at_ ≤ 0 from by omega)]; omega
      · rw [pos_of (show 0 ≤ t + 1 - s.at_ from by omega), pos_of (show 0 ≤ t - s.at_ from by omega), show t + 1 - s.at_ = (t - s.at_) + 1 from by omega, Int.add_mul, Int.one_mul]; omega
    · have ih := sumT_step t (s' :: l) _ g5
      have e2 : (if s'.at_ < t + 1 then s'.at_ else t + 1) = (if s'.at_ < t then s'.at_ else t) := by split <;> split <;> omega
      rw [e2]; omega
theorem clamp_id {t : Int} (h0 : 0 ≤ t) (h1 : t ≤ 4294967296) : clamp t = t := by unfold clamp pos; (repeat' split) <;> omega
theorem local_mono {L : List Stp} (hg : good L = true) {t : Int} (h0 : 0 ≤ t) (h1 : t < 4294967296) : localv L t ≤ localv L (t + 1) := by
  rw [(localv_div hg t).1, (localv_div hg (t + 1)).1, clamp_id h0 (by omega), clamp_id (by omega) (by omega)]
  have := sumT_step t L _ (good_R hg).2
  omega
theorem local_off {L : List Stp} (hg : good L = true) {t : Int} (h0 : 0 ≤ t) (h1 : t < 4294967296) : localv L t ≤ t + t / 50 + 1 ∧ t - t / 50 - 1 ≤ localv L t := by
  rw [(localv_div hg t).1, clamp_id h0 (by omega)]
  have := sumT_range h0 (good_R hg).2
  omega
theorem bsF_spec (p : Int → Bool) : ∀ (k : Nat) (i j : Int), 0 ≤ i → i ≤ j → j - i < 2 ^ k → i ≤ bsF p k i j ∧ bsF p k i j ≤ j ∧ (bsF p k i j = j ∨ p (bsF p k i j) = true) ∧ (bsF p k i j = i ∨ p (bsF p k i j - 1) = false)
  | 0, i, j, h0, h1, h2 => by
    simp at h2
    have e : bsF p 0 i j = i := rfl
    rw [e]
    exact ⟨by omega, by omega, .inl (by omega), .inl rfl⟩
  | k + 1, i, j, h0, h1, h2 => by
    have hp : (2 : Int) ^ (k + 1) = 2 ^ k * 2 := Int.pow_succ _ _
    by_cases h : i < j
    · rw [bsF_step h]
      cases hh : p ((i + j) / 2) with
      | true =>
        simp only [if_true]
        obtain ⟨a, b, c, d⟩ := bsF_spec p k i ((i + j) / 2) h0 (by omega) (by omega)
        refine ⟨a, by omega, .inr ?_, d⟩
        rcases c with c | c
        · rw [c]; exact hh
        · exact c
      | false =>
        simp only [Bool.false_eq_true, if_false]
        obtain ⟨a, b, c, d⟩ := bsF_spec p k ((i + j) / 2 + 1) j (by omega) (by omega) (by omega)
        refine ⟨by omega, b, c, .inr ?_⟩
        rcases d with d | d
        · rw [d, show (i + j) / 2 + 1 - 1 = (i + j) / 2 from by omega]; exact hh
        · exact d
    · rw [bsF_end h]
      exact ⟨by omega, by omega, .inl (by omega), .inl rfl⟩
theorem globalv_spec (L : List Stp) (y : Int) : 0 ≤ globalv L y ∧ globalv L y ≤ 4294967296 ∧ (globalv L y = 4294967296 ∨ decide (y ≤ localv L (globalv L y)) = true) ∧ (globalv L y = 0 ∨ decide (y ≤ localv L (globalv L y - 1)) = false) :=
  bsF_spec (fun t => decide (y ≤ localv L t)) 33 0 4294967296 (by omega) (by omega) (by omega)
end Go.Proofs.Ytapfabjmooagaaa.Tck
