/- Declarations cut out of other texts of mine. -/
import Derived.Test.YtapfabjmooagaaaUaP
namespace Go.Proofs.Ytapfabjmooagaaa.UaT
set_option linter.unusedSimpArgs false
set_option linter.unusedVariables false
open Go Go.AX Go.Proofs Ty Go.Proofs.Ytapfabjmooagaaa.UaP
set_option maxHeartbeats 4000000
set_option maxRecDepth 10000

/-- The number that bits 1 to i make. -/
def valu (l : List Bool) : Nat → Int
  | 0 => 0
  | i + 1 => valu l i + if l.getD (i + 1) false then 2 ^ i else 0
/-- How many of the bits 1 to i are set. -/
def cnt (l : List Bool) : Nat → Int
  | 0 => 0
  | i + 1 => cnt l i + if l.getD (i + 1) false then 1 else 0
def par (l : List Bool) (i : Nat) : Bool := cnt l i % 2 == 1
theorem valu_nonneg (l : List Bool) : ∀ i, 0 ≤ valu l i
  | 0 => by simp [valu]
  | i + 1 => by
    have := valu_nonneg l i
    have : (0 : Int) ≤ 2 ^ i := Int.le_of_lt (Int.pow_pos (by decide))
    simp only [valu]; split <;> omega
theorem valu_lt (l : List Bool) : ∀ i, valu l i < 2 ^ i
  | 0 => by simp [valu]
  | i + 1 => by
    have := valu_lt l i
    have e : (2 : Int) ^ (i + 1) = 2 ^ i * 2 := Int.pow_succ _ _
    have : (0 : Int) ≤ 2 ^ i := Int.le_of_lt (Int.pow_pos (by decide))
    simp only [valu]; split <;> omega
theorem cnt_nonneg (l : List Bool) : ∀ i, 0 ≤ cnt l i
  | 0 => by simp [cnt]
  | i + 1 => by have := cnt_nonneg l i; simp only [cnt]; split <;> omega
theorem cnt_le (l : List Bool) : ∀ i, cnt l i ≤ i
  | 0 => by simp [cnt]
  | i + 1 => by have := cnt_le l i; simp only [cnt]; split <;> omega
theorem par_set {l : List Bool} {i : Nat} (h : l.getD (i + 1) false = true) : par l (i + 1) = !par l i := by
  have := cnt_nonneg l i
  simp only [par, cnt, h, if_true]
  rcases Int.emod_two_eq (cnt l i) with h1 | h1 <;> simp [h1, show (cnt l i + 1) % 2 = 1 - cnt l i % 2 from by omega]
theorem par_clear {l : List Bool} {i : Nat} (h : l.getD (i + 1) false = false) : par l (i + 1) = par l i := by simp only [par, cnt, h, Bool.false_eq_true, if_false, Int.add_zero]
theorem or_all : ∀ (v : Fin 256) (i : Fin 9), (v.val : Int) < 2 ^ i.val → ibits .or .u8 v.val (IntKind.u8.wrap (1 * 2 ^ min i.val IntKind.u8.bits)) = if i.val = 8 then (v.val : Int) else v.val + 2 ^ i.val := by decide +kernel
/-- What bits 1 to 8 make, and no more. -/
def val8 (l : List Bool) (i : Nat) : Int := valu l (min i 8)
theorem or_eq {l : List Bool} {i : Nat} (hi : i < 9) (h : l.getD (i + 1) false = true) : ibits .or .u8 (val8 l i) (IntKind.u8.wrap (1 * 2 ^ min i IntKind.u8.bits)) = val8 l (i + 1) := by
  have h0 := valu_nonneg l i
  have h1 := valu_lt l i
  rw [show val8 l i = valu l i from by unfold val8; rw [Nat.min_eq_left (by omega)]]
  obtain ⟨n, hn⟩ := Int.eq_ofNat_of_zero_le h0
  have hp : (2 : Int) ^ i ≤ 256 := (by decide : ∀ i : Fin 9, (2 : Int) ^ i.val ≤ 256) ⟨i, hi⟩
  have := or_all ⟨n, by omega⟩ ⟨i, hi⟩ (by simp only; omega)
  rw [hn]; simp only at this; rw [this]
  by_cases h8 : i = 8
  · subst h8; simp [val8, ← hn]
  · rw [if_neg h8, ← hn]
    simp only [val8, Nat.min_eq_left (show i + 1 ≤ 8 by omega), valu, h, if_true]
theorem keep_eq {l : List Bool} {i : Nat} (h : l.getD (i + 1) false = false) : val8 l i = val8 l (i + 1) := by
  unfold val8
  by_cases h8 : i < 8
  · rw [Nat.min_eq_left (by omega), Nat.min_eq_left (by omega)]; simp only [valu, h, Bool.false_eq_true, if_false, Int.add_zero]
  · rw [Nat.min_eq_right (by omega), Nat.min_eq_right (by omega)]
def takev (l : List Bool) : Value := if l.getD 0 false = true ∨ l.getD 10 false = false then .tuple #[.int .u8 0, .bool false, .int .i64 2] else .tuple #[.int .u8 (valu l 8), .bool (par l 9), .int .i64 0]
theorem takev_bad {l : List Bool} (h : l.getD 0 false = true ∨ l.getD 10 false = false) : takev l = .tuple #[.int .u8 0, .bool false, .int .i64 2] := if_pos h
theorem takev_ok {l : List Bool} (h0 : l.getD 0 false = false) (h1 : l.getD 10 false = true) : takev l = .tuple #[.int .u8 (val8 l 9), .bool (par l 9), .int .i64 0] := if_neg (by simp only [h0, h1]; simp)
theorem getD_of {l : List Bool} {i : Nat} {x : Bool} (h : l[i]? = some x) : l.getD i false = x := by simp [List.getD_eq_getElem?_getD, h]
theorem Take_c (l : List Bool) (hl : l.length = 11) (H : AH) : ACalls Try.prog 30 #[.agg (l.map Value.bool).toArray] H (fun v H' => v = takev l ∧ H = H') := by
  obtain ⟨x0, hx0⟩ := get_some (l := l) (i := 0) (by omega)
  obtain ⟨x10, hx10⟩ := get_some (l := l) (i := 10) (by omega)
  have hr0 : (l.map Value.bool)[0]? = some (.bool x0) := by rw [List.getElem?_map, hx0]; rfl
  have hr10 : (l.map Value.bool)[10]? = some (.bool x10) := by rw [List.getElem?_map, hx10]; rfl
  have g0 := getD_of hx0
  have g10 := getD_of hx10
  refine ACalls.enter2 Try.func30 rfl Try.ntmps30 Try.results30 (by simp) ?_; simp (dsimp := false) (maxSteps := 4000000) only [go_sem, ↓reduceIte, Nat.reduceEqDiff, Nat.reduceLT, Nat.reduceLeDiff, Nat.reduceAdd, Nat.reduceMul, Nat.reduceSub, reduceCtorEq, Int.reduceToNat, Int.reduceLT, Int.reduceLE, Int.reduceEq, Int.reduceNe, Int.reduceBEq, Nat.reduceBEq, Int.reduceBNe, Nat.reduceBNe, Int.reduceAdd, Int.reduceSub, Int.reduceMul, Int.reduceNeg]
  
  refine AllB.mk fun b1 h_b1 => ?_; have hn_b1 := h_b1; (try simp only [fresh_add, fresh_set, ne_eq] at hn_b1); have hr_b1 := hn_b1; (try simp only [@eq_comm Nat b1] at hr_b1); simp (dsimp := false) (maxSteps := 4000000) only [hl, hr0, hr10, hn_b1, hr_b1, go_sem, ↓reduceIte, Nat.reduceEqDiff, Nat.reduceLT, Nat.reduceLeDiff, Nat.reduceAdd, Nat.reduceMul, Nat.reduceSub, reduceCtorEq, Int.reduceToNat, Int.reduceLT, Int.reduceLE, Int.reduceEq, Int.reduceNe, Int.reduceBEq, Nat.reduceBEq, Int.reduceBNe, Nat.reduceBNe, Int.reduceAdd, Int.reduceSub, Int.reduceMul, Int.reduceNeg]
  cases x0
  · cases x10
    · simp (dsimp := false) (maxSteps := 4000000) only [hl, hr0, hr10, hn_b1, hr_b1, go_sem, ↓reduceIte, Nat.reduceEqDiff, Nat.reduceLT, Nat.reduceLeDiff, Nat.reduceAdd, Nat.reduceMul, Nat.reduceSub, reduceCtorEq, Int.reduceToNat, Int.reduceLT, Int.reduceLE, Int.reduceEq, Int.reduceNe, Int.reduceBEq, Nat.reduceBEq, Int.reduceBNe, Nat.reduceBNe, Int.reduceAdd, Int.reduceSub, Int.reduceMul, Int.reduceNeg]
      exact ⟨H, (AH.le_add (AH.le_refl _) ((by simp only [fresh_add, fresh_set, ne_eq, hn_b1, not_false_eq_true, and_self] : Fresh _ b1).2)), (by first | exact ⟨(takev_bad (.inr g10)).symm, rfl⟩ | rfl)⟩
    · simp (dsimp := false) (maxSteps := 4000000) only [hl, hr0, hr10, hn_b1, hr_b1, go_sem, ↓reduceIte, Nat.reduceEqDiff, Nat.reduceLT, Nat.reduceLeDiff, Nat.reduceAdd, Nat.reduceMul, Nat.reduceSub, reduceCtorEq, Int.reduceToNat, Int.reduceLT, Int.reduceLE, Int.reduceEq, Int.reduceNe, Int.reduceBEq, Nat.reduceBEq, Int.reduceBNe, Nat.reduceBNe, Int.reduceAdd, Int.reduceSub, Int.reduceMul, Int.reduceNeg]
      refine AWp.loopo (ι := Nat) (fun i => i ≤ 9) (fun i => [(16, .int .i64 i), (15, .int .i64 9), (14, .slice (some ⟨b1, 1, none⟩) 9 10), (3, .bool (par l i)), (2, .int .u8 (val8 l i))])
        (fun i => H.add b1 (.cells (l.map Value.bool) 41 11)) (fun i => 9 - i) 0 (by omega) (FrLe.of_lks ?_) ?_ fun i hi Q again out => ?_
      · simp (dsimp := false) (maxSteps := 4000000) only [hl, hr0, hr10, hn_b1, hr_b1, go_sem, ↓reduceIte, Nat.reduceEqDiff, Nat.reduceLT, Nat.reduceLeDiff, Nat.reduceAdd, Nat.reduceMul, Nat.reduceSub, reduceCtorEq, Int.reduceToNat, Int.reduceLT, Int.reduceLE, Int.reduceEq, Int.reduceNe, Int.reduceBEq, Nat.reduceBEq, Int.reduceBNe, Nat.reduceBNe, Int.reduceAdd, Int.reduceSub, Int.reduceMul, Int.reduceNeg]
        exact ⟨rfl, rfl⟩
      · rw [hl]; exact AH.le_refl _
      · simp (dsimp := false) (maxSteps := 4000000) only [hl, hr0, hr10, hn_b1, hr_b1, go_sem, ↓reduceIte, Nat.reduceEqDiff, Nat.reduceLT, Nat.reduceLeDiff, Nat.reduceAdd, Nat.reduceMul, Nat.reduceSub, reduceCtorEq, Int.reduceToNat, Int.reduceLT, Int.reduceLE, Int.reduceEq, Int.reduceNe, Int.reduceBEq, Nat.reduceBEq, Int.reduceBNe, Nat.reduceBNe, Int.reduceAdd, Int.reduceSub, Int.reduceMul, Int.reduceNeg]
        refine ⟨fun h => ?_, fun h => ?_⟩
        · obtain ⟨x, hx⟩ := get_some (l := l) (i := i + 1) (by omega)
          have hr : (l.map Value.bool)[i + 1]? = some (.bool x) := by rw [List.getElem?_map, hx]; rfl
          have e1 := i64_succ (i := i) (by omega)
          simp (dsimp := false) (maxSteps := 4000000) only [h, e1, Nat.add_comm 1 i, hr, hl, hr0, hr10, hn_b1, hr_b1, go_sem, ↓reduceIte, Nat.reduceEqDiff, Nat.reduceLT, Nat.reduceLeDiff, Nat.reduceAdd, Nat.reduceMul, Nat.reduceSub, reduceCtorEq, Int.reduceToNat, Int.reduceLT, Int.reduceLE, Int.reduceEq, Int.reduceNe, Int.reduceBEq, Nat.reduceBEq, Int.reduceBNe, Nat.reduceBNe, Int.reduceAdd, Int.reduceSub, Int.reduceMul, Int.reduceNeg]
          have gx := getD_of hx
          cases x
          · simp (dsimp := false) (maxSteps := 4000000) only [hl, hr0, hr10, hn_b1, hr_b1, go_sem, ↓reduceIte, Nat.reduceEqDiff, Nat.reduceLT, Nat.reduceLeDiff, Nat.reduceAdd, Nat.reduceMul, Nat.reduceSub, reduceCtorEq, Int.reduceToNat, Int.reduceLT, Int.reduceLE, Int.reduceEq, Int.reduceNe, Int.reduceBEq, Nat.reduceBEq, Int.reduceBNe, Nat.reduceBNe, Int.reduceAdd, Int.reduceSub, Int.reduceMul, Int.reduceNeg]
            exact again (i + 1) _ _ (by omega) (FrLe.of_lks (by rw [← keep_eq gx, par_clear gx]; simp (dsimp := false) (maxSteps := 4000000) only [e1, hl, hr0, hr10, hn_b1, hr_b1, go_sem, ↓reduceIte, Nat.reduceEqDiff, Nat.reduceLT, Nat.reduceLeDiff, Nat.reduceAdd, Nat.reduceMul, Nat.reduceSub, reduceCtorEq, Int.reduceToNat, Int.reduceLT, Int.reduceLE, Int.reduceEq, Int.reduceNe, Int.reduceBEq, Nat.reduceBEq, Int.reduceBNe, Nat.reduceBNe, Int.reduceAdd, Int.reduceSub, Int.reduceMul, Int.reduceNeg])) (AH.le_refl _) (by omega)
          · have e2 : ibits .or .u8 (val8 l i) (IntKind.u8.wrap (1 * 2 ^ min i 8)) = val8 l (i + 1) := or_eq (l := l) (i := i) (by omega) gx
            simp (dsimp := false) (maxSteps := 4000000) only [e2, e1, hl, hr0, hr10, hn_b1, hr_b1, go_sem, ↓reduceIte, Nat.reduceEqDiff, Nat.reduceLT, Nat.reduceLeDiff, Nat.reduceAdd, Nat.reduceMul, Nat.reduceSub, reduceCtorEq, Int.reduceToNat, Int.reduceLT, Int.reduceLE, Int.reduceEq, Int.reduceNe, Int.reduceBEq, Nat.reduceBEq, Int.reduceBNe, Nat.reduceBNe, Int.reduceAdd, Int.reduceSub, Int.reduceMul, Int.reduceNeg]
            exact again (i + 1) _ _ (by omega) (FrLe.of_lks (by rw [par_set gx]; simp (dsimp := false) (maxSteps := 4000000) only [hl, hr0, hr10, hn_b1, hr_b1, go_sem, ↓reduceIte, Nat.reduceEqDiff, Nat.reduceLT, Nat.reduceLeDiff, Nat.reduceAdd, Nat.reduceMul, Nat.reduceSub, reduceCtorEq, Int.reduceToNat, Int.reduceLT, Int.reduceLE, Int.reduceEq, Int.reduceNe, Int.reduceBEq, Nat.reduceBEq, Int.reduceBNe, Nat.reduceBNe, Int.reduceAdd, Int.reduceSub, Int.reduceMul, Int.reduceNeg])) (AH.le_refl _) (by omega)
        · obtain rfl : i = 9 := by omega
          simp (dsimp := false) (maxSteps := 4000000) only [hl, hr0, hr10, hn_b1, hr_b1, go_sem, ↓reduceIte, Nat.reduceEqDiff, Nat.reduceLT, Nat.reduceLeDiff, Nat.reduceAdd, Nat.reduceMul, Nat.reduceSub, reduceCtorEq, Int.reduceToNat, Int.reduceLT, Int.reduceLE, Int.reduceEq, Int.reduceNe, Int.reduceBEq, Nat.reduceBEq, Int.reduceBNe, Nat.reduceBNe, Int.reduceAdd, Int.reduceSub, Int.reduceMul, Int.reduceNeg]
          refine out _ _ _ (by simp) ?_
          simp (dsimp := false) (maxSteps := 4000000) only [hl, hr0, hr10, hn_b1, hr_b1, go_sem, ↓reduceIte, Nat.reduceEqDiff, Nat.reduceLT, Nat.reduceLeDiff, Nat.reduceAdd, Nat.reduceMul, Nat.reduceSub, reduceCtorEq, Int.reduceToNat, Int.reduceLT, Int.reduceLE, Int.reduceEq, Int.reduceNe, Int.reduceBEq, Nat.reduceBEq, Int.reduceBNe, Nat.reduceBNe, Int.reduceAdd, Int.reduceSub, Int.reduceMul, Int.reduceNeg]
          exact ⟨H, (AH.le_add (AH.le_refl _) ((by simp only [fresh_add, fresh_set, ne_eq, hn_b1, not_false_eq_true, and_self] : Fresh _ b1).2)), (by first | exact ⟨(takev_ok g0 g10).symm, rfl⟩ | rfl)⟩
  · simp (dsimp := false) (maxSteps := 4000000) only [hl, hr0, hr10, hn_b1, hr_b1, go_sem, ↓reduceIte, Nat.reduceEqDiff, Nat.reduceLT, Nat.reduceLeDiff, Nat.reduceAdd, Nat.reduceMul, Nat.reduceSub, reduceCtorEq, Int.reduceToNat, Int.reduceLT, Int.reduceLE, Int.reduceEq, Int.reduceNe, Int.reduceBEq, Nat.reduceBEq, Int.reduceBNe, Nat.reduceBNe, Int.reduceAdd, Int.reduceSub, Int.reduceMul, Int.reduceNeg]
    exact ⟨H, (AH.le_add (AH.le_refl _) ((by simp only [fresh_add, fresh_set, ne_eq, hn_b1, not_false_eq_true, and_self] : Fresh _ b1).2)), (by first | exact ⟨(takev_bad (.inl g0)).symm, rfl⟩ | rfl)⟩
theorem pow_le : ∀ i : Fin 9, (2 : Int) ^ i.val ≤ 256 := by decide
theorem RefTake_c (l : List Bool) (hl : l.length = 11) (H : AH) : ACalls Try.prog 31 #[.agg (l.map Value.bool).toArray] H (fun v H' => v = takev l ∧ H = H') := by
  obtain ⟨x0, hx0⟩ := get_some (l := l) (i := 0) (by omega)
  obtain ⟨x9, hx9⟩ := get_some (l := l) (i := 9) (by omega)
  obtain ⟨x10, hx10⟩ := get_some (l := l) (i := 10) (by omega)
  have hr0 : (l.map Value.bool)[0]? = some (.bool x0) := by rw [List.getElem?_map, hx0]; rfl
  have hr9 : (l.map Value.bool)[9]? = some (.bool x9) := by rw [List.getElem?_map, hx9]; rfl
  have hr10 : (l.map Value.bool)[10]? = some (.bool x10) := by rw [List.getElem?_map, hx10]; rfl
  have g0 := getD_of hx0
  have g9 := getD_of hx9
  have g10 := getD_of hx10
  refine ACalls.enter2 Try.func31 rfl Try.ntmps31 Try.results31 (by simp) ?_; simp (dsimp := false) (maxSteps := 4000000) only [go_sem, ↓reduceIte, Nat.reduceEqDiff, Nat.reduceLT, Nat.reduceLeDiff, Nat.reduceAdd, Nat.reduceMul, Nat.reduceSub, reduceCtorEq, Int.reduceToNat, Int.reduceLT, Int.reduceLE, Int.reduceEq, Int.reduceNe, Int.reduceBEq, Nat.reduceBEq, Int.reduceBNe, Nat.reduceBNe, Int.reduceAdd, Int.reduceSub, Int.reduceMul, Int.reduceNeg]
  
  refine AllB.mk fun b1 h_b1 => ?_; have hn_b1 := h_b1; (try simp only [fresh_add, fresh_set, ne_eq] at hn_b1); have hr_b1 := hn_b1; (try simp only [@eq_comm Nat b1] at hr_b1); simp (dsimp := false) (maxSteps := 4000000) only [hl, hr0, hr9, hr10, hn_b1, hr_b1, go_sem, ↓reduceIte, Nat.reduceEqDiff, Nat.reduceLT, Nat.reduceLeDiff, Nat.reduceAdd, Nat.reduceMul, Nat.reduceSub, reduceCtorEq, Int.reduceToNat, Int.reduceLT, Int.reduceLE, Int.reduceEq, Int.reduceNe, Int.reduceBEq, Nat.reduceBEq, Int.reduceBNe, Nat.reduceBNe, Int.reduceAdd, Int.reduceSub, Int.reduceMul, Int.reduceNeg]
  cases x0
  · cases x10
    · simp (dsimp := false) (maxSteps := 4000000) only [hl, hr0, hr9, hr10, hn_b1, hr_b1, go_sem, ↓reduceIte, Nat.reduceEqDiff, Nat.reduceLT, Nat.reduceLeDiff, Nat.reduceAdd, Nat.reduceMul, Nat.reduceSub, reduceCtorEq, Int.reduceToNat, Int.reduceLT, Int.reduceLE, Int.reduceEq, Int.reduceNe, Int.reduceBEq, Nat.reduceBEq, Int.reduceBNe, Nat.reduceBNe, Int.reduceAdd, Int.reduceSub, Int.reduceMul, Int.reduceNeg]
      exact ⟨H, (AH.le_add (AH.le_refl _) ((by simp only [fresh_add, fresh_set, ne_eq, hn_b1, not_false_eq_true, and_self] : Fresh _ b1).2)), (by first | exact ⟨(takev_bad (.inr g10)).symm, rfl⟩ | rfl)⟩
    · simp (dsimp := false) (maxSteps := 4000000) only [hl, hr0, hr9, hr10, hn_b1, hr_b1, go_sem, ↓reduceIte, Nat.reduceEqDiff, Nat.reduceLT, Nat.reduceLeDiff, Nat.reduceAdd, Nat.reduceMul, Nat.reduceSub, reduceCtorEq, Int.reduceToNat, Int.reduceLT, Int.reduceLE, Int.reduceEq, Int.reduceNe, Int.reduceBEq, Nat.reduceBEq, Int.reduceBNe, Nat.reduceBNe, Int.reduceAdd, Int.reduceSub, Int.reduceMul, Int.reduceNeg]
      refine AWp.loopo (ι := Nat) (fun i => i ≤ 8) (fun i => [(8, .int .i64 ((i + 1 : Nat) : Int)), (5, .int .i64 (valu l i)), (6, .int .i64 (2 ^ i)), (7, .int .i64 (cnt l i)), (1, .pointer (some ⟨b1, 0, none⟩))])
        (fun i => H.add b1 (.cells (l.map Value.bool) 41 11)) (fun i => 8 - i) 0 (by omega) (FrLe.of_lks ?_) ?_ fun i hi Q again out => ?_
      · simp (dsimp := false) (maxSteps := 4000000) only [hl, hr0, hr9, hr10, hn_b1, hr_b1, go_sem, ↓reduceIte, Nat.reduceEqDiff, Nat.reduceLT, Nat.reduceLeDiff, Nat.reduceAdd, Nat.reduceMul, Nat.reduceSub, reduceCtorEq, Int.reduceToNat, Int.reduceLT, Int.reduceLE, Int.reduceEq, Int.reduceNe, Int.reduceBEq, Nat.reduceBEq, Int.reduceBNe, Nat.reduceBNe, Int.reduceAdd, Int.reduceSub, Int.reduceMul, Int.reduceNeg]
        all_goals (first | rfl | exact ⟨rfl, rfl⟩ | exact ⟨rfl, rfl, rfl⟩)
      · rw [hl]; exact AH.le_refl _
      · simp (dsimp := false) (maxSteps := 4000000) only [hl, hr0, hr9, hr10, hn_b1, hr_b1, go_sem, ↓reduceIte, Nat.reduceEqDiff, Nat.reduceLT, Nat.reduceLeDiff, Nat.reduceAdd, Nat.reduceMul, Nat.reduceSub, reduceCtorEq, Int.reduceToNat, Int.reduceLT, Int.reduceLE, Int.reduceEq, Int.reduceNe, Int.reduceBEq, Nat.reduceBEq, Int.reduceBNe, Nat.reduceBNe, Int.reduceAdd, Int.reduceSub, Int.reduceMul, Int.reduceNeg]
        refine ⟨fun h => ?_, fun h => ?_⟩
        · obtain ⟨x, hx⟩ := get_some (l := l) (i := i + 1) (by omega)
          have hr : (l.map Value.bool)[i + 1]? = some (.bool x) := by rw [List.getElem?_map, hx]; rfl
          have gx := getD_of hx
          have hp := pow_le ⟨i, by omega⟩
          have hp0 : (0 : Int) < 2 ^ i := Int.pow_pos (by decide)
          have hv := valu_lt l i
          have hv0 := valu_nonneg l i
          have hc := cnt_le l i
          have hc0 := cnt_nonneg l i
          simp only at hp
          have e1 := i64_succ (i := i + 1) (by omega)
          have e2 : IntKind.i64.wrap (2 * 2 ^ i) = 2 ^ (i + 1) := by rw [i64_eq (by omega) (by omega), Int.pow_succ, Int.mul_comm]
          have hge : (0 : Int) ≤ ((i + 1 : Nat) : Int) := by omega
          have hlt : ((i + 1 : Nat) : Int) < 11 := by omega
          cases x
          · simp (dsimp := false) (maxSteps := 4000000) only [hge, hlt, hr, e1, e2, hl, hr0, hr9, hr10, hn_b1, hr_b1, go_sem, ↓reduceIte, Nat.reduceEqDiff, Nat.reduceLT, Nat.reduceLeDiff, Nat.reduceAdd, Nat.reduceMul, Nat.reduceSub, reduceCtorEq, Int.reduceToNat, Int.reduceLT, Int.reduceLE, Int.reduceEq, Int.reduceNe, Int.reduceBEq, Nat.reduceBEq, Int.reduceBNe, Nat.reduceBNe, Int.reduceAdd, Int.reduceSub, Int.reduceMul, Int.reduceNeg]
            exact again (i + 1) _ _ (by omega) (FrLe.of_lks (by rw [show valu l (i + 1) = valu l i from (by simp only [valu, gx]; simp), show cnt l (i + 1) = cnt l i from (by simp only [cnt, gx]; simp)]; simp (dsimp := false) (maxSteps := 4000000) only [hl, hr0, hr9, hr10, hn_b1, hr_b1, go_sem, ↓reduceIte, Nat.reduceEqDiff, Nat.reduceLT, Nat.reduceLeDiff, Nat.reduceAdd, Nat.reduceMul, Nat.reduceSub, reduceCtorEq, Int.reduceToNat, Int.reduceLT, Int.reduceLE, Int.reduceEq, Int.reduceNe, Int.reduceBEq, Nat.reduceBEq, Int.reduceBNe, Nat.reduceBNe, Int.reduceAdd, Int.reduceSub, Int.reduceMul, Int.reduceNeg])) (AH.le_refl _) (by omega)
          · have e3 : IntKind.i64.wrap (valu l i + 2 ^ i) = valu l (i + 1) := by rw [i64_eq (by omega) (by omega)]; simp only [valu, gx, if_true]
            have e4 : IntKind.i64.wrap (cnt l i + 1) = cnt l (i + 1) := by rw [i64_eq (by omega) (by omega)]; simp only [cnt, gx, if_true]
            simp (dsimp := false) (maxSteps := 4000000) only [hge, hlt, hr, e1, e2, e3, e4, hl, hr0, hr9, hr10, hn_b1, hr_b1, go_sem, ↓reduceIte, Nat.reduceEqDiff, Nat.reduceLT, Nat.reduceLeDiff, Nat.reduceAdd, Nat.reduceMul, Nat.reduceSub, reduceCtorEq, Int.reduceToNat, Int.reduceLT, Int.reduceLE, Int.reduceEq, Int.reduceNe, Int.reduceBEq, Nat.reduceBEq, Int.reduceBNe, Nat.reduceBNe, Int.reduceAdd, Int.reduceSub, Int.reduceMul, Int.reduceNeg]
            exact again (i + 1) _ _ (by omega) (FrLe.of_lks (by simp (dsimp := false) (maxSteps := 4000000) only [hl, hr0, hr9, hr10, hn_b1, hr_b1, go_sem, ↓reduceIte, Nat.reduceEqDiff, Nat.reduceLT, Nat.reduceLeDiff, Nat.reduceAdd, Nat.reduceMul, Nat.reduceSub, reduceCtorEq, Int.reduceToNat, Int.reduceLT, Int.reduceLE, Int.reduceEq, Int.reduceNe, Int.reduceBEq, Nat.reduceBEq, Int.reduceBNe, Nat.reduceBNe, Int.reduceAdd, Int.reduceSub, Int.reduceMul, Int.reduceNeg])) (AH.le_refl _) (by omega)
        · obtain rfl : i = 8 := by omega
          simp (dsimp := false) (maxSteps := 4000000) only [hl, hr0, hr9, hr10, hn_b1, hr_b1, go_sem, ↓reduceIte, Nat.reduceEqDiff, Nat.reduceLT, Nat.reduceLeDiff, Nat.reduceAdd, Nat.reduceMul, Nat.reduceSub, reduceCtorEq, Int.reduceToNat, Int.reduceLT, Int.reduceLE, Int.reduceEq, Int.reduceNe, Int.reduceBEq, Nat.reduceBEq, Int.reduceBNe, Nat.reduceBNe, Int.reduceAdd, Int.reduceSub, Int.reduceMul, Int.reduceNeg]
          refine out _ _ _ (by simp) ?_
          have hv := valu_lt l 8
          have hv0 := valu_nonneg l 8
          have hc := cnt_le l 8
          have hc0 := cnt_nonneg l 8
          have e5 : IntKind.u8.wrap (valu l 8) = valu l 8 := u8_eq hv0 (by simpa using hv)
          cases x9
          · have e6 : (cnt l 8).tmod 2 = cnt l 9 % 2 := by rw [Int.tmod_eq_emod_of_nonneg hc0]; simp only [cnt, g9]; simp
            simp (dsimp := false) (maxSteps := 4000000) only [e5, e6, hl, hr0, hr9, hr10, hn_b1, hr_b1, go_sem, ↓reduceIte, Nat.reduceEqDiff, Nat.reduceLT, Nat.reduceLeDiff, Nat.reduceAdd, Nat.reduceMul, Nat.reduceSub, reduceCtorEq, Int.reduceToNat, Int.reduceLT, Int.reduceLE, Int.reduceEq, Int.reduceNe, Int.reduceBEq, Nat.reduceBEq, Int.reduceBNe, Nat.reduceBNe, Int.reduceAdd, Int.reduceSub, Int.reduceMul, Int.reduceNeg]
            exact ⟨H, (AH.le_add (AH.le_refl _) ((by simp only [fresh_add, fresh_set, ne_eq, hn_b1, not_false_eq_true, and_self] : Fresh _ b1).2)), (by first | exact ⟨(takev_ok g0 g10).symm, rfl⟩ | rfl)⟩
          · have e6 : IntKind.i64.wrap (cnt l 8 + 1) = cnt l 9 := by rw [i64_eq (by omega) (by omega)]; simp only [cnt, g9, if_true]
            have e7 : (cnt l 9).tmod 2 = cnt l 9 % 2 := Int.tmod_eq_emod_of_nonneg (cnt_nonneg l 9)
            simp (dsimp := false) (maxSteps := 4000000) only [e5, e6, e7, hl, hr0, hr9, hr10, hn_b1, hr_b1, go_sem, ↓reduceIte, Nat.reduceEqDiff, Nat.reduceLT, Nat.reduceLeDiff, Nat.reduceAdd, Nat.reduceMul, Nat.reduceSub, reduceCtorEq, Int.reduceToNat, Int.reduceLT, Int.reduceLE, Int.reduceEq, Int.reduceNe, Int.reduceBEq, Nat.reduceBEq, Int.reduceBNe, Nat.reduceBNe, Int.reduceAdd, Int.reduceSub, Int.reduceMul, Int.reduceNeg]
            exact ⟨H, (AH.le_add (AH.le_refl _) ((by simp only [fresh_add, fresh_set, ne_eq, hn_b1, not_false_eq_true, and_self] : Fresh _ b1).2)), (by first | exact ⟨(takev_ok g0 g10).symm, rfl⟩ | rfl)⟩
  · simp (dsimp := false) (maxSteps := 4000000) only [hl, hr0, hr9, hr10, hn_b1, hr_b1, go_sem, ↓reduceIte, Nat.reduceEqDiff, Nat.reduceLT, Nat.reduceLeDiff, Nat.reduceAdd, Nat.reduceMul, Nat.reduceSub, reduceCtorEq, Int.reduceToNat, Int.reduceLT, Int.reduceLE, Int.reduceEq, Int.reduceNe, Int.reduceBEq, Nat.reduceBEq, Int.reduceBNe, Nat.reduceBNe, Int.reduceAdd, Int.reduceSub, Int.reduceMul, Int.reduceNeg]
    exact ⟨H, (AH.le_add (AH.le_refl _) ((by simp only [fresh_add, fresh_set, ne_eq, hn_b1, not_false_eq_true, and_self] : Fresh _ b1).2)), (by first | exact ⟨(takev_bad (.inl g0)).symm, rfl⟩ | rfl)⟩
end Go.Proofs.Ytapfabjmooagaaa.UaT
