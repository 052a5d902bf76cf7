/- Declarations cut out of other texts of mine. -/
import Derived.Test.YtapfabjmooagaaaTy
import Derived.Test.YtapfabjmooagaaaAx20
namespace Go.Proofs.Ytapfabjmooagaaa.UaP
set_option linter.unusedSimpArgs false
set_option linter.unusedVariables false
open Go Go.AX Go.Proofs Ty
set_option maxHeartbeats 4000000
set_option maxRecDepth 10000

def bitI (m : Int) (i : Nat) : Bool := m / 2 ^ i % 2 == 1
/-- How many of the first i bits are set. -/
def ones (b : Int) : Nat → Int
  | 0 => 0
  | i + 1 => ones b i + b / 2 ^ i % 2
theorem ones_nonneg (b : Int) : ∀ i, 0 ≤ ones b i
  | 0 => by simp [ones]
  | i + 1 => by have := ones_nonneg b i; simp only [ones]; omega
theorem ones_le (b : Int) : ∀ i, ones b i ≤ i
  | 0 => by simp [ones]
  | i + 1 => by have := ones_le b i; simp only [ones]; omega
def putl (b : Int) (odd : Bool) : List Bool := [false, bitI b 0, bitI b 1, bitI b 2, bitI b 3, bitI b 4, bitI b 5, bitI b 6, bitI b 7, (ones b 8 % 2 == 1) != odd, true]
theorem putRows (b : Int) : ∃ row : Nat → List Bool, (∀ i, (row i).length = 11) ∧ row 0 = [false, false, false, false, false, false, false, false, false, false, false] ∧ row 8 = [false, bitI b 0, bitI b 1, bitI b 2, bitI b 3, bitI b 4, bitI b 5, bitI b 6, bitI b 7, false, false] ∧
      ∀ i, i < 8 → (row i).set (i + 1) (bitI b i) = row (i + 1) :=
    ⟨fun i => rowIf (List.range 11) (fun j _ => if j = 0 then false else bitI b (j - 1)) (fun _ _ => false) (i + 1), fun i => (rowIf_len (l := List.range 11)).trans List.length_range, by kernel_rfl, by kernel_rfl,
      fun i hi => (rowIf_set (l := List.range 11) (f := fun j _ => if j = 0 then false else bitI b (j - 1)) (x := i + 1) (i := i + 1) (List.getElem?_range (by omega)))⟩
theorem RefPut_c (b : Int) (odd : Bool) (hb : 0 ≤ b ∧ b < 256) (H : AH) : ACalls Try.prog 16 #[.int .u8 b, .bool odd] H (fun v H' => v = .agg ((putl b odd).map Value.bool).toArray ∧ H = H') := by
  obtain ⟨row, hlen, hr0, hr8, hset⟩ := putRows b
  have e0 : IntKind.i64.wrap b = b := i64_eq (by omega) (by omega)
  refine ACalls.enter2 Try.func16 rfl Try.ntmps16 Try.results16 (by simp) ?_; simp (dsimp := false) (maxSteps := 4000000) only [go_sem, ↓reduceIte, Nat.reduceEqDiff, Nat.reduceLT, Nat.reduceLeDiff, Nat.reduceAdd, Nat.reduceMul, Nat.reduceSub, reduceCtorEq, Int.reduceToNat, Int.reduceLT, Int.reduceLE, Int.reduceEq, Int.reduceNe, Int.reduceBEq, Nat.reduceBEq, Int.reduceBNe, Nat.reduceBNe, Int.reduceAdd, Int.reduceSub, Int.reduceMul, Int.reduceNeg]
  
  refine AllB.mk fun b1 h_b1 => ?_; have hn_b1 := h_b1; (try simp only [fresh_add, fresh_set, ne_eq] at hn_b1); have hr_b1 := hn_b1; (try simp only [@eq_comm Nat b1] at hr_b1); simp (dsimp := false) (maxSteps := 4000000) only [hlen, e0, hn_b1, hr_b1, go_sem, ↓reduceIte, Nat.reduceEqDiff, Nat.reduceLT, Nat.reduceLeDiff, Nat.reduceAdd, Nat.reduceMul, Nat.reduceSub, reduceCtorEq, Int.reduceToNat, Int.reduceLT, Int.reduceLE, Int.reduceEq, Int.reduceNe, Int.reduceBEq, Nat.reduceBEq, Int.reduceBNe, Nat.reduceBNe, Int.reduceAdd, Int.reduceSub, Int.reduceMul, Int.reduceNeg]
  refine AllB.mk fun b2 h_b2 => ?_; have hn_b2 := h_b2; (try simp only [fresh_add, fresh_set, ne_eq] at hn_b2); have hr_b2 := hn_b2; (try simp only [@eq_comm Nat b2] at hr_b2); simp (dsimp := false) (maxSteps := 4000000) only [hlen, e0, hn_b1, hr_b1, hn_b2, hr_b2, go_sem, ↓reduceIte, Nat.reduceEqDiff, Nat.reduceLT, Nat.reduceLeDiff, Nat.reduceAdd, Nat.reduceMul, Nat.reduceSub, reduceCtorEq, Int.reduceToNat, Int.reduceLT, Int.reduceLE, Int.reduceEq, Int.reduceNe, Int.reduceBEq, Nat.reduceBEq, Int.reduceBNe, Nat.reduceBNe, Int.reduceAdd, Int.reduceSub, Int.reduceMul, Int.reduceNeg]
  refine AWp.loopo (ι := Nat) (fun i => i ≤ 8) (fun i => [(8, .int .i64 ((i + 1 : Nat) : Int)), (6, .int .i64 (b / 2 ^ i)), (7, .int .i64 (ones b i)), (1, .bool odd), (5, .pointer (some ⟨b2, 0, none⟩)), (4, .pointer (some ⟨b1, 0, none⟩))])
    (fun i => (H.add b1 (.cells [.bool false, .bool false, .bool false, .bool false, .bool false, .bool false, .bool false, .bool false, .bool false, .bool false, .bool false] 41 11)).add b2 (.cells ((row i).map Value.bool) 41 11)) (fun i => 8 - i) 0 (by omega) (FrLe.of_lks ?_) ?_ fun i hi Q again out => ?_
  · simp (dsimp := false) (maxSteps := 4000000) only [hlen, e0, hn_b1, hr_b1, hn_b2, hr_b2, go_sem, ↓reduceIte, Nat.reduceEqDiff, Nat.reduceLT, Nat.reduceLeDiff, Nat.reduceAdd, Nat.reduceMul, Nat.reduceSub, reduceCtorEq, Int.reduceToNat, Int.reduceLT, Int.reduceLE, Int.reduceEq, Int.reduceNe, Int.reduceBEq, Nat.reduceBEq, Int.reduceBNe, Nat.reduceBNe, Int.reduceAdd, Int.reduceSub, Int.reduceMul, Int.reduceNeg]
    simp [ones]
  · rw [hr0]; exact AH.le_refl _
  · simp (dsimp := false) (maxSteps := 4000000) only [hlen, e0, hn_b1, hr_b1, hn_b2, hr_b2, go_sem, ↓reduceIte, Nat.reduceEqDiff, Nat.reduceLT, Nat.reduceLeDiff, Nat.reduceAdd, Nat.reduceMul, Nat.reduceSub, reduceCtorEq, Int.reduceToNat, Int.reduceLT, Int.reduceLE, Int.reduceEq, Int.reduceNe, Int.reduceBEq, Nat.reduceBEq, Int.reduceBNe, Nat.reduceBNe, Int.reduceAdd, Int.reduceSub, Int.reduceMul, Int.reduceNeg]
    refine ⟨fun h => ?_, fun h => ?_⟩
    · have hi' : i < 8 := by omega
      have hn0 : 0 ≤ b / 2 ^ i := Int.ediv_nonneg hb.1 (Int.le_of_lt (Int.pow_pos (by decide)))
      have hn1 : b / 2 ^ i ≤ b := Int.ediv_le_self _ hb.1
      have e1 := i64_succ (i := i + 1) (by omega)
      have e2 := Int.tmod_eq_emod_of_nonneg (b := 2) hn0
      have e3 : (b / 2 ^ i % 2 == 1) = bitI b i := rfl
      have e4 : IntKind.i64.wrap (ones b i + b / 2 ^ i % 2) = ones b (i + 1) := by have := ones_le b i; have := ones_nonneg b i; rw [i64_eq (by omega) (by omega)]; rfl
      have e5 : IntKind.i64.wrap ((b / 2 ^ i).tdiv 2) = b / 2 ^ (i + 1) := by
        rw [Int.tdiv_eq_ediv_of_nonneg hn0, i64_eq (by omega) (by omega), Int.pow_succ, Int.ediv_ediv_of_nonneg (Int.le_of_lt (Int.pow_pos (by decide)))]
      have hge : (0 : Int) ≤ ((i + 1 : Nat) : Int) := by omega
      have hlt : ((i + 1 : Nat) : Int) < 11 := by omega
      simp (dsimp := false) (maxSteps := 4000000) only [e1, e2, e3, e4, e5, hge, hlt, (by omega : i ≤ 9), hlen, e0, hn_b1, hr_b1, hn_b2, hr_b2, go_sem, ↓reduceIte, Nat.reduceEqDiff, Nat.reduceLT, Nat.reduceLeDiff, Nat.reduceAdd, Nat.reduceMul, Nat.reduceSub, reduceCtorEq, Int.reduceToNat, Int.reduceLT, Int.reduceLE, Int.reduceEq, Int.reduceNe, Int.reduceBEq, Nat.reduceBEq, Int.reduceBNe, Nat.reduceBNe, Int.reduceAdd, Int.reduceSub, Int.reduceMul, Int.reduceNeg]
      exact again (i + 1) _ _ (by omega) (FrLe.of_lks (by simp (dsimp := false) (maxSteps := 4000000) only [hlen, e0, hn_b1, hr_b1, hn_b2, hr_b2, go_sem, ↓reduceIte, Nat.reduceEqDiff, Nat.reduceLT, Nat.reduceLeDiff, Nat.reduceAdd, Nat.reduceMul, Nat.reduceSub, reduceCtorEq, Int.reduceToNat, Int.reduceLT, Int.reduceLE, Int.reduceEq, Int.reduceNe, Int.reduceBEq, Nat.reduceBEq, Int.reduceBNe, Nat.reduceBNe, Int.reduceAdd, Int.reduceSub, Int.reduceMul, Int.reduceNeg])) (by rw [← List.map_set, hset i (by omega)]; exact AH.le_refl _) (by omega)
    · obtain rfl : i = 8 := by omega
      rw [hr8]
      simp (dsimp := false) (maxSteps := 4000000) only [hlen, e0, hn_b1, hr_b1, hn_b2, hr_b2, go_sem, ↓reduceIte, Nat.reduceEqDiff, Nat.reduceLT, Nat.reduceLeDiff, Nat.reduceAdd, Nat.reduceMul, Nat.reduceSub, reduceCtorEq, Int.reduceToNat, Int.reduceLT, Int.reduceLE, Int.reduceEq, Int.reduceNe, Int.reduceBEq, Nat.reduceBEq, Int.reduceBNe, Nat.reduceBNe, Int.reduceAdd, Int.reduceSub, Int.reduceMul, Int.reduceNeg]
      refine out _ _ _ (by simp) ?_
      have e1 : (ones b 8).tmod 2 = ones b 8 % 2 := Int.tmod_eq_emod_of_nonneg (ones_nonneg b 8)
      cases odd <;> rcases Int.emod_two_eq (ones b 8) with h2 | h2 <;> (simp (dsimp := false) (maxSteps := 4000000) only [e1, h2, hlen, e0, hn_b1, hr_b1, hn_b2, hr_b2, go_sem, ↓reduceIte, Nat.reduceEqDiff, Nat.reduceLT, Nat.reduceLeDiff, Nat.reduceAdd, Nat.reduceMul, Nat.reduceSub, reduceCtorEq, Int.reduceToNat, Int.reduceLT, Int.reduceLE, Int.reduceEq, Int.reduceNe, Int.reduceBEq, Nat.reduceBEq, Int.reduceBNe, Nat.reduceBNe, Int.reduceAdd, Int.reduceSub, Int.reduceMul, Int.reduceNeg]) <;> exact ⟨H, (AH.le_add (AH.le_add (AH.le_refl _) ((by simp only [fresh_add, fresh_set, ne_eq, hn_b1, not_false_eq_true, and_self] : Fresh _ b1).2)) ((by simp only [fresh_add, fresh_set, ne_eq, hn_b2, not_false_eq_true, and_self] : Fresh _ b2).2)), (by first | exact ⟨by simp [putl, h2], rfl⟩ | rfl)⟩
end Go.Proofs.Ytapfabjmooagaaa.UaP
