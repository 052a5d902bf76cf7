/- the reference's Bits; Hear and the reference's Hear. -/
import Derived.Test.YtapfabjmooagaaaSam1
import Derived.Test.YtapfabjmooagaaaUaT
namespace Go.Proofs.Ytapfabjmooagaaa.Sam
set_option linter.unusedSimpArgs false
set_option linter.unusedVariables false
open Go Go.AX Go.Proofs Ty Go.Proofs.Ytapfabjmooagaaa.Srt Go.Proofs.Ytapfabjmooagaaa.Wire Go.Proofs.Ytapfabjmooagaaa.Tck Go.Proofs.Ytapfabjmooagaaa.UaT
set_option maxHeartbeats 4000000
set_option maxRecDepth 10000

theorem RefBits_c (X : List Sp) (K : List Stp) (f : Int) (hg : good K = true) (base : Option Addr) (cap : Nat) (lb : Option Addr) (lc : Nat) (H : AH) (hs : SlcIn H 2 base cap (X.map encP)) (hL : SlcIn H 2 lb lc (K.map enc)) :
    ACalls Try.prog 22 #[.slice base X.length cap, .slice lb K.length lc, .int .i64 f] H (fun v H' => v = .agg ((bitsV X K f).map Value.bool).toArray ∧ H = H') := by
  have hN := local_bd hg f
  have hlen := fun i => bitsR_len X K (localv K f) i
  rw [bitsV]
  refine ACalls.enter2 Try.func22 rfl Try.ntmps22 Try.results22 (by simp) ?_; simp (dsimp := false) (maxSteps := 4000000) only [go_sem, ↓reduceIte, Nat.reduceEqDiff, Nat.reduceLT, Nat.reduceLeDiff, Nat.reduceAdd, Nat.reduceMul, Nat.reduceSub, reduceCtorEq, Int.reduceToNat, Int.reduceLT, Int.reduceLE, Int.reduceEq, Int.reduceNe, Int.reduceBEq, Nat.reduceBEq, Int.reduceBNe, Nat.reduceBNe, Int.reduceAdd, Int.reduceSub, Int.reduceMul, Int.reduceNeg]
  
  refine AllB.mk fun b6 h_b6 => ?_; have hn_b6 := h_b6; (try simp only [fresh_add, fresh_set, ne_eq] at hn_b6); have hr_b6 := hn_b6; (try simp only [@eq_comm Nat b6] at hr_b6); simp (dsimp := false) (maxSteps := 4000000) only [hlen, hn_b6, hr_b6, go_sem, ↓reduceIte, Nat.reduceEqDiff, Nat.reduceLT, Nat.reduceLeDiff, Nat.reduceAdd, Nat.reduceMul, Nat.reduceSub, reduceCtorEq, Int.reduceToNat, Int.reduceLT, Int.reduceLE, Int.reduceEq, Int.reduceNe, Int.reduceBEq, Nat.reduceBEq, Int.reduceBNe, Nat.reduceBNe, Int.reduceAdd, Int.reduceSub, Int.reduceMul, Int.reduceNeg]
  refine (RefLocal_c K f hg lb lc _ (hL.add (by simp only [fresh_add, ne_eq, hn_b6, not_false_eq_true, and_self] : Fresh _ b6))).mono ?_; rintro _ _ ⟨rfl, rfl⟩
  generalize localv K f = N at *
  simp (dsimp := false) (maxSteps := 4000000) only [hlen, hn_b6, hr_b6, go_sem, ↓reduceIte, Nat.reduceEqDiff, Nat.reduceLT, Nat.reduceLeDiff, Nat.reduceAdd, Nat.reduceMul, Nat.reduceSub, reduceCtorEq, Int.reduceToNat, Int.reduceLT, Int.reduceLE, Int.reduceEq, Int.reduceNe, Int.reduceBEq, Nat.reduceBEq, Int.reduceBNe, Nat.reduceBNe, Int.reduceAdd, Int.reduceSub, Int.reduceMul, Int.reduceNeg]
  refine AllB.mk fun b8 h_b8 => ?_; have hn_b8 := h_b8; (try simp only [fresh_add, fresh_set, ne_eq] at hn_b8); have hr_b8 := hn_b8; (try simp only [@eq_comm Nat b8] at hr_b8); simp (dsimp := false) (maxSteps := 4000000) only [hlen, hn_b6, hr_b6, hn_b8, hr_b8, go_sem, ↓reduceIte, Nat.reduceEqDiff, Nat.reduceLT, Nat.reduceLeDiff, Nat.reduceAdd, Nat.reduceMul, Nat.reduceSub, reduceCtorEq, Int.reduceToNat, Int.reduceLT, Int.reduceLE, Int.reduceEq, Int.reduceNe, Int.reduceBEq, Nat.reduceBEq, Int.reduceBNe, Nat.reduceBNe, Int.reduceAdd, Int.reduceSub, Int.reduceMul, Int.reduceNeg]
  refine AWp.loopo (ι := Nat) (fun i => i ≤ 11) (fun i => [(9, .int .i64 i), (0, .slice base X.length cap), (1, .slice lb K.length lc), (7, .int .i64 N), (6, .pointer (some ⟨b6, 0, none⟩)), (8, .pointer (some ⟨b8, 0, none⟩))])
    (fun i => (H.add b6 (.cells [.bool false, .bool false, .bool false, .bool false, .bool false, .bool false, .bool false, .bool false, .bool false, .bool false, .bool false] 41 11)).add b8 (.cells ((bitsR X K N i).map Value.bool) 41 11)) (fun i => 11 - i) 0 (by omega) (FrLe.of_lks ?_) (AH.le_refl _) fun i hi Q again out => ?_
  · simp (dsimp := false) (maxSteps := 4000000) only [hlen, hn_b6, hr_b6, hn_b8, hr_b8, go_sem, ↓reduceIte, Nat.reduceEqDiff, Nat.reduceLT, Nat.reduceLeDiff, Nat.reduceAdd, Nat.reduceMul, Nat.reduceSub, reduceCtorEq, Int.reduceToNat, Int.reduceLT, Int.reduceLE, Int.reduceEq, Int.reduceNe, Int.reduceBEq, Nat.reduceBEq, Int.reduceBNe, Nat.reduceBNe, Int.reduceAdd, Int.reduceSub, Int.reduceMul, Int.reduceNeg]
  by_cases h : (i : Int) < 11
  case neg =>
    obtain rfl : i = 11 := by omega
    simp (dsimp := false) (maxSteps := 4000000) only [h, hlen, hn_b6, hr_b6, hn_b8, hr_b8, go_sem, ↓reduceIte, Nat.reduceEqDiff, Nat.reduceLT, Nat.reduceLeDiff, Nat.reduceAdd, Nat.reduceMul, Nat.reduceSub, reduceCtorEq, Int.reduceToNat, Int.reduceLT, Int.reduceLE, Int.reduceEq, Int.reduceNe, Int.reduceBEq, Nat.reduceBEq, Int.reduceBNe, Nat.reduceBNe, Int.reduceAdd, Int.reduceSub, Int.reduceMul, Int.reduceNeg]
    refine out _ _ _ (by simp) ?_
    simp (dsimp := false) (maxSteps := 4000000) only [hlen, hn_b6, hr_b6, hn_b8, hr_b8, go_sem, ↓reduceIte, Nat.reduceEqDiff, Nat.reduceLT, Nat.reduceLeDiff, Nat.reduceAdd, Nat.reduceMul, Nat.reduceSub, reduceCtorEq, Int.reduceToNat, Int.reduceLT, Int.reduceLE, Int.reduceEq, Int.reduceNe, Int.reduceBEq, Nat.reduceBEq, Int.reduceBNe, Nat.reduceBNe, Int.reduceAdd, Int.reduceSub, Int.reduceMul, Int.reduceNeg]
    exact ⟨H, (AH.le_add (AH.le_add (AH.le_refl _) ((by simp only [fresh_add, fresh_set, ne_eq, hn_b6, not_false_eq_true, and_self] : Fresh _ b6).2)) ((by simp only [fresh_add, fresh_set, ne_eq, hn_b8, not_false_eq_true, and_self] : Fresh _ b8).2)), (by first | exact ⟨rfl, rfl⟩ | rfl)⟩
  have hi' : i < 11 := by omega
  have ee := i64_succ (i := i) (by omega)
  have e1 : IntKind.i64.wrap (16 * (i : Int)) = 16 * i := i64_eq (by omega) (by omega)
  have e2 : IntKind.i64.wrap (N + 16 * i) = N + 16 * i := i64_eq (by omega) (by omega)
  have e3 : IntKind.i64.wrap (N + 16 * i + 7) = N + 16 * i + 7 + ((0 : Nat) : Int) := by rw [i64_eq (by omega) (by omega)]; simp
  have e4 : IntKind.i64.wrap (N + 16 * i + 8) = N + 16 * i + 7 + ((1 : Nat) : Int) := by rw [i64_eq (by omega) (by omega)]; omega
  have e5 : IntKind.i64.wrap (N + 16 * i + 9) = N + 16 * i + 7 + ((2 : Nat) : Int) := by rw [i64_eq (by omega) (by omega)]; omega
  have hsi : SlcIn ((H.add b6 (.cells [.bool false, .bool false, .bool false, .bool false, .bool false, .bool false, .bool false, .bool false, .bool false, .bool false, .bool false] 41 11)).add b8 (.cells ((bitsR X K N i).map Value.bool) 41 11)) 2 base cap (X.map encP) := ((hs.add (by simp only [fresh_add, ne_eq, hn_b6, not_false_eq_true, and_self] : Fresh _ b6)).add (by simp only [fresh_add, ne_eq, hn_b8, not_false_eq_true, and_self] : Fresh _ b8))
  have hLi : SlcIn ((H.add b6 (.cells [.bool false, .bool false, .bool false, .bool false, .bool false, .bool false, .bool false, .bool false, .bool false, .bool false, .bool false] 41 11)).add b8 (.cells ((bitsR X K N i).map Value.bool) 41 11)) 2 lb lc (K.map enc) := ((hL.add (by simp only [fresh_add, ne_eq, hn_b6, not_false_eq_true, and_self] : Fresh _ b6)).add (by simp only [fresh_add, ne_eq, hn_b8, not_false_eq_true, and_self] : Fresh _ b8))
  have hset := bitsR_set X K N hi'
  rw [bitV, lk, lk, lk] at hset
  simp (dsimp := false) (maxSteps := 4000000) only [h, e1, e2, e3, hlen, hn_b6, hr_b6, hn_b8, hr_b8, go_sem, ↓reduceIte, Nat.reduceEqDiff, Nat.reduceLT, Nat.reduceLeDiff, Nat.reduceAdd, Nat.reduceMul, Nat.reduceSub, reduceCtorEq, Int.reduceToNat, Int.reduceLT, Int.reduceLE, Int.reduceEq, Int.reduceNe, Int.reduceBEq, Nat.reduceBEq, Int.reduceBNe, Nat.reduceBNe, Int.reduceAdd, Int.reduceSub, Int.reduceMul, Int.reduceNeg]
  refine (RefGlobal_c K (N + 16 * i + 7 + ((0 : Nat) : Int)) hg lb lc _ hLi).mono ?_; rintro _ _ ⟨rfl, rfl⟩
  simp (dsimp := false) (maxSteps := 4000000) only [hlen, hn_b6, hr_b6, hn_b8, hr_b8, go_sem, ↓reduceIte, Nat.reduceEqDiff, Nat.reduceLT, Nat.reduceLeDiff, Nat.reduceAdd, Nat.reduceMul, Nat.reduceSub, reduceCtorEq, Int.reduceToNat, Int.reduceLT, Int.reduceLE, Int.reduceEq, Int.reduceNe, Int.reduceBEq, Nat.reduceBEq, Int.reduceBNe, Nat.reduceBNe, Int.reduceAdd, Int.reduceSub, Int.reduceMul, Int.reduceNeg]
  refine (RefLow_c X (globalv K (N + 16 * i + 7 + ((0 : Nat) : Int))) base cap _ hsi).mono ?_; rintro _ _ ⟨rfl, rfl⟩
  generalize lowB X (globalv K (N + 16 * i + 7 + ((0 : Nat) : Int))) = va at hset ⊢
  simp (dsimp := false) (maxSteps := 4000000) only [e1, e2, e4, hlen, hn_b6, hr_b6, hn_b8, hr_b8, go_sem, ↓reduceIte, Nat.reduceEqDiff, Nat.reduceLT, Nat.reduceLeDiff, Nat.reduceAdd, Nat.reduceMul, Nat.reduceSub, reduceCtorEq, Int.reduceToNat, Int.reduceLT, Int.reduceLE, Int.reduceEq, Int.reduceNe, Int.reduceBEq, Nat.reduceBEq, Int.reduceBNe, Nat.reduceBNe, Int.reduceAdd, Int.reduceSub, Int.reduceMul, Int.reduceNeg]
  refine (RefGlobal_c K (N + 16 * i + 7 + ((1 : Nat) : Int)) hg lb lc _ hLi).mono ?_; rintro _ _ ⟨rfl, rfl⟩
  simp (dsimp := false) (maxSteps := 4000000) only [hlen, hn_b6, hr_b6, hn_b8, hr_b8, go_sem, ↓reduceIte, Nat.reduceEqDiff, Nat.reduceLT, Nat.reduceLeDiff, Nat.reduceAdd, Nat.reduceMul, Nat.reduceSub, reduceCtorEq, Int.reduceToNat, Int.reduceLT, Int.reduceLE, Int.reduceEq, Int.reduceNe, Int.reduceBEq, Nat.reduceBEq, Int.reduceBNe, Nat.reduceBNe, Int.reduceAdd, Int.reduceSub, Int.reduceMul, Int.reduceNeg]
  refine (RefLow_c X (globalv K (N + 16 * i + 7 + ((1 : Nat) : Int))) base cap _ hsi).mono ?_; rintro _ _ ⟨rfl, rfl⟩
  generalize lowB X (globalv K (N + 16 * i + 7 + ((1 : Nat) : Int))) = vb at hset ⊢
  simp (dsimp := false) (maxSteps := 4000000) only [e1, e2, e5, hlen, hn_b6, hr_b6, hn_b8, hr_b8, go_sem, ↓reduceIte, Nat.reduceEqDiff, Nat.reduceLT, Nat.reduceLeDiff, Nat.reduceAdd, Nat.reduceMul, Nat.reduceSub, reduceCtorEq, Int.reduceToNat, Int.reduceLT, Int.reduceLE, Int.reduceEq, Int.reduceNe, Int.reduceBEq, Nat.reduceBEq, Int.reduceBNe, Nat.reduceBNe, Int.reduceAdd, Int.reduceSub, Int.reduceMul, Int.reduceNeg]
  refine (RefGlobal_c K (N + 16 * i + 7 + ((2 : Nat) : Int)) hg lb lc _ hLi).mono ?_; rintro _ _ ⟨rfl, rfl⟩
  simp (dsimp := false) (maxSteps := 4000000) only [hlen, hn_b6, hr_b6, hn_b8, hr_b8, go_sem, ↓reduceIte, Nat.reduceEqDiff, Nat.reduceLT, Nat.reduceLeDiff, Nat.reduceAdd, Nat.reduceMul, Nat.reduceSub, reduceCtorEq, Int.reduceToNat, Int.reduceLT, Int.reduceLE, Int.reduceEq, Int.reduceNe, Int.reduceBEq, Nat.reduceBEq, Int.reduceBNe, Nat.reduceBNe, Int.reduceAdd, Int.reduceSub, Int.reduceMul, Int.reduceNeg]
  refine (RefLow_c X (globalv K (N + 16 * i + 7 + ((2 : Nat) : Int))) base cap _ hsi).mono ?_; rintro _ _ ⟨rfl, rfl⟩
  generalize lowB X (globalv K (N + 16 * i + 7 + ((2 : Nat) : Int))) = vc at hset ⊢
  cases va with
    | true =>
      cases vb with
      | true =>
        cases vc with
        | true =>
          simp (dsimp := false) (maxSteps := 4000000) only [h, (by omega : (0 : Int) ≤ (i : Int)), (by omega : i ≤ 10), ee, hlen, hn_b6, hr_b6, hn_b8, hr_b8, go_sem, ↓reduceIte, Nat.reduceEqDiff, Nat.reduceLT, Nat.reduceLeDiff, Nat.reduceAdd, Nat.reduceMul, Nat.reduceSub, reduceCtorEq, Int.reduceToNat, Int.reduceLT, Int.reduceLE, Int.reduceEq, Int.reduceNe, Int.reduceBEq, Nat.reduceBEq, Int.reduceBNe, Nat.reduceBNe, Int.reduceAdd, Int.reduceSub, Int.reduceMul, Int.reduceNeg]
          exact again (i + 1) _ _ (by omega) (FrLe.of_lks (by simp (dsimp := false) (maxSteps := 4000000) only [hlen, hn_b6, hr_b6, hn_b8, hr_b8, go_sem, ↓reduceIte, Nat.reduceEqDiff, Nat.reduceLT, Nat.reduceLeDiff, Nat.reduceAdd, Nat.reduceMul, Nat.reduceSub, reduceCtorEq, Int.reduceToNat, Int.reduceLT, Int.reduceLE, Int.reduceEq, Int.reduceNe, Int.reduceBEq, Nat.reduceBEq, Int.reduceBNe, Nat.reduceBNe, Int.reduceAdd, Int.reduceSub, Int.reduceMul, Int.reduceNeg])) (by rw [← List.map_set, show (bitsR X K N i).set i false = bitsR X K N (i + 1) from hset]; exact AH.le_refl _) (by omega)
        | false =>
          simp (dsimp := false) (maxSteps := 4000000) only [h, (by omega : (0 : Int) ≤ (i : Int)), (by omega : i ≤ 10), ee, hlen, hn_b6, hr_b6, hn_b8, hr_b8, go_sem, ↓reduceIte, Nat.reduceEqDiff, Nat.reduceLT, Nat.reduceLeDiff, Nat.reduceAdd, Nat.reduceMul, Nat.reduceSub, reduceCtorEq, Int.reduceToNat, Int.reduceLT, Int.reduceLE, Int.reduceEq, Int.reduceNe, Int.reduceBEq, Nat.reduceBEq, Int.reduceBNe, Nat.reduceBNe, Int.reduceAdd, Int.reduceSub, Int.reduceMul, Int.reduceNeg]
          exact again (i + 1) _ _ (by omega) (FrLe.of_lks (by simp (dsimp := false) (maxSteps := 4000000) only [hlen, hn_b6, hr_b6, hn_b8, hr_b8, go_sem, ↓reduceIte, Nat.reduceEqDiff, Nat.reduceLT, Nat.reduceLeDiff, Nat.reduceAdd, Nat.reduceMul, Nat.reduceSub, reduceCtorEq, Int.reduceToNat, Int.reduceLT, Int.reduceLE, Int.reduceEq, Int.reduceNe, Int.reduceBEq, Nat.reduceBEq, Int.reduceBNe, Nat.reduceBNe, Int.reduceAdd, Int.reduceSub, Int.reduceMul, Int.reduceNeg])) (by rw [← List.map_set, show (bitsR X K N i).set i false = bitsR X K N (i + 1) from hset]; exact AH.le_refl _) (by omega)
      | false =>
        cases vc with
        | true =>
          simp (dsimp := false) (maxSteps := 4000000) only [h, (by omega : (0 : Int) ≤ (i : Int)), (by omega : i ≤ 10), ee, hlen, hn_b6, hr_b6, hn_b8, hr_b8, go_sem, ↓reduceIte, Nat.reduceEqDiff, Nat.reduceLT, Nat.reduceLeDiff, Nat.reduceAdd, Nat.reduceMul, Nat.reduceSub, reduceCtorEq, Int.reduceToNat, Int.reduceLT, Int.reduceLE, Int.reduceEq, Int.reduceNe, Int.reduceBEq, Nat.reduceBEq, Int.reduceBNe, Nat.reduceBNe, Int.reduceAdd, Int.reduceSub, Int.reduceMul, Int.reduceNeg]
          exact again (i + 1) _ _ (by omega) (FrLe.of_lks (by simp (dsimp := false) (maxSteps := 4000000) only [hlen, hn_b6, hr_b6, hn_b8, hr_b8, go_sem, ↓reduceIte, Nat.reduceEqDiff, Nat.reduceLT, Nat.reduceLeDiff, Nat.reduceAdd, Nat.reduceMul, Nat.reduceSub, reduceCtorEq, Int.reduceToNat, Int.reduceLT, Int.reduceLE, Int.reduceEq, Int.reduceNe, Int.reduceBEq, Nat.reduceBEq, Int.reduceBNe, Nat.reduceBNe, Int.reduceAdd, Int.reduceSub, Int.reduceMul, Int.reduceNeg])) (by rw [← List.map_set, show (bitsR X K N i).set i false = bitsR X K N (i + 1) from hset]; exact AH.le_refl _) (by omega)
        | false =>
          simp (dsimp := false) (maxSteps := 4000000) only [h, (by omega : (0 : Int) ≤ (i : Int)), (by omega : i ≤ 10), ee, hlen, hn_b6, hr_b6, hn_b8, hr_b8, go_sem, ↓reduceIte, Nat.reduceEqDiff, Nat.reduceLT, Nat.reduceLeDiff, Nat.reduceAdd, Nat.reduceMul, Nat.reduceSub, reduceCtorEq, Int.reduceToNat, Int.reduceLT, Int.reduceLE, Int.reduceEq, Int.reduceNe, Int.reduceBEq, Nat.reduceBEq, Int.reduceBNe, Nat.reduceBNe, Int.reduceAdd, Int.reduceSub, Int.reduceMul, Int.reduceNeg]
          exact again (i + 1) _ _ (by omega) (FrLe.of_lks (by simp (dsimp := false) (maxSteps := 4000000) only [hlen, hn_b6, hr_b6, hn_b8, hr_b8, go_sem, ↓reduceIte, Nat.reduceEqDiff, Nat.reduceLT, Nat.reduceLeDiff, Nat.reduceAdd, Nat.reduceMul, Nat.reduceSub, reduceCtorEq, Int.reduceToNat, Int.reduceLT, Int.reduceLE, Int.reduceEq, Int.reduceNe, Int.reduceBEq, Nat.reduceBEq, Int.reduceBNe, Nat.reduceBNe, Int.reduceAdd, Int.reduceSub, Int.reduceMul, Int.reduceNeg])) (by rw [← List.map_set, show (bitsR X K N i).set i true = bitsR X K N (i + 1) from hset]; exact AH.le_refl _) (by omega)
    | false =>
      cases vb with
      | true =>
        cases vc with
        | true =>
          simp (dsimp := false) (maxSteps := 4000000) only [h, (by omega : (0 : Int) ≤ (i : Int)), (by omega : i ≤ 10), ee, hlen, hn_b6, hr_b6, hn_b8, hr_b8, go_sem, ↓reduceIte, Nat.reduceEqDiff, Nat.reduceLT, Nat.reduceLeDiff, Nat.reduceAdd, Nat.reduceMul, Nat.reduceSub, reduceCtorEq, Int.reduceToNat, Int.reduceLT, Int.reduceLE, Int.reduceEq, Int.reduceNe, Int.reduceBEq, Nat.reduceBEq, Int.reduceBNe, Nat.reduceBNe, Int.reduceAdd, Int.reduceSub, Int.reduceMul, Int.reduceNeg]
          exact again (i + 1) _ _ (by omega) (FrLe.of_lks (by simp (dsimp := false) (maxSteps := 4000000) only [hlen, hn_b6, hr_b6, hn_b8, hr_b8, go_sem, ↓reduceIte, Nat.reduceEqDiff, Nat.reduceLT, Nat.reduceLeDiff, Nat.reduceAdd, Nat.reduceMul, Nat.reduceSub, reduceCtorEq, Int.reduceToNat, Int.reduceLT, Int.reduceLE, Int.reduceEq, Int.reduceNe, Int.reduceBEq, Nat.reduceBEq, Int.reduceBNe, Nat.reduceBNe, Int.reduceAdd, Int.reduceSub, Int.reduceMul, Int.reduceNeg])) (by rw [← List.map_set, show (bitsR X K N i).set i false = bitsR X K N (i + 1) from hset]; exact AH.le_refl _) (by omega)
        | false =>
          simp (dsimp := false) (maxSteps := 4000000) only [h, (by omega : (0 : Int) ≤ (i : Int)), (by omega : i ≤ 10), ee, hlen, hn_b6, hr_b6, hn_b8, hr_b8, go_sem, ↓reduceIte, Nat.reduceEqDiff, Nat.reduceLT, Nat.reduceLeDiff, Nat.reduceAdd, Nat.reduceMul, Nat.reduceSub, reduceCtorEq, Int.reduceToNat, Int.reduceLT, Int.reduceLE, Int.reduceEq, Int.reduceNe, Int.reduceBEq, Nat.reduceBEq, Int.reduceBNe, Nat.reduceBNe, Int.reduceAdd, Int.reduceSub, Int.reduceMul, Int.reduceNeg]
          exact again (i + 1) _ _ (by omega) (FrLe.of_lks (by simp (dsimp := false) (maxSteps := 4000000) only [hlen, hn_b6, hr_b6, hn_b8, hr_b8, go_sem, ↓reduceIte, Nat.reduceEqDiff, Nat.reduceLT, Nat.reduceLeDiff, Nat.reduceAdd, Nat.reduceMul, Nat.reduceSub, reduceCtorEq, Int.reduceToNat, Int.reduceLT, Int.reduceLE, Int.reduceEq, Int.reduceNe, Int.reduceBEq, Nat.reduceBEq, Int.reduceBNe, Nat.reduceBNe, Int.reduceAdd, Int.reduceSub, Int.reduceMul, Int.reduceNeg])) (by rw [← List.map_set, show (bitsR X K N i).set i true = bitsR X K N (i + 1) from hset]; exact AH.le_refl _) (by omega)
      | false =>
        cases vc with
        | true =>
          simp (dsimp := false) (maxSteps := 4000000) only [h, (by omega : (0 : Int) ≤ (i : Int)), (by omega : i ≤ 10), ee, hlen, hn_b6, hr_b6, hn_b8, hr_b8, go_sem, ↓reduceIte, Nat.reduceEqDiff, Nat.reduceLT, Nat.reduceLeDiff, Nat.reduceAdd, Nat.reduceMul, Nat.reduceSub, reduceCtorEq, Int.reduceToNat, Int.reduceLT, Int.reduceLE, Int.reduceEq, Int.reduceNe, Int.reduceBEq, Nat.reduceBEq, Int.reduceBNe, Nat.reduceBNe, Int.reduceAdd, Int.reduceSub, Int.reduceMul, Int.reduceNeg]
          exact again (i + 1) _ _ (by omega) (FrLe.of_lks (by simp (dsimp := false) (maxSteps := 4000000) only [hlen, hn_b6, hr_b6, hn_b8, hr_b8, go_sem, ↓reduceIte, Nat.reduceEqDiff, Nat.reduceLT, Nat.reduceLeDiff, Nat.reduceAdd, Nat.reduceMul, Nat.reduceSub, reduceCtorEq, Int.reduceToNat, Int.reduceLT, Int.reduceLE, Int.reduceEq, Int.reduceNe, Int.reduceBEq, Nat.reduceBEq, Int.reduceBNe, Nat.reduceBNe, Int.reduceAdd, Int.reduceSub, Int.reduceMul, Int.reduceNeg])) (by rw [← List.map_set, show (bitsR X K N i).set i true = bitsR X K N (i + 1) from hset]; exact AH.le_refl _) (by omega)
        | false =>
          simp (dsimp := false) (maxSteps := 4000000) only [h, (by omega : (0 : Int) ≤ (i : Int)), (by omega : i ≤ 10), ee, hlen, hn_b6, hr_b6, hn_b8, hr_b8, go_sem, ↓reduceIte, Nat.reduceEqDiff, Nat.reduceLT, Nat.reduceLeDiff, Nat.reduceAdd, Nat.reduceMul, Nat.reduceSub, reduceCtorEq, Int.reduceToNat, Int.reduceLT, Int.reduceLE, Int.reduceEq, Int.reduceNe, Int.reduceBEq, Nat.reduceBEq, Int.reduceBNe, Nat.reduceBNe, Int.reduceAdd, Int.reduceSub, Int.reduceMul, Int.reduceNeg]
          exact again (i + 1) _ _ (by omega) (FrLe.of_lks (by simp (dsimp := false) (maxSteps := 4000000) only [hlen, hn_b6, hr_b6, hn_b8, hr_b8, go_sem, ↓reduceIte, Nat.reduceEqDiff, Nat.reduceLT, Nat.reduceLeDiff, Nat.reduceAdd, Nat.reduceMul, Nat.reduceSub, reduceCtorEq, Int.reduceToNat, Int.reduceLT, Int.reduceLE, Int.reduceEq, Int.reduceNe, Int.reduceBEq, Nat.reduceBEq, Int.reduceBNe, Nat.reduceBNe, Int.reduceAdd, Int.reduceSub, Int.reduceMul, Int.reduceNeg])) (by rw [← List.map_set, show (bitsR X K N i).set i true = bitsR X K N (i + 1) from hset]; exact AH.le_refl _) (by omega)
theorem takev_sh (l : List Bool) : ∃ x o e, takev l = .tuple #[.int .u8 x, .bool o, .int .i64 e] := by
  unfold takev
  split
  · exact ⟨_, _, _, rfl⟩
  · exact ⟨_, _, _, rfl⟩
def hearV (X : List Sp) (R : List Sp) (K : List Stp) (a z : Int) : Value := match R.find? (fp a z) with
  | none => .tuple #[.int .u8 0, .bool false, .int .i64 3]
  | some s => takev (bitsV X K s.1)
theorem hearV_sh (X R : List Sp) (K : List Stp) (a z : Int) : ∃ x o e, hearV X R K a z = .tuple #[.int .u8 x, .bool o, .int .i64 e] := by
  unfold hearV
  split
  · exact ⟨_, _, _, rfl⟩
  · exact takev_sh _
theorem Hear_c (X : List Sp) (K : List Stp) (a z : Int) (hg : good K = true) (base : Option Addr) (cap : Nat) (lb : Option Addr) (lc : Nat) (H : AH) (hs : SlcIn H 2 base cap (X.map encP)) (hL : SlcIn H 2 lb lc (K.map enc)) (hb : X.length < 100000) :
    ACalls Try.prog 19 #[.slice base X.length cap, .slice lb K.length lc, .int .i64 a, .int .i64 z] H (fun v H' => ∃ R, JoinOf X R ∧ v = hearV X R K a z ∧ H = H') := by
  refine ACalls.enter2 Try.func19 rfl Try.ntmps19 Try.results19 (by simp) ?_; simp (dsimp := false) (maxSteps := 4000000) only [go_sem, ↓reduceIte, Nat.reduceEqDiff, Nat.reduceLT, Nat.reduceLeDiff, Nat.reduceAdd, Nat.reduceMul, Nat.reduceSub, reduceCtorEq, Int.reduceToNat, Int.reduceLT, Int.reduceLE, Int.reduceEq, Int.reduceNe, Int.reduceBEq, Nat.reduceBEq, Int.reduceBNe, Nat.reduceBNe, Int.reduceAdd, Int.reduceSub, Int.reduceMul, Int.reduceNeg]
  refine (Fall_c X a z base cap H hs hb).mono ?_; rintro _ _ ⟨R, hJ, rfl, rfl⟩
  cases hf : R.find? (fp a z) with
  | none =>
    have e : fallV R a z = (0, false) := by rw [fallV, hf]
    have e2 : hearV X R K a z = .tuple #[.int .u8 0, .bool false, .int .i64 3] := by rw [hearV, hf]
    simp (dsimp := false) (maxSteps := 4000000) only [e, go_sem, ↓reduceIte, Nat.reduceEqDiff, Nat.reduceLT, Nat.reduceLeDiff, Nat.reduceAdd, Nat.reduceMul, Nat.reduceSub, reduceCtorEq, Int.reduceToNat, Int.reduceLT, Int.reduceLE, Int.reduceEq, Int.reduceNe, Int.reduceBEq, Nat.reduceBEq, Int.reduceBNe, Nat.reduceBNe, Int.reduceAdd, Int.reduceSub, Int.reduceMul, Int.reduceNeg]
    exact ⟨H, AH.le_refl _, R, hJ, by rw [e2], rfl⟩
  | some s =>
    have e : fallV R a z = (s.1, true) := by rw [fallV, hf]
    have e2 : hearV X R K a z = takev (bitsV X K s.1) := by rw [hearV, hf]
    obtain ⟨x, o, er, ht⟩ := takev_sh (bitsV X K s.1)
    simp (dsimp := false) (maxSteps := 4000000) only [e, go_sem, ↓reduceIte, Nat.reduceEqDiff, Nat.reduceLT, Nat.reduceLeDiff, Nat.reduceAdd, Nat.reduceMul, Nat.reduceSub, reduceCtorEq, Int.reduceToNat, Int.reduceLT, Int.reduceLE, Int.reduceEq, Int.reduceNe, Int.reduceBEq, Nat.reduceBEq, Int.reduceBNe, Nat.reduceBNe, Int.reduceAdd, Int.reduceSub, Int.reduceMul, Int.reduceNeg]
    refine (Bits_c X K s.1 hg base cap lb lc H hs hL).mono ?_; rintro _ _ ⟨rfl, rfl⟩
    simp (dsimp := false) (maxSteps := 4000000) only [go_sem, ↓reduceIte, Nat.reduceEqDiff, Nat.reduceLT, Nat.reduceLeDiff, Nat.reduceAdd, Nat.reduceMul, Nat.reduceSub, reduceCtorEq, Int.reduceToNat, Int.reduceLT, Int.reduceLE, Int.reduceEq, Int.reduceNe, Int.reduceBEq, Nat.reduceBEq, Int.reduceBNe, Nat.reduceBNe, Int.reduceAdd, Int.reduceSub, Int.reduceMul, Int.reduceNeg]
    refine (Take_c (bitsV X K s.1) (bitsR_len _ _ _ _) H).mono ?_; rintro _ _ ⟨rfl, rfl⟩
    simp (dsimp := false) (maxSteps := 4000000) only [ht, go_sem, ↓reduceIte, Nat.reduceEqDiff, Nat.reduceLT, Nat.reduceLeDiff, Nat.reduceAdd, Nat.reduceMul, Nat.reduceSub, reduceCtorEq, Int.reduceToNat, Int.reduceLT, Int.reduceLE, Int.reduceEq, Int.reduceNe, Int.reduceBEq, Nat.reduceBEq, Int.reduceBNe, Nat.reduceBNe, Int.reduceAdd, Int.reduceSub, Int.reduceMul, Int.reduceNeg]
    exact ⟨H, AH.le_refl _, R, hJ, by rw [e2, ht], rfl⟩
theorem RefHear_c (X R : List Sp) (hJ : JoinOf X R) (K : List Stp) (a z : Int) (hg : good K = true) (base : Option Addr) (cap : Nat) (lb : Option Addr) (lc : Nat) (H : AH) (hs : SlcIn H 2 base cap (X.map encP)) (hL : SlcIn H 2 lb lc (K.map enc)) (hok : ∀ s ∈ X, okSp s = true) (hb : X.length < 100000) :
    ACalls Try.prog 20 #[.slice base X.length cap, .slice lb K.length lc, .int .i64 a, .int .i64 z] H (fun v H' => v = hearV X R K a z ∧ H = H') := by
  refine ACalls.enter2 Try.func20 rfl Try.ntmps20 Try.results20 (by simp) ?_; simp (dsimp := false) (maxSteps := 4000000) only [go_sem, ↓reduceIte, Nat.reduceEqDiff, Nat.reduceLT, Nat.reduceLeDiff, Nat.reduceAdd, Nat.reduceMul, Nat.reduceSub, reduceCtorEq, Int.reduceToNat, Int.reduceLT, Int.reduceLE, Int.reduceEq, Int.reduceNe, Int.reduceBEq, Nat.reduceBEq, Int.reduceBNe, Nat.reduceBNe, Int.reduceAdd, Int.reduceSub, Int.reduceMul, Int.reduceNeg]
  refine (RefFall_c X a z base cap H hs hok hb).mono ?_; rintro _ _ ⟨R2, hJ2, rfl, rfl⟩
  obtain rfl : R = R2 := hJ.uniq hJ2 fun t => Iff.rfl
  cases hf : R.find? (fp a z) with
  | none =>
    have e : fallV R a z = (0, false) := by rw [fallV, hf]
    have e2 : hearV X R K a z = .tuple #[.int .u8 0, .bool false, .int .i64 3] := by rw [hearV, hf]
    simp (dsimp := false) (maxSteps := 4000000) only [e, go_sem, ↓reduceIte, Nat.reduceEqDiff, Nat.reduceLT, Nat.reduceLeDiff, Nat.reduceAdd, Nat.reduceMul, Nat.reduceSub, reduceCtorEq, Int.reduceToNat, Int.reduceLT, Int.reduceLE, Int.reduceEq, Int.reduceNe, Int.reduceBEq, Nat.reduceBEq, Int.reduceBNe, Nat.reduceBNe, Int.reduceAdd, Int.reduceSub, Int.reduceMul, Int.reduceNeg]
    exact ⟨H, AH.le_refl _, by rw [e2], rfl⟩
  | some s =>
    have e : fallV R a z = (s.1, true) := by rw [fallV, hf]
    have e2 : hearV X R K a z = takev (bitsV X K s.1) := by rw [hearV, hf]
    obtain ⟨x, o, er, ht⟩ := takev_sh (bitsV X K s.1)
    simp (dsimp := false) (maxSteps := 4000000) only [e, go_sem, ↓reduceIte, Nat.reduceEqDiff, Nat.reduceLT, Nat.reduceLeDiff, Nat.reduceAdd, Nat.reduceMul, Nat.reduceSub, reduceCtorEq, Int.reduceToNat, Int.reduceLT, Int.reduceLE, Int.reduceEq, Int.reduceNe, Int.reduceBEq, Nat.reduceBEq, Int.reduceBNe, Nat.reduceBNe, Int.reduceAdd, Int.reduceSub, Int.reduceMul, Int.reduceNeg]
    refine (RefBits_c X K s.1 hg base cap lb lc H hs hL).mono ?_; rintro _ _ ⟨rfl, rfl⟩
    simp (dsimp := false) (maxSteps := 4000000) only [go_sem, ↓reduceIte, Nat.reduceEqDiff, Nat.reduceLT, Nat.reduceLeDiff, Nat.reduceAdd, Nat.reduceMul, Nat.reduceSub, reduceCtorEq, Int.reduceToNat, Int.reduceLT, Int.reduceLE, Int.reduceEq, Int.reduceNe, Int.reduceBEq, Nat.reduceBEq, Int.reduceBNe, Nat.reduceBNe, Int.reduceAdd, Int.reduceSub, Int.reduceMul, Int.reduceNeg]
    refine (RefTake_c (bitsV X K s.1) (bitsR_len _ _ _ _) H).mono ?_; rintro _ _ ⟨rfl, rfl⟩
    simp (dsimp := false) (maxSteps := 4000000) only [ht, go_sem, ↓reduceIte, Nat.reduceEqDiff, Nat.reduceLT, Nat.reduceLeDiff, Nat.reduceAdd, Nat.reduceMul, Nat.reduceSub, reduceCtorEq, Int.reduceToNat, Int.reduceLT, Int.reduceLE, Int.reduceEq, Int.reduceNe, Int.reduceBEq, Nat.reduceBEq, Int.reduceBNe, Nat.reduceBNe, Int.reduceAdd, Int.reduceSub, Int.reduceMul, Int.reduceNeg]
    exact ⟨H, AH.le_refl _, by rw [e2, ht], rfl⟩
end Go.Proofs.Ytapfabjmooagaaa.Sam
