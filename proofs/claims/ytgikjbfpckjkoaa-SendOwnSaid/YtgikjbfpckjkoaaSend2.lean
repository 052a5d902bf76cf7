/- send: awake; SendSpans. -/
import Derived.Test.YtgikjbfpckjkoaaSend1
namespace Go.Proofs.Ytgikjbfpckjkoaa.Send
set_option linter.unusedSimpArgs false
set_option linter.unusedVariables false
open Go Go.AX Go.Proofs Ty Go.Proofs.Ytgikjbfpckjkoaa.Srt Go.Proofs.Ytgikjbfpckjkoaa.Wire Go.Proofs.Ytgikjbfpckjkoaa.Tck Go.Proofs.Ytgikjbfpckjkoaa.UaP
set_option maxHeartbeats 4000000
set_option maxRecDepth 10000

theorem awake4_c (H : AH) : ACalls Try.prog 57 #[] H (fun v H' => v = .bool true ∧ H = H') := by
  have hg : good [] = true := rfl
  have g1 : globalv [] 448 = 448 := by decide +kernel
  have g2 : globalv [] 672 = 672 := by decide +kernel
  have g3 : fsp [] 100 (putl 255 true) 11 = [(100, 116)] := by decide +kernel
  refine ACalls.enter2 Try.func57 rfl Try.ntmps57 Try.results57 (by simp) ?_; simp (dsimp := false) (maxSteps := 4000000) only [go_sem, ↓reduceIte, Nat.reduceEqDiff, Nat.reduceLT, Nat.reduceLeDiff, Nat.reduceAdd, Nat.reduceMul, Nat.reduceSub, reduceCtorEq, Int.reduceToNat, Int.reduceLT, Int.reduceLE, Int.reduceEq, Int.reduceNe, Int.reduceBEq, Nat.reduceBEq, Int.reduceBNe, Nat.reduceBNe, Int.reduceAdd, Int.reduceSub, Int.reduceMul, Int.reduceNeg]
  refine (RefPut_c 255 true (by omega) _).mono ?_; rintro _ _ ⟨rfl, rfl⟩
  simp (dsimp := false) (maxSteps := 4000000) only [go_sem, ↓reduceIte, Nat.reduceEqDiff, Nat.reduceLT, Nat.reduceLeDiff, Nat.reduceAdd, Nat.reduceMul, Nat.reduceSub, reduceCtorEq, Int.reduceToNat, Int.reduceLT, Int.reduceLE, Int.reduceEq, Int.reduceNe, Int.reduceBEq, Nat.reduceBEq, Int.reduceBNe, Nat.reduceBNe, Int.reduceAdd, Int.reduceSub, Int.reduceMul, Int.reduceNeg]
  refine (Spans_c [] 100 (by omega) (by omega) (putl 255 true) rfl hg none 0 H SlcIn.nil).mono ?_; rintro _ A ⟨R, b, c, rfl, hJ, hR, hK⟩
  rw [g3] at hJ
  have hp : Plain [((100 : Int), (116 : Int))] := ⟨fun s hs => by simp at hs; subst hs; decide, by simp⟩
  obtain rfl : R = [(100, 116)] := hJ.uniq (joinOf_plain hp) fun t => Iff.rfl
  simp (dsimp := false) (maxSteps := 4000000) only [go_sem, ↓reduceIte, Nat.reduceEqDiff, Nat.reduceLT, Nat.reduceLeDiff, Nat.reduceAdd, Nat.reduceMul, Nat.reduceSub, reduceCtorEq, Int.reduceToNat, Int.reduceLT, Int.reduceLE, Int.reduceEq, Int.reduceNe, Int.reduceBEq, Nat.reduceBEq, Int.reduceBNe, Nat.reduceBNe, Int.reduceAdd, Int.reduceSub, Int.reduceMul, Int.reduceNeg]
  refine (Window_c [] 2 (by omega) (by omega) hg none 0 _ SlcIn.nil).mono ?_; rintro _ _ ⟨rfl, rfl⟩
  simp (dsimp := false) (maxSteps := 4000000) only [g1, g2, go_sem, ↓reduceIte, Nat.reduceEqDiff, Nat.reduceLT, Nat.reduceLeDiff, Nat.reduceAdd, Nat.reduceMul, Nat.reduceSub, reduceCtorEq, Int.reduceToNat, Int.reduceLT, Int.reduceLE, Int.reduceEq, Int.reduceNe, Int.reduceBEq, Nat.reduceBEq, Int.reduceBNe, Nat.reduceBNe, Int.reduceAdd, Int.reduceSub, Int.reduceMul, Int.reduceNeg]
  refine AllB.mk fun b12 h_b12 => ?_
  simp (dsimp := false) (maxSteps := 4000000) only [go_sem, ↓reduceIte, Nat.reduceEqDiff, Nat.reduceLT, Nat.reduceLeDiff, Nat.reduceAdd, Nat.reduceMul, Nat.reduceSub, reduceCtorEq, Int.reduceToNat, Int.reduceLT, Int.reduceLE, Int.reduceEq, Int.reduceNe, Int.reduceBEq, Nat.reduceBEq, Int.reduceBNe, Nat.reduceBNe, Int.reduceAdd, Int.reduceSub, Int.reduceMul, Int.reduceNeg]
  refine (Same_c _ _ _ _ _ (hR.add h_b12) (own1 A b12 _ 100 116) rfl).mono ?_; rintro _ _ ⟨rfl, rfl⟩
  simp (dsimp := false) (maxSteps := 4000000) only [go_sem, ↓reduceIte, Nat.reduceEqDiff, Nat.reduceLT, Nat.reduceLeDiff, Nat.reduceAdd, Nat.reduceMul, Nat.reduceSub, reduceCtorEq, Int.reduceToNat, Int.reduceLT, Int.reduceLE, Int.reduceEq, Int.reduceNe, Int.reduceBEq, Nat.reduceBEq, Int.reduceBNe, Nat.reduceBNe, Int.reduceAdd, Int.reduceSub, Int.reduceMul, Int.reduceNeg]
  exact ⟨H, AH.le_add hK.all h_b12.2, rfl⟩
theorem SendSpans_c (L : List Stp) (b0 : Option Addr) (c0 : Nat) (a : Int) (ha : (Lit.int .u32 a).wf = true) (F : List Bool) (hF : F.length = 11) (s : Int) (hs_ : (Lit.int .u16 s).wf = true) (H : AH) (hs : SlcIn H 2 b0 c0 (L.map enc)) :
    ACalls Try.prog 13 #[.slice b0 L.length c0, .int .u32 a, .agg (F.map Value.bool).toArray, .int .u16 s] H (fun v H' => v = .bool true ∧ H = H') := by
  have ha' : 0 ≤ a ∧ a < 4294967296 := by simp [Lit.wf, IntKind.min, IntKind.max, IntKind.signed, IntKind.bits] at ha; omega
  have hs' : 0 ≤ s ∧ s < 65536 := by simp [Lit.wf, IntKind.min, IntKind.max, IntKind.signed, IntKind.bits] at hs_; omega
  refine ACalls.enter2 Try.func13 rfl Try.ntmps13 Try.results13 (by simp) ?_; simp (dsimp := false) (maxSteps := 4000000) only [go_sem, ↓reduceIte, Nat.reduceEqDiff, Nat.reduceLT, Nat.reduceLeDiff, Nat.reduceAdd, Nat.reduceMul, Nat.reduceSub, reduceCtorEq, Int.reduceToNat, Int.reduceLT, Int.reduceLE, Int.reduceEq, Int.reduceNe, Int.reduceBEq, Nat.reduceBEq, Int.reduceBNe, Nat.reduceBNe, Int.reduceAdd, Int.reduceSub, Int.reduceMul, Int.reduceNeg]
  
  refine AllB.mk fun b6 h_b6 => ?_
  simp (dsimp := false) (maxSteps := 4000000) only [hF, go_sem, ↓reduceIte, Nat.reduceEqDiff, Nat.reduceLT, Nat.reduceLeDiff, Nat.reduceAdd, Nat.reduceMul, Nat.reduceSub, reduceCtorEq, Int.reduceToNat, Int.reduceLT, Int.reduceLE, Int.reduceEq, Int.reduceNe, Int.reduceBEq, Nat.reduceBEq, Int.reduceBNe, Nat.reduceBNe, Int.reduceAdd, Int.reduceSub, Int.reduceMul, Int.reduceNeg]
  refine (RefGood_c L b0 c0 _ (hs.add h_b6)).mono ?_; rintro _ _ ⟨rfl, rfl⟩
  cases hg : good L with
  | false =>
    simp (dsimp := false) (maxSteps := 4000000) only [hF, go_sem, ↓reduceIte, Nat.reduceEqDiff, Nat.reduceLT, Nat.reduceLeDiff, Nat.reduceAdd, Nat.reduceMul, Nat.reduceSub, reduceCtorEq, Int.reduceToNat, Int.reduceLT, Int.reduceLE, Int.reduceEq, Int.reduceNe, Int.reduceBEq, Nat.reduceBEq, Int.reduceBNe, Nat.reduceBNe, Int.reduceAdd, Int.reduceSub, Int.reduceMul, Int.reduceNeg]
    refine (awake4_c _).mono ?_; rintro _ _ ⟨rfl, rfl⟩
    simp (dsimp := false) (maxSteps := 4000000) only [hF, go_sem, ↓reduceIte, Nat.reduceEqDiff, Nat.reduceLT, Nat.reduceLeDiff, Nat.reduceAdd, Nat.reduceMul, Nat.reduceSub, reduceCtorEq, Int.reduceToNat, Int.reduceLT, Int.reduceLE, Int.reduceEq, Int.reduceNe, Int.reduceBEq, Nat.reduceBEq, Int.reduceBNe, Nat.reduceBNe, Int.reduceAdd, Int.reduceSub, Int.reduceMul, Int.reduceNeg]
    exact ⟨H, AH.le_add (AH.le_refl _) h_b6.2, rfl⟩
  | true =>
    obtain ⟨t, ht⟩ : ∃ t, a.tmod 1073741824 = t := ⟨_, rfl⟩
    have ht' : 0 ≤ t ∧ t < 1073741824 := by rw [Int.tmod_eq_emod_of_nonneg ha'.1] at ht; omega
    have ew : IntKind.i64.wrap t = t := i64_eq (by omega) (by omega)
    have es : IntKind.i64.wrap s = s := i64_eq (by omega) (by omega)
    simp (dsimp := false) (maxSteps := 4000000) only [ht, ew, es, hF, go_sem, ↓reduceIte, Nat.reduceEqDiff, Nat.reduceLT, Nat.reduceLeDiff, Nat.reduceAdd, Nat.reduceMul, Nat.reduceSub, reduceCtorEq, Int.reduceToNat, Int.reduceLT, Int.reduceLE, Int.reduceEq, Int.reduceNe, Int.reduceBEq, Nat.reduceBEq, Int.reduceBNe, Nat.reduceBNe, Int.reduceAdd, Int.reduceSub, Int.reduceMul, Int.reduceNeg]
    refine (Window_c L s hs'.1 (by omega) hg b0 c0 _ (hs.add h_b6)).mono ?_; rintro _ _ ⟨rfl, rfl⟩
    simp (dsimp := false) (maxSteps := 4000000) only [hF, go_sem, ↓reduceIte, Nat.reduceEqDiff, Nat.reduceLT, Nat.reduceLeDiff, Nat.reduceAdd, Nat.reduceMul, Nat.reduceSub, reduceCtorEq, Int.reduceToNat, Int.reduceLT, Int.reduceLE, Int.reduceEq, Int.reduceNe, Int.reduceBEq, Nat.reduceBEq, Int.reduceBNe, Nat.reduceBNe, Int.reduceAdd, Int.reduceSub, Int.reduceMul, Int.reduceNeg]
    refine AWp.gen [.ch, .pu, .pu, .pu, .rd, .ch, .pu, .pu, .rd, .ch, .ch, .pu, .pu, .pu, .pu, .pu, .pu, .pu, .ch, .pu, .pu, .pu, .pu, .pu, .pu, .pu, .pu, .pu, .ch, .pu, .pu, .pu] [0, 1, 3, 3, 3, 31, 3, 3, 3, 511, 1023, 2047, 4095, 8191, 8191, 8191, 40959, 106495, 253951, 524287, 1048575, 2097151, 4194303, 4194303, 4194303, 20971519, 54525951, 121634815, 264241151, 536870911, 1073741823, 2147483647] 6 (_) mixed (by kernel_rfl) (AH.le_refl _) ?_
    simp (dsimp := false) (maxSteps := 4000000) only [AH.le_refl, hF, go_sem, ↓reduceIte, Nat.reduceEqDiff, Nat.reduceLT, Nat.reduceLeDiff, Nat.reduceAdd, Nat.reduceMul, Nat.reduceSub, reduceCtorEq, Int.reduceToNat, Int.reduceLT, Int.reduceLE, Int.reduceEq, Int.reduceNe, Int.reduceBEq, Nat.reduceBEq, Int.reduceBNe, Nat.reduceBNe, Int.reduceAdd, Int.reduceSub, Int.reduceMul, Int.reduceNeg]
    refine (awake4_c _).mono ?_; rintro _ _ ⟨rfl, rfl⟩
    simp (dsimp := false) (maxSteps := 4000000) only [AH.le_refl, hF, go_sem, ↓reduceIte, Nat.reduceEqDiff, Nat.reduceLT, Nat.reduceLeDiff, Nat.reduceAdd, Nat.reduceMul, Nat.reduceSub, reduceCtorEq, Int.reduceToNat, Int.reduceLT, Int.reduceLE, Int.reduceEq, Int.reduceNe, Int.reduceBEq, Nat.reduceBEq, Int.reduceBNe, Nat.reduceBNe, Int.reduceAdd, Int.reduceSub, Int.reduceMul, Int.reduceNeg]
    refine (Spans_c L t ht'.1 (by omega) F hF hg b0 c0 _ (hs.add h_b6)).mono ?_; rintro _ A1 ⟨R, b1, c1, rfl, hJ, hR, hK1⟩
    have hl1 := hK1.all; rw [hF] at hl1
    simp (dsimp := false) (maxSteps := 4000000) only [hl1, AH.le_refl, hF, go_sem, ↓reduceIte, Nat.reduceEqDiff, Nat.reduceLT, Nat.reduceLeDiff, Nat.reduceAdd, Nat.reduceMul, Nat.reduceSub, reduceCtorEq, Int.reduceToNat, Int.reduceLT, Int.reduceLE, Int.reduceEq, Int.reduceNe, Int.reduceBEq, Nat.reduceBEq, Int.reduceBNe, Nat.reduceBNe, Int.reduceAdd, Int.reduceSub, Int.reduceMul, Int.reduceNeg]
    refine (RefSpans_c L t ht'.1 (by omega) F hF hg b0 c0 _ ((hs.add h_b6).keep hK1 fun _ _ h => h)).mono ?_; rintro _ A2 ⟨R2, b2, c2, rfl, hJ2, hR2, hK2⟩
    obtain rfl : R = R2 := hJ.uniq hJ2 fun t => Iff.rfl
    have hK := hK1.trans hK2
    have hl2 := hK.all; rw [hF] at hl2
    simp (dsimp := false) (maxSteps := 4000000) only [hl2, AH.le_refl, hF, go_sem, ↓reduceIte, Nat.reduceEqDiff, Nat.reduceLT, Nat.reduceLeDiff, Nat.reduceAdd, Nat.reduceMul, Nat.reduceSub, reduceCtorEq, Int.reduceToNat, Int.reduceLT, Int.reduceLE, Int.reduceEq, Int.reduceNe, Int.reduceBEq, Nat.reduceBEq, Int.reduceBNe, Nat.reduceBNe, Int.reduceAdd, Int.reduceSub, Int.reduceMul, Int.reduceNeg]
    refine (Same_c _ _ _ _ _ (hR.keep hK2 fun _ _ h => h) hR2 rfl).mono ?_; rintro _ _ ⟨rfl, rfl⟩
    have e1 : IntKind.i64.wrap (224 * s) = 224 * s := i64_eq (by omega) (by omega)
    have e2 : IntKind.i64.wrap (224 * s + 224) = 224 * (s + 1) := by rw [i64_eq (by omega) (by omega)]; omega
    simp (dsimp := false) (maxSteps := 4000000) only [hl2, AH.le_refl, es, e1, hF, go_sem, ↓reduceIte, Nat.reduceEqDiff, Nat.reduceLT, Nat.reduceLeDiff, Nat.reduceAdd, Nat.reduceMul, Nat.reduceSub, reduceCtorEq, Int.reduceToNat, Int.reduceLT, Int.reduceLE, Int.reduceEq, Int.reduceNe, Int.reduceBEq, Nat.reduceBEq, Int.reduceBNe, Nat.reduceBNe, Int.reduceAdd, Int.reduceSub, Int.reduceMul, Int.reduceNeg]
    refine (RefGlobal_c L (224 * s) hg b0 c0 _ ((hs.add h_b6).keep hK fun _ _ h => h)).mono ?_; rintro _ _ ⟨rfl, rfl⟩
    simp (dsimp := false) (maxSteps := 4000000) only [hl2, AH.le_refl, es, e1, e2, hF, go_sem, ↓reduceIte, Nat.reduceEqDiff, Nat.reduceLT, Nat.reduceLeDiff, Nat.reduceAdd, Nat.reduceMul, Nat.reduceSub, reduceCtorEq, Int.reduceToNat, Int.reduceLT, Int.reduceLE, Int.reduceEq, Int.reduceNe, Int.reduceBEq, Nat.reduceBEq, Int.reduceBNe, Nat.reduceBNe, Int.reduceAdd, Int.reduceSub, Int.reduceMul, Int.reduceNeg]
    refine (RefGlobal_c L (224 * (s + 1)) hg b0 c0 _ ((hs.add h_b6).keep hK fun _ _ h => h)).mono ?_; rintro _ _ ⟨rfl, rfl⟩
    simp (dsimp := false) (maxSteps := 4000000) only [hl2, AH.le_refl, hF, go_sem, ↓reduceIte, Nat.reduceEqDiff, Nat.reduceLT, Nat.reduceLeDiff, Nat.reduceAdd, Nat.reduceMul, Nat.reduceSub, reduceCtorEq, Int.reduceToNat, Int.reduceLT, Int.reduceLE, Int.reduceEq, Int.reduceNe, Int.reduceBEq, Nat.reduceBEq, Int.reduceBNe, Nat.reduceBNe, Int.reduceAdd, Int.reduceSub, Int.reduceMul, Int.reduceNeg]
    exact ⟨H, ((Keep.refl.nw h_b6).trans hK).all, rfl⟩
end Go.Proofs.Ytgikjbfpckjkoaa.Send
