/- sampler: awake; SamplerHears. -/
import Derived.Test.YtapfabjmooagaaaSam2
namespace Go.Proofs.Ytapfabjmooagaaa.Sam
set_option linter.unusedSimpArgs false
set_option linter.unusedVariables false
open Go Go.AX Go.Proofs Ty Go.Proofs.Ytapfabjmooagaaa.Srt Go.Proofs.Ytapfabjmooagaaa.Wire Go.Proofs.Ytapfabjmooagaaa.Tck Go.Proofs.Ytapfabjmooagaaa.Send Go.Proofs.Ytapfabjmooagaaa.UaP Go.Proofs.Ytapfabjmooagaaa.UaT
set_option maxHeartbeats 4000000
set_option maxRecDepth 10000

def J1 : List Sp := [(496, 528), (544, 559), (591, 607), (623, 639)]
theorem J1_join : JoinOf (fsp [⟨0, 9000⟩] 500 (putl 90 true) 11) J1 := by
  have e : fsp [⟨0, 9000⟩] 500 (putl 90 true) 11 = [(496, 512), (512, 528), (544, 559), (591, 607), (623, 639)] := by decide +kernel
  rw [e]
  exact ⟨⟨by decide, by simp [J1]⟩, fun t => by simp [low, J1]; omega, by decide, by decide⟩
theorem h1_ : hearV J1 J1 [⟨0, -9000⟩] 0 2000 = .tuple #[.int .u8 90, .bool true, .int .i64 0] := by kernel_rfl
theorem h2_ : hearV [] [] [] 0 2000 = .tuple #[.int .u8 0, .bool false, .int .i64 3] := by kernel_rfl
theorem h3_ : hearV [(5, 6)] [(5, 6)] [] 0 2000 = .tuple #[.int .u8 0, .bool false, .int .i64 2] := by kernel_rfl
theorem ownS (H : AH) (b e : Nat) (x y : Int) : SlcIn (H.add b (.cells [.int .i64 x, .int .i64 y] e 2)) 2 (some ⟨b, 0, none⟩) 1 ([Stp.mk x y].map enc) :=
  SlcIn.own (R := [Stp.mk x y].map enc) (fun r hr => by simp at hr; subst hr; rfl) (by simp) (by simp)
theorem awake5_c (H : AH) : ACalls Try.prog 17 #[] H (fun v H' => v = .bool true ∧ H = H') := by
  have g1 : good [⟨0, 9000⟩] = true := by decide +kernel
  have g2 : good [⟨0, -9000⟩] = true := by decide +kernel
  have g3 : good [] = true := rfl
  have hpl : (putl 90 true).length = 11 := rfl
  refine ACalls.enter2 Try.func17 rfl Try.ntmps17 Try.results17 (by simp) ?_; simp (dsimp := false) (maxSteps := 4000000) only [go_sem, ↓reduceIte, Nat.reduceEqDiff, Nat.reduceLT, Nat.reduceLeDiff, Nat.reduceAdd, Nat.reduceMul, Nat.reduceSub, reduceCtorEq, Int.reduceToNat, Int.reduceLT, Int.reduceLE, Int.reduceEq, Int.reduceNe, Int.reduceBEq, Nat.reduceBEq, Int.reduceBNe, Nat.reduceBNe, Int.reduceAdd, Int.reduceSub, Int.reduceMul, Int.reduceNeg]
  
  refine (RefPut_c 90 true (by omega) _).mono ?_; rintro _ _ ⟨rfl, rfl⟩
  simp (dsimp := false) (maxSteps := 4000000) only [hpl, go_sem, ↓reduceIte, Nat.reduceEqDiff, Nat.reduceLT, Nat.reduceLeDiff, Nat.reduceAdd, Nat.reduceMul, Nat.reduceSub, reduceCtorEq, Int.reduceToNat, Int.reduceLT, Int.reduceLE, Int.reduceEq, Int.reduceNe, Int.reduceBEq, Nat.reduceBEq, Int.reduceBNe, Nat.reduceBNe, Int.reduceAdd, Int.reduceSub, Int.reduceMul, Int.reduceNeg]
  refine AllB.mk fun b1 h_b1 => ?_; have hn_b1 := h_b1; (try simp only [fresh_add, fresh_set, ne_eq] at hn_b1); have hr_b1 := hn_b1; (try simp only [@eq_comm Nat b1] at hr_b1); simp (dsimp := false) (maxSteps := 4000000) only [hpl, hn_b1, hr_b1, go_sem, ↓reduceIte, Nat.reduceEqDiff, Nat.reduceLT, Nat.reduceLeDiff, Nat.reduceAdd, Nat.reduceMul, Nat.reduceSub, reduceCtorEq, Int.reduceToNat, Int.reduceLT, Int.reduceLE, Int.reduceEq, Int.reduceNe, Int.reduceBEq, Nat.reduceBEq, Int.reduceBNe, Nat.reduceBNe, Int.reduceAdd, Int.reduceSub, Int.reduceMul, Int.reduceNeg]
  refine AllB.mk fun b14 h_b14 => ?_; have hn_b14 := h_b14; (try simp only [fresh_add, fresh_set, ne_eq] at hn_b14); have hr_b14 := hn_b14; (try simp only [@eq_comm Nat b14] at hr_b14); simp (dsimp := false) (maxSteps := 4000000) only [hpl, hn_b1, hr_b1, hn_b14, hr_b14, go_sem, ↓reduceIte, Nat.reduceEqDiff, Nat.reduceLT, Nat.reduceLeDiff, Nat.reduceAdd, Nat.reduceMul, Nat.reduceSub, reduceCtorEq, Int.reduceToNat, Int.reduceLT, Int.reduceLE, Int.reduceEq, Int.reduceNe, Int.reduceBEq, Nat.reduceBEq, Int.reduceBNe, Nat.reduceBNe, Int.reduceAdd, Int.reduceSub, Int.reduceMul, Int.reduceNeg]
  refine (Spans_c [⟨0, 9000⟩] 500 (by omega) (by omega) (putl 90 true) rfl g1 _ _ _ (ownS _ b14 _ 0 9000)).mono ?_; rintro _ A ⟨R, b, c, rfl, hJ, hR, hK⟩
  have hK := ((Keep.refl.nw h_b1).nw h_b14).trans hK
  obtain rfl : R = J1 := hJ.uniq J1_join fun t => Iff.rfl
  have hp := J1_join.plain
  clear hJ h_b1 h_b14 hn_b1 hn_b14 hr_b1 hr_b14
  
  simp (dsimp := false) (maxSteps := 4000000) only [hpl, go_sem, ↓reduceIte, Nat.reduceEqDiff, Nat.reduceLT, Nat.reduceLeDiff, Nat.reduceAdd, Nat.reduceMul, Nat.reduceSub, reduceCtorEq, Int.reduceToNat, Int.reduceLT, Int.reduceLE, Int.reduceEq, Int.reduceNe, Int.reduceBEq, Nat.reduceBEq, Int.reduceBNe, Nat.reduceBNe, Int.reduceAdd, Int.reduceSub, Int.reduceMul, Int.reduceNeg]
  refine AllB.mk fun b18 h_b18 => ?_
  simp (dsimp := false) (maxSteps := 4000000) only [hpl, go_sem, ↓reduceIte, Nat.reduceEqDiff, Nat.reduceLT, Nat.reduceLeDiff, Nat.reduceAdd, Nat.reduceMul, Nat.reduceSub, reduceCtorEq, Int.reduceToNat, Int.reduceLT, Int.reduceLE, Int.reduceEq, Int.reduceNe, Int.reduceBEq, Nat.reduceBEq, Int.reduceBNe, Nat.reduceBNe, Int.reduceAdd, Int.reduceSub, Int.reduceMul, Int.reduceNeg]
  refine (Hear_c J1 [⟨0, -9000⟩] 0 2000 g2 _ _ _ _ _ (hR.add h_b18) (ownS A b18 _ 0 (-9000)) (by decide)).mono ?_; rintro _ _ ⟨R, hJ, rfl, rfl⟩
  obtain rfl : R = J1 := hJ.uniq (joinOf_plain hp) fun t => Iff.rfl
  clear hJ
  simp (dsimp := false) (maxSteps := 4000000) only [h1_, hpl, go_sem, ↓reduceIte, Nat.reduceEqDiff, Nat.reduceLT, Nat.reduceLeDiff, Nat.reduceAdd, Nat.reduceMul, Nat.reduceSub, reduceCtorEq, Int.reduceToNat, Int.reduceLT, Int.reduceLE, Int.reduceEq, Int.reduceNe, Int.reduceBEq, Nat.reduceBEq, Int.reduceBNe, Nat.reduceBNe, Int.reduceAdd, Int.reduceSub, Int.reduceMul, Int.reduceNeg]
  refine (Hear_c [] [] 0 2000 g3 none 0 none 0 _ SlcIn.nil SlcIn.nil (by decide)).mono ?_; rintro _ _ ⟨R, hJ, rfl, rfl⟩
  obtain rfl : R = [] := hJ.uniq (joinOf_plain ⟨by simp, List.Pairwise.nil⟩) fun t => Iff.rfl
  clear hJ
  simp (dsimp := false) (maxSteps := 4000000) only [h2_, hpl, go_sem, ↓reduceIte, Nat.reduceEqDiff, Nat.reduceLT, Nat.reduceLeDiff, Nat.reduceAdd, Nat.reduceMul, Nat.reduceSub, reduceCtorEq, Int.reduceToNat, Int.reduceLT, Int.reduceLE, Int.reduceEq, Int.reduceNe, Int.reduceBEq, Nat.reduceBEq, Int.reduceBNe, Nat.reduceBNe, Int.reduceAdd, Int.reduceSub, Int.reduceMul, Int.reduceNeg]
  refine AllB.mk fun b30 h_b30 => ?_
  simp (dsimp := false) (maxSteps := 4000000) only [hpl, go_sem, ↓reduceIte, Nat.reduceEqDiff, Nat.reduceLT, Nat.reduceLeDiff, Nat.reduceAdd, Nat.reduceMul, Nat.reduceSub, reduceCtorEq, Int.reduceToNat, Int.reduceLT, Int.reduceLE, Int.reduceEq, Int.reduceNe, Int.reduceBEq, Nat.reduceBEq, Int.reduceBNe, Nat.reduceBNe, Int.reduceAdd, Int.reduceSub, Int.reduceMul, Int.reduceNeg]
  refine (Hear_c [(5, 6)] [] 0 2000 g3 _ _ none 0 _ (own1 _ b30 _ 5 6) SlcIn.nil (by decide)).mono ?_; rintro _ _ ⟨R, hJ, rfl, rfl⟩
  have hp2 : Plain [((5 : Int), (6 : Int))] := ⟨by decide, by simp⟩
  obtain rfl : R = [(5, 6)] := hJ.uniq (joinOf_plain hp2) fun t => Iff.rfl
  clear hJ
  simp (dsimp := false) (maxSteps := 4000000) only [h3_, hpl, go_sem, ↓reduceIte, Nat.reduceEqDiff, Nat.reduceLT, Nat.reduceLeDiff, Nat.reduceAdd, Nat.reduceMul, Nat.reduceSub, reduceCtorEq, Int.reduceToNat, Int.reduceLT, Int.reduceLE, Int.reduceEq, Int.reduceNe, Int.reduceBEq, Nat.reduceBEq, Int.reduceBNe, Nat.reduceBNe, Int.reduceAdd, Int.reduceSub, Int.reduceMul, Int.reduceNeg]
  exact ⟨H, AH.le_add (AH.le_add hK.all h_b18.2) h_b30.2, rfl⟩
theorem SamplerHears_c (X0 : List Sp) (b0 : Option Addr) (c0 : Nat) (L : List Stp) (lb : Option Addr) (lc : Nat) (a0 : Int) (ha0 : (Lit.int .u32 a0).wf = true) (z0 : Int) (hz0 : (Lit.int .u32 z0).wf = true) (H : AH) (hs0 : SlcIn H 2 b0 c0 (X0.map encP)) (hL0 : SlcIn H 2 lb lc (L.map enc)) :
    ACalls Try.prog 5 #[.slice b0 X0.length c0, .slice lb L.length lc, .int .u32 a0, .int .u32 z0] H (fun v H' => v = .bool true ∧ H = H') := by
  have ha' : 0 ≤ a0 ∧ a0 < 4294967296 := by simp [Lit.wf, IntKind.min, IntKind.max, IntKind.signed, IntKind.bits] at ha0; omega
  have hz' : 0 ≤ z0 ∧ z0 < 4294967296 := by simp [Lit.wf, IntKind.min, IntKind.max, IntKind.signed, IntKind.bits] at hz0; omega
  refine ACalls.enter2 Try.func5 rfl Try.ntmps5 Try.results5 (by simp) ?_; simp (dsimp := false) (maxSteps := 4000000) only [go_sem, ↓reduceIte, Nat.reduceEqDiff, Nat.reduceLT, Nat.reduceLeDiff, Nat.reduceAdd, Nat.reduceMul, Nat.reduceSub, reduceCtorEq, Int.reduceToNat, Int.reduceLT, Int.reduceLE, Int.reduceEq, Int.reduceNe, Int.reduceBEq, Nat.reduceBEq, Int.reduceBNe, Nat.reduceBNe, Int.reduceAdd, Int.reduceSub, Int.reduceMul, Int.reduceNeg]
  refine (RefGood_c L lb lc _ hL0).mono ?_; rintro _ _ ⟨rfl, rfl⟩
  cases hg : good L with
  | false =>
    simp (dsimp := false) (maxSteps := 4000000) only [go_sem, ↓reduceIte, Nat.reduceEqDiff, Nat.reduceLT, Nat.reduceLeDiff, Nat.reduceAdd, Nat.reduceMul, Nat.reduceSub, reduceCtorEq, Int.reduceToNat, Int.reduceLT, Int.reduceLE, Int.reduceEq, Int.reduceNe, Int.reduceBEq, Nat.reduceBEq, Int.reduceBNe, Nat.reduceBNe, Int.reduceAdd, Int.reduceSub, Int.reduceMul, Int.reduceNeg]
    refine (awake5_c _).mono ?_; rintro _ _ ⟨rfl, rfl⟩
    simp (dsimp := false) (maxSteps := 4000000) only [go_sem, ↓reduceIte, Nat.reduceEqDiff, Nat.reduceLT, Nat.reduceLeDiff, Nat.reduceAdd, Nat.reduceMul, Nat.reduceSub, reduceCtorEq, Int.reduceToNat, Int.reduceLT, Int.reduceLE, Int.reduceEq, Int.reduceNe, Int.reduceBEq, Nat.reduceBEq, Int.reduceBNe, Nat.reduceBNe, Int.reduceAdd, Int.reduceSub, Int.reduceMul, Int.reduceNeg]
    exact ⟨H, AH.le_refl _, rfl⟩
  | true =>
    obtain ⟨a, ha⟩ : ∃ a, a0.tmod 1073741824 = a := ⟨_, rfl⟩
    obtain ⟨z, hz⟩ : ∃ z, z0.tmod 1073741824 = z := ⟨_, rfl⟩
    have hab : 0 ≤ a ∧ a < 1073741824 := by rw [Int.tmod_eq_emod_of_nonneg ha'.1] at ha; omega
    have hzb : 0 ≤ z ∧ z < 1073741824 := by rw [Int.tmod_eq_emod_of_nonneg hz'.1] at hz; omega
    have ea : IntKind.i64.wrap a = a := i64_eq (by omega) (by omega)
    have ez : IntKind.i64.wrap z = z := i64_eq (by omega) (by omega)
    simp (dsimp := false) (maxSteps := 4000000) only [go_sem, ↓reduceIte, Nat.reduceEqDiff, Nat.reduceLT, Nat.reduceLeDiff, Nat.reduceAdd, Nat.reduceMul, Nat.reduceSub, reduceCtorEq, Int.reduceToNat, Int.reduceLT, Int.reduceLE, Int.reduceEq, Int.reduceNe, Int.reduceBEq, Nat.reduceBEq, Int.reduceBNe, Nat.reduceBNe, Int.reduceAdd, Int.reduceSub, Int.reduceMul, Int.reduceNeg]
    refine (few16_c X0 b0 c0 H hs0).mono ?_; rintro _ A1 ⟨bx, cx, rfl, hO1, hK1⟩
    have hX := hO1.slc
    have hL := hL0.keep hK1 fun _ _ h => h
    have hxo := fewS_ok X0 16
    have hxl := fewS_len X0 16
    generalize fewS X0 16 = X at hX hxo hxl
    clear hO1 hs0 hL0
    simp (dsimp := false) (maxSteps := 4000000) only [ha, hz, ea, ez, go_sem, ↓reduceIte, Nat.reduceEqDiff, Nat.reduceLT, Nat.reduceLeDiff, Nat.reduceAdd, Nat.reduceMul, Nat.reduceSub, reduceCtorEq, Int.reduceToNat, Int.reduceLT, Int.reduceLE, Int.reduceEq, Int.reduceNe, Int.reduceBEq, Nat.reduceBEq, Int.reduceBNe, Nat.reduceBNe, Int.reduceAdd, Int.reduceSub, Int.reduceMul, Int.reduceNeg]
    refine (Hear_c X L a z hg bx cx lb lc A1 hX hL (by omega)).mono ?_; rintro _ _ ⟨R, hJ, rfl, rfl⟩
    obtain ⟨x, o, er, ht⟩ := hearV_sh X R L a z
    simp (dsimp := false) (maxSteps := 4000000) only [ht, go_sem, ↓reduceIte, Nat.reduceEqDiff, Nat.reduceLT, Nat.reduceLeDiff, Nat.reduceAdd, Nat.reduceMul, Nat.reduceSub, reduceCtorEq, Int.reduceToNat, Int.reduceLT, Int.reduceLE, Int.reduceEq, Int.reduceNe, Int.reduceBEq, Nat.reduceBEq, Int.reduceBNe, Nat.reduceBNe, Int.reduceAdd, Int.reduceSub, Int.reduceMul, Int.reduceNeg]
    refine (RefHear_c X R hJ L a z hg bx cx lb lc _ hX hL hxo (by omega)).mono ?_; rintro _ _ ⟨rfl, rfl⟩
    simp (dsimp := false) (maxSteps := 4000000) only [ht, go_sem, ↓reduceIte, Nat.reduceEqDiff, Nat.reduceLT, Nat.reduceLeDiff, Nat.reduceAdd, Nat.reduceMul, Nat.reduceSub, reduceCtorEq, Int.reduceToNat, Int.reduceLT, Int.reduceLE, Int.reduceEq, Int.reduceNe, Int.reduceBEq, Nat.reduceBEq, Int.reduceBNe, Nat.reduceBNe, Int.reduceAdd, Int.reduceSub, Int.reduceMul, Int.reduceNeg]
    refine (awake5_c _).mono ?_; rintro _ _ ⟨rfl, rfl⟩
    simp (dsimp := false) (maxSteps := 4000000) only [go_sem, ↓reduceIte, Nat.reduceEqDiff, Nat.reduceLT, Nat.reduceLeDiff, Nat.reduceAdd, Nat.reduceMul, Nat.reduceSub, reduceCtorEq, Int.reduceToNat, Int.reduceLT, Int.reduceLE, Int.reduceEq, Int.reduceNe, Int.reduceBEq, Nat.reduceBEq, Int.reduceBNe, Nat.reduceBNe, Int.reduceAdd, Int.reduceSub, Int.reduceMul, Int.reduceNeg]
    refine (Bits_c X L a hg bx cx lb lc _ hX hL).mono ?_; rintro _ _ ⟨rfl, rfl⟩
    simp (dsimp := false) (maxSteps := 4000000) only [go_sem, ↓reduceIte, Nat.reduceEqDiff, Nat.reduceLT, Nat.reduceLeDiff, Nat.reduceAdd, Nat.reduceMul, Nat.reduceSub, reduceCtorEq, Int.reduceToNat, Int.reduceLT, Int.reduceLE, Int.reduceEq, Int.reduceNe, Int.reduceBEq, Nat.reduceBEq, Int.reduceBNe, Nat.reduceBNe, Int.reduceAdd, Int.reduceSub, Int.reduceMul, Int.reduceNeg]
    refine (RefBits_c X L a hg bx cx lb lc _ hX hL).mono ?_; rintro _ _ ⟨rfl, rfl⟩
    have hbl : (bitsV X L a).length = 11 := bitsR_len _ _ _ _
    simp (dsimp := false) (maxSteps := 4000000) only [hbl, eq_boolsl eg_41 Try.underlying41 Try.underlying4 sz_4, go_sem, ↓reduceIte, Nat.reduceEqDiff, Nat.reduceLT, Nat.reduceLeDiff, Nat.reduceAdd, Nat.reduceMul, Nat.reduceSub, reduceCtorEq, Int.reduceToNat, Int.reduceLT, Int.reduceLE, Int.reduceEq, Int.reduceNe, Int.reduceBEq, Nat.reduceBEq, Int.reduceBNe, Nat.reduceBNe, Int.reduceAdd, Int.reduceSub, Int.reduceMul, Int.reduceNeg]
    exact ⟨H, hK1.all, rfl⟩
end Go.Proofs.Ytapfabjmooagaaa.Sam
