/- wire: awake; WireJoins; WireFalls. -/
import Derived.Test.YtgikjbfpckjkoaaWire7
namespace Go.Proofs.Ytgikjbfpckjkoaa.Wire
set_option linter.unusedSimpArgs false
set_option linter.unusedVariables false
open Go Go.AX Go.Proofs Ty Go.Proofs.Ytgikjbfpckjkoaa.Srt Go.Proofs.Ytgikjbfpckjkoaa.CatP
set_option maxHeartbeats 4000000
set_option maxRecDepth 10000

theorem joinOf_ex : JoinOf ([(0, 5), (9, 9)] ++ [(5, 8)]) [(0, 8)] where
  plain := ⟨fun s hs => by simp at hs; subst hs; decide, by simp⟩
  same := fun t => by simp [low]; omega
  small := by simp
  ends := fun s hs => by simp at hs; subst hs; exact ⟨⟨(0, 5), by simp⟩, ⟨(5, 8), by simp⟩⟩
theorem joinOf_plain {R : List Sp} (h : Plain R) : JoinOf R R := ⟨h, fun _ => Iff.rfl, Nat.le_refl _, fun s hs => ⟨⟨s, hs, rfl⟩, ⟨s, hs, rfl⟩⟩⟩
theorem own1 (H : AH) (b e : Nat) (x y : Int) : SlcIn (H.add b (.cells [.int .i64 x, .int .i64 y] e 2)) 2 (some ⟨b, 0, none⟩) 1 ([(x, y)].map encP) :=
  SlcIn.own (R := [(x, y)].map encP) (rowsP _) (by simp) (by simp)
theorem own2 (H : AH) (b e : Nat) (x y z w : Int) : SlcIn (H.add b (.cells [.int .i64 x, .int .i64 y, .int .i64 z, .int .i64 w] e 4)) 2 (some ⟨b, 0, none⟩) 2 ([(x, y), (z, w)].map encP) :=
  SlcIn.own (R := [(x, y), (z, w)].map encP) (rowsP _) (by simp) (by simp)
theorem awake_c (H : AH) : ACalls Try.prog 45 #[] H (fun v H' => v = .bool true ∧ H = H') := by
  refine ACalls.enter2 Try.func45 rfl Try.ntmps45 Try.results45 (by simp) ?_; simp (dsimp := false) (maxSteps := 4000000) only [go_sem, ↓reduceIte, Nat.reduceEqDiff, Nat.reduceLT, Nat.reduceLeDiff, Nat.reduceAdd, Nat.reduceMul, Nat.reduceSub, reduceCtorEq, Int.reduceToNat, Int.reduceLT, Int.reduceLE, Int.reduceEq, Int.reduceNe, Int.reduceBEq, Nat.reduceBEq, Int.reduceBNe, Nat.reduceBNe, Int.reduceAdd, Int.reduceSub, Int.reduceMul, Int.reduceNeg]
  refine AllB.mk fun b8 h_b8 => ?_
  simp (dsimp := false) (maxSteps := 4000000) only [go_sem, ↓reduceIte, Nat.reduceEqDiff, Nat.reduceLT, Nat.reduceLeDiff, Nat.reduceAdd, Nat.reduceMul, Nat.reduceSub, reduceCtorEq, Int.reduceToNat, Int.reduceLT, Int.reduceLE, Int.reduceEq, Int.reduceNe, Int.reduceBEq, Nat.reduceBEq, Int.reduceBNe, Nat.reduceBNe, Int.reduceAdd, Int.reduceSub, Int.reduceMul, Int.reduceNeg]
  refine AllB.mk fun b10 h_b10 => ?_
  simp (dsimp := false) (maxSteps := 4000000) only [go_sem, ↓reduceIte, Nat.reduceEqDiff, Nat.reduceLT, Nat.reduceLeDiff, Nat.reduceAdd, Nat.reduceMul, Nat.reduceSub, reduceCtorEq, Int.reduceToNat, Int.reduceLT, Int.reduceLE, Int.reduceEq, Int.reduceNe, Int.reduceBEq, Nat.reduceBEq, Int.reduceBNe, Nat.reduceBNe, Int.reduceAdd, Int.reduceSub, Int.reduceMul, Int.reduceNeg]
  refine AllB.mk fun b11 h_b11 => ?_
  simp (dsimp := false) (maxSteps := 4000000) only [go_sem, ↓reduceIte, Nat.reduceEqDiff, Nat.reduceLT, Nat.reduceLeDiff, Nat.reduceAdd, Nat.reduceMul, Nat.reduceSub, reduceCtorEq, Int.reduceToNat, Int.reduceLT, Int.reduceLE, Int.reduceEq, Int.reduceNe, Int.reduceBEq, Nat.reduceBEq, Int.reduceBNe, Nat.reduceBNe, Int.reduceAdd, Int.reduceSub, Int.reduceMul, Int.reduceNeg]
  have s8 := own2 H b8 91 0 5 9 9
  have s10 := own1 (H.add b8 (.cells [.int .i64 0, .int .i64 5, .int .i64 9, .int .i64 9] 91 4)) b10 91 5 8
  refine (Join2_c h_b11 (s8.add h_b10) s10 (by simp)).mono ?_; rintro _ A ⟨R, b, c, rfl, hJ, hR, hK⟩
  have hK := ((Keep.refl.nw h_b8).nw h_b10).trans hK
  obtain rfl : R = [(0, 8)] := hJ.uniq joinOf_ex fun t => Iff.rfl
  have hp : Plain [((0 : Int), (8 : Int))] := joinOf_ex.plain
  clear h_b8 h_b10 h_b11 s8 s10 hJ
  simp (dsimp := false) (maxSteps := 4000000) only [go_sem, ↓reduceIte, Nat.reduceEqDiff, Nat.reduceLT, Nat.reduceLeDiff, Nat.reduceAdd, Nat.reduceMul, Nat.reduceSub, reduceCtorEq, Int.reduceToNat, Int.reduceLT, Int.reduceLE, Int.reduceEq, Int.reduceNe, Int.reduceBEq, Nat.reduceBEq, Int.reduceBNe, Nat.reduceBNe, Int.reduceAdd, Int.reduceSub, Int.reduceMul, Int.reduceNeg]
  refine (Fall_c _ (-1) 5 _ _ _ hR (by simp)).mono ?_; rintro _ _ ⟨R, hJ, rfl, rfl⟩
  obtain rfl : R = [(0, 8)] := hJ.uniq (joinOf_plain hp) fun t => Iff.rfl
  clear hJ
  have e1 : fallV [(0, 8)] (-1) 5 = (0, true) := rfl
  simp (dsimp := false) (maxSteps := 4000000) only [e1, go_sem, ↓reduceIte, Nat.reduceEqDiff, Nat.reduceLT, Nat.reduceLeDiff, Nat.reduceAdd, Nat.reduceMul, Nat.reduceSub, reduceCtorEq, Int.reduceToNat, Int.reduceLT, Int.reduceLE, Int.reduceEq, Int.reduceNe, Int.reduceBEq, Nat.reduceBEq, Int.reduceBNe, Nat.reduceBNe, Int.reduceAdd, Int.reduceSub, Int.reduceMul, Int.reduceNeg]
  refine (Fall_c _ 1 9 _ _ _ hR (by simp)).mono ?_; rintro _ _ ⟨R, hJ, rfl, rfl⟩
  obtain rfl : R = [(0, 8)] := hJ.uniq (joinOf_plain hp) fun t => Iff.rfl
  clear hJ
  have e2 : fallV [(0, 8)] 1 9 = (0, false) := rfl
  simp (dsimp := false) (maxSteps := 4000000) only [e2, go_sem, ↓reduceIte, Nat.reduceEqDiff, Nat.reduceLT, Nat.reduceLeDiff, Nat.reduceAdd, Nat.reduceMul, Nat.reduceSub, reduceCtorEq, Int.reduceToNat, Int.reduceLT, Int.reduceLE, Int.reduceEq, Int.reduceNe, Int.reduceBEq, Nat.reduceBEq, Int.reduceBNe, Nat.reduceBNe, Int.reduceAdd, Int.reduceSub, Int.reduceMul, Int.reduceNeg]
  refine AllB.mk fun b25 h_b25 => ?_
  simp (dsimp := false) (maxSteps := 4000000) only [go_sem, ↓reduceIte, Nat.reduceEqDiff, Nat.reduceLT, Nat.reduceLeDiff, Nat.reduceAdd, Nat.reduceMul, Nat.reduceSub, reduceCtorEq, Int.reduceToNat, Int.reduceLT, Int.reduceLE, Int.reduceEq, Int.reduceNe, Int.reduceBEq, Nat.reduceBEq, Int.reduceBNe, Nat.reduceBNe, Int.reduceAdd, Int.reduceSub, Int.reduceMul, Int.reduceNeg]
  refine (Same_c _ _ _ _ _ (hR.add h_b25) (own1 A b25 _ 0 8) rfl).mono ?_; rintro _ _ ⟨rfl, rfl⟩
  simp (dsimp := false) (maxSteps := 4000000) only [go_sem, ↓reduceIte, Nat.reduceEqDiff, Nat.reduceLT, Nat.reduceLeDiff, Nat.reduceAdd, Nat.reduceMul, Nat.reduceSub, reduceCtorEq, Int.reduceToNat, Int.reduceLT, Int.reduceLE, Int.reduceEq, Int.reduceNe, Int.reduceBEq, Nat.reduceBEq, Int.reduceBNe, Nat.reduceBNe, Int.reduceAdd, Int.reduceSub, Int.reduceMul, Int.reduceNeg]
  refine (High_c _ 7 _ _ _ (hR.add h_b25)).mono ?_; rintro _ _ ⟨rfl, rfl⟩
  have e3 : lowB [(0, 8)] 7 = true := rfl
  simp (dsimp := false) (maxSteps := 4000000) only [e3, go_sem, ↓reduceIte, Nat.reduceEqDiff, Nat.reduceLT, Nat.reduceLeDiff, Nat.reduceAdd, Nat.reduceMul, Nat.reduceSub, reduceCtorEq, Int.reduceToNat, Int.reduceLT, Int.reduceLE, Int.reduceEq, Int.reduceNe, Int.reduceBEq, Nat.reduceBEq, Int.reduceBNe, Nat.reduceBNe, Int.reduceAdd, Int.reduceSub, Int.reduceMul, Int.reduceNeg]
  refine (High_c _ 8 _ _ _ (hR.add h_b25)).mono ?_; rintro _ _ ⟨rfl, rfl⟩
  have e4 : lowB [(0, 8)] 8 = false := rfl
  simp (dsimp := false) (maxSteps := 4000000) only [e4, go_sem, ↓reduceIte, Nat.reduceEqDiff, Nat.reduceLT, Nat.reduceLeDiff, Nat.reduceAdd, Nat.reduceMul, Nat.reduceSub, reduceCtorEq, Int.reduceToNat, Int.reduceLT, Int.reduceLE, Int.reduceEq, Int.reduceNe, Int.reduceBEq, Nat.reduceBEq, Int.reduceBNe, Nat.reduceBNe, Int.reduceAdd, Int.reduceSub, Int.reduceMul, Int.reduceNeg]
  refine AllB.mk fun b50 h_b50 => ?_
  simp (dsimp := false) (maxSteps := 4000000) only [go_sem, ↓reduceIte, Nat.reduceEqDiff, Nat.reduceLT, Nat.reduceLeDiff, Nat.reduceAdd, Nat.reduceMul, Nat.reduceSub, reduceCtorEq, Int.reduceToNat, Int.reduceLT, Int.reduceLE, Int.reduceEq, Int.reduceNe, Int.reduceBEq, Nat.reduceBEq, Int.reduceBNe, Nat.reduceBNe, Int.reduceAdd, Int.reduceSub, Int.reduceMul, Int.reduceNeg]
  refine (Meet_c _ _ _ _ _ _ _ ((hR.add h_b25).add h_b50) (own1 _ b50 _ 7 9)).mono ?_; rintro _ _ ⟨rfl, rfl⟩
  have e5 : meetB [(0, 8)] [(7, 9)] = true := rfl
  simp (dsimp := false) (maxSteps := 4000000) only [e5, go_sem, ↓reduceIte, Nat.reduceEqDiff, Nat.reduceLT, Nat.reduceLeDiff, Nat.reduceAdd, Nat.reduceMul, Nat.reduceSub, reduceCtorEq, Int.reduceToNat, Int.reduceLT, Int.reduceLE, Int.reduceEq, Int.reduceNe, Int.reduceBEq, Nat.reduceBEq, Int.reduceBNe, Nat.reduceBNe, Int.reduceAdd, Int.reduceSub, Int.reduceMul, Int.reduceNeg]
  refine AllB.mk fun b56 h_b56 => ?_
  simp (dsimp := false) (maxSteps := 4000000) only [go_sem, ↓reduceIte, Nat.reduceEqDiff, Nat.reduceLT, Nat.reduceLeDiff, Nat.reduceAdd, Nat.reduceMul, Nat.reduceSub, reduceCtorEq, Int.reduceToNat, Int.reduceLT, Int.reduceLE, Int.reduceEq, Int.reduceNe, Int.reduceBEq, Nat.reduceBEq, Int.reduceBNe, Nat.reduceBNe, Int.reduceAdd, Int.reduceSub, Int.reduceMul, Int.reduceNeg]
  refine (Meet_c _ _ _ _ _ _ _ (((hR.add h_b25).add h_b50).add h_b56) (own1 _ b56 _ 8 9)).mono ?_; rintro _ _ ⟨rfl, rfl⟩
  have e6 : meetB [(0, 8)] [(8, 9)] = false := rfl
  simp (dsimp := false) (maxSteps := 4000000) only [e6, go_sem, ↓reduceIte, Nat.reduceEqDiff, Nat.reduceLT, Nat.reduceLeDiff, Nat.reduceAdd, Nat.reduceMul, Nat.reduceSub, reduceCtorEq, Int.reduceToNat, Int.reduceLT, Int.reduceLE, Int.reduceEq, Int.reduceNe, Int.reduceBEq, Nat.reduceBEq, Int.reduceBNe, Nat.reduceBNe, Int.reduceAdd, Int.reduceSub, Int.reduceMul, Int.reduceNeg]
  exact ⟨H, AH.le_add (AH.le_add (AH.le_add hK.all h_b25.2) h_b50.2) h_b56.2, rfl⟩
theorem fewS_ok (L : List Sp) (i : Nat) : ∀ s ∈ fewS L i, okSp s = true := fun s hs => (List.mem_filter.1 hs).2
theorem WireJoins_c (L0 : List Sp) (b0 : Option Addr) (c0 : Nat) (L1 : List Sp) (b1 : Option Addr) (c1 : Nat) (H : AH) (hs0 : SlcIn H 2 b0 c0 (L0.map encP)) (hs1 : SlcIn H 2 b1 c1 (L1.map encP)) :
    ACalls Try.prog 10 #[.slice b0 L0.length c0, .slice b1 L1.length c1] H (fun v H' => v = .bool true ∧ H = H') := by
  refine ACalls.enter2 Try.func10 rfl Try.ntmps10 Try.results10 (by simp) ?_; simp (dsimp := false) (maxSteps := 4000000) only [go_sem, ↓reduceIte, Nat.reduceEqDiff, Nat.reduceLT, Nat.reduceLeDiff, Nat.reduceAdd, Nat.reduceMul, Nat.reduceSub, reduceCtorEq, Int.reduceToNat, Int.reduceLT, Int.reduceLE, Int.reduceEq, Int.reduceNe, Int.reduceBEq, Nat.reduceBEq, Int.reduceBNe, Nat.reduceBNe, Int.reduceAdd, Int.reduceSub, Int.reduceMul, Int.reduceNeg]
  refine (few_c L0 b0 c0 H hs0).mono ?_; rintro _ A1 ⟨bx, cx, rfl, hO1, hK1⟩
  simp (dsimp := false) (maxSteps := 4000000) only [go_sem, ↓reduceIte, Nat.reduceEqDiff, Nat.reduceLT, Nat.reduceLeDiff, Nat.reduceAdd, Nat.reduceMul, Nat.reduceSub, reduceCtorEq, Int.reduceToNat, Int.reduceLT, Int.reduceLE, Int.reduceEq, Int.reduceNe, Int.reduceBEq, Nat.reduceBEq, Int.reduceBNe, Nat.reduceBNe, Int.reduceAdd, Int.reduceSub, Int.reduceMul, Int.reduceNeg]
  refine (few_c L1 b1 c1 A1 (hs1.keep hK1 fun _ _ h => h)).mono ?_; rintro _ A2 ⟨by_, cy, rfl, hO2, hK2⟩
  have hX := hO1.slc.keep hK2 fun _ _ h => h
  have hY := hO2.slc
  have hK := hK1.trans hK2
  have hxo := fewS_ok L0 20
  have hyo := fewS_ok L1 20
  have hxl := fewS_len L0 20
  have hyl := fewS_len L1 20
  generalize fewS L0 20 = X at hX hxo hxl
  generalize fewS L1 20 = Y at hY hyo hyl
  clear hO1 hO2 hK1 hK2 hs0 hs1
  simp (dsimp := false) (maxSteps := 4000000) only [go_sem, ↓reduceIte, Nat.reduceEqDiff, Nat.reduceLT, Nat.reduceLeDiff, Nat.reduceAdd, Nat.reduceMul, Nat.reduceSub, reduceCtorEq, Int.reduceToNat, Int.reduceLT, Int.reduceLE, Int.reduceEq, Int.reduceNe, Int.reduceBEq, Nat.reduceBEq, Int.reduceBNe, Nat.reduceBNe, Int.reduceAdd, Int.reduceSub, Int.reduceMul, Int.reduceNeg]
  refine (awake_c A2).mono ?_; rintro _ _ ⟨rfl, rfl⟩
  simp (dsimp := false) (maxSteps := 4000000) only [go_sem, ↓reduceIte, Nat.reduceEqDiff, Nat.reduceLT, Nat.reduceLeDiff, Nat.reduceAdd, Nat.reduceMul, Nat.reduceSub, reduceCtorEq, Int.reduceToNat, Int.reduceLT, Int.reduceLE, Int.reduceEq, Int.reduceNe, Int.reduceBEq, Nat.reduceBEq, Int.reduceBNe, Nat.reduceBNe, Int.reduceAdd, Int.reduceSub, Int.reduceMul, Int.reduceNeg]
  refine AllB.mk fun b15 h_b15 => ?_
  simp (dsimp := false) (maxSteps := 4000000) only [go_sem, ↓reduceIte, Nat.reduceEqDiff, Nat.reduceLT, Nat.reduceLeDiff, Nat.reduceAdd, Nat.reduceMul, Nat.reduceSub, reduceCtorEq, Int.reduceToNat, Int.reduceLT, Int.reduceLE, Int.reduceEq, Int.reduceNe, Int.reduceBEq, Nat.reduceBEq, Int.reduceBNe, Nat.reduceBNe, Int.reduceAdd, Int.reduceSub, Int.reduceMul, Int.reduceNeg]
  refine (Join2_c h_b15 hX hY (by omega)).mono ?_; rintro _ A3 ⟨R, br, cr, rfl, hJ, hR, hK3⟩
  replace hX := hX.keep hK3 fun _ _ h => h
  replace hY := hY.keep hK3 fun _ _ h => h
  replace hK := hK.trans hK3
  clear h_b15 hK3
  simp (dsimp := false) (maxSteps := 4000000) only [go_sem, ↓reduceIte, Nat.reduceEqDiff, Nat.reduceLT, Nat.reduceLeDiff, Nat.reduceAdd, Nat.reduceMul, Nat.reduceSub, reduceCtorEq, Int.reduceToNat, Int.reduceLT, Int.reduceLE, Int.reduceEq, Int.reduceNe, Int.reduceBEq, Nat.reduceBEq, Int.reduceBNe, Nat.reduceBNe, Int.reduceAdd, Int.reduceSub, Int.reduceMul, Int.reduceNeg]
  refine AllB.mk fun b17 h_b17 => ?_
  simp (dsimp := false) (maxSteps := 4000000) only [go_sem, ↓reduceIte, Nat.reduceEqDiff, Nat.reduceLT, Nat.reduceLeDiff, Nat.reduceAdd, Nat.reduceMul, Nat.reduceSub, reduceCtorEq, Int.reduceToNat, Int.reduceLT, Int.reduceLE, Int.reduceEq, Int.reduceNe, Int.reduceBEq, Nat.reduceBEq, Int.reduceBNe, Nat.reduceBNe, Int.reduceAdd, Int.reduceSub, Int.reduceMul, Int.reduceNeg]
  refine APD.growS (H0 := A3) (a := bx) (m := X.length) (c := cx) (R := []) (R' := X.map encP) (OwnS.new h_b17 (AH.le_refl _) rfl rfl rfl (by simp) (by simp)) (AH.le_add (AH.le_refl _) h_b17.2) se_81 rfl (by decide) (by decide) (by rw [Try.underlying81]; rfl) rfl (by simp) (hX.add h_b17) (rowsP X) (scalP X) (by omega) fun b2 c2 A4 hO4 hK4 _ => ?_
  refine ⟨_, AH.le_refl _, ?_⟩
  replace hK4 := (Keep.refl.nw h_b17).ow hK4 fun b ⟨a, ha, e⟩ => by cases ha; exact e ▸ h_b17
  simp (dsimp := false) (maxSteps := 4000000) only [go_sem, ↓reduceIte, Nat.reduceEqDiff, Nat.reduceLT, Nat.reduceLeDiff, Nat.reduceAdd, Nat.reduceMul, Nat.reduceSub, reduceCtorEq, Int.reduceToNat, Int.reduceLT, Int.reduceLE, Int.reduceEq, Int.reduceNe, Int.reduceBEq, Nat.reduceBEq, Int.reduceBNe, Nat.reduceBNe, Int.reduceAdd, Int.reduceSub, Int.reduceMul, Int.reduceNeg]
  refine APD.growS (H0 := A3) (a := by_) (m := Y.length) (c := cy) (R := [] ++ X.map encP) (R' := Y.map encP) hO4 hK4.all se_81 rfl (by decide) (by decide) (by rw [Try.underlying81]; rfl) (by simp) (by simp) (hY.keep hK4 fun _ _ h => h) (rowsP Y) (scalP Y) (by omega) fun b3 c3 A5 hO5 hK5 _ => ?_
  refine ⟨_, AH.le_refl _, ?_⟩
  replace hK5 := hK4.ow hK5 fun b ⟨a, ha, e⟩ => e ▸ hO4.fresh a ha
  replace hX := hX.keep hK5 fun _ _ h => h
  replace hY := hY.keep hK5 fun _ _ h => h
  replace hR := hR.keep hK5 fun _ _ h => h
  replace hK := hK.trans hK5
  have hXY := hO5.slc
  rw [List.nil_append, ← List.map_append] at hXY
  have hln : X.length + Y.length = (X ++ Y).length := by simp
  rw [hln]
  clear hO4 hO5 hK4 hK5 h_b17
  simp (dsimp := false) (maxSteps := 4000000) only [go_sem, ↓reduceIte, Nat.reduceEqDiff, Nat.reduceLT, Nat.reduceLeDiff, Nat.reduceAdd, Nat.reduceMul, Nat.reduceSub, reduceCtorEq, Int.reduceToNat, Int.reduceLT, Int.reduceLE, Int.reduceEq, Int.reduceNe, Int.reduceBEq, Nat.reduceBEq, Int.reduceBNe, Nat.reduceBNe, Int.reduceAdd, Int.reduceSub, Int.reduceMul, Int.reduceNeg]
  refine (RefJoin_c _ _ _ _ hXY (fun s hs => (List.mem_append.1 hs).elim (hxo s) (hyo s)) (by simp; omega)).mono ?_; rintro _ A6 ⟨R', b6, c6, rfl, hJ', hR', hK6⟩
  obtain rfl : R = R' := hJ.uniq hJ' fun t => Iff.rfl
  replace hX := hX.keep hK6 fun _ _ h => h
  replace hY := hY.keep hK6 fun _ _ h => h
  replace hR := hR.keep hK6 fun _ _ h => h
  replace hK := hK.trans hK6
  clear hK6 hXY
  simp (dsimp := false) (maxSteps := 4000000) only [go_sem, ↓reduceIte, Nat.reduceEqDiff, Nat.reduceLT, Nat.reduceLeDiff, Nat.reduceAdd, Nat.reduceMul, Nat.reduceSub, reduceCtorEq, Int.reduceToNat, Int.reduceLT, Int.reduceLE, Int.reduceEq, Int.reduceNe, Int.reduceBEq, Nat.reduceBEq, Int.reduceBNe, Nat.reduceBNe, Int.reduceAdd, Int.reduceSub, Int.reduceMul, Int.reduceNeg]
  refine (Same_c _ _ _ _ _ hR hR' rfl).mono ?_; rintro _ _ ⟨rfl, rfl⟩
  simp (dsimp := false) (maxSteps := 4000000) only [go_sem, ↓reduceIte, Nat.reduceEqDiff, Nat.reduceLT, Nat.reduceLeDiff, Nat.reduceAdd, Nat.reduceMul, Nat.reduceSub, reduceCtorEq, Int.reduceToNat, Int.reduceLT, Int.reduceLE, Int.reduceEq, Int.reduceNe, Int.reduceBEq, Nat.reduceBEq, Int.reduceBNe, Nat.reduceBNe, Int.reduceAdd, Int.reduceSub, Int.reduceMul, Int.reduceNeg]
  refine (Meet_c _ _ _ _ _ _ _ hX hY).mono ?_; rintro _ _ ⟨rfl, rfl⟩
  simp (dsimp := false) (maxSteps := 4000000) only [go_sem, ↓reduceIte, Nat.reduceEqDiff, Nat.reduceLT, Nat.reduceLeDiff, Nat.reduceAdd, Nat.reduceMul, Nat.reduceSub, reduceCtorEq, Int.reduceToNat, Int.reduceLT, Int.reduceLE, Int.reduceEq, Int.reduceNe, Int.reduceBEq, Nat.reduceBEq, Int.reduceBNe, Nat.reduceBNe, Int.reduceAdd, Int.reduceSub, Int.reduceMul, Int.reduceNeg]
  refine (RefMeet_c _ _ _ _ _ _ _ hX hY).mono ?_; rintro _ _ ⟨rfl, rfl⟩
  simp (dsimp := false) (maxSteps := 4000000) only [go_sem, ↓reduceIte, Nat.reduceEqDiff, Nat.reduceLT, Nat.reduceLeDiff, Nat.reduceAdd, Nat.reduceMul, Nat.reduceSub, reduceCtorEq, Int.reduceToNat, Int.reduceLT, Int.reduceLE, Int.reduceEq, Int.reduceNe, Int.reduceBEq, Nat.reduceBEq, Int.reduceBNe, Nat.reduceBNe, Int.reduceAdd, Int.reduceSub, Int.reduceMul, Int.reduceNeg]
  exact ⟨H, hK.all, rfl⟩
theorem WireFalls_c (L0 : List Sp) (b0 : Option Addr) (c0 : Nat) (f t : Int) (H : AH) (hs0 : SlcIn H 2 b0 c0 (L0.map encP)) :
    ACalls Try.prog 11 #[.slice b0 L0.length c0, .int .i64 f, .int .i64 t] H (fun v H' => v = .bool true ∧ H = H') := by
  refine ACalls.enter2 Try.func11 rfl Try.ntmps11 Try.results11 (by simp) ?_; simp (dsimp := false) (maxSteps := 4000000) only [go_sem, ↓reduceIte, Nat.reduceEqDiff, Nat.reduceLT, Nat.reduceLeDiff, Nat.reduceAdd, Nat.reduceMul, Nat.reduceSub, reduceCtorEq, Int.reduceToNat, Int.reduceLT, Int.reduceLE, Int.reduceEq, Int.reduceNe, Int.reduceBEq, Nat.reduceBEq, Int.reduceBNe, Nat.reduceBNe, Int.reduceAdd, Int.reduceSub, Int.reduceMul, Int.reduceNeg]
  refine (few_c L0 b0 c0 H hs0).mono ?_; rintro _ A1 ⟨bx, cx, rfl, hO1, hK⟩
  have hX := hO1.slc
  have hxo := fewS_ok L0 20
  have hxl := fewS_len L0 20
  generalize fewS L0 20 = X at hX hxo hxl
  clear hO1 hs0
  simp (dsimp := false) (maxSteps := 4000000) only [go_sem, ↓reduceIte, Nat.reduceEqDiff, Nat.reduceLT, Nat.reduceLeDiff, Nat.reduceAdd, Nat.reduceMul, Nat.reduceSub, reduceCtorEq, Int.reduceToNat, Int.reduceLT, Int.reduceLE, Int.reduceEq, Int.reduceNe, Int.reduceBEq, Nat.reduceBEq, Int.reduceBNe, Nat.reduceBNe, Int.reduceAdd, Int.reduceSub, Int.reduceMul, Int.reduceNeg]
  refine (near_c f _).mono ?_; rintro _ _ ⟨rfl, rfl⟩
  simp (dsimp := false) (maxSteps := 4000000) only [go_sem, ↓reduceIte, Nat.reduceEqDiff, Nat.reduceLT, Nat.reduceLeDiff, Nat.reduceAdd, Nat.reduceMul, Nat.reduceSub, reduceCtorEq, Int.reduceToNat, Int.reduceLT, Int.reduceLE, Int.reduceEq, Int.reduceNe, Int.reduceBEq, Nat.reduceBEq, Int.reduceBNe, Nat.reduceBNe, Int.reduceAdd, Int.reduceSub, Int.reduceMul, Int.reduceNeg]
  refine (near_c t _).mono ?_; rintro _ _ ⟨rfl, rfl⟩
  simp (dsimp := false) (maxSteps := 4000000) only [go_sem, ↓reduceIte, Nat.reduceEqDiff, Nat.reduceLT, Nat.reduceLeDiff, Nat.reduceAdd, Nat.reduceMul, Nat.reduceSub, reduceCtorEq, Int.reduceToNat, Int.reduceLT, Int.reduceLE, Int.reduceEq, Int.reduceNe, Int.reduceBEq, Nat.reduceBEq, Int.reduceBNe, Nat.reduceBNe, Int.reduceAdd, Int.reduceSub, Int.reduceMul, Int.reduceNeg]
  refine (Fall_c X (nearI f) (nearI t) _ _ _ hX (by omega)).mono ?_; rintro _ _ ⟨R, hJ, rfl, rfl⟩
  simp (dsimp := false) (maxSteps := 4000000) only [go_sem, ↓reduceIte, Nat.reduceEqDiff, Nat.reduceLT, Nat.reduceLeDiff, Nat.reduceAdd, Nat.reduceMul, Nat.reduceSub, reduceCtorEq, Int.reduceToNat, Int.reduceLT, Int.reduceLE, Int.reduceEq, Int.reduceNe, Int.reduceBEq, Nat.reduceBEq, Int.reduceBNe, Nat.reduceBNe, Int.reduceAdd, Int.reduceSub, Int.reduceMul, Int.reduceNeg]
  refine (near_c f _).mono ?_; rintro _ _ ⟨rfl, rfl⟩
  simp (dsimp := false) (maxSteps := 4000000) only [go_sem, ↓reduceIte, Nat.reduceEqDiff, Nat.reduceLT, Nat.reduceLeDiff, Nat.reduceAdd, Nat.reduceMul, Nat.reduceSub, reduceCtorEq, Int.reduceToNat, Int.reduceLT, Int.reduceLE, Int.reduceEq, Int.reduceNe, Int.reduceBEq, Nat.reduceBEq, Int.reduceBNe, Nat.reduceBNe, Int.reduceAdd, Int.reduceSub, Int.reduceMul, Int.reduceNeg]
  refine (near_c t _).mono ?_; rintro _ _ ⟨rfl, rfl⟩
  simp (dsimp := false) (maxSteps := 4000000) only [go_sem, ↓reduceIte, Nat.reduceEqDiff, Nat.reduceLT, Nat.reduceLeDiff, Nat.reduceAdd, Nat.reduceMul, Nat.reduceSub, reduceCtorEq, Int.reduceToNat, Int.reduceLT, Int.reduceLE, Int.reduceEq, Int.reduceNe, Int.reduceBEq, Nat.reduceBEq, Int.reduceBNe, Nat.reduceBNe, Int.reduceAdd, Int.reduceSub, Int.reduceMul, Int.reduceNeg]
  refine (RefFall_c X (nearI f) (nearI t) _ _ _ hX hxo (by omega)).mono ?_; rintro _ _ ⟨R', hJ', rfl, rfl⟩
  obtain rfl : R = R' := hJ.uniq hJ' fun t => Iff.rfl
  simp (dsimp := false) (maxSteps := 4000000) only [go_sem, ↓reduceIte, Nat.reduceEqDiff, Nat.reduceLT, Nat.reduceLeDiff, Nat.reduceAdd, Nat.reduceMul, Nat.reduceSub, reduceCtorEq, Int.reduceToNat, Int.reduceLT, Int.reduceLE, Int.reduceEq, Int.reduceNe, Int.reduceBEq, Nat.reduceBEq, Int.reduceBNe, Nat.reduceBNe, Int.reduceAdd, Int.reduceSub, Int.reduceMul, Int.reduceNeg]
  refine (awake_c _).mono ?_; rintro _ _ ⟨rfl, rfl⟩
  simp (dsimp := false) (maxSteps := 4000000) only [go_sem, ↓reduceIte, Nat.reduceEqDiff, Nat.reduceLT, Nat.reduceLeDiff, Nat.reduceAdd, Nat.reduceMul, Nat.reduceSub, reduceCtorEq, Int.reduceToNat, Int.reduceLT, Int.reduceLE, Int.reduceEq, Int.reduceNe, Int.reduceBEq, Nat.reduceBEq, Int.reduceBNe, Nat.reduceBNe, Int.reduceAdd, Int.reduceSub, Int.reduceMul, Int.reduceNeg]
  refine (High_c X f _ _ _ hX).mono ?_; rintro _ _ ⟨rfl, rfl⟩
  simp (dsimp := false) (maxSteps := 4000000) only [go_sem, ↓reduceIte, Nat.reduceEqDiff, Nat.reduceLT, Nat.reduceLeDiff, Nat.reduceAdd, Nat.reduceMul, Nat.reduceSub, reduceCtorEq, Int.reduceToNat, Int.reduceLT, Int.reduceLE, Int.reduceEq, Int.reduceNe, Int.reduceBEq, Nat.reduceBEq, Int.reduceBNe, Nat.reduceBNe, Int.reduceAdd, Int.reduceSub, Int.reduceMul, Int.reduceNeg]
  refine (RefLow_c X f _ _ _ hX).mono ?_; rintro _ _ ⟨rfl, rfl⟩
  simp (dsimp := false) (maxSteps := 4000000) only [go_sem, ↓reduceIte, Nat.reduceEqDiff, Nat.reduceLT, Nat.reduceLeDiff, Nat.reduceAdd, Nat.reduceMul, Nat.reduceSub, reduceCtorEq, Int.reduceToNat, Int.reduceLT, Int.reduceLE, Int.reduceEq, Int.reduceNe, Int.reduceBEq, Nat.reduceBEq, Int.reduceBNe, Nat.reduceBNe, Int.reduceAdd, Int.reduceSub, Int.reduceMul, Int.reduceNeg]
  exact ⟨H, hK.all, by cases lowB X f <;> rfl, rfl⟩
end Go.Proofs.Ytgikjbfpckjkoaa.Wire
