/- few of haywardlaw05. -/
import Derived.Test.YtapfabjmooagaaaBaud1
namespace Go.Proofs.Ytapfabjmooagaaa.Sam
set_option linter.unusedSimpArgs false
set_option linter.unusedVariables false
open Go Go.AX Go.Proofs Ty Go.Proofs.Ytapfabjmooagaaa.Srt Go.Proofs.Ytapfabjmooagaaa.Wire
set_option maxHeartbeats 4000000
set_option maxRecDepth 10000

theorem few16_c (L : List Sp) (base : Option Addr) (cap : Nat) (H : AH) (hs : SlcIn H 2 base cap (L.map encP)) :
    ACalls Try.prog 18 #[.slice base L.length cap] H (fun v H' => ∃ b c, v = .slice b (fewS L 16).length c ∧ OwnS H H' 53 2 b c ((fewS L 16).map encP) ∧ Keep H H' fun _ => False) := by
  have hbig := hs.big
  simp only [List.length_map] at hbig
  refine ACalls.enter2 Try.func18 rfl Try.ntmps18 Try.results18 (by simp) ?_; simp (dsimp := false) (maxSteps := 4000000) only [encP_len, encP_scal, encP_z, encP_take, go_sem, ↓reduceIte, Nat.reduceEqDiff, Nat.reduceLT, Nat.reduceLeDiff, Nat.reduceAdd, Nat.reduceMul, Nat.reduceSub, reduceCtorEq, Int.reduceToNat, Int.reduceLT, Int.reduceLE, Int.reduceEq, Int.reduceNe, Int.reduceBEq, Nat.reduceBEq, Int.reduceBNe, Nat.reduceBNe, Int.reduceAdd, Int.reduceSub, Int.reduceMul, Int.reduceNeg]
  refine AllB.mk fun b6 h_b6 => ?_; have hn_b6 := h_b6; (try simp only [fresh_add, fresh_set, ne_eq] at hn_b6); have hr_b6 := hn_b6; (try simp only [@eq_comm Nat b6] at hr_b6); simp (dsimp := false) (maxSteps := 4000000) only [encP_len, encP_scal, encP_z, encP_take, hn_b6, hr_b6, go_sem, ↓reduceIte, Nat.reduceEqDiff, Nat.reduceLT, Nat.reduceLeDiff, Nat.reduceAdd, Nat.reduceMul, Nat.reduceSub, reduceCtorEq, Int.reduceToNat, Int.reduceLT, Int.reduceLE, Int.reduceEq, Int.reduceNe, Int.reduceBEq, Nat.reduceBEq, Int.reduceBNe, Nat.reduceBNe, Int.reduceAdd, Int.reduceSub, Int.reduceMul, Int.reduceNeg]
  refine AWp.loopr (ι := Nat × Option Addr × Nat) (fun x A => x.1 ≤ L.length ∧ x.1 ≤ 16 ∧ OwnS H A 53 2 x.2.1 x.2.2 ((fewS L x.1).map encP) ∧ Keep H A fun _ => False)
    (fun x => [(4, .int .i64 x.1), (0, .slice base L.length cap), (3, .slice x.2.1 (fewS L x.1).length x.2.2)]) (fun x => L.length - x.1) (0, some ⟨b6, 0, none⟩, 0) (H.add b6 (.cells [] 53 0))
    ⟨by simp, by simp, OwnS.new h_b6 (AH.le_refl _) rfl rfl rfl (by simp [fewS]) (by simp [fewS]), Keep.add h_b6⟩ (FrLe.of_lks ?_) (AH.le_refl _) fun x A hi Q again out => ?_
  · simp (dsimp := false) (maxSteps := 4000000) only [encP_len, encP_scal, encP_z, encP_take, hn_b6, hr_b6, go_sem, ↓reduceIte, Nat.reduceEqDiff, Nat.reduceLT, Nat.reduceLeDiff, Nat.reduceAdd, Nat.reduceMul, Nat.reduceSub, reduceCtorEq, Int.reduceToNat, Int.reduceLT, Int.reduceLE, Int.reduceEq, Int.reduceNe, Int.reduceBEq, Nat.reduceBEq, Int.reduceBNe, Nat.reduceBNe, Int.reduceAdd, Int.reduceSub, Int.reduceMul, Int.reduceNeg]
    rfl
  clear h_b6 hn_b6 hr_b6
  
  obtain ⟨i, bo, co⟩ := x
  obtain ⟨hi, hi2, hO, hK⟩ := hi
  dsimp only at hi hi2 hO again ⊢
  have hfl := fewS_len L i
  by_cases h : (i : Int) < L.length
  case neg =>
    have hin : i = L.length := by omega
    have e : fewS L 16 = fewS L i := by rw [fewS, fewS, hin, List.take_length, List.take_of_length_le (by omega)]
    simp (dsimp := false) (maxSteps := 4000000) only [h, encP_len, encP_scal, encP_z, encP_take, go_sem, ↓reduceIte, Nat.reduceEqDiff, Nat.reduceLT, Nat.reduceLeDiff, Nat.reduceAdd, Nat.reduceMul, Nat.reduceSub, reduceCtorEq, Int.reduceToNat, Int.reduceLT, Int.reduceLE, Int.reduceEq, Int.reduceNe, Int.reduceBEq, Nat.reduceBEq, Int.reduceBNe, Nat.reduceBNe, Int.reduceAdd, Int.reduceSub, Int.reduceMul, Int.reduceNeg]
    refine out _ _ _ (by simp) ?_
    simp (dsimp := false) (maxSteps := 4000000) only [encP_len, encP_scal, encP_z, encP_take, go_sem, ↓reduceIte, Nat.reduceEqDiff, Nat.reduceLT, Nat.reduceLeDiff, Nat.reduceAdd, Nat.reduceMul, Nat.reduceSub, reduceCtorEq, Int.reduceToNat, Int.reduceLT, Int.reduceLE, Int.reduceEq, Int.reduceNe, Int.reduceBEq, Nat.reduceBEq, Int.reduceBNe, Nat.reduceBNe, Int.reduceAdd, Int.reduceSub, Int.reduceMul, Int.reduceNeg]
    exact ⟨A, AH.le_refl _, bo, co, by rw [e], by rw [e]; exact hO, hK⟩
  by_cases h2 : (i : Int) < 16
  case neg =>
    have hin : i = 16 := by omega
    have e : fewS L 16 = fewS L i := by rw [hin]
    simp (dsimp := false) (maxSteps := 4000000) only [h, h2, encP_len, encP_scal, encP_z, encP_take, go_sem, ↓reduceIte, Nat.reduceEqDiff, Nat.reduceLT, Nat.reduceLeDiff, Nat.reduceAdd, Nat.reduceMul, Nat.reduceSub, reduceCtorEq, Int.reduceToNat, Int.reduceLT, Int.reduceLE, Int.reduceEq, Int.reduceNe, Int.reduceBEq, Nat.reduceBEq, Int.reduceBNe, Nat.reduceBNe, Int.reduceAdd, Int.reduceSub, Int.reduceMul, Int.reduceNeg]
    refine out _ _ _ (by simp) ?_
    simp (dsimp := false) (maxSteps := 4000000) only [encP_len, encP_scal, encP_z, encP_take, go_sem, ↓reduceIte, Nat.reduceEqDiff, Nat.reduceLT, Nat.reduceLeDiff, Nat.reduceAdd, Nat.reduceMul, Nat.reduceSub, reduceCtorEq, Int.reduceToNat, Int.reduceLT, Int.reduceLE, Int.reduceEq, Int.reduceNe, Int.reduceBEq, Nat.reduceBEq, Int.reduceBNe, Nat.reduceBNe, Int.reduceAdd, Int.reduceSub, Int.reduceMul, Int.reduceNeg]
    exact ⟨A, AH.le_refl _, bo, co, by rw [e], by rw [e]; exact hO, hK⟩
  obtain ⟨⟨x, y⟩, hx⟩ := get_some (l := L) (i := i) (by omega)
  have hsA := hs.keep hK fun _ _ h => h
  obtain ⟨b0, o0, rfl, hrow, _⟩ := hsA.get (map_get (f := encP) hx)
  have ee := i64_succ (i := i) (by omega)
  have hfs := fewS_succ hx
  simp (dsimp := false) (maxSteps := 4000000) only [h, h2, hrow, encP_len, encP_scal, encP_z, encP_take, go_sem, ↓reduceIte, Nat.reduceEqDiff, Nat.reduceLT, Nat.reduceLeDiff, Nat.reduceAdd, Nat.reduceMul, Nat.reduceSub, reduceCtorEq, Int.reduceToNat, Int.reduceLT, Int.reduceLE, Int.reduceEq, Int.reduceNe, Int.reduceBEq, Nat.reduceBEq, Int.reduceBNe, Nat.reduceBNe, Int.reduceAdd, Int.reduceSub, Int.reduceMul, Int.reduceNeg]
  refine AllB.mk fun b5 h_b5 => ?_
  have no : okSp (x, y) = false → fewS L (i + 1) = fewS L i := fun h => by rw [hfs, if_neg (by rw [h]; simp)]
  by_cases c0 : -1099511627776 ≤ x
  case neg =>
    have hfs := no (by simp [okSp, c0])
    simp (dsimp := false) (maxSteps := 4000000) only [encP_mk, c0, ee, encP_len, encP_scal, encP_z, encP_take, go_sem, ↓reduceIte, Nat.reduceEqDiff, Nat.reduceLT, Nat.reduceLeDiff, Nat.reduceAdd, Nat.reduceMul, Nat.reduceSub, reduceCtorEq, Int.reduceToNat, Int.reduceLT, Int.reduceLE, Int.reduceEq, Int.reduceNe, Int.reduceBEq, Nat.reduceBEq, Int.reduceBNe, Nat.reduceBNe, Int.reduceAdd, Int.reduceSub, Int.reduceMul, Int.reduceNeg]
    refine again (i + 1, bo, co) _ A _ ⟨by simp only; omega, by simp only; omega, by simp only [hfs]; exact hO, hK⟩ (FrLe.of_lks ?_) (AH.le_add (AH.le_refl _) h_b5.2) (by simp only; omega)
    rw [hfs]
    simp (dsimp := false) (maxSteps := 4000000) only [encP_len, encP_scal, encP_z, encP_take, go_sem, ↓reduceIte, Nat.reduceEqDiff, Nat.reduceLT, Nat.reduceLeDiff, Nat.reduceAdd, Nat.reduceMul, Nat.reduceSub, reduceCtorEq, Int.reduceToNat, Int.reduceLT, Int.reduceLE, Int.reduceEq, Int.reduceNe, Int.reduceBEq, Nat.reduceBEq, Int.reduceBNe, Nat.reduceBNe, Int.reduceAdd, Int.reduceSub, Int.reduceMul, Int.reduceNeg]
  by_cases c1 : x ≤ 1099511627776
  case neg =>
    have hfs := no (by simp [okSp, c1])
    simp (dsimp := false) (maxSteps := 4000000) only [encP_mk, c0, c1, ee, encP_len, encP_scal, encP_z, encP_take, go_sem, ↓reduceIte, Nat.reduceEqDiff, Nat.reduceLT, Nat.reduceLeDiff, Nat.reduceAdd, Nat.reduceMul, Nat.reduceSub, reduceCtorEq, Int.reduceToNat, Int.reduceLT, Int.reduceLE, Int.reduceEq, Int.reduceNe, Int.reduceBEq, Nat.reduceBEq, Int.reduceBNe, Nat.reduceBNe, Int.reduceAdd, Int.reduceSub, Int.reduceMul, Int.reduceNeg]
    refine again (i + 1, bo, co) _ A _ ⟨by simp only; omega, by simp only; omega, by simp only [hfs]; exact hO, hK⟩ (FrLe.of_lks ?_) (AH.le_add (AH.le_refl _) h_b5.2) (by simp only; omega)
    rw [hfs]
    simp (dsimp := false) (maxSteps := 4000000) only [encP_len, encP_scal, encP_z, encP_take, go_sem, ↓reduceIte, Nat.reduceEqDiff, Nat.reduceLT, Nat.reduceLeDiff, Nat.reduceAdd, Nat.reduceMul, Nat.reduceSub, reduceCtorEq, Int.reduceToNat, Int.reduceLT, Int.reduceLE, Int.reduceEq, Int.reduceNe, Int.reduceBEq, Nat.reduceBEq, Int.reduceBNe, Nat.reduceBNe, Int.reduceAdd, Int.reduceSub, Int.reduceMul, Int.reduceNeg]
  by_cases c2 : -1099511627776 ≤ y
  case neg =>
    have hfs := no (by simp [okSp, c2])
    simp (dsimp := false) (maxSteps := 4000000) only [encP_mk, c0, c1, c2, ee, encP_len, encP_scal, encP_z, encP_take, go_sem, ↓reduceIte, Nat.reduceEqDiff, Nat.reduceLT, Nat.reduceLeDiff, Nat.reduceAdd, Nat.reduceMul, Nat.reduceSub, reduceCtorEq, Int.reduceToNat, Int.reduceLT, Int.reduceLE, Int.reduceEq, Int.reduceNe, Int.reduceBEq, Nat.reduceBEq, Int.reduceBNe, Nat.reduceBNe, Int.reduceAdd, Int.reduceSub, Int.reduceMul, Int.reduceNeg]
    refine again (i + 1, bo, co) _ A _ ⟨by simp only; omega, by simp only; omega, by simp only [hfs]; exact hO, hK⟩ (FrLe.of_lks ?_) (AH.le_add (AH.le_refl _) h_b5.2) (by simp only; omega)
    rw [hfs]
    simp (dsimp := false) (maxSteps := 4000000) only [encP_len, encP_scal, encP_z, encP_take, go_sem, ↓reduceIte, Nat.reduceEqDiff, Nat.reduceLT, Nat.reduceLeDiff, Nat.reduceAdd, Nat.reduceMul, Nat.reduceSub, reduceCtorEq, Int.reduceToNat, Int.reduceLT, Int.reduceLE, Int.reduceEq, Int.reduceNe, Int.reduceBEq, Nat.reduceBEq, Int.reduceBNe, Nat.reduceBNe, Int.reduceAdd, Int.reduceSub, Int.reduceMul, Int.reduceNeg]
  by_cases c3 : y ≤ 1099511627776
  case neg =>
    have hfs := no (by simp [okSp, c3])
    simp (dsimp := false) (maxSteps := 4000000) only [encP_mk, c0, c1, c2, c3, ee, encP_len, encP_scal, encP_z, encP_take, go_sem, ↓reduceIte, Nat.reduceEqDiff, Nat.reduceLT, Nat.reduceLeDiff, Nat.reduceAdd, Nat.reduceMul, Nat.reduceSub, reduceCtorEq, Int.reduceToNat, Int.reduceLT, Int.reduceLE, Int.reduceEq, Int.reduceNe, Int.reduceBEq, Nat.reduceBEq, Int.reduceBNe, Nat.reduceBNe, Int.reduceAdd, Int.reduceSub, Int.reduceMul, Int.reduceNeg]
    refine again (i + 1, bo, co) _ A _ ⟨by simp only; omega, by simp only; omega, by simp only [hfs]; exact hO, hK⟩ (FrLe.of_lks ?_) (AH.le_add (AH.le_refl _) h_b5.2) (by simp only; omega)
    rw [hfs]
    simp (dsimp := false) (maxSteps := 4000000) only [encP_len, encP_scal, encP_z, encP_take, go_sem, ↓reduceIte, Nat.reduceEqDiff, Nat.reduceLT, Nat.reduceLeDiff, Nat.reduceAdd, Nat.reduceMul, Nat.reduceSub, reduceCtorEq, Int.reduceToNat, Int.reduceLT, Int.reduceLE, Int.reduceEq, Int.reduceNe, Int.reduceBEq, Nat.reduceBEq, Int.reduceBNe, Nat.reduceBNe, Int.reduceAdd, Int.reduceSub, Int.reduceMul, Int.reduceNeg]
  rw [if_pos (show okSp (x, y) = true by simp [okSp, c0, c1, c2, c3])] at hfs
  simp (dsimp := false) (maxSteps := 4000000) only [encP_mk, c0, c1, c2, c3, encP_len, encP_scal, encP_z, encP_take, go_sem, ↓reduceIte, Nat.reduceEqDiff, Nat.reduceLT, Nat.reduceLeDiff, Nat.reduceAdd, Nat.reduceMul, Nat.reduceSub, reduceCtorEq, Int.reduceToNat, Int.reduceLT, Int.reduceLE, Int.reduceEq, Int.reduceNe, Int.reduceBEq, Nat.reduceBEq, Int.reduceBNe, Nat.reduceBNe, Int.reduceAdd, Int.reduceSub, Int.reduceMul, Int.reduceNeg]
  refine AllB.mk fun b41 h_b41 => ?_
  simp (dsimp := false) (maxSteps := 4000000) only [encP_len, encP_scal, encP_z, encP_take, go_sem, ↓reduceIte, Nat.reduceEqDiff, Nat.reduceLT, Nat.reduceLeDiff, Nat.reduceAdd, Nat.reduceMul, Nat.reduceSub, reduceCtorEq, Int.reduceToNat, Int.reduceLT, Int.reduceLE, Int.reduceEq, Int.reduceNe, Int.reduceBEq, Nat.reduceBEq, Int.reduceBNe, Nat.reduceBNe, Int.reduceAdd, Int.reduceSub, Int.reduceMul, Int.reduceNeg]
  refine APD.growW (x := .slice (some ⟨b41, 0, none⟩) 1 1) (R' := [encP (x, y)]) (m := 1) ((hO.added h_b5).added h_b41) ((hK.nw h_b5).nw h_b41).all se_22 rfl (by decide) (by rw [Try.underlying22]; rfl) (by simp) rfl rfl (by rw [srow_some, row_add_self]; rfl) (by simp [encP]) (by simp [encP, scal]) (by omega) fun base2 cap2 A' hO' hK' hN' => ?_
  refine ⟨_, AH.le_refl _, ?_⟩
  simp (dsimp := false) (maxSteps := 4000000) only [ee, encP_len, encP_scal, encP_z, encP_take, go_sem, ↓reduceIte, Nat.reduceEqDiff, Nat.reduceLT, Nat.reduceLeDiff, Nat.reduceAdd, Nat.reduceMul, Nat.reduceSub, reduceCtorEq, Int.reduceToNat, Int.reduceLT, Int.reduceLE, Int.reduceEq, Int.reduceNe, Int.reduceBEq, Nat.reduceBEq, Int.reduceBNe, Nat.reduceBNe, Int.reduceAdd, Int.reduceSub, Int.reduceMul, Int.reduceNeg]
  have hK2 := ((hK.nw h_b5).nw h_b41).ow hK' fun b ⟨a, ha, e⟩ => e ▸ hO.fresh a ha
  have he : (fewS L i).map encP ++ [encP (x, y)] = (fewS L (i + 1)).map encP := by rw [hfs, List.map_append]; rfl
  rw [he] at hO'
  refine again (i + 1, base2, cap2) _ _ _ ⟨by simp only; omega, by simp only; omega, hO', hK2⟩ (FrLe.of_lks ?_) (AH.le_refl _) (by simp only; omega)
  have hl1 : (fewS L (i + 1)).length = (fewS L i).length + 1 := by rw [hfs]; simp
  rw [hl1]
  simp (dsimp := false) (maxSteps := 4000000) only [encP_len, encP_scal, encP_z, encP_take, go_sem, ↓reduceIte, Nat.reduceEqDiff, Nat.reduceLT, Nat.reduceLeDiff, Nat.reduceAdd, Nat.reduceMul, Nat.reduceSub, reduceCtorEq, Int.reduceToNat, Int.reduceLT, Int.reduceLE, Int.reduceEq, Int.reduceNe, Int.reduceBEq, Nat.reduceBEq, Int.reduceBNe, Nat.reduceBNe, Int.reduceAdd, Int.reduceSub, Int.reduceMul, Int.reduceNeg]
end Go.Proofs.Ytapfabjmooagaaa.Sam
