/- check: few. -/
import Derived.Test.YtgikjbfpckjkoaaChk4
namespace Go.Proofs.Ytgikjbfpckjkoaa.Chk
set_option linter.unusedSimpArgs false
set_option linter.unusedVariables false
open Go Go.AX Go.Proofs Ty
set_option maxHeartbeats 4000000
set_option maxRecDepth 10000

def cut (t : Tb) : Tb := (t.1, t.2.1, t.2.2.take 70)
def fewT (T : List Tb) : List Tb := (T.take 12).map cut
theorem rowsT (T : List Tb) : ∀ r ∈ T.map encT, r.length = 1 := fun r hr => by
  obtain ⟨w, _, rfl⟩ := List.mem_map.1 hr
  rfl
theorem scalT (l : List Tb) : ((l.map encT).flatten).all scal = true := by
  rw [List.all_flatten, List.all_map, List.all_eq_true]
  intro r _; rfl
theorem cut_succ {T : List Tb} {i : Nat} {t : Tb} (h : T[i]? = some t) : ((T.take i).map cut).map encT ++ [encT (cut t)] = ((T.take (i + 1)).map cut).map encT := by
  simp [List.take_add_one, h]
theorem few_c (T : List Tb) (base : Option Addr) (cap : Nat) (H : AH) (hT : TabIn H base cap T) :
    ACalls Try.prog 39 #[.slice base T.length cap] H (fun v H' => ∃ b' c', v = .slice b' (fewT T).length c' ∧ OwnS H H' 79 1 b' c' ((fewT T).map encT) ∧ Keep H H' fun _ => False) := by
  have hbig := hT.out.big
  simp only [List.length_map] at hbig
  refine ACalls.enter2 Try.func39 rfl Try.ntmps39 Try.results39 (by simp) ?_; simp (dsimp := false) (maxSteps := 4000000) only [go_sem, ↓reduceIte, Nat.reduceEqDiff, Nat.reduceLT, Nat.reduceLeDiff, Nat.reduceAdd, Nat.reduceMul, Nat.reduceSub, reduceCtorEq, Int.reduceToNat, Int.reduceLT, Int.reduceLE, Int.reduceEq, Int.reduceNe, Int.reduceBEq, Nat.reduceBEq, Int.reduceBNe, Nat.reduceBNe, Int.reduceAdd, Int.reduceSub, Int.reduceMul, Int.reduceNeg]
  refine AllB.mk fun bl h_bl => ?_; have hn_bl := h_bl; (try simp only [fresh_add, fresh_set, ne_eq] at hn_bl); have hr_bl := hn_bl; (try simp only [@eq_comm Nat bl] at hr_bl); simp (dsimp := false) (maxSteps := 4000000) only [hn_bl, hr_bl, go_sem, ↓reduceIte, Nat.reduceEqDiff, Nat.reduceLT, Nat.reduceLeDiff, Nat.reduceAdd, Nat.reduceMul, Nat.reduceSub, reduceCtorEq, Int.reduceToNat, Int.reduceLT, Int.reduceLE, Int.reduceEq, Int.reduceNe, Int.reduceBEq, Nat.reduceBEq, Int.reduceBNe, Nat.reduceBNe, Int.reduceAdd, Int.reduceSub, Int.reduceMul, Int.reduceNeg]
  refine AWp.loopr (ι := Nat × Option Addr × Nat) (fun x A => x.1 ≤ T.length ∧ x.1 ≤ 12 ∧ OwnS H A 79 1 x.2.1 x.2.2 (((T.take x.1).map cut).map encT) ∧ (Keep H A fun _ => False))
    (fun x => [(4, .int .i64 x.1), (0, .slice base T.length cap), (3, .slice x.2.1 x.1 x.2.2)]) (fun x => T.length - x.1) (0, some ⟨bl, 0, none⟩, 0) (H.add bl (.cells [] 79 0))
    ⟨by simp, by simp, OwnS.new h_bl (AH.le_refl _) rfl rfl rfl (by simp) (by simp), Keep.add h_bl⟩ (FrLe.of_lks ?_) (AH.le_refl _) fun x A hi Q again out => ?_
  · simp (dsimp := false) (maxSteps := 4000000) only [hn_bl, hr_bl, go_sem, ↓reduceIte, Nat.reduceEqDiff, Nat.reduceLT, Nat.reduceLeDiff, Nat.reduceAdd, Nat.reduceMul, Nat.reduceSub, reduceCtorEq, Int.reduceToNat, Int.reduceLT, Int.reduceLE, Int.reduceEq, Int.reduceNe, Int.reduceBEq, Nat.reduceBEq, Int.reduceBNe, Nat.reduceBNe, Int.reduceAdd, Int.reduceSub, Int.reduceMul, Int.reduceNeg]
  · clear h_bl hn_bl hr_bl
    
    obtain ⟨i, base', cap'⟩ := x
    obtain ⟨hi, hi2, hO, hK⟩ := hi
    dsimp only at hi hi2 hO again ⊢
    by_cases h : (i : Int) < T.length
    · by_cases h2 : (i : Int) < 12
      · obtain ⟨⟨tb, tc, L⟩, ht⟩ := get_some (l := T) (i := i) (by omega)
        have hin := hT.inn _ (List.mem_of_getElem? ht)
        have hle := hin.le
        simp only [List.length_map] at hle
        have hA : SlcIn A 1 base cap (T.map encT) := hT.out.keep hK fun _ _ h => h
        obtain ⟨b, o, rfl, _, hrd⟩ := hA.get (map_get (f := encT) ht)
        have hrd := hrd 0 _ rfl
        simp only [Nat.mul_one, Nat.add_zero] at hrd
        have ee := i64_succ (i := i) (by omega)
        by_cases c : (70 : Int) < L.length
        · obtain ⟨r, hr⟩ := get_some (l := L) (i := 0) (by omega)
          obtain ⟨b2, o2, rfl, _, _⟩ := hin.get (map_get (f := encE) hr)
          have h1 : (70 : Int) ≤ tc := by omega
          have h3 : (L.take 70).length = 70 := by rw [List.length_take]; omega
          have ec : encT (cut (some ⟨b2, o2, none⟩, tc, L)) = [.slice (some ⟨b2, o2, none⟩) 70 tc] := by simp [encT, cut, h3]
          
          simp (dsimp := false) (maxSteps := 4000000) only [h, h2, hrd, c, h1, ite_self, Nat.sub_zero, go_sem, ↓reduceIte, Nat.reduceEqDiff, Nat.reduceLT, Nat.reduceLeDiff, Nat.reduceAdd, Nat.reduceMul, Nat.reduceSub, reduceCtorEq, Int.reduceToNat, Int.reduceLT, Int.reduceLE, Int.reduceEq, Int.reduceNe, Int.reduceBEq, Nat.reduceBEq, Int.reduceBNe, Nat.reduceBNe, Int.reduceAdd, Int.reduceSub, Int.reduceMul, Int.reduceNeg]
          refine AllB.mk fun bx h_bx => ?_; have hn_bx := h_bx; (try simp only [fresh_add, fresh_set, ne_eq] at hn_bx); have hr_bx := hn_bx; (try simp only [@eq_comm Nat bx] at hr_bx); simp (dsimp := false) (maxSteps := 4000000) only [hn_bx, hr_bx, go_sem, ↓reduceIte, Nat.reduceEqDiff, Nat.reduceLT, Nat.reduceLeDiff, Nat.reduceAdd, Nat.reduceMul, Nat.reduceSub, reduceCtorEq, Int.reduceToNat, Int.reduceLT, Int.reduceLE, Int.reduceEq, Int.reduceNe, Int.reduceBEq, Nat.reduceBEq, Int.reduceBNe, Nat.reduceBNe, Int.reduceAdd, Int.reduceSub, Int.reduceMul, Int.reduceNeg]
          rw [← ec]
          refine APD.growW (x := .slice (some ⟨bx, 0, none⟩) 1 1) (R' := [encT (cut (some ⟨b2, o2, none⟩, tc, L))]) (m := 1) (hO.added h_bx) (hK.nw h_bx).all se_68 rfl (by decide) (by rw [Try.underlying68]; rfl) (by simp; omega) rfl rfl (by rw [srow_some, row_add_self]; rfl) (by simp [encT]) (by simp [encT, scal]) (by omega) fun base2 cap2 A' hO' hK' hN' => ?_
          refine ⟨_, AH.le_refl _, ?_⟩
          
          
          simp (dsimp := false) (maxSteps := 4000000) only [ee, go_sem, ↓reduceIte, Nat.reduceEqDiff, Nat.reduceLT, Nat.reduceLeDiff, Nat.reduceAdd, Nat.reduceMul, Nat.reduceSub, reduceCtorEq, Int.reduceToNat, Int.reduceLT, Int.reduceLE, Int.reduceEq, Int.reduceNe, Int.reduceBEq, Nat.reduceBEq, Int.reduceBNe, Nat.reduceBNe, Int.reduceAdd, Int.reduceSub, Int.reduceMul, Int.reduceNeg]
          have hK2 := (hK.nw h_bx).ow hK' fun b ⟨a, ha, e⟩ => e ▸ hO.fresh a ha
          rw [cut_succ ht] at hO'
          exact again (i + 1, base2, cap2) _ _ _ ⟨by simp only; omega, by simp only; omega, hO', hK2⟩ (FrLe.of_lks (by simp (dsimp := false) (maxSteps := 4000000) only [go_sem, ↓reduceIte, Nat.reduceEqDiff, Nat.reduceLT, Nat.reduceLeDiff, Nat.reduceAdd, Nat.reduceMul, Nat.reduceSub, reduceCtorEq, Int.reduceToNat, Int.reduceLT, Int.reduceLE, Int.reduceEq, Int.reduceNe, Int.reduceBEq, Nat.reduceBEq, Int.reduceBNe, Nat.reduceBNe, Int.reduceAdd, Int.reduceSub, Int.reduceMul, Int.reduceNeg])) (AH.le_refl _) (by simp only; omega)
          
        · have h3 : (L.take 70).length = L.length := by rw [List.length_take]; omega
          have ec : encT (cut (tb, tc, L)) = [.slice tb L.length tc] := by simp [encT, cut, h3]
          
          simp (dsimp := false) (maxSteps := 4000000) only [h, h2, hrd, c, go_sem, ↓reduceIte, Nat.reduceEqDiff, Nat.reduceLT, Nat.reduceLeDiff, Nat.reduceAdd, Nat.reduceMul, Nat.reduceSub, reduceCtorEq, Int.reduceToNat, Int.reduceLT, Int.reduceLE, Int.reduceEq, Int.reduceNe, Int.reduceBEq, Nat.reduceBEq, Int.reduceBNe, Nat.reduceBNe, Int.reduceAdd, Int.reduceSub, Int.reduceMul, Int.reduceNeg]
          refine AllB.mk fun bx h_bx => ?_; have hn_bx := h_bx; (try simp only [fresh_add, fresh_set, ne_eq] at hn_bx); have hr_bx := hn_bx; (try simp only [@eq_comm Nat bx] at hr_bx); simp (dsimp := false) (maxSteps := 4000000) only [hn_bx, hr_bx, go_sem, ↓reduceIte, Nat.reduceEqDiff, Nat.reduceLT, Nat.reduceLeDiff, Nat.reduceAdd, Nat.reduceMul, Nat.reduceSub, reduceCtorEq, Int.reduceToNat, Int.reduceLT, Int.reduceLE, Int.reduceEq, Int.reduceNe, Int.reduceBEq, Nat.reduceBEq, Int.reduceBNe, Nat.reduceBNe, Int.reduceAdd, Int.reduceSub, Int.reduceMul, Int.reduceNeg]
          rw [← ec]
          refine APD.growW (x := .slice (some ⟨bx, 0, none⟩) 1 1) (R' := [encT (cut (tb, tc, L))]) (m := 1) (hO.added h_bx) (hK.nw h_bx).all se_68 rfl (by decide) (by rw [Try.underlying68]; rfl) (by simp; omega) rfl rfl (by rw [srow_some, row_add_self]; rfl) (by simp [encT]) (by simp [encT, scal]) (by omega) fun base2 cap2 A' hO' hK' hN' => ?_
          refine ⟨_, AH.le_refl _, ?_⟩
          
          
          simp (dsimp := false) (maxSteps := 4000000) only [ee, go_sem, ↓reduceIte, Nat.reduceEqDiff, Nat.reduceLT, Nat.reduceLeDiff, Nat.reduceAdd, Nat.reduceMul, Nat.reduceSub, reduceCtorEq, Int.reduceToNat, Int.reduceLT, Int.reduceLE, Int.reduceEq, Int.reduceNe, Int.reduceBEq, Nat.reduceBEq, Int.reduceBNe, Nat.reduceBNe, Int.reduceAdd, Int.reduceSub, Int.reduceMul, Int.reduceNeg]
          have hK2 := (hK.nw h_bx).ow hK' fun b ⟨a, ha, e⟩ => e ▸ hO.fresh a ha
          rw [cut_succ ht] at hO'
          exact again (i + 1, base2, cap2) _ _ _ ⟨by simp only; omega, by simp only; omega, hO', hK2⟩ (FrLe.of_lks (by simp (dsimp := false) (maxSteps := 4000000) only [go_sem, ↓reduceIte, Nat.reduceEqDiff, Nat.reduceLT, Nat.reduceLeDiff, Nat.reduceAdd, Nat.reduceMul, Nat.reduceSub, reduceCtorEq, Int.reduceToNat, Int.reduceLT, Int.reduceLE, Int.reduceEq, Int.reduceNe, Int.reduceBEq, Nat.reduceBEq, Int.reduceBNe, Nat.reduceBNe, Int.reduceAdd, Int.reduceSub, Int.reduceMul, Int.reduceNeg])) (AH.le_refl _) (by simp only; omega)
          
      · have i12 : i = 12 := by omega
        have e : fewT T = (T.take i).map cut := by rw [fewT, i12]
        simp (dsimp := false) (maxSteps := 4000000) only [h, h2, go_sem, ↓reduceIte, Nat.reduceEqDiff, Nat.reduceLT, Nat.reduceLeDiff, Nat.reduceAdd, Nat.reduceMul, Nat.reduceSub, reduceCtorEq, Int.reduceToNat, Int.reduceLT, Int.reduceLE, Int.reduceEq, Int.reduceNe, Int.reduceBEq, Nat.reduceBEq, Int.reduceBNe, Nat.reduceBNe, Int.reduceAdd, Int.reduceSub, Int.reduceMul, Int.reduceNeg]
        refine out _ _ _ (by simp) ?_
        simp (dsimp := false) (maxSteps := 4000000) only [go_sem, ↓reduceIte, Nat.reduceEqDiff, Nat.reduceLT, Nat.reduceLeDiff, Nat.reduceAdd, Nat.reduceMul, Nat.reduceSub, reduceCtorEq, Int.reduceToNat, Int.reduceLT, Int.reduceLE, Int.reduceEq, Int.reduceNe, Int.reduceBEq, Nat.reduceBEq, Int.reduceBNe, Nat.reduceBNe, Int.reduceAdd, Int.reduceSub, Int.reduceMul, Int.reduceNeg]
        exact ⟨A, (by (repeat (first | exact AH.le_refl _ | refine AH.le_add ?_ ?_)); all_goals (first | exact AH.le_refl _ | (show AH.find _ _ = _; simp only [find_add_self, find_add_ne, find_fresh, fresh_add, ne_eq, not_false_eq_true, true_and, and_true, and_self]))), base', cap', by rw [e, List.length_map, List.length_take, Nat.min_eq_left hi], by rw [e]; exact hO, hK⟩
    · obtain rfl : i = T.length := by omega
      have e : fewT T = T.map cut := by rw [fewT, List.take_of_length_le hi2]
      simp (dsimp := false) (maxSteps := 4000000) only [h, go_sem, ↓reduceIte, Nat.reduceEqDiff, Nat.reduceLT, Nat.reduceLeDiff, Nat.reduceAdd, Nat.reduceMul, Nat.reduceSub, reduceCtorEq, Int.reduceToNat, Int.reduceLT, Int.reduceLE, Int.reduceEq, Int.reduceNe, Int.reduceBEq, Nat.reduceBEq, Int.reduceBNe, Nat.reduceBNe, Int.reduceAdd, Int.reduceSub, Int.reduceMul, Int.reduceNeg]
      refine out _ _ _ (by simp) ?_
      simp (dsimp := false) (maxSteps := 4000000) only [go_sem, ↓reduceIte, Nat.reduceEqDiff, Nat.reduceLT, Nat.reduceLeDiff, Nat.reduceAdd, Nat.reduceMul, Nat.reduceSub, reduceCtorEq, Int.reduceToNat, Int.reduceLT, Int.reduceLE, Int.reduceEq, Int.reduceNe, Int.reduceBEq, Nat.reduceBEq, Int.reduceBNe, Nat.reduceBNe, Int.reduceAdd, Int.reduceSub, Int.reduceMul, Int.reduceNeg]
      exact ⟨A, (by (repeat (first | exact AH.le_refl _ | refine AH.le_add ?_ ?_)); all_goals (first | exact AH.le_refl _ | (show AH.find _ _ = _; simp only [find_add_self, find_add_ne, find_fresh, fresh_add, ne_eq, not_false_eq_true, true_and, and_true, and_self]))), base', cap', by rw [e, List.length_map], by rw [e]; rw [List.take_length] at hO; exact hO, hK⟩
end Go.Proofs.Ytgikjbfpckjkoaa.Chk
