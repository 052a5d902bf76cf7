/- check's reference: Sender. -/
import Derived.Test.YtgikjbfpckjkoaaChk3
namespace Go.Proofs.Ytgikjbfpckjkoaa.Chk
set_option linter.unusedSimpArgs false
set_option linter.unusedVariables false
open Go Go.AX Go.Proofs Ty
set_option maxHeartbeats 4000000
set_option maxRecDepth 10000

theorem RefSender_c (T : List Tb) (base : Option Addr) (cap : Nat) (slot : Int) (H : AH) (hT : TabIn H base cap T) :
    ACalls Try.prog 42 #[.slice base T.length cap, .int .i64 slot] H (fun v H' => v = .tuple #[.int .i64 (sN slot T), .agg (encE (sX slot T)).toArray] ∧ H = H') := by
  have hbig := hT.out.big
  simp only [List.length_map] at hbig
  refine ACalls.enter2 Try.func42 rfl Try.ntmps42 Try.results42 (by simp) ?_; simp (dsimp := false) (maxSteps := 4000000) only [encE_len, encE_scal, encE_z5, encE_take, go_sem, ↓reduceIte, Nat.reduceEqDiff, Nat.reduceLT, Nat.reduceLeDiff, Nat.reduceAdd, Nat.reduceMul, Nat.reduceSub, reduceCtorEq, Int.reduceToNat, Int.reduceLT, Int.reduceLE, Int.reduceEq, Int.reduceNe, Int.reduceBEq, Nat.reduceBEq, Int.reduceBNe, Nat.reduceBNe, Int.reduceAdd, Int.reduceSub, Int.reduceMul, Int.reduceNeg]
  refine AllB.mk fun b5 h_b5 => ?_; have hn_b5 := h_b5; (try simp only [fresh_add, fresh_set, ne_eq] at hn_b5); have hr_b5 := hn_b5; (try simp only [@eq_comm Nat b5] at hr_b5); simp (dsimp := false) (maxSteps := 4000000) only [encE_len, encE_scal, encE_z5, encE_take, hn_b5, hr_b5, go_sem, ↓reduceIte, Nat.reduceEqDiff, Nat.reduceLT, Nat.reduceLeDiff, Nat.reduceAdd, Nat.reduceMul, Nat.reduceSub, reduceCtorEq, Int.reduceToNat, Int.reduceLT, Int.reduceLE, Int.reduceEq, Int.reduceNe, Int.reduceBEq, Nat.reduceBEq, Int.reduceBNe, Nat.reduceBNe, Int.reduceAdd, Int.reduceSub, Int.reduceMul, Int.reduceNeg]
  have f5 : Fresh H b5 := h_b5
  refine AWp.loopo (ι := Nat) (fun i => i ≤ T.length ∧ ∀ j, j < i → ∀ t, T[j]? = some t → t.2.2.find? (snd slot) = none) (fun i => [(6, .int .i64 i), (0, .slice base T.length cap), (1, .int .i64 slot), (5, .pointer (some ⟨b5, 0, none⟩))])
    (fun _ => H.add b5 (.cells [.int .i64 0, .int .i64 0, .int .i64 0, .int .i64 0, .int .i64 0] 75 5)) (fun i => T.length - i) 0 ⟨by omega, fun j hj => by omega⟩ (FrLe.of_lks ?_) (AH.le_refl _) fun i hi Q again out => ?_
  · simp (dsimp := false) (maxSteps := 4000000) only [encE_len, encE_scal, encE_z5, encE_take, hn_b5, hr_b5, go_sem, ↓reduceIte, Nat.reduceEqDiff, Nat.reduceLT, Nat.reduceLeDiff, Nat.reduceAdd, Nat.reduceMul, Nat.reduceSub, reduceCtorEq, Int.reduceToNat, Int.reduceLT, Int.reduceLE, Int.reduceEq, Int.reduceNe, Int.reduceBEq, Nat.reduceBEq, Int.reduceBNe, Nat.reduceBNe, Int.reduceAdd, Int.reduceSub, Int.reduceMul, Int.reduceNeg]
  · obtain ⟨hi, hall⟩ := hi
    by_cases h : (i : Int) < T.length
    · obtain ⟨⟨tb, tc, L⟩, ht⟩ := get_some (l := T) (i := i) (by omega)
      have hin := hT.inn _ (List.mem_of_getElem? ht)
      have hbigL := hin.big
      simp only [List.length_map] at hbigL
      obtain ⟨b, o, rfl, _, hrd⟩ := hT.out.get (map_get (f := encT) ht)
      have hrd := hrd 0 _ rfl
      simp only [Nat.mul_one, Nat.add_zero] at hrd
      have ee := i64_succ (i := i) (by omega)
      have nr_hrd := (Fresh.ne_rd (by simp only [hn_b5] : Fresh H b5) hrd)
      simp (dsimp := false) (maxSteps := 4000000) only [h, encE_len, encE_scal, encE_z5, encE_take, hn_b5, hr_b5, go_sem, ↓reduceIte, Nat.reduceEqDiff, Nat.reduceLT, Nat.reduceLeDiff, Nat.reduceAdd, Nat.reduceMul, Nat.reduceSub, reduceCtorEq, Int.reduceToNat, Int.reduceLT, Int.reduceLE, Int.reduceEq, Int.reduceNe, Int.reduceBEq, Nat.reduceBEq, Int.reduceBNe, Nat.reduceBNe, Int.reduceAdd, Int.reduceSub, Int.reduceMul, Int.reduceNeg]
      refine AWp.loopo (ι := Nat) (fun j => j ≤ L.length ∧ ∀ q, q < j → ∀ y, L[q]? = some y → snd slot y = false) (fun j => [(7, .int .i64 j), (6, .int .i64 i), (0, .slice (some ⟨b, o, none⟩) T.length cap), (1, .int .i64 slot), (5, .pointer (some ⟨b5, 0, none⟩))])
        (fun _ => H.add b5 (.cells [.int .i64 0, .int .i64 0, .int .i64 0, .int .i64 0, .int .i64 0] 75 5)) (fun j => L.length - j) 0 ⟨by omega, fun j hj => by omega⟩ (FrLe.of_lks ?_) (AH.le_refl _) fun j hj Q2 again2 out2 => ?_
      · simp (dsimp := false) (maxSteps := 4000000) only [encE_len, encE_scal, encE_z5, encE_take, hn_b5, hr_b5, go_sem, ↓reduceIte, Nat.reduceEqDiff, Nat.reduceLT, Nat.reduceLeDiff, Nat.reduceAdd, Nat.reduceMul, Nat.reduceSub, reduceCtorEq, Int.reduceToNat, Int.reduceLT, Int.reduceLE, Int.reduceEq, Int.reduceNe, Int.reduceBEq, Nat.reduceBEq, Int.reduceBNe, Nat.reduceBNe, Int.reduceAdd, Int.reduceSub, Int.reduceMul, Int.reduceNeg]
      · obtain ⟨hj, hpre⟩ := hj
        by_cases hl : (j : Int) < L.length
        · obtain ⟨⟨k, s, f, r, y⟩, hx⟩ := get_some (l := L) (i := j) (by omega)
          obtain ⟨b', o', rfl, hrow, hrd'⟩ := hin.get (map_get (f := encE) hx)
          have r0 := hrd' 0 _ rfl
          have r1 := hrd' 1 _ rfl
          simp only [encE_mk, Nat.add_zero] at r0 r1
          have e2 := i64_succ (i := j) (by omega)
          have nr_hrow := (Fresh.ne_row (by simp only [hn_b5] : Fresh H b5) hrow)
          by_cases c1 : k = 1
          · by_cases c2 : s = slot
            · have hg : snd slot (k, s, f, r, y) = true := by simp [snd, c1, c2]
              have hs0 := sndO_hit (m := 0) ht hall (find_some hx hg hpre)
              rw [Nat.zero_add] at hs0
              simp (dsimp := false) (maxSteps := 4000000) only [hl, h, hrd, nr_hrd, r0, r1, nr_hrow, c1, c2, encE_len, encE_scal, encE_z5, encE_take, hn_b5, hr_b5, go_sem, ↓reduceIte, Nat.reduceEqDiff, Nat.reduceLT, Nat.reduceLeDiff, Nat.reduceAdd, Nat.reduceMul, Nat.reduceSub, reduceCtorEq, Int.reduceToNat, Int.reduceLT, Int.reduceLE, Int.reduceEq, Int.reduceNe, Int.reduceBEq, Nat.reduceBEq, Int.reduceBNe, Nat.reduceBNe, Int.reduceAdd, Int.reduceSub, Int.reduceMul, Int.reduceNeg]
              refine AWp.gen [.pu, .pu, .pu, .pu, .rd, .pu, .pu, .rd, .pu, .ch] [0, 0, 0, 6, 14, 0, 62, 126, 1, 511] 0 (_) mixed (by kernel_rfl) (AH.le_refl _) ?_
              simp (dsimp := false) (maxSteps := 4000000) only [hl, h, hrd, nr_hrd, nr_hrow, hrow, AH.le_refl, encE_len, encE_scal, encE_z5, encE_take, hn_b5, hr_b5, go_sem, ↓reduceIte, Nat.reduceEqDiff, Nat.reduceLT, Nat.reduceLeDiff, Nat.reduceAdd, Nat.reduceMul, Nat.reduceSub, reduceCtorEq, Int.reduceToNat, Int.reduceLT, Int.reduceLE, Int.reduceEq, Int.reduceNe, Int.reduceBEq, Nat.reduceBEq, Int.reduceBNe, Nat.reduceBNe, Int.reduceAdd, Int.reduceSub, Int.reduceMul, Int.reduceNeg]
              refine out2 _ _ _ (by simp) ?_
              simp (dsimp := false) (maxSteps := 4000000) only [encE_len, encE_scal, encE_z5, encE_take, hn_b5, hr_b5, go_sem, ↓reduceIte, Nat.reduceEqDiff, Nat.reduceLT, Nat.reduceLeDiff, Nat.reduceAdd, Nat.reduceMul, Nat.reduceSub, reduceCtorEq, Int.reduceToNat, Int.reduceLT, Int.reduceLE, Int.reduceEq, Int.reduceNe, Int.reduceBEq, Nat.reduceBEq, Int.reduceBNe, Nat.reduceBNe, Int.reduceAdd, Int.reduceSub, Int.reduceMul, Int.reduceNeg]
              refine out _ _ _ (by simp) ?_
              simp (dsimp := false) (maxSteps := 4000000) only [encE_len, encE_scal, encE_z5, encE_take, hn_b5, hr_b5, go_sem, ↓reduceIte, Nat.reduceEqDiff, Nat.reduceLT, Nat.reduceLeDiff, Nat.reduceAdd, Nat.reduceMul, Nat.reduceSub, reduceCtorEq, Int.reduceToNat, Int.reduceLT, Int.reduceLE, Int.reduceEq, Int.reduceNe, Int.reduceBEq, Nat.reduceBEq, Int.reduceBNe, Nat.reduceBNe, Int.reduceAdd, Int.reduceSub, Int.reduceMul, Int.reduceNeg]
              exact ⟨H, (AH.le_add (AH.le_refl _) ((by simp only [fresh_add, fresh_set, ne_eq, hn_b5, not_false_eq_true, and_self] : Fresh _ b5).2)), (by first | exact ⟨by simp [sN, sX, hs0], rfl⟩ | rfl)⟩
            · have hg : snd slot (k, s, f, r, y) = false := by simp [snd, c2]
              simp (dsimp := false) (maxSteps := 4000000) only [hl, h, hrd, nr_hrd, r0, r1, nr_hrow, c1, c2, e2, encE_len, encE_scal, encE_z5, encE_take, hn_b5, hr_b5, go_sem, ↓reduceIte, Nat.reduceEqDiff, Nat.reduceLT, Nat.reduceLeDiff, Nat.reduceAdd, Nat.reduceMul, Nat.reduceSub, reduceCtorEq, Int.reduceToNat, Int.reduceLT, Int.reduceLE, Int.reduceEq, Int.reduceNe, Int.reduceBEq, Nat.reduceBEq, Int.reduceBNe, Nat.reduceBNe, Int.reduceAdd, Int.reduceSub, Int.reduceMul, Int.reduceNeg]
              refine again2 (j + 1) _ _ ⟨by omega, fun q hq z hz => ?_⟩ (FrLe.of_lks (by simp (dsimp := false) (maxSteps := 4000000) only [encE_len, encE_scal, encE_z5, encE_take, hn_b5, hr_b5, go_sem, ↓reduceIte, Nat.reduceEqDiff, Nat.reduceLT, Nat.reduceLeDiff, Nat.reduceAdd, Nat.reduceMul, Nat.reduceSub, reduceCtorEq, Int.reduceToNat, Int.reduceLT, Int.reduceLE, Int.reduceEq, Int.reduceNe, Int.reduceBEq, Nat.reduceBEq, Int.reduceBNe, Nat.reduceBNe, Int.reduceAdd, Int.reduceSub, Int.reduceMul, Int.reduceNeg])) (AH.le_refl _) (by omega)
              by_cases e : q = j
              · subst e; rw [hx] at hz; cases hz; exact hg
              · exact hpre q (by omega) z hz
          · have hg : snd slot (k, s, f, r, y) = false := by simp [snd, c1]
            simp (dsimp := false) (maxSteps := 4000000) only [hl, h, hrd, nr_hrd, r0, nr_hrow, c1, e2, encE_len, encE_scal, encE_z5, encE_take, hn_b5, hr_b5, go_sem, ↓reduceIte, Nat.reduceEqDiff, Nat.reduceLT, Nat.reduceLeDiff, Nat.reduceAdd, Nat.reduceMul, Nat.reduceSub, reduceCtorEq, Int.reduceToNat, Int.reduceLT, Int.reduceLE, Int.reduceEq, Int.reduceNe, Int.reduceBEq, Nat.reduceBEq, Int.reduceBNe, Nat.reduceBNe, Int.reduceAdd, Int.reduceSub, Int.reduceMul, Int.reduceNeg]
            refine again2 (j + 1) _ _ ⟨by omega, fun q hq z hz => ?_⟩ (FrLe.of_lks (by simp (dsimp := false) (maxSteps := 4000000) only [encE_len, encE_scal, encE_z5, encE_take, hn_b5, hr_b5, go_sem, ↓reduceIte, Nat.reduceEqDiff, Nat.reduceLT, Nat.reduceLeDiff, Nat.reduceAdd, Nat.reduceMul, Nat.reduceSub, reduceCtorEq, Int.reduceToNat, Int.reduceLT, Int.reduceLE, Int.reduceEq, Int.reduceNe, Int.reduceBEq, Nat.reduceBEq, Int.reduceBNe, Nat.reduceBNe, Int.reduceAdd, Int.reduceSub, Int.reduceMul, Int.reduceNeg])) (AH.le_refl _) (by omega)
            by_cases e : q = j
            · subst e; rw [hx] at hz; cases hz; exact hg
            · exact hpre q (by omega) z hz
        · simp (dsimp := false) (maxSteps := 4000000) only [hl, h, hrd, nr_hrd, encE_len, encE_scal, encE_z5, encE_take, hn_b5, hr_b5, go_sem, ↓reduceIte, Nat.reduceEqDiff, Nat.reduceLT, Nat.reduceLeDiff, Nat.reduceAdd, Nat.reduceMul, Nat.reduceSub, reduceCtorEq, Int.reduceToNat, Int.reduceLT, Int.reduceLE, Int.reduceEq, Int.reduceNe, Int.reduceBEq, Nat.reduceBEq, Int.reduceBNe, Nat.reduceBNe, Int.reduceAdd, Int.reduceSub, Int.reduceMul, Int.reduceNeg]
          refine out2 _ _ _ (by simp) ?_
          simp (dsimp := false) (maxSteps := 4000000) only [ee, encE_len, encE_scal, encE_z5, encE_take, hn_b5, hr_b5, go_sem, ↓reduceIte, Nat.reduceEqDiff, Nat.reduceLT, Nat.reduceLeDiff, Nat.reduceAdd, Nat.reduceMul, Nat.reduceSub, reduceCtorEq, Int.reduceToNat, Int.reduceLT, Int.reduceLE, Int.reduceEq, Int.reduceNe, Int.reduceBEq, Nat.reduceBEq, Int.reduceBNe, Nat.reduceBNe, Int.reduceAdd, Int.reduceSub, Int.reduceMul, Int.reduceNeg]
          refine again (i + 1) _ _ ⟨by omega, fun q hq t' ht' => ?_⟩ (FrLe.of_lks (by simp (dsimp := false) (maxSteps := 4000000) only [encE_len, encE_scal, encE_z5, encE_take, hn_b5, hr_b5, go_sem, ↓reduceIte, Nat.reduceEqDiff, Nat.reduceLT, Nat.reduceLeDiff, Nat.reduceAdd, Nat.reduceMul, Nat.reduceSub, reduceCtorEq, Int.reduceToNat, Int.reduceLT, Int.reduceLE, Int.reduceEq, Int.reduceNe, Int.reduceBEq, Nat.reduceBEq, Int.reduceBNe, Nat.reduceBNe, Int.reduceAdd, Int.reduceSub, Int.reduceMul, Int.reduceNeg])) (AH.le_refl _) (by omega)
          by_cases hji : q = i
          · subst hji; rw [ht] at ht'; cases ht'
            exact find_none fun z hz => by
              obtain ⟨q', hq'⟩ := List.mem_iff_getElem?.1 hz
              have h9 : q' < L.length := lt_of_get hq'
              exact hpre q' (by omega) z hq'
          · exact hall q (by omega) t' ht'
    · simp (dsimp := false) (maxSteps := 4000000) only [h, encE_len, encE_scal, encE_z5, encE_take, hn_b5, hr_b5, go_sem, ↓reduceIte, Nat.reduceEqDiff, Nat.reduceLT, Nat.reduceLeDiff, Nat.reduceAdd, Nat.reduceMul, Nat.reduceSub, reduceCtorEq, Int.reduceToNat, Int.reduceLT, Int.reduceLE, Int.reduceEq, Int.reduceNe, Int.reduceBEq, Nat.reduceBEq, Int.reduceBNe, Nat.reduceBNe, Int.reduceAdd, Int.reduceSub, Int.reduceMul, Int.reduceNeg]
      refine out _ _ _ (by simp) ?_
      have hz := sndO_none (slot := slot) (T := T) (m := 0) fun t ht => by
        obtain ⟨j, hj⟩ := List.mem_iff_getElem?.1 ht
        exact hall j (by have := lt_of_get hj; omega) t hj
      simp (dsimp := false) (maxSteps := 4000000) only [encE_len, encE_scal, encE_z5, encE_take, hn_b5, hr_b5, go_sem, ↓reduceIte, Nat.reduceEqDiff, Nat.reduceLT, Nat.reduceLeDiff, Nat.reduceAdd, Nat.reduceMul, Nat.reduceSub, reduceCtorEq, Int.reduceToNat, Int.reduceLT, Int.reduceLE, Int.reduceEq, Int.reduceNe, Int.reduceBEq, Nat.reduceBEq, Int.reduceBNe, Nat.reduceBNe, Int.reduceAdd, Int.reduceSub, Int.reduceMul, Int.reduceNeg]
      exact ⟨H, (AH.le_add (AH.le_refl _) ((by simp only [fresh_add, fresh_set, ne_eq, hn_b5, not_false_eq_true, and_self] : Fresh _ b5).2)), (by first | exact ⟨by simp [sN, sX, hz, encE, ze], rfl⟩ | rfl)⟩
end Go.Proofs.Ytgikjbfpckjkoaa.Chk
