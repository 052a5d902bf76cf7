/- The ring: Fail; the calls upon no queue; the fixed fact of layer 22. -/
import Derived.Test.YthinfokelgcipaaQueue2
namespace Go.Proofs.Ythinfokelgcipaa.Queue
set_option linter.unusedSimpArgs false
set_option linter.unusedVariables false
open Go Go.AX Go.Proofs Ty
set_option maxHeartbeats 2000000
set_option maxRecDepth 10000

def triedQ (s : QS) (w : Wt) : QS := { s with ring := s.ring.set s.first (w.1, w.2 + 1) }
def failQ (s : QS) (w : Wt) : QS := if s.many = 0 then s else if w.2 + 1 < 3 then triedQ s w else popQ (triedQ s w)
def failv (s : QS) (w : Wt) : Value := if s.many = 0 ∨ w.2 + 1 < 3 then .tuple #[.agg (encR zeroR).toArray, .bool false] else .tuple #[.agg (encR w.1).toArray, .bool true]

theorem Fail_c (s : QS) (hs : s.Ok) (w : Wt) (hw : s.ring[s.first]? = some w) (hb : s.many ≠ 0 → 0 ≤ w.2 ∧ w.2 ≤ 100) (b : Nat) (H : AH) (hq : At H b s) : ACalls Try.prog 39 #[.pointer (some ⟨b, 0, none⟩)] H
    (fun v H' => v = failv s w ∧ put H b (failQ s w) = H') := by
  refine ACalls.at hq ?_
  have hlen := QS.length hs
  have hf := hs.first
  have hf' : (s.first : Int) < 8 := by omega
  have hle : s.first * 11 + 10 + 1 ≤ 90 := by omega
  obtain ⟨s1, hs1⟩ : ∃ s1 : QS, s1 = triedQ s w := ⟨_, rfl⟩
  have ok1 : s1.Ok := by subst hs1; exact ⟨by simp [triedQ, hs.len], hs.first, hs.many⟩
  have eT : s.cells.set (s.first * 11 + 10) (.int .i64 (w.2 + 1)) = s1.cells := by rw [hs1]; exact QS.setTr hs hw _
  have hw1 : s1.ring[s1.first]? = some (w.1, w.2 + 1) := by
    rw [hs1]; simp only [triedQ]
    rw [List.getElem?_set_self (by rw [hs.len]; exact hf)]
  have gT1 : s1.cells[s.first * 11 + 10]? = some (.int .i64 (w.2 + 1)) := by
    have := QS.tries ok1 hw1
    rw [show s1.first = s.first from by rw [hs1]; rfl] at this
    exact this
  have e1 : s.many ≠ 0 → IntKind.i64.wrap (w.2 + 1) = w.2 + 1 := fun h => by have := hb h; exact i64_eq (by omega) (by omega)
  refine ACalls.enter2 Try.func39 rfl Try.ntmps39 Try.results39 (by simp) ?_; simp (dsimp := false) (maxSteps := 4000000) only [encR_len, encR_scal, go_sem, ↓reduceIte, Nat.reduceEqDiff, Nat.reduceLT, Nat.reduceLeDiff, Nat.reduceAdd, Nat.reduceMul, Nat.reduceSub, reduceCtorEq, Int.reduceToNat, Int.reduceLT, Int.reduceLE, Int.reduceEq, Int.reduceNe, Int.reduceBEq, Nat.reduceBEq, Int.reduceBNe, Nat.reduceBNe]
  refine AllB.mk fun b2 h_b2 => ?_; have hn_b2 := h_b2; (try simp only [fresh_add, fresh_set, ne_eq] at hn_b2); have hr_b2 := hn_b2; (try simp only [@eq_comm Nat b2] at hr_b2); simp (dsimp := false) (maxSteps := 4000000) only [encR_len, encR_scal, hn_b2, hr_b2, go_sem, ↓reduceIte, Nat.reduceEqDiff, Nat.reduceLT, Nat.reduceLeDiff, Nat.reduceAdd, Nat.reduceMul, Nat.reduceSub, reduceCtorEq, Int.reduceToNat, Int.reduceLT, Int.reduceLE, Int.reduceEq, Int.reduceNe, Int.reduceBEq, Nat.reduceBEq, Int.reduceBNe, Nat.reduceBNe]
  
  have hq2 : ∀ k, At (((H.del b).add b (.cells s.cells 113 90)).add b2 k) b s := fun k => (find_add_ne _ hn_b2.1 _).trans (find_add_self _ _ _)
  refine (Len_c s hs b _ (hq2 _)).mono ?_; rintro _ _ ⟨rfl, rfl⟩
  by_cases h : s.many = 0
  · have h' : (s.many : Int) = 0 := by omega
    rw [show failQ s w = s from if_pos h, show failv s w = .tuple #[.agg (encR zeroR).toArray, .bool false] from if_pos (.inl h)]
    simp (dsimp := false) (maxSteps := 4000000) only [h', encR_len, encR_scal, lput_full, QS.g88 hs, hlen, hf', hle, eT, gT1, QS.tries hs hw, hn_b2, hr_b2, go_sem, ↓reduceIte, Nat.reduceEqDiff, Nat.reduceLT, Nat.reduceLeDiff, Nat.reduceAdd, Nat.reduceMul, Nat.reduceSub, reduceCtorEq, Int.reduceToNat, Int.reduceLT, Int.reduceLE, Int.reduceEq, Int.reduceNe, Int.reduceBEq, Nat.reduceBEq, Int.reduceBNe, Nat.reduceBNe]
    exact ⟨_, (AH.le_add (AH.le_refl _) ((by simp only [fresh_add, fresh_set, ne_eq, hn_b2, not_false_eq_true, and_self] : Fresh _ b2).2)), (by first | exact ⟨rfl, rfl⟩ | rfl)⟩
  · have h' : ¬ (s.many : Int) = 0 := by omega
    simp (dsimp := false) (maxSteps := 4000000) only [h', encR_len, encR_scal, lput_full, QS.g88 hs, hlen, hf', hle, eT, gT1, QS.tries hs hw, hn_b2, hr_b2, go_sem, ↓reduceIte, Nat.reduceEqDiff, Nat.reduceLT, Nat.reduceLeDiff, Nat.reduceAdd, Nat.reduceMul, Nat.reduceSub, reduceCtorEq, Int.reduceToNat, Int.reduceLT, Int.reduceLE, Int.reduceEq, Int.reduceNe, Int.reduceBEq, Nat.reduceBEq, Int.reduceBNe, Nat.reduceBNe]
    refine AWp.quiet mixed (by kernel_rfl) ?_
    simp (dsimp := false) (maxSteps := 4000000) only [e1 h, encR_len, encR_scal, lput_full, QS.g88 hs, hlen, hf', hle, eT, gT1, QS.tries hs hw, hn_b2, hr_b2, go_sem, ↓reduceIte, Nat.reduceEqDiff, Nat.reduceLT, Nat.reduceLeDiff, Nat.reduceAdd, Nat.reduceMul, Nat.reduceSub, reduceCtorEq, Int.reduceToNat, Int.reduceLT, Int.reduceLE, Int.reduceEq, Int.reduceNe, Int.reduceBEq, Nat.reduceBEq, Int.reduceBNe, Nat.reduceBNe]
    by_cases h3 : w.2 + 1 < 3
    · rw [show failQ s w = s1 from by rw [failQ, if_neg h, if_pos h3, hs1], show failv s w = .tuple #[.agg (encR zeroR).toArray, .bool false] from if_pos (.inr h3)]
      simp (dsimp := false) (maxSteps := 4000000) only [h3, encR_len, encR_scal, lput_full, QS.g88 hs, hlen, hf', hle, eT, gT1, QS.tries hs hw, hn_b2, hr_b2, go_sem, ↓reduceIte, Nat.reduceEqDiff, Nat.reduceLT, Nat.reduceLeDiff, Nat.reduceAdd, Nat.reduceMul, Nat.reduceSub, reduceCtorEq, Int.reduceToNat, Int.reduceLT, Int.reduceLE, Int.reduceEq, Int.reduceNe, Int.reduceBEq, Nat.reduceBEq, Int.reduceBNe, Nat.reduceBNe]
      exact ⟨_, (AH.le_add (AH.le_refl _) ((by simp only [fresh_add, fresh_set, ne_eq, hn_b2, not_false_eq_true, and_self] : Fresh _ b2).2)), (by first | exact ⟨rfl, rfl⟩ | rfl)⟩
    · rw [show failQ s w = popQ s1 from by rw [failQ, if_neg h, if_neg h3, hs1], show failv s w = firstv s1 from by
        rw [firstv_some (s := s1) (w := (w.1, w.2 + 1)) (by rw [hs1]; exact h) hw1]; exact if_neg (by omega)]
      simp (dsimp := false) (maxSteps := 4000000) only [h3, encR_len, encR_scal, lput_full, QS.g88 hs, hlen, hf', hle, eT, gT1, QS.tries hs hw, hn_b2, hr_b2, go_sem, ↓reduceIte, Nat.reduceEqDiff, Nat.reduceLT, Nat.reduceLeDiff, Nat.reduceAdd, Nat.reduceMul, Nat.reduceSub, reduceCtorEq, Int.reduceToNat, Int.reduceLT, Int.reduceLE, Int.reduceEq, Int.reduceNe, Int.reduceBEq, Nat.reduceBEq, Int.reduceBNe, Nat.reduceBNe]
      have hq3 : ∀ k, At (((H.del b).add b (.cells s1.cells 113 90)).add b2 k) b s1 := fun k => (find_add_ne _ hn_b2.1 _).trans (find_add_self _ _ _)
      refine (Pop_c s1 ok1 b _ (hq3 _)).mono ?_; rintro _ _ ⟨rfl, rfl⟩
      rw [firstv_some (s := s1) (w := (w.1, w.2 + 1)) (by rw [hs1]; exact h) hw1]
      simp (dsimp := false) (maxSteps := 4000000) only [encR_len, encR_scal, lput_full, QS.g88 hs, hlen, hf', hle, eT, gT1, QS.tries hs hw, hn_b2, hr_b2, go_sem, ↓reduceIte, Nat.reduceEqDiff, Nat.reduceLT, Nat.reduceLeDiff, Nat.reduceAdd, Nat.reduceMul, Nat.reduceSub, reduceCtorEq, Int.reduceToNat, Int.reduceLT, Int.reduceLE, Int.reduceEq, Int.reduceNe, Int.reduceBEq, Nat.reduceBEq, Int.reduceBNe, Nat.reduceBNe]
      exact ⟨_, AH.le_under (AH.le_add (AH.le_refl _) hn_b2.2.2), rfl⟩

/-! ### No queue -/
def noneV : Value := .tuple #[.agg (encR zeroR).toArray, .bool false]
theorem First_nil (H : AH) : ACalls Try.prog 43 #[.pointer none] H (fun v H' => v = noneV ∧ H = H') := by
  refine ACalls.enter2 Try.func43 rfl Try.ntmps43 Try.results43 (by simp) ?_; simp (dsimp := false) (maxSteps := 4000000) only [go_sem, ↓reduceIte, Nat.reduceEqDiff, Nat.reduceLT, Nat.reduceLeDiff, Nat.reduceAdd, Nat.reduceMul, Nat.reduceSub, reduceCtorEq, Int.reduceToNat, Int.reduceLT, Int.reduceLE, Int.reduceEq, Int.reduceNe, Int.reduceBEq, Nat.reduceBEq, Int.reduceBNe, Nat.reduceBNe]
  refine AllB.mk fun b2 h_b2 => ?_; have hn_b2 := h_b2; (try simp only [fresh_add, fresh_set, ne_eq] at hn_b2); have hr_b2 := hn_b2; (try simp only [@eq_comm Nat b2] at hr_b2); simp (dsimp := false) (maxSteps := 4000000) only [hn_b2, hr_b2, go_sem, ↓reduceIte, Nat.reduceEqDiff, Nat.reduceLT, Nat.reduceLeDiff, Nat.reduceAdd, Nat.reduceMul, Nat.reduceSub, reduceCtorEq, Int.reduceToNat, Int.reduceLT, Int.reduceLE, Int.reduceEq, Int.reduceNe, Int.reduceBEq, Nat.reduceBEq, Int.reduceBNe, Nat.reduceBNe]
  refine (Len_nil _).mono ?_; rintro _ _ ⟨rfl, rfl⟩
  simp (dsimp := false) (maxSteps := 4000000) only [hn_b2, hr_b2, go_sem, ↓reduceIte, Nat.reduceEqDiff, Nat.reduceLT, Nat.reduceLeDiff, Nat.reduceAdd, Nat.reduceMul, Nat.reduceSub, reduceCtorEq, Int.reduceToNat, Int.reduceLT, Int.reduceLE, Int.reduceEq, Int.reduceNe, Int.reduceBEq, Nat.reduceBEq, Int.reduceBNe, Nat.reduceBNe]
  exact ⟨_, (AH.le_add (AH.le_refl _) ((by simp only [fresh_add, fresh_set, ne_eq, hn_b2, not_false_eq_true, and_self] : Fresh _ b2).2)), (by first | exact ⟨rfl, rfl⟩ | rfl)⟩
theorem Pop_nil (H : AH) : ACalls Try.prog 37 #[.pointer none] H (fun v H' => v = noneV ∧ H = H') := by
  refine ACalls.enter2 Try.func37 rfl Try.ntmps37 Try.results37 (by simp) ?_; simp (dsimp := false) (maxSteps := 4000000) only [encR_len, encR_scal, go_sem, ↓reduceIte, Nat.reduceEqDiff, Nat.reduceLT, Nat.reduceLeDiff, Nat.reduceAdd, Nat.reduceMul, Nat.reduceSub, reduceCtorEq, Int.reduceToNat, Int.reduceLT, Int.reduceLE, Int.reduceEq, Int.reduceNe, Int.reduceBEq, Nat.reduceBEq, Int.reduceBNe, Nat.reduceBNe]
  refine AllB.mk fun b2 h_b2 => ?_; have hn_b2 := h_b2; (try simp only [fresh_add, fresh_set, ne_eq] at hn_b2); have hr_b2 := hn_b2; (try simp only [@eq_comm Nat b2] at hr_b2); simp (dsimp := false) (maxSteps := 4000000) only [encR_len, encR_scal, hn_b2, hr_b2, go_sem, ↓reduceIte, Nat.reduceEqDiff, Nat.reduceLT, Nat.reduceLeDiff, Nat.reduceAdd, Nat.reduceMul, Nat.reduceSub, reduceCtorEq, Int.reduceToNat, Int.reduceLT, Int.reduceLE, Int.reduceEq, Int.reduceNe, Int.reduceBEq, Nat.reduceBEq, Int.reduceBNe, Nat.reduceBNe]
  refine (First_nil _).mono ?_; rintro _ _ ⟨rfl, rfl⟩
  unfold noneV
  
  simp (dsimp := false) (maxSteps := 4000000) only [encR_len, encR_scal, lput_full, hn_b2, hr_b2, go_sem, ↓reduceIte, Nat.reduceEqDiff, Nat.reduceLT, Nat.reduceLeDiff, Nat.reduceAdd, Nat.reduceMul, Nat.reduceSub, reduceCtorEq, Int.reduceToNat, Int.reduceLT, Int.reduceLE, Int.reduceEq, Int.reduceNe, Int.reduceBEq, Nat.reduceBEq, Int.reduceBNe, Nat.reduceBNe]
  refine AllB.mk fun b3 h_b3 => ?_; have hn_b3 := h_b3; (try simp only [fresh_add, fresh_set, ne_eq] at hn_b3); have hr_b3 := hn_b3; (try simp only [@eq_comm Nat b3] at hr_b3); simp (dsimp := false) (maxSteps := 4000000) only [encR_len, encR_scal, lput_full, hn_b2, hr_b2, hn_b3, hr_b3, go_sem, ↓reduceIte, Nat.reduceEqDiff, Nat.reduceLT, Nat.reduceLeDiff, Nat.reduceAdd, Nat.reduceMul, Nat.reduceSub, reduceCtorEq, Int.reduceToNat, Int.reduceLT, Int.reduceLE, Int.reduceEq, Int.reduceNe, Int.reduceBEq, Nat.reduceBEq, Int.reduceBNe, Nat.reduceBNe]
  exact ⟨_, (AH.le_add (AH.le_add (AH.le_refl _) ((by simp only [fresh_add, fresh_set, ne_eq, hn_b2, not_false_eq_true, and_self] : Fresh _ b2).2)) ((by simp only [fresh_add, fresh_set, ne_eq, hn_b3, not_false_eq_true, and_self] : Fresh _ b3).2)), (by first | exact ⟨rfl, rfl⟩ | rfl)⟩
theorem Fail_nil (H : AH) : ACalls Try.prog 39 #[.pointer none] H (fun v H' => v = noneV ∧ H = H') := by
  refine ACalls.enter2 Try.func39 rfl Try.ntmps39 Try.results39 (by simp) ?_; simp (dsimp := false) (maxSteps := 4000000) only [go_sem, ↓reduceIte, Nat.reduceEqDiff, Nat.reduceLT, Nat.reduceLeDiff, Nat.reduceAdd, Nat.reduceMul, Nat.reduceSub, reduceCtorEq, Int.reduceToNat, Int.reduceLT, Int.reduceLE, Int.reduceEq, Int.reduceNe, Int.reduceBEq, Nat.reduceBEq, Int.reduceBNe, Nat.reduceBNe]
  refine AllB.mk fun b2 h_b2 => ?_; have hn_b2 := h_b2; (try simp only [fresh_add, fresh_set, ne_eq] at hn_b2); have hr_b2 := hn_b2; (try simp only [@eq_comm Nat b2] at hr_b2); simp (dsimp := false) (maxSteps := 4000000) only [hn_b2, hr_b2, go_sem, ↓reduceIte, Nat.reduceEqDiff, Nat.reduceLT, Nat.reduceLeDiff, Nat.reduceAdd, Nat.reduceMul, Nat.reduceSub, reduceCtorEq, Int.reduceToNat, Int.reduceLT, Int.reduceLE, Int.reduceEq, Int.reduceNe, Int.reduceBEq, Nat.reduceBEq, Int.reduceBNe, Nat.reduceBNe]
  refine (Len_nil _).mono ?_; rintro _ _ ⟨rfl, rfl⟩
  simp (dsimp := false) (maxSteps := 4000000) only [hn_b2, hr_b2, go_sem, ↓reduceIte, Nat.reduceEqDiff, Nat.reduceLT, Nat.reduceLeDiff, Nat.reduceAdd, Nat.reduceMul, Nat.reduceSub, reduceCtorEq, Int.reduceToNat, Int.reduceLT, Int.reduceLE, Int.reduceEq, Int.reduceNe, Int.reduceBEq, Nat.reduceBEq, Int.reduceBNe, Nat.reduceBNe]
  exact ⟨_, (AH.le_add (AH.le_refl _) ((by simp only [fresh_add, fresh_set, ne_eq, hn_b2, not_false_eq_true, and_self] : Fresh _ b2).2)), (by first | exact ⟨rfl, rfl⟩ | rfl)⟩
theorem Push_nil (x : Req) (H : AH) : ACalls Try.prog 41 #[.pointer none, .agg (encR x).toArray] H (fun v H' => v = .int .i64 1 ∧ H = H') := by
  refine ACalls.enter2 Try.func41 rfl Try.ntmps41 Try.results41 (by simp) ?_; simp (dsimp := false) (maxSteps := 4000000) only [go_sem, ↓reduceIte, Nat.reduceEqDiff, Nat.reduceLT, Nat.reduceLeDiff, Nat.reduceAdd, Nat.reduceMul, Nat.reduceSub, reduceCtorEq, Int.reduceToNat, Int.reduceLT, Int.reduceLE, Int.reduceEq, Int.reduceNe, Int.reduceBEq, Nat.reduceBEq, Int.reduceBNe, Nat.reduceBNe]
  refine AllB.mk fun b2 h_b2 => ?_; have hn_b2 := h_b2; (try simp only [fresh_add, fresh_set, ne_eq] at hn_b2); have hr_b2 := hn_b2; (try simp only [@eq_comm Nat b2] at hr_b2); simp (dsimp := false) (maxSteps := 4000000) only [hn_b2, hr_b2, go_sem, ↓reduceIte, Nat.reduceEqDiff, Nat.reduceLT, Nat.reduceLeDiff, Nat.reduceAdd, Nat.reduceMul, Nat.reduceSub, reduceCtorEq, Int.reduceToNat, Int.reduceLT, Int.reduceLE, Int.reduceEq, Int.reduceNe, Int.reduceBEq, Nat.reduceBEq, Int.reduceBNe, Nat.reduceBNe]
  exact ⟨_, (AH.le_add (AH.le_refl _) ((by simp only [fresh_add, fresh_set, ne_eq, hn_b2, not_false_eq_true, and_self] : Fresh _ b2).2)), (by first | exact ⟨rfl, rfl⟩ | rfl)⟩

end Go.Proofs.Ythinfokelgcipaa.Queue
