/- The fixed fact of layer 19, and WatchDoes, as calls. -/
import Derived.Test.YtadbmmdmibiikaaWatch5
namespace Go.Proofs.Ytadbmmdmibiikaa.Watch
set_option linter.unusedSimpArgs false
set_option linter.unusedVariables false
open Go Go.AX Go.Proofs Ty
set_option maxHeartbeats 4000000
set_option maxRecDepth 10000

theorem awake19_c (H : AH) : ACalls Try.prog 43 #[] H (fun v H' => v = .bool true ∧ H = H') := by
  refine ACalls.enter2 Try.func43 rfl Try.ntmps43 Try.results43 (by simp) ?_; simp (dsimp := false) (maxSteps := 4000000) only [go_sem, ↓reduceIte, Nat.reduceEqDiff, Nat.reduceLT, Nat.reduceLeDiff, Nat.reduceAdd, Nat.reduceMul, Nat.reduceSub, reduceCtorEq, Int.reduceToNat, Int.reduceLT, Int.reduceLE, Int.reduceEq, Int.reduceNe, Int.reduceBEq, Nat.reduceBEq, Int.reduceBNe, Nat.reduceBNe, Int.reduceAdd, Int.reduceSub, Int.reduceMul, Int.reduceNeg]
  refine (New_c _).mono ?_; rintro _ _ ⟨b1, h_b1, rfl, rfl⟩; have hn_b1 := h_b1; (try simp only [fresh_add, fresh_set, ne_eq] at hn_b1); have hr_b1 := hn_b1; (try simp only [@eq_comm Nat b1] at hr_b1)
  simp (dsimp := false) (maxSteps := 4000000) only [hn_b1, hr_b1, go_sem, ↓reduceIte, Nat.reduceEqDiff, Nat.reduceLT, Nat.reduceLeDiff, Nat.reduceAdd, Nat.reduceMul, Nat.reduceSub, reduceCtorEq, Int.reduceToNat, Int.reduceLT, Int.reduceLE, Int.reduceEq, Int.reduceNe, Int.reduceBEq, Nat.reduceBEq, Int.reduceBNe, Nat.reduceBNe, Int.reduceAdd, Int.reduceSub, Int.reduceMul, Int.reduceNeg]
  refine (Round_c ⟨1, 0, 2, 0⟩ (by decide) b1 _ (find_add_self _ _ _)).mono ?_; rintro _ _ ⟨rfl, hH_⟩; simp only [put, del_add_self, del_add_ne, del_del, del_fresh, ne_eq, not_false_eq_true, true_and, and_true, and_self, hn_b1, hr_b1] at hH_; subst hH_
  rw [show act (tkP ⟨1, 0, 2, 0⟩) = 0 from by decide, show roundP ⟨1, 0, 2, 0⟩ = ⟨1, 0, 2, 0⟩ from rfl]
  simp (dsimp := false) (maxSteps := 4000000) only [hn_b1, hr_b1, go_sem, ↓reduceIte, Nat.reduceEqDiff, Nat.reduceLT, Nat.reduceLeDiff, Nat.reduceAdd, Nat.reduceMul, Nat.reduceSub, reduceCtorEq, Int.reduceToNat, Int.reduceLT, Int.reduceLE, Int.reduceEq, Int.reduceNe, Int.reduceBEq, Nat.reduceBEq, Int.reduceBNe, Nat.reduceBNe, Int.reduceAdd, Int.reduceSub, Int.reduceMul, Int.reduceNeg]
  refine (Crash_c ⟨1, 0, 2, 0⟩ 0 (by decide) b1 _ (find_add_self _ _ _)).mono ?_; rintro _ _ ⟨rfl, hH_⟩; simp only [put, del_add_self, del_add_ne, del_del, del_fresh, ne_eq, not_false_eq_true, true_and, and_true, and_self, hn_b1, hr_b1] at hH_; subst hH_
  rw [show (if role ⟨1, 0, 2, 0⟩ 0 = 4 then (10 : Int) else 0) = 0 from rfl, show crashP ⟨1, 0, 2, 0⟩ 0 = ⟨4, 0, 2, 0⟩ from rfl]
  simp (dsimp := false) (maxSteps := 4000000) only [hn_b1, hr_b1, go_sem, ↓reduceIte, Nat.reduceEqDiff, Nat.reduceLT, Nat.reduceLeDiff, Nat.reduceAdd, Nat.reduceMul, Nat.reduceSub, reduceCtorEq, Int.reduceToNat, Int.reduceLT, Int.reduceLE, Int.reduceEq, Int.reduceNe, Int.reduceBEq, Nat.reduceBEq, Int.reduceBNe, Nat.reduceBNe, Int.reduceAdd, Int.reduceSub, Int.reduceMul, Int.reduceNeg]
  refine AWp.rounds 6 ?_
  simp (dsimp := false) (maxSteps := 4000000) only [hn_b1, hr_b1, go_sem, ↓reduceIte, Nat.reduceEqDiff, Nat.reduceLT, Nat.reduceLeDiff, Nat.reduceAdd, Nat.reduceMul, Nat.reduceSub, reduceCtorEq, Int.reduceToNat, Int.reduceLT, Int.reduceLE, Int.reduceEq, Int.reduceNe, Int.reduceBEq, Nat.reduceBEq, Int.reduceBNe, Nat.reduceBNe, Int.reduceAdd, Int.reduceSub, Int.reduceMul, Int.reduceNeg]
  refine (Round_c ⟨4, 0, 2, 0⟩ (by decide) b1 _ (find_add_self _ _ _)).mono ?_; rintro _ _ ⟨rfl, hH_⟩; simp only [put, del_add_self, del_add_ne, del_del, del_fresh, ne_eq, not_false_eq_true, true_and, and_true, and_self, hn_b1, hr_b1] at hH_; subst hH_
  rw [show act (tkP ⟨4, 0, 2, 0⟩) = -1 from by decide, show roundP ⟨4, 0, 2, 0⟩ = ⟨4, 1, 2, 1⟩ from rfl]
  simp (dsimp := false) (maxSteps := 4000000) only [hn_b1, hr_b1, go_sem, ↓reduceIte, Nat.reduceEqDiff, Nat.reduceLT, Nat.reduceLeDiff, Nat.reduceAdd, Nat.reduceMul, Nat.reduceSub, reduceCtorEq, Int.reduceToNat, Int.reduceLT, Int.reduceLE, Int.reduceEq, Int.reduceNe, Int.reduceBEq, Nat.reduceBEq, Int.reduceBNe, Nat.reduceBNe, Int.reduceAdd, Int.reduceSub, Int.reduceMul, Int.reduceNeg]
  refine (Round_c ⟨4, 1, 2, 1⟩ (by decide) b1 _ (find_add_self _ _ _)).mono ?_; rintro _ _ ⟨rfl, hH_⟩; simp only [put, del_add_self, del_add_ne, del_del, del_fresh, ne_eq, not_false_eq_true, true_and, and_true, and_self, hn_b1, hr_b1] at hH_; subst hH_
  rw [show act (tkP ⟨4, 1, 2, 1⟩) = -1 from by decide, show roundP ⟨4, 1, 2, 1⟩ = ⟨4, 2, 2, 2⟩ from rfl]
  simp (dsimp := false) (maxSteps := 4000000) only [hn_b1, hr_b1, go_sem, ↓reduceIte, Nat.reduceEqDiff, Nat.reduceLT, Nat.reduceLeDiff, Nat.reduceAdd, Nat.reduceMul, Nat.reduceSub, reduceCtorEq, Int.reduceToNat, Int.reduceLT, Int.reduceLE, Int.reduceEq, Int.reduceNe, Int.reduceBEq, Nat.reduceBEq, Int.reduceBNe, Nat.reduceBNe, Int.reduceAdd, Int.reduceSub, Int.reduceMul, Int.reduceNeg]
  refine (Round_c ⟨4, 2, 2, 2⟩ (by decide) b1 _ (find_add_self _ _ _)).mono ?_; rintro _ _ ⟨rfl, hH_⟩; simp only [put, del_add_self, del_add_ne, del_del, del_fresh, ne_eq, not_false_eq_true, true_and, and_true, and_self, hn_b1, hr_b1] at hH_; subst hH_
  rw [show act (tkP ⟨4, 2, 2, 2⟩) = -1 from by decide, show roundP ⟨4, 2, 2, 2⟩ = ⟨4, 3, 2, 3⟩ from rfl]
  simp (dsimp := false) (maxSteps := 4000000) only [hn_b1, hr_b1, go_sem, ↓reduceIte, Nat.reduceEqDiff, Nat.reduceLT, Nat.reduceLeDiff, Nat.reduceAdd, Nat.reduceMul, Nat.reduceSub, reduceCtorEq, Int.reduceToNat, Int.reduceLT, Int.reduceLE, Int.reduceEq, Int.reduceNe, Int.reduceBEq, Nat.reduceBEq, Int.reduceBNe, Nat.reduceBNe, Int.reduceAdd, Int.reduceSub, Int.reduceMul, Int.reduceNeg]
  refine (Round_c ⟨4, 3, 2, 3⟩ (by decide) b1 _ (find_add_self _ _ _)).mono ?_; rintro _ _ ⟨rfl, hH_⟩; simp only [put, del_add_self, del_add_ne, del_del, del_fresh, ne_eq, not_false_eq_true, true_and, and_true, and_self, hn_b1, hr_b1] at hH_; subst hH_
  rw [show act (tkP ⟨4, 3, 2, 3⟩) = -1 from by decide, show roundP ⟨4, 3, 2, 3⟩ = ⟨4, 4, 2, 4⟩ from rfl]
  simp (dsimp := false) (maxSteps := 4000000) only [hn_b1, hr_b1, go_sem, ↓reduceIte, Nat.reduceEqDiff, Nat.reduceLT, Nat.reduceLeDiff, Nat.reduceAdd, Nat.reduceMul, Nat.reduceSub, reduceCtorEq, Int.reduceToNat, Int.reduceLT, Int.reduceLE, Int.reduceEq, Int.reduceNe, Int.reduceBEq, Nat.reduceBEq, Int.reduceBNe, Nat.reduceBNe, Int.reduceAdd, Int.reduceSub, Int.reduceMul, Int.reduceNeg]
  refine (Round_c ⟨4, 4, 2, 4⟩ (by decide) b1 _ (find_add_self _ _ _)).mono ?_; rintro _ _ ⟨rfl, hH_⟩; simp only [put, del_add_self, del_add_ne, del_del, del_fresh, ne_eq, not_false_eq_true, true_and, and_true, and_self, hn_b1, hr_b1] at hH_; subst hH_
  rw [show act (tkP ⟨4, 4, 2, 4⟩) = 1 from by decide, show roundP ⟨4, 4, 2, 4⟩ = ⟨4, 0, 1, 0⟩ from rfl]
  simp (dsimp := false) (maxSteps := 4000000) only [hn_b1, hr_b1, go_sem, ↓reduceIte, Nat.reduceEqDiff, Nat.reduceLT, Nat.reduceLeDiff, Nat.reduceAdd, Nat.reduceMul, Nat.reduceSub, reduceCtorEq, Int.reduceToNat, Int.reduceLT, Int.reduceLE, Int.reduceEq, Int.reduceNe, Int.reduceBEq, Nat.reduceBEq, Int.reduceBNe, Nat.reduceBNe, Int.reduceAdd, Int.reduceSub, Int.reduceMul, Int.reduceNeg]
  refine (Restart_c ⟨4, 0, 1, 0⟩ 0 (by decide) b1 _ (find_add_self _ _ _)).mono ?_; rintro _ _ ⟨rfl, hH_⟩; simp only [put, del_add_self, del_add_ne, del_del, del_fresh, ne_eq, not_false_eq_true, true_and, and_true, and_self, hn_b1, hr_b1] at hH_; subst hH_
  rw [show (if role ⟨4, 0, 1, 0⟩ 0 = 4 then (0 : Int) else 10) = 0 from rfl, show restartP ⟨4, 0, 1, 0⟩ 0 = ⟨3, 0, 1, 0⟩ from rfl]
  simp (dsimp := false) (maxSteps := 4000000) only [hn_b1, hr_b1, go_sem, ↓reduceIte, Nat.reduceEqDiff, Nat.reduceLT, Nat.reduceLeDiff, Nat.reduceAdd, Nat.reduceMul, Nat.reduceSub, reduceCtorEq, Int.reduceToNat, Int.reduceLT, Int.reduceLE, Int.reduceEq, Int.reduceNe, Int.reduceBEq, Nat.reduceBEq, Int.reduceBNe, Nat.reduceBNe, Int.reduceAdd, Int.reduceSub, Int.reduceMul, Int.reduceNeg]
  refine (Role_c ⟨3, 0, 1, 0⟩ 0 (by decide) b1 _ (find_add_self _ _ _)).mono ?_; rintro _ _ ⟨rfl, rfl⟩
  rw [show role ⟨3, 0, 1, 0⟩ 0 = 3 from rfl]
  simp (dsimp := false) (maxSteps := 4000000) only [hn_b1, hr_b1, go_sem, ↓reduceIte, Nat.reduceEqDiff, Nat.reduceLT, Nat.reduceLeDiff, Nat.reduceAdd, Nat.reduceMul, Nat.reduceSub, reduceCtorEq, Int.reduceToNat, Int.reduceLT, Int.reduceLE, Int.reduceEq, Int.reduceNe, Int.reduceBEq, Nat.reduceBEq, Int.reduceBNe, Nat.reduceBNe, Int.reduceAdd, Int.reduceSub, Int.reduceMul, Int.reduceNeg]
  refine (Round_c ⟨3, 0, 1, 0⟩ (by decide) b1 _ (find_add_self _ _ _)).mono ?_; rintro _ _ ⟨rfl, hH_⟩; simp only [put, del_add_self, del_add_ne, del_del, del_fresh, ne_eq, not_false_eq_true, true_and, and_true, and_self, hn_b1, hr_b1] at hH_; subst hH_
  rw [show act (tkP ⟨3, 0, 1, 0⟩) = 1 from by decide, show roundP ⟨3, 0, 1, 0⟩ = ⟨2, 0, 1, 0⟩ from rfl]
  simp (dsimp := false) (maxSteps := 4000000) only [hn_b1, hr_b1, go_sem, ↓reduceIte, Nat.reduceEqDiff, Nat.reduceLT, Nat.reduceLeDiff, Nat.reduceAdd, Nat.reduceMul, Nat.reduceSub, reduceCtorEq, Int.reduceToNat, Int.reduceLT, Int.reduceLE, Int.reduceEq, Int.reduceNe, Int.reduceBEq, Nat.reduceBEq, Int.reduceBNe, Nat.reduceBNe, Int.reduceAdd, Int.reduceSub, Int.reduceMul, Int.reduceNeg]
  refine (Role_c ⟨2, 0, 1, 0⟩ 0 (by decide) b1 _ (find_add_self _ _ _)).mono ?_; rintro _ _ ⟨rfl, rfl⟩
  rw [show role ⟨2, 0, 1, 0⟩ 0 = 2 from rfl]
  simp (dsimp := false) (maxSteps := 4000000) only [hn_b1, hr_b1, go_sem, ↓reduceIte, Nat.reduceEqDiff, Nat.reduceLT, Nat.reduceLeDiff, Nat.reduceAdd, Nat.reduceMul, Nat.reduceSub, reduceCtorEq, Int.reduceToNat, Int.reduceLT, Int.reduceLE, Int.reduceEq, Int.reduceNe, Int.reduceBEq, Nat.reduceBEq, Int.reduceBNe, Nat.reduceBNe, Int.reduceAdd, Int.reduceSub, Int.reduceMul, Int.reduceNeg]
  refine (Role_c ⟨2, 0, 1, 0⟩ 1 (by decide) b1 _ (find_add_self _ _ _)).mono ?_; rintro _ _ ⟨rfl, rfl⟩
  rw [show role ⟨2, 0, 1, 0⟩ 1 = 1 from rfl]
  simp (dsimp := false) (maxSteps := 4000000) only [hn_b1, hr_b1, go_sem, ↓reduceIte, Nat.reduceEqDiff, Nat.reduceLT, Nat.reduceLeDiff, Nat.reduceAdd, Nat.reduceMul, Nat.reduceSub, reduceCtorEq, Int.reduceToNat, Int.reduceLT, Int.reduceLE, Int.reduceEq, Int.reduceNe, Int.reduceBEq, Nat.reduceBEq, Int.reduceBNe, Nat.reduceBNe, Int.reduceAdd, Int.reduceSub, Int.reduceMul, Int.reduceNeg]
  refine (Crash_out 2 (by decide) b1 _).mono ?_; rintro _ _ ⟨rfl, rfl⟩
  simp (dsimp := false) (maxSteps := 4000000) only [hn_b1, hr_b1, go_sem, ↓reduceIte, Nat.reduceEqDiff, Nat.reduceLT, Nat.reduceLeDiff, Nat.reduceAdd, Nat.reduceMul, Nat.reduceSub, reduceCtorEq, Int.reduceToNat, Int.reduceLT, Int.reduceLE, Int.reduceEq, Int.reduceNe, Int.reduceBEq, Nat.reduceBEq, Int.reduceBNe, Nat.reduceBNe, Int.reduceAdd, Int.reduceSub, Int.reduceMul, Int.reduceNeg]
  exact ⟨H, (AH.le_add (AH.le_refl _) ((by simp only [fresh_add, fresh_set, ne_eq, hn_b1, not_false_eq_true, and_self] : Fresh _ b1).2)), (by first | exact ⟨rfl, rfl⟩ | rfl)⟩
end Go.Proofs.Ytadbmmdmibiikaa.Watch
