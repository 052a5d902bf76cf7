/- rodl: awake. -/
import Derived.Test.YtadbmmdmibiikaaRodl8
namespace Go.Proofs.Ytadbmmdmibiikaa.Rodl
set_option linter.unusedSimpArgs false
set_option linter.unusedVariables false
open Go Go.AX Go.Proofs Ty Go.Proofs.Ytadbmmdmibiikaa.File Go.Proofs.Ytadbmmdmibiikaa.Rose
set_option maxHeartbeats 4000000
set_option maxRecDepth 10000

theorem fR_ok (L : List En) : ∀ r ∈ fR L, RcOk r := fun r hr => by
  unfold fR at hr
  split at hr
  · rename_i g
    have hu := fun x : Int => (show 0 ≤ IntKind.u8.wrap x ∧ IntKind.u8.wrap x ≤ 255 from by rw [u8w]; omega)
    simp only [fileE, List.mem_cons, List.mem_append, List.mem_map, List.mem_singleton, List.not_mem_nil, or_false] at hr
    rcases hr with rfl | ⟨x, _, rfl⟩ | rfl
    · exact ⟨hu _, hu _, by simp [hd], hu _⟩
    · obtain ⟨k, s, f, r, b⟩ := x
      unfold pR
      split
      · rename_i g
        have := goodE_range g
        exact ⟨by simp only [putR]; omega, by simp only [putR]; omega, by simp only [putR]; omega, by simp only [putR]; omega⟩
      · exact ⟨by decide, by decide, by decide, by decide⟩
    · exact ⟨by decide, by decide, by decide, by decide⟩
  · cases hr
def x0 : En := (1, 3, 9, 5, 2)
theorem awake_c (H : AH) : ACalls Try.prog 54 #[] H (fun v H' => v = .bool true ∧ H = H') := by
  have f1 : pR (1, 3, 9, 5, 2) = (129, 3, 9, 5) := by decide
  have f2 : pE (1, 3, 9, 5, 2) = 0 := by decide
  have f3 : tX (129, 3, 9, 5) = (1, 3, 9, 5, 2) := by decide
  have f4 : tE (129, 3, 9, 5) = 0 := by decide
  have f5 : fR [(1, 3, 9, 5, 2)] = [(2, 3, 165, 164), (129, 3, 9, 5), (4, 0, 0, 0)] := by decide
  have f6 : fP [(1, 3, 9, 5, 2)] = 3 := by decide
  have f7 : fE [(1, 3, 9, 5, 2)] = 0 := by decide
  have f8 : tO 3 [(2, 3, 165, 164), (129, 3, 9, 5), (4, 0, 0, 0)] = [(1, 3, 9, 5, 2)] := by decide
  have f9 : tN 3 [(2, 3, 165, 164), (129, 3, 9, 5), (4, 0, 0, 0)] = 0 := by decide
  have g1 : fR [(1, 3, 9, 5, 2), (1, 3, 9, 5, 2)] = [] := by decide
  have g2 : fP [(1, 3, 9, 5, 2), (1, 3, 9, 5, 2)] = 0 := by decide
  have g3 : fE [(1, 3, 9, 5, 2), (1, 3, 9, 5, 2)] = 1 := by decide
  refine ACalls.enter2 Try.func54 rfl Try.ntmps54 Try.results54 (by simp) ?_; simp (dsimp := false) (maxSteps := 4000000) only [enc_mk, encE_mk, go_sem, ↓reduceIte, Nat.reduceEqDiff, Nat.reduceLT, Nat.reduceLeDiff, Nat.reduceAdd, Nat.reduceMul, Nat.reduceSub, reduceCtorEq, Int.reduceToNat, Int.reduceLT, Int.reduceLE, Int.reduceEq, Int.reduceNe, Int.reduceBEq, Nat.reduceBEq, Int.reduceBNe, Nat.reduceBNe, Int.reduceAdd, Int.reduceSub, Int.reduceMul, Int.reduceNeg]
  refine AllB.mk fun b1 h_b1 => ?_; have hn_b1 := h_b1; (try simp only [fresh_add, fresh_set, ne_eq] at hn_b1); have hr_b1 := hn_b1; (try simp only [@eq_comm Nat b1] at hr_b1); simp (dsimp := false) (maxSteps := 4000000) only [enc_mk, encE_mk, hn_b1, hr_b1, go_sem, ↓reduceIte, Nat.reduceEqDiff, Nat.reduceLT, Nat.reduceLeDiff, Nat.reduceAdd, Nat.reduceMul, Nat.reduceSub, reduceCtorEq, Int.reduceToNat, Int.reduceLT, Int.reduceLE, Int.reduceEq, Int.reduceNe, Int.reduceBEq, Nat.reduceBEq, Int.reduceBNe, Nat.reduceBNe, Int.reduceAdd, Int.reduceSub, Int.reduceMul, Int.reduceNeg]
  refine (Put_u 1 3 9 5 2 _).mono ?_; rintro _ _ ⟨rfl, rfl⟩
  rw [f1, f2]
  simp (dsimp := false) (maxSteps := 4000000) only [enc_mk, encE_mk, hn_b1, hr_b1, go_sem, ↓reduceIte, Nat.reduceEqDiff, Nat.reduceLT, Nat.reduceLeDiff, Nat.reduceAdd, Nat.reduceMul, Nat.reduceSub, reduceCtorEq, Int.reduceToNat, Int.reduceLT, Int.reduceLE, Int.reduceEq, Int.reduceNe, Int.reduceBEq, Nat.reduceBEq, Int.reduceBNe, Nat.reduceBNe, Int.reduceAdd, Int.reduceSub, Int.reduceMul, Int.reduceNeg]
  refine AllB.mk fun b2 h_b2 => ?_; have hn_b2 := h_b2; (try simp only [fresh_add, fresh_set, ne_eq] at hn_b2); have hr_b2 := hn_b2; (try simp only [@eq_comm Nat b2] at hr_b2); simp (dsimp := false) (maxSteps := 4000000) only [enc_mk, encE_mk, hn_b1, hr_b1, hn_b2, hr_b2, go_sem, ↓reduceIte, Nat.reduceEqDiff, Nat.reduceLT, Nat.reduceLeDiff, Nat.reduceAdd, Nat.reduceMul, Nat.reduceSub, reduceCtorEq, Int.reduceToNat, Int.reduceLT, Int.reduceLE, Int.reduceEq, Int.reduceNe, Int.reduceBEq, Nat.reduceBEq, Int.reduceBNe, Nat.reduceBNe, Int.reduceAdd, Int.reduceSub, Int.reduceMul, Int.reduceNeg]
  refine (Take_u 129 3 9 5 ⟨by decide, by decide, by decide, by decide⟩ _).mono ?_; rintro _ _ ⟨rfl, rfl⟩
  rw [f3, f4]
  simp (dsimp := false) (maxSteps := 4000000) only [enc_mk, encE_mk, hn_b1, hr_b1, hn_b2, hr_b2, go_sem, ↓reduceIte, Nat.reduceEqDiff, Nat.reduceLT, Nat.reduceLeDiff, Nat.reduceAdd, Nat.reduceMul, Nat.reduceSub, reduceCtorEq, Int.reduceToNat, Int.reduceLT, Int.reduceLE, Int.reduceEq, Int.reduceNe, Int.reduceBEq, Nat.reduceBEq, Int.reduceBNe, Nat.reduceBNe, Int.reduceAdd, Int.reduceSub, Int.reduceMul, Int.reduceNeg]
  refine AllB.mk fun b4 h_b4 => ?_; have hn_b4 := h_b4; (try simp only [fresh_add, fresh_set, ne_eq] at hn_b4); have hr_b4 := hn_b4; (try simp only [@eq_comm Nat b4] at hr_b4); simp (dsimp := false) (maxSteps := 4000000) only [enc_mk, encE_mk, hn_b1, hr_b1, hn_b2, hr_b2, hn_b4, hr_b4, go_sem, ↓reduceIte, Nat.reduceEqDiff, Nat.reduceLT, Nat.reduceLeDiff, Nat.reduceAdd, Nat.reduceMul, Nat.reduceSub, reduceCtorEq, Int.reduceToNat, Int.reduceLT, Int.reduceLE, Int.reduceEq, Int.reduceNe, Int.reduceBEq, Nat.reduceBEq, Int.reduceBNe, Nat.reduceBNe, Int.reduceAdd, Int.reduceSub, Int.reduceMul, Int.reduceNeg]
  refine AllB.mk fun b25 h_b25 => ?_; have hn_b25 := h_b25; (try simp only [fresh_add, fresh_set, ne_eq] at hn_b25); have hr_b25 := hn_b25; (try simp only [@eq_comm Nat b25] at hr_b25); simp (dsimp := false) (maxSteps := 4000000) only [enc_mk, encE_mk, hn_b1, hr_b1, hn_b2, hr_b2, hn_b4, hr_b4, hn_b25, hr_b25, go_sem, ↓reduceIte, Nat.reduceEqDiff, Nat.reduceLT, Nat.reduceLeDiff, Nat.reduceAdd, Nat.reduceMul, Nat.reduceSub, reduceCtorEq, Int.reduceToNat, Int.reduceLT, Int.reduceLE, Int.reduceEq, Int.reduceNe, Int.reduceBEq, Nat.reduceBEq, Int.reduceBNe, Nat.reduceBNe, Int.reduceAdd, Int.reduceSub, Int.reduceMul, Int.reduceNeg]
  refine (File_u (L := [(1, 3, 9, 5, 2)]) (SlcIn.own (R := [[.int .i64 1, .int .i64 3, .int .i64 9, .int .i64 5, .int .i64 2]]) (by decide) (by decide) (by decide)) rfl).mono ?_; rintro _ A1 ⟨ba, ca, rfl, hG1⟩
  rw [f5] at hG1 ⊢
  have q1 : A1.find b1 = some (ABlk.cells [.int .i64 1, .int .i64 3, .int .i64 9, .int .i64 5, .int .i64 2] 90 5) := hG1.keep.find (fun h => h) (by (show AH.find _ _ = _; simp only [find_add_self, find_add_ne, find_fresh, fresh_add, ne_eq, not_false_eq_true, true_and, and_true, and_self, enc_mk, encE_mk, hn_b1, hr_b1, hn_b2, hr_b2, hn_b4, hr_b4, hn_b25, hr_b25]))
  have q2 : A1.find b2 = some (ABlk.cells [.int .u8 129, .int .u8 3, .int .u8 9, .int .u8 5] 64 4) := hG1.keep.find (fun h => h) (by (show AH.find _ _ = _; simp only [find_add_self, find_add_ne, find_fresh, fresh_add, ne_eq, not_false_eq_true, true_and, and_true, and_self, enc_mk, encE_mk, hn_b1, hr_b1, hn_b2, hr_b2, hn_b4, hr_b4, hn_b25, hr_b25]))
  have q4 : A1.find b4 = some (ABlk.cells [.int .i64 1, .int .i64 3, .int .i64 9, .int .i64 5, .int .i64 2] 90 5) := hG1.keep.find (fun h => h) (by (show AH.find _ _ = _; simp only [find_add_self, find_add_ne, find_fresh, fresh_add, ne_eq, not_false_eq_true, true_and, and_true, and_self, enc_mk, encE_mk, hn_b1, hr_b1, hn_b2, hr_b2, hn_b4, hr_b4, hn_b25, hr_b25]))
  have l1 : H.le A1 := AH.le_trans (by (repeat (first | exact AH.le_refl _ | refine AH.le_add ?_ ?_)); all_goals (first | exact AH.le_refl _ | (show AH.find _ _ = _; simp only [find_add_self, find_add_ne, find_fresh, fresh_add, ne_eq, not_false_eq_true, true_and, and_true, and_self, enc_mk, encE_mk, hn_b1, hr_b1, hn_b2, hr_b2, hn_b4, hr_b4, hn_b25, hr_b25]))) hG1.keep.all
  
  simp (dsimp := false) (maxSteps := 4000000) only [f6, f7, enc_mk, encE_mk, go_sem, ↓reduceIte, Nat.reduceEqDiff, Nat.reduceLT, Nat.reduceLeDiff, Nat.reduceAdd, Nat.reduceMul, Nat.reduceSub, reduceCtorEq, Int.reduceToNat, Int.reduceLT, Int.reduceLE, Int.reduceEq, Int.reduceNe, Int.reduceBEq, Nat.reduceBEq, Int.reduceBNe, Nat.reduceBNe, Int.reduceAdd, Int.reduceSub, Int.reduceMul, Int.reduceNeg]
  refine AllB.mk fun b6 h_b6 => ?_; have hn_b6 := h_b6; (try simp only [fresh_add, fresh_set, ne_eq] at hn_b6); have hr_b6 := hn_b6; (try simp only [@eq_comm Nat b6] at hr_b6); simp (dsimp := false) (maxSteps := 4000000) only [enc_mk, encE_mk, hn_b6, hr_b6, go_sem, ↓reduceIte, Nat.reduceEqDiff, Nat.reduceLT, Nat.reduceLeDiff, Nat.reduceAdd, Nat.reduceMul, Nat.reduceSub, reduceCtorEq, Int.reduceToNat, Int.reduceLT, Int.reduceLE, Int.reduceEq, Int.reduceNe, Int.reduceBEq, Nat.reduceBEq, Int.reduceBNe, Nat.reduceBNe, Int.reduceAdd, Int.reduceSub, Int.reduceMul, Int.reduceNeg]
  have m1 := hn_b6.ne_find q1
  have m2 := hn_b6.ne_find q2
  have m4 := hn_b6.ne_find q4
  have hok : ∀ r ∈ [(2, 3, 165, 164), (129, 3, 9, 5), (4, 0, 0, 0)], RcOk r := by rw [← f5]; exact fR_ok _
  refine (Table_u (p := 3) (R := [(2, 3, 165, 164), (129, 3, 9, 5), (4, 0, 0, 0)]) (hG1.slc.add h_b6) hok rfl).mono ?_; rintro _ A2 ⟨bc, cc, rfl, hG2⟩
  rw [f8] at hG2 ⊢
  have w1 : A2.find b1 = some (ABlk.cells [.int .i64 1, .int .i64 3, .int .i64 9, .int .i64 5, .int .i64 2] 90 5) := hG2.keep.find (fun h => h) (by rw [find_add_ne _ m1]; exact q1)
  have w2 : A2.find b2 = some (ABlk.cells [.int .u8 129, .int .u8 3, .int .u8 9, .int .u8 5] 64 4) := hG2.keep.find (fun h => h) (by rw [find_add_ne _ m2]; exact q2)
  have w4 : A2.find b4 = some (ABlk.cells [.int .i64 1, .int .i64 3, .int .i64 9, .int .i64 5, .int .i64 2] 90 5) := hG2.keep.find (fun h => h) (by rw [find_add_ne _ m4]; exact q4)
  have l2 : H.le A2 := AH.le_trans (AH.le_add l1 h_b6.2) hG2.keep.all
  have r1 := (Keep.refl (ex := fun _ => False)).row w1 (n := 5) rfl
  
  simp (dsimp := false) (maxSteps := 4000000) only [f9, r1, enc_mk, encE_mk, go_sem, ↓reduceIte, Nat.reduceEqDiff, Nat.reduceLT, Nat.reduceLeDiff, Nat.reduceAdd, Nat.reduceMul, Nat.reduceSub, reduceCtorEq, Int.reduceToNat, Int.reduceLT, Int.reduceLE, Int.reduceEq, Int.reduceNe, Int.reduceBEq, Nat.reduceBEq, Int.reduceBNe, Nat.reduceBNe, Int.reduceAdd, Int.reduceSub, Int.reduceMul, Int.reduceNeg]
  refine AllB.mk fun b37 h_b37 => ?_; have hn_b37 := h_b37; (try simp only [fresh_add, fresh_set, ne_eq] at hn_b37); have hr_b37 := hn_b37; (try simp only [@eq_comm Nat b37] at hr_b37); simp (dsimp := false) (maxSteps := 4000000) only [enc_mk, encE_mk, hn_b37, hr_b37, go_sem, ↓reduceIte, Nat.reduceEqDiff, Nat.reduceLT, Nat.reduceLeDiff, Nat.reduceAdd, Nat.reduceMul, Nat.reduceSub, reduceCtorEq, Int.reduceToNat, Int.reduceLT, Int.reduceLE, Int.reduceEq, Int.reduceNe, Int.reduceBEq, Nat.reduceBEq, Int.reduceBNe, Nat.reduceBNe, Int.reduceAdd, Int.reduceSub, Int.reduceMul, Int.reduceNeg]
  have m1 := hn_b37.ne_find w1
  have m2 := hn_b37.ne_find w2
  have m4 := hn_b37.ne_find w4
  refine (File_u (L := [(1, 3, 9, 5, 2), (1, 3, 9, 5, 2)]) (SlcIn.own (R := [[.int .i64 1, .int .i64 3, .int .i64 9, .int .i64 5, .int .i64 2], [.int .i64 1, .int .i64 3, .int .i64 9, .int .i64 5, .int .i64 2]]) (by decide) (by decide) (by decide)) rfl).mono ?_; rintro _ A3 ⟨bd, cd, rfl, hG3⟩
  rw [g1] at hG3 ⊢
  have x1 : A3.find b1 = some (ABlk.cells [.int .i64 1, .int .i64 3, .int .i64 9, .int .i64 5, .int .i64 2] 90 5) := hG3.keep.find (fun h => h) (by rw [find_add_ne _ m1]; exact w1)
  have x2 : A3.find b2 = some (ABlk.cells [.int .u8 129, .int .u8 3, .int .u8 9, .int .u8 5] 64 4) := hG3.keep.find (fun h => h) (by rw [find_add_ne _ m2]; exact w2)
  have x4 : A3.find b4 = some (ABlk.cells [.int .i64 1, .int .i64 3, .int .i64 9, .int .i64 5, .int .i64 2] 90 5) := hG3.keep.find (fun h => h) (by rw [find_add_ne _ m4]; exact w4)
  have l3 : H.le A3 := AH.le_trans (AH.le_add l2 h_b37.2) hG3.keep.all
  have sc := (hG2.slc.add h_b37).keep hG3.keep fun _ _ h => h
  have r1 := (Keep.refl (ex := fun _ => False)).row x1 (n := 5) rfl
  have r2 := (Keep.refl (ex := fun _ => False)).row x2 (n := 4) rfl
  have r4 := (Keep.refl (ex := fun _ => False)).row x4 (n := 5) rfl
  
  simp (dsimp := false) (maxSteps := 4000000) only [g2, g3, enc_mk, encE_mk, go_sem, ↓reduceIte, Nat.reduceEqDiff, Nat.reduceLT, Nat.reduceLeDiff, Nat.reduceAdd, Nat.reduceMul, Nat.reduceSub, reduceCtorEq, Int.reduceToNat, Int.reduceLT, Int.reduceLE, Int.reduceEq, Int.reduceNe, Int.reduceBEq, Nat.reduceBEq, Int.reduceBNe, Nat.reduceBNe, Int.reduceAdd, Int.reduceSub, Int.reduceMul, Int.reduceNeg]
  refine AllB.mk fun b10 h_b10 => ?_; have hn_b10 := h_b10; (try simp only [fresh_add, fresh_set, ne_eq] at hn_b10); have hr_b10 := hn_b10; (try simp only [@eq_comm Nat b10] at hr_b10); simp (dsimp := false) (maxSteps := 4000000) only [enc_mk, encE_mk, hn_b10, hr_b10, go_sem, ↓reduceIte, Nat.reduceEqDiff, Nat.reduceLT, Nat.reduceLeDiff, Nat.reduceAdd, Nat.reduceMul, Nat.reduceSub, reduceCtorEq, Int.reduceToNat, Int.reduceLT, Int.reduceLE, Int.reduceEq, Int.reduceNe, Int.reduceBEq, Nat.reduceBEq, Int.reduceBNe, Nat.reduceBNe, Int.reduceAdd, Int.reduceSub, Int.reduceMul, Int.reduceNeg]
  have m1 := hn_b10.ne_find x1
  have m2 := hn_b10.ne_find x2
  have m4 := hn_b10.ne_find x4
  simp (dsimp := false) (maxSteps := 4000000) only [r1, r2, r4, m1, m2, m4, enc_mk, encE_mk, hn_b10, hr_b10, go_sem, ↓reduceIte, Nat.reduceEqDiff, Nat.reduceLT, Nat.reduceLeDiff, Nat.reduceAdd, Nat.reduceMul, Nat.reduceSub, reduceCtorEq, Int.reduceToNat, Int.reduceLT, Int.reduceLE, Int.reduceEq, Int.reduceNe, Int.reduceBEq, Nat.reduceBEq, Int.reduceBNe, Nat.reduceBNe, Int.reduceAdd, Int.reduceSub, Int.reduceMul, Int.reduceNeg]
  refine AllB.mk fun b68 h_b68 => ?_; have hn_b68 := h_b68; (try simp only [fresh_add, fresh_set, ne_eq] at hn_b68); have hr_b68 := hn_b68; (try simp only [@eq_comm Nat b68] at hr_b68); simp (dsimp := false) (maxSteps := 4000000) only [enc_mk, encE_mk, hn_b10, hr_b10, hn_b68, hr_b68, go_sem, ↓reduceIte, Nat.reduceEqDiff, Nat.reduceLT, Nat.reduceLeDiff, Nat.reduceAdd, Nat.reduceMul, Nat.reduceSub, reduceCtorEq, Int.reduceToNat, Int.reduceLT, Int.reduceLE, Int.reduceEq, Int.reduceNe, Int.reduceBEq, Nat.reduceBEq, Int.reduceBNe, Nat.reduceBNe, Int.reduceAdd, Int.reduceSub, Int.reduceMul, Int.reduceNeg]
  refine (Same_c [(1, 3, 9, 5, 2)] [(1, 3, 9, 5, 2)] _ _ _ _ _ ((sc.add h_b10).add h_b68) (SlcIn.own (R := [[.int .i64 1, .int .i64 3, .int .i64 9, .int .i64 5, .int .i64 2]]) (by decide) (by decide) (by decide))).mono ?_; rintro _ _ ⟨rfl, rfl⟩
  simp (dsimp := false) (maxSteps := 4000000) only [enc_mk, encE_mk, hn_b10, hr_b10, hn_b68, hr_b68, go_sem, ↓reduceIte, Nat.reduceEqDiff, Nat.reduceLT, Nat.reduceLeDiff, Nat.reduceAdd, Nat.reduceMul, Nat.reduceSub, reduceCtorEq, Int.reduceToNat, Int.reduceLT, Int.reduceLE, Int.reduceEq, Int.reduceNe, Int.reduceBEq, Nat.reduceBEq, Int.reduceBNe, Nat.reduceBNe, Int.reduceAdd, Int.reduceSub, Int.reduceMul, Int.reduceNeg]
  trace_state
  exact ⟨H, AH.le_add (AH.le_add l3 h_b10.2) h_b68.2, rfl⟩
end Go.Proofs.Ytadbmmdmibiikaa.Rodl
