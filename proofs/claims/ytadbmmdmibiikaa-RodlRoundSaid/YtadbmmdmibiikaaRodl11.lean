/- rodl's law RodlTables. -/
import Derived.Test.YtadbmmdmibiikaaRodl10
import Derived.Test.YtadbmmdmibiikaaRose7
namespace Go.Proofs.Ytadbmmdmibiikaa.Rodl
set_option linter.unusedSimpArgs false
set_option linter.unusedVariables false
open Go Go.AX Go.Proofs Ty Go.Proofs.Ytadbmmdmibiikaa.File Go.Proofs.Ytadbmmdmibiikaa.Rose
set_option maxHeartbeats 4000000
set_option maxRecDepth 10000

theorem same_x {L : List En} {b1 b2 : Option Addr} {c1 c2 : Nat} {H : AH} (hs : SlcIn H 5 b1 c1 (L.map encE)) (ht : SlcIn H 5 b2 c2 (L.map encE)) :
    ACalls Try.prog 63 #[.slice b1 L.length c1, .slice b2 L.length c2] H (fun v H' => v = .bool true ∧ H = H') :=
  (Same_c L L b1 b2 c1 c2 H hs ht).mono fun v H' ⟨h1, h2⟩ => ⟨by rw [h1, decide_eq_true rfl], h2⟩
theorem RodlTables_c (p : Int) (R : List Rc) (bf : Option Addr) (cf : Nat) (L : List En) (base : Option Addr) (cap : Nat) (H : AH) (ht : SlcIn H 4 bf cf (R.map enc)) (hw : ∀ r ∈ R, WfR r) (hs : SlcIn H 5 base cap (L.map encE)) :
    ACalls Try.prog 11 #[fv p bf R.length cf, .slice base L.length cap] H (fun v H' => v = .bool true ∧ H = H') := by
  unfold fv
  have hs2 : SlcIn H 5 base cap ((L.take 70).map encE) := by rw [List.map_take]; exact hs.take
  have ht2 : SlcIn H 4 bf cf ((R.take 260).map enc) := by rw [List.map_take]; exact ht.take
  have hw2 : ∀ r ∈ R.take 260, RcOk r := fun r hr => (hw r (List.mem_of_mem_take hr)).ok
  generalize hM : L.take 70 = M at hs2
  generalize hS : R.take 260 = S at ht2 hw2
  refine ACalls.enter2 Try.func11 rfl Try.ntmps11 Try.results11 (by simp) ?_; simp (dsimp := false) (maxSteps := 4000000) only [go_sem, ↓reduceIte, Nat.reduceEqDiff, Nat.reduceLT, Nat.reduceLeDiff, Nat.reduceAdd, Nat.reduceMul, Nat.reduceSub, reduceCtorEq, Int.reduceToNat, Int.reduceLT, Int.reduceLE, Int.reduceEq, Int.reduceNe, Int.reduceBEq, Nat.reduceBEq, Int.reduceBNe, Nat.reduceBNe, Int.reduceAdd, Int.reduceSub, Int.reduceMul, Int.reduceNeg]
  refine AllB.mk fun b2 h_b2 => ?_; have hn_b2 := h_b2; (try simp only [fresh_add, fresh_set, ne_eq] at hn_b2); have hr_b2 := hn_b2; (try simp only [@eq_comm Nat b2] at hr_b2); simp (dsimp := false) (maxSteps := 4000000) only [hn_b2, hr_b2, go_sem, ↓reduceIte, Nat.reduceEqDiff, Nat.reduceLT, Nat.reduceLeDiff, Nat.reduceAdd, Nat.reduceMul, Nat.reduceSub, reduceCtorEq, Int.reduceToNat, Int.reduceLT, Int.reduceLE, Int.reduceEq, Int.reduceNe, Int.reduceBEq, Nat.reduceBEq, Int.reduceBNe, Nat.reduceBNe, Int.reduceAdd, Int.reduceSub, Int.reduceMul, Int.reduceNeg]
  refine (Rodl.few_x (ht.add (by simp only [fresh_add, ne_eq, hn_b2, not_false_eq_true, and_self] : Fresh _ b2)) hS).mono ?_; rintro _ _ ⟨rfl, rfl⟩
  simp (dsimp := false) (maxSteps := 4000000) only [hn_b2, hr_b2, go_sem, ↓reduceIte, Nat.reduceEqDiff, Nat.reduceLT, Nat.reduceLeDiff, Nat.reduceAdd, Nat.reduceMul, Nat.reduceSub, reduceCtorEq, Int.reduceToNat, Int.reduceLT, Int.reduceLE, Int.reduceEq, Int.reduceNe, Int.reduceBEq, Nat.reduceBEq, Int.reduceBNe, Nat.reduceBNe, Int.reduceAdd, Int.reduceSub, Int.reduceMul, Int.reduceNeg]
  refine (Table_u (ht2.add (by simp only [fresh_add, ne_eq, hn_b2, not_false_eq_true, and_self] : Fresh _ b2)) hw2 rfl).mono ?_; rintro _ A1 ⟨ba, ca, rfl, hG1⟩
  have q2 : A1.find b2 = some (ABlk.cells [.int .i64 p, .slice bf R.length cf] 25 2) := hG1.keep.find (fun h => h) (by (show AH.find _ _ = _; simp only [find_add_self, find_add_ne, find_fresh, fresh_add, ne_eq, not_false_eq_true, true_and, and_true, and_self, hn_b2, hr_b2]))
  have sL1 : SlcIn A1 5 base cap (L.map encE) := SlcIn.keep (hs.add (by simp only [fresh_add, ne_eq, hn_b2, not_false_eq_true, and_self] : Fresh _ b2)) hG1.keep fun _ _ h => h
  have sM1 : SlcIn A1 5 base cap (M.map encE) := SlcIn.keep (hs2.add (by simp only [fresh_add, ne_eq, hn_b2, not_false_eq_true, and_self] : Fresh _ b2)) hG1.keep fun _ _ h => h
  have sR1 : SlcIn A1 4 bf cf (R.map enc) := SlcIn.keep (ht.add (by simp only [fresh_add, ne_eq, hn_b2, not_false_eq_true, and_self] : Fresh _ b2)) hG1.keep fun _ _ h => h
  have sS1 : SlcIn A1 4 bf cf (S.map enc) := SlcIn.keep (ht2.add (by simp only [fresh_add, ne_eq, hn_b2, not_false_eq_true, and_self] : Fresh _ b2)) hG1.keep fun _ _ h => h
  have l1 : H.le A1 := AH.le_trans (by (repeat (first | exact AH.le_refl _ | refine AH.le_add ?_ ?_)); all_goals (first | exact AH.le_refl _ | (show AH.find _ _ = _; simp only [find_add_self, find_add_ne, find_fresh, fresh_add, ne_eq, not_false_eq_true, true_and, and_true, and_self, hn_b2, hr_b2]))) hG1.keep.all
  have r2 := (Keep.refl (ex := fun _ => False)).row q2 (n := 2) rfl
  
  simp (dsimp := false) (maxSteps := 4000000) only [r2, go_sem, ↓reduceIte, Nat.reduceEqDiff, Nat.reduceLT, Nat.reduceLeDiff, Nat.reduceAdd, Nat.reduceMul, Nat.reduceSub, reduceCtorEq, Int.reduceToNat, Int.reduceLT, Int.reduceLE, Int.reduceEq, Int.reduceNe, Int.reduceBEq, Nat.reduceBEq, Int.reduceBNe, Nat.reduceBNe, Int.reduceAdd, Int.reduceSub, Int.reduceMul, Int.reduceNeg]
  refine (Rodl.few_x sR1 hS).mono ?_; rintro _ _ ⟨rfl, rfl⟩
  simp (dsimp := false) (maxSteps := 4000000) only [go_sem, ↓reduceIte, Nat.reduceEqDiff, Nat.reduceLT, Nat.reduceLeDiff, Nat.reduceAdd, Nat.reduceMul, Nat.reduceSub, reduceCtorEq, Int.reduceToNat, Int.reduceLT, Int.reduceLE, Int.reduceEq, Int.reduceNe, Int.reduceBEq, Nat.reduceBEq, Int.reduceBNe, Nat.reduceBNe, Int.reduceAdd, Int.reduceSub, Int.reduceMul, Int.reduceNeg]
  refine (RefTable_u sS1 hw2 rfl).mono ?_; rintro _ A2 ⟨bb, cb, rfl, hG2⟩
  have sL2 : SlcIn A2 5 base cap (L.map encE) := sL1.keep hG2.keep fun _ _ h => h
  have sM2 : SlcIn A2 5 base cap (M.map encE) := sM1.keep hG2.keep fun _ _ h => h
  have ga2 := hG1.slc.keep hG2.keep fun _ _ h => h
  have l2 : H.le A2 := AH.le_trans l1 hG2.keep.all
  simp (dsimp := false) (maxSteps := 4000000) only [go_sem, ↓reduceIte, Nat.reduceEqDiff, Nat.reduceLT, Nat.reduceLeDiff, Nat.reduceAdd, Nat.reduceMul, Nat.reduceSub, reduceCtorEq, Int.reduceToNat, Int.reduceLT, Int.reduceLE, Int.reduceEq, Int.reduceNe, Int.reduceBEq, Nat.reduceBEq, Int.reduceBNe, Nat.reduceBNe, Int.reduceAdd, Int.reduceSub, Int.reduceMul, Int.reduceNeg]
  refine (some_x sL2 hM).mono ?_; rintro _ _ ⟨rfl, rfl⟩
  simp (dsimp := false) (maxSteps := 4000000) only [go_sem, ↓reduceIte, Nat.reduceEqDiff, Nat.reduceLT, Nat.reduceLeDiff, Nat.reduceAdd, Nat.reduceMul, Nat.reduceSub, reduceCtorEq, Int.reduceToNat, Int.reduceLT, Int.reduceLE, Int.reduceEq, Int.reduceNe, Int.reduceBEq, Nat.reduceBEq, Int.reduceBNe, Nat.reduceBNe, Int.reduceAdd, Int.reduceSub, Int.reduceMul, Int.reduceNeg]
  refine (File_u sM2 rfl).mono ?_; rintro _ A3 ⟨bc, cc, rfl, hG3⟩
  have sL3 : SlcIn A3 5 base cap (L.map encE) := sL2.keep hG3.keep fun _ _ h => h
  have sM3 : SlcIn A3 5 base cap (M.map encE) := sM2.keep hG3.keep fun _ _ h => h
  have ga3 := ga2.keep hG3.keep fun _ _ h => h
  have gb3 := hG2.slc.keep hG3.keep fun _ _ h => h
  have l3 : H.le A3 := AH.le_trans l2 hG3.keep.all
  simp (dsimp := false) (maxSteps := 4000000) only [go_sem, ↓reduceIte, Nat.reduceEqDiff, Nat.reduceLT, Nat.reduceLeDiff, Nat.reduceAdd, Nat.reduceMul, Nat.reduceSub, reduceCtorEq, Int.reduceToNat, Int.reduceLT, Int.reduceLE, Int.reduceEq, Int.reduceNe, Int.reduceBEq, Nat.reduceBEq, Int.reduceBNe, Nat.reduceBNe, Int.reduceAdd, Int.reduceSub, Int.reduceMul, Int.reduceNeg]
  refine AllB.mk fun b9 h_b9 => ?_; have hn_b9 := h_b9; (try simp only [fresh_add, fresh_set, ne_eq] at hn_b9); have hr_b9 := hn_b9; (try simp only [@eq_comm Nat b9] at hr_b9); simp (dsimp := false) (maxSteps := 4000000) only [hn_b9, hr_b9, go_sem, ↓reduceIte, Nat.reduceEqDiff, Nat.reduceLT, Nat.reduceLeDiff, Nat.reduceAdd, Nat.reduceMul, Nat.reduceSub, reduceCtorEq, Int.reduceToNat, Int.reduceLT, Int.reduceLE, Int.reduceEq, Int.reduceNe, Int.reduceBEq, Nat.reduceBEq, Int.reduceBNe, Nat.reduceBNe, Int.reduceAdd, Int.reduceSub, Int.reduceMul, Int.reduceNeg]
  refine (some_x (sL3.add h_b9) hM).mono ?_; rintro _ _ ⟨rfl, rfl⟩
  simp (dsimp := false) (maxSteps := 4000000) only [hn_b9, hr_b9, go_sem, ↓reduceIte, Nat.reduceEqDiff, Nat.reduceLT, Nat.reduceLeDiff, Nat.reduceAdd, Nat.reduceMul, Nat.reduceSub, reduceCtorEq, Int.reduceToNat, Int.reduceLT, Int.reduceLE, Int.reduceEq, Int.reduceNe, Int.reduceBEq, Nat.reduceBEq, Int.reduceBNe, Nat.reduceBNe, Int.reduceAdd, Int.reduceSub, Int.reduceMul, Int.reduceNeg]
  refine (RefFile_u (sM3.add h_b9) rfl).mono ?_; rintro _ A4 ⟨bd, cd, rfl, hG4⟩
  have x9 : A4.find b9 = some (ABlk.cells [.int .i64 (fP M), .slice bc (fR M).length cc] 25 2) := hG4.keep.find (fun h => h) (by (show AH.find _ _ = _; simp only [find_add_self, find_add_ne, find_fresh, fresh_add, ne_eq, not_false_eq_true, true_and, and_true, and_self, hn_b9, hr_b9]))
  have ga4 := (ga3.add h_b9).keep hG4.keep fun _ _ h => h
  have gb4 := (gb3.add h_b9).keep hG4.keep fun _ _ h => h
  have gc4 := (hG3.slc.add h_b9).keep hG4.keep fun _ _ h => h
  have l4 : H.le A4 := AH.le_trans (AH.le_add l3 h_b9.2) hG4.keep.all
  have r9 := (Keep.refl (ex := fun _ => False)).row x9 (n := 2) rfl
  
  simp (dsimp := false) (maxSteps := 4000000) only [go_sem, ↓reduceIte, Nat.reduceEqDiff, Nat.reduceLT, Nat.reduceLeDiff, Nat.reduceAdd, Nat.reduceMul, Nat.reduceSub, reduceCtorEq, Int.reduceToNat, Int.reduceLT, Int.reduceLE, Int.reduceEq, Int.reduceNe, Int.reduceBEq, Nat.reduceBEq, Int.reduceBNe, Nat.reduceBNe, Int.reduceAdd, Int.reduceSub, Int.reduceMul, Int.reduceNeg]
  refine AllB.mk fun b11 h_b11 => ?_; have hn_b11 := h_b11; (try simp only [fresh_add, fresh_set, ne_eq] at hn_b11); have hr_b11 := hn_b11; (try simp only [@eq_comm Nat b11] at hr_b11); simp (dsimp := false) (maxSteps := 4000000) only [hn_b11, hr_b11, go_sem, ↓reduceIte, Nat.reduceEqDiff, Nat.reduceLT, Nat.reduceLeDiff, Nat.reduceAdd, Nat.reduceMul, Nat.reduceSub, reduceCtorEq, Int.reduceToNat, Int.reduceLT, Int.reduceLE, Int.reduceEq, Int.reduceNe, Int.reduceBEq, Nat.reduceBEq, Int.reduceBNe, Nat.reduceBNe, Int.reduceAdd, Int.reduceSub, Int.reduceMul, Int.reduceNeg]
  have m9 := hn_b11.ne_find x9
  refine (awake_c _).mono ?_; rintro _ _ ⟨rfl, rfl⟩
  simp (dsimp := false) (maxSteps := 4000000) only [hn_b11, hr_b11, go_sem, ↓reduceIte, Nat.reduceEqDiff, Nat.reduceLT, Nat.reduceLeDiff, Nat.reduceAdd, Nat.reduceMul, Nat.reduceSub, reduceCtorEq, Int.reduceToNat, Int.reduceLT, Int.reduceLE, Int.reduceEq, Int.reduceNe, Int.reduceBEq, Nat.reduceBEq, Int.reduceBNe, Nat.reduceBNe, Int.reduceAdd, Int.reduceSub, Int.reduceMul, Int.reduceNeg]
  refine (same_x (ga4.add h_b11) (gb4.add h_b11)).mono ?_; rintro _ _ ⟨rfl, rfl⟩
  simp (dsimp := false) (maxSteps := 4000000) only [r9, m9, hn_b11, hr_b11, go_sem, ↓reduceIte, Nat.reduceEqDiff, Nat.reduceLT, Nat.reduceLeDiff, Nat.reduceAdd, Nat.reduceMul, Nat.reduceSub, reduceCtorEq, Int.reduceToNat, Int.reduceLT, Int.reduceLE, Int.reduceEq, Int.reduceNe, Int.reduceBEq, Nat.reduceBEq, Int.reduceBNe, Nat.reduceBNe, Int.reduceAdd, Int.reduceSub, Int.reduceMul, Int.reduceNeg]
  refine (sameR_x (gc4.add h_b11) (hG4.slc.add h_b11)).mono ?_; rintro _ _ ⟨rfl, rfl⟩
  simp (dsimp := false) (maxSteps := 4000000) only [hn_b11, hr_b11, go_sem, ↓reduceIte, Nat.reduceEqDiff, Nat.reduceLT, Nat.reduceLeDiff, Nat.reduceAdd, Nat.reduceMul, Nat.reduceSub, reduceCtorEq, Int.reduceToNat, Int.reduceLT, Int.reduceLE, Int.reduceEq, Int.reduceNe, Int.reduceBEq, Nat.reduceBEq, Int.reduceBNe, Nat.reduceBNe, Int.reduceAdd, Int.reduceSub, Int.reduceMul, Int.reduceNeg]
  exact ⟨H, AH.le_add l4 h_b11.2, rfl⟩
end Go.Proofs.Ytadbmmdmibiikaa.Rodl
