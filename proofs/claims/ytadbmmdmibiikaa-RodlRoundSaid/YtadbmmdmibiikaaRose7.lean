/- rose's law RoseFiles. -/
import Derived.Test.YtadbmmdmibiikaaRose6
import Derived.Test.YtadbmmdmibiikaaFile8
namespace Go.Proofs.Ytadbmmdmibiikaa.Rose
set_option linter.unusedSimpArgs false
set_option linter.unusedVariables false
open Go Go.AX Go.Proofs Ty Go.Proofs.Ytadbmmdmibiikaa.File
set_option maxHeartbeats 4000000
set_option maxRecDepth 10000

theorem few_x {L M : List Int} {base : Option Addr} {cap : Nat} {H : AH} (hs : SlcIn H 1 base cap (L.map e1)) (h : L.take 70 = M) :
    ACalls Try.prog 16 #[.slice base L.length cap] H (fun v H' => v = .slice base M.length cap ∧ H = H') := by
  subst h; exact few_c L base cap H hs
theorem same_x {L : List Int} {b1 b2 : Option Addr} {c1 c2 : Nat} {H : AH} (hs : SlcIn H 1 b1 c1 (L.map e1)) (ht : SlcIn H 1 b2 c2 (L.map e1)) :
    ACalls Try.prog 24 #[.slice b1 L.length c1, .slice b2 L.length c2] H (fun v H' => v = .bool true ∧ H = H') :=
  (same_c L L b1 b2 c1 c2 H hs ht).mono fun v H' ⟨h1, h2⟩ => ⟨by rw [h1, decide_eq_true rfl], h2⟩
theorem sameR_x {p : Int} {R : List Rc} {b1 b2 : Option Addr} {c1 c2 : Nat} {H : AH} (hs : SlcIn H 4 b1 c1 (R.map enc)) (ht : SlcIn H 4 b2 c2 (R.map enc)) :
    ACalls Try.prog 23 #[.agg #[.int .i64 p, .slice b1 R.length c1], .agg #[.int .i64 p, .slice b2 R.length c2]] H (fun v H' => v = .bool true ∧ H = H') :=
  (RefSame_c p p R R b1 b2 c1 c2 H hs ht).mono fun v H' ⟨h1, h2⟩ => ⟨by rw [h1, show sameF p p R R = true from by simp [sameF]], h2⟩
theorem RoseFiles_c (L : List Int) (base : Option Addr) (cap : Nat) (p : Int) (R : List Rc) (bf : Option Addr) (cf : Nat) (a : Int) (H : AH) (hs : SlcIn H 1 base cap (L.map e1)) (ht : SlcIn H 4 bf cf (R.map enc)) (hw : ∀ r ∈ R, WfR r) :
    ACalls Try.prog 3 #[.slice base L.length cap, fv p bf R.length cf, .int .i64 a] H (fun v H' => v = .bool true ∧ H = H') := by
  unfold fv
  have hs2 : SlcIn H 1 base cap ((L.take 70).map e1) := by rw [List.map_take]; exact hs.take
  have ht2 : SlcIn H 4 bf cf ((R.take 260).map enc) := by rw [List.map_take]; exact ht.take
  have hw2 : ∀ r ∈ R.take 260, RcOk r := fun r hr => (hw r (List.mem_of_mem_take hr)).ok
  have hle := ht.le
  simp only [List.length_map] at hle
  refine ACalls.enter2 Try.func3 rfl Try.ntmps3 Try.results3 (by simp) ?_; simp (dsimp := false) (maxSteps := 4000000) only [go_sem, ↓reduceIte, Nat.reduceEqDiff, Nat.reduceLT, Nat.reduceLeDiff, Nat.reduceAdd, Nat.reduceMul, Nat.reduceSub, reduceCtorEq, Int.reduceToNat, Int.reduceLT, Int.reduceLE, Int.reduceEq, Int.reduceNe, Int.reduceBEq, Nat.reduceBEq, Int.reduceBNe, Nat.reduceBNe, Int.reduceAdd, Int.reduceSub, Int.reduceMul, Int.reduceNeg]
  refine AllB.mk fun b4 h_b4 => ?_; have hn_b4 := h_b4; (try simp only [fresh_add, fresh_set, ne_eq] at hn_b4); have hr_b4 := hn_b4; (try simp only [@eq_comm Nat b4] at hr_b4); simp (dsimp := false) (maxSteps := 4000000) only [hn_b4, hr_b4, go_sem, ↓reduceIte, Nat.reduceEqDiff, Nat.reduceLT, Nat.reduceLeDiff, Nat.reduceAdd, Nat.reduceMul, Nat.reduceSub, reduceCtorEq, Int.reduceToNat, Int.reduceLT, Int.reduceLE, Int.reduceEq, Int.reduceNe, Int.reduceBEq, Nat.reduceBEq, Int.reduceBNe, Nat.reduceBNe, Int.reduceAdd, Int.reduceSub, Int.reduceMul, Int.reduceNeg]
  refine AllB.mk fun b7 h_b7 => ?_; have hn_b7 := h_b7; (try simp only [fresh_add, fresh_set, ne_eq] at hn_b7); have hr_b7 := hn_b7; (try simp only [@eq_comm Nat b7] at hr_b7); simp (dsimp := false) (maxSteps := 4000000) only [hn_b4, hr_b4, hn_b7, hr_b7, go_sem, ↓reduceIte, Nat.reduceEqDiff, Nat.reduceLT, Nat.reduceLeDiff, Nat.reduceAdd, Nat.reduceMul, Nat.reduceSub, reduceCtorEq, Int.reduceToNat, Int.reduceLT, Int.reduceLE, Int.reduceEq, Int.reduceNe, Int.reduceBEq, Nat.reduceBEq, Int.reduceBNe, Nat.reduceBNe, Int.reduceAdd, Int.reduceSub, Int.reduceMul, Int.reduceNeg]
  generalize hM : L.take 70 = M at hs2
  have rest : ∀ S : List Rc, SlcIn H 4 bf cf (S.map enc) → (∀ r ∈ S, RcOk r) → True := fun _ _ _ => trivial
  by_cases hn : (260 : Int) < R.length
  · obtain ⟨r, hr⟩ := get_some (l := R) (i := 0) (by omega)
    obtain ⟨b, o, rfl, _, _⟩ := ht.get (map_get (f := enc) hr)
    have h1 : (260 : Int) ≤ cf := by omega
    have hn_ : 260 = (R.take 260).length := by rw [List.length_take]; omega
    generalize R.take 260 = S at ht2 hw2 hn_
    
    simp (dsimp := false) (maxSteps := 4000000) only [hn, h1, ite_self, Nat.sub_zero, hn_b4, hr_b4, hn_b7, hr_b7, go_sem, ↓reduceIte, Nat.reduceEqDiff, Nat.reduceLT, Nat.reduceLeDiff, Nat.reduceAdd, Nat.reduceMul, Nat.reduceSub, reduceCtorEq, Int.reduceToNat, Int.reduceLT, Int.reduceLE, Int.reduceEq, Int.reduceNe, Int.reduceBEq, Nat.reduceBEq, Int.reduceBNe, Nat.reduceBNe, Int.reduceAdd, Int.reduceSub, Int.reduceMul, Int.reduceNeg]
    refine (few_x ((hs.add (by simp only [fresh_add, ne_eq, hn_b4, not_false_eq_true, and_self] : Fresh _ b4)).add (by simp only [fresh_add, ne_eq, hn_b7, not_false_eq_true, and_self] : Fresh _ b7)) hM).mono ?_; rintro _ _ ⟨rfl, rfl⟩
    simp (dsimp := false) (maxSteps := 4000000) only [hn_b4, hr_b4, hn_b7, hr_b7, go_sem, ↓reduceIte, Nat.reduceEqDiff, Nat.reduceLT, Nat.reduceLeDiff, Nat.reduceAdd, Nat.reduceMul, Nat.reduceSub, reduceCtorEq, Int.reduceToNat, Int.reduceLT, Int.reduceLE, Int.reduceEq, Int.reduceNe, Int.reduceBEq, Nat.reduceBEq, Int.reduceBNe, Nat.reduceBNe, Int.reduceAdd, Int.reduceSub, Int.reduceMul, Int.reduceNeg]
    refine (File_u M base cap _ ((hs2.add (by simp only [fresh_add, ne_eq, hn_b4, not_false_eq_true, and_self] : Fresh _ b4)).add (by simp only [fresh_add, ne_eq, hn_b7, not_false_eq_true, and_self] : Fresh _ b7))).mono ?_; rintro _ A1 ⟨ba, ca, rfl, hG1⟩
    have q7 : A1.find b7 = some (ABlk.cells [.int .i64 p, .slice (some ⟨b, o, none⟩) 260 cf] 25 2) := hG1.keep.find (fun h => h) (by (show AH.find _ _ = _; simp only [find_add_self, find_add_ne, find_fresh, fresh_add, ne_eq, not_false_eq_true, true_and, and_true, and_self, hn_b4, hr_b4, hn_b7, hr_b7]))
    have sL1 : SlcIn A1 1 base cap (L.map e1) := SlcIn.keep ((hs.add (by simp only [fresh_add, ne_eq, hn_b4, not_false_eq_true, and_self] : Fresh _ b4)).add (by simp only [fresh_add, ne_eq, hn_b7, not_false_eq_true, and_self] : Fresh _ b7)) hG1.keep fun _ _ h => h
    have sM1 : SlcIn A1 1 base cap (M.map e1) := SlcIn.keep ((hs2.add (by simp only [fresh_add, ne_eq, hn_b4, not_false_eq_true, and_self] : Fresh _ b4)).add (by simp only [fresh_add, ne_eq, hn_b7, not_false_eq_true, and_self] : Fresh _ b7)) hG1.keep fun _ _ h => h
    have sS1 : SlcIn A1 4 (some ⟨b, o, none⟩) cf (S.map enc) := SlcIn.keep ((ht2.add (by simp only [fresh_add, ne_eq, hn_b4, not_false_eq_true, and_self] : Fresh _ b4)).add (by simp only [fresh_add, ne_eq, hn_b7, not_false_eq_true, and_self] : Fresh _ b7)) hG1.keep fun _ _ h => h
    have l1 : H.le A1 := AH.le_trans (by (repeat (first | exact AH.le_refl _ | refine AH.le_add ?_ ?_)); all_goals (first | exact AH.le_refl _ | (show AH.find _ _ = _; simp only [find_add_self, find_add_ne, find_fresh, fresh_add, ne_eq, not_false_eq_true, true_and, and_true, and_self, hn_b4, hr_b4, hn_b7, hr_b7]))) hG1.keep.all
    have r7 := (Keep.refl (ex := fun _ => False)).row q7 (n := 2) rfl
    
    simp (dsimp := false) (maxSteps := 4000000) only [r7, go_sem, ↓reduceIte, Nat.reduceEqDiff, Nat.reduceLT, Nat.reduceLeDiff, Nat.reduceAdd, Nat.reduceMul, Nat.reduceSub, reduceCtorEq, Int.reduceToNat, Int.reduceLT, Int.reduceLE, Int.reduceEq, Int.reduceNe, Int.reduceBEq, Nat.reduceBEq, Int.reduceBNe, Nat.reduceBNe, Int.reduceAdd, Int.reduceSub, Int.reduceMul, Int.reduceNeg]
    refine AllB.mk fun b8 h_b8 => ?_; have hn_b8 := h_b8; (try simp only [fresh_add, fresh_set, ne_eq] at hn_b8); have hr_b8 := hn_b8; (try simp only [@eq_comm Nat b8] at hr_b8); simp (dsimp := false) (maxSteps := 4000000) only [hn_b8, hr_b8, go_sem, ↓reduceIte, Nat.reduceEqDiff, Nat.reduceLT, Nat.reduceLeDiff, Nat.reduceAdd, Nat.reduceMul, Nat.reduceSub, reduceCtorEq, Int.reduceToNat, Int.reduceLT, Int.reduceLE, Int.reduceEq, Int.reduceNe, Int.reduceBEq, Nat.reduceBEq, Int.reduceBNe, Nat.reduceBNe, Int.reduceAdd, Int.reduceSub, Int.reduceMul, Int.reduceNeg]
    have n87 : ¬ b8 = b7 := hn_b8.ne_find q7
    have n78 : ¬ b7 = b8 := fun e => n87 e.symm
    refine (few_x (sL1.add h_b8) hM).mono ?_; rintro _ _ ⟨rfl, rfl⟩
    simp (dsimp := false) (maxSteps := 4000000) only [hn_b8, hr_b8, go_sem, ↓reduceIte, Nat.reduceEqDiff, Nat.reduceLT, Nat.reduceLeDiff, Nat.reduceAdd, Nat.reduceMul, Nat.reduceSub, reduceCtorEq, Int.reduceToNat, Int.reduceLT, Int.reduceLE, Int.reduceEq, Int.reduceNe, Int.reduceBEq, Nat.reduceBEq, Int.reduceBNe, Nat.reduceBNe, Int.reduceAdd, Int.reduceSub, Int.reduceMul, Int.reduceNeg]
    refine (RefFile_u M base cap _ (sM1.add h_b8)).mono ?_; rintro _ A2 ⟨bb, cb, rfl, hG2⟩
    have k8 : AH.find (A1.add b8 (ABlk.cells [.int .i64 (fP M), .slice ba (fR M).length ca] 25 2)) b8 = some (ABlk.cells [.int .i64 (fP M), .slice ba (fR M).length ca] 25 2) := find_add_self _ _ _
    have w7 : A2.find b7 = some (ABlk.cells [.int .i64 p, .slice (some ⟨b, o, none⟩) 260 cf] 25 2) := hG2.keep.find (fun h => h) (by rw [find_add_ne _ n87]; exact q7)
    have w8 : A2.find b8 = some (ABlk.cells [.int .i64 (fP M), .slice ba (fR M).length ca] 25 2) := hG2.keep.find (fun h => h) k8
    have sL2 : SlcIn A2 1 base cap (L.map e1) := (sL1.add h_b8).keep hG2.keep fun _ _ h => h
    have sM2 : SlcIn A2 1 base cap (M.map e1) := (sM1.add h_b8).keep hG2.keep fun _ _ h => h
    have sS2 : SlcIn A2 4 (some ⟨b, o, none⟩) cf (S.map enc) := (sS1.add h_b8).keep hG2.keep fun _ _ h => h
    have ga2 : SlcIn A2 4 ba ca ((fR M).map enc) := (hG1.slc.add h_b8).keep hG2.keep fun _ _ h => h
    have l2 : H.le A2 := AH.le_trans (AH.le_add l1 h_b8.2) hG2.keep.all
    have r7 := (Keep.refl (ex := fun _ => False)).row w7 (n := 2) rfl
    
    simp (dsimp := false) (maxSteps := 4000000) only [go_sem, ↓reduceIte, Nat.reduceEqDiff, Nat.reduceLT, Nat.reduceLeDiff, Nat.reduceAdd, Nat.reduceMul, Nat.reduceSub, reduceCtorEq, Int.reduceToNat, Int.reduceLT, Int.reduceLE, Int.reduceEq, Int.reduceNe, Int.reduceBEq, Nat.reduceBEq, Int.reduceBNe, Nat.reduceBNe, Int.reduceAdd, Int.reduceSub, Int.reduceMul, Int.reduceNeg]
    refine AllB.mk fun b10 h_b10 => ?_; have hn_b10 := h_b10; (try simp only [fresh_add, fresh_set, ne_eq] at hn_b10); have hr_b10 := hn_b10; (try simp only [@eq_comm Nat b10] at hr_b10); simp (dsimp := false) (maxSteps := 4000000) only [hn_b10, hr_b10, go_sem, ↓reduceIte, Nat.reduceEqDiff, Nat.reduceLT, Nat.reduceLeDiff, Nat.reduceAdd, Nat.reduceMul, Nat.reduceSub, reduceCtorEq, Int.reduceToNat, Int.reduceLT, Int.reduceLE, Int.reduceEq, Int.reduceNe, Int.reduceBEq, Nat.reduceBEq, Int.reduceBNe, Nat.reduceBNe, Int.reduceAdd, Int.reduceSub, Int.reduceMul, Int.reduceNeg]
    have m7 : ¬ b10 = b7 := hn_b10.ne_find w7
    have m8 : ¬ b10 = b8 := hn_b10.ne_find w8
    simp (dsimp := false) (maxSteps := 4000000) only [r7, m7, hn_b10, hr_b10, go_sem, ↓reduceIte, Nat.reduceEqDiff, Nat.reduceLT, Nat.reduceLeDiff, Nat.reduceAdd, Nat.reduceMul, Nat.reduceSub, reduceCtorEq, Int.reduceToNat, Int.reduceLT, Int.reduceLE, Int.reduceEq, Int.reduceNe, Int.reduceBEq, Nat.reduceBEq, Int.reduceBNe, Nat.reduceBNe, Int.reduceAdd, Int.reduceSub, Int.reduceMul, Int.reduceNeg]
    refine (Sequence_u (sS2.add h_b10) hw2 hn_).mono ?_; rintro _ A3 ⟨bc, cc, rfl, hG3⟩
    have k10 : AH.find (A2.add b10 (ABlk.cells [.int .i64 (fP M), .slice bb (fR M).length cb] 25 2)) b10 = some (ABlk.cells [.int .i64 (fP M), .slice bb (fR M).length cb] 25 2) := find_add_self _ _ _
    have x7 : A3.find b7 = some (ABlk.cells [.int .i64 p, .slice (some ⟨b, o, none⟩) 260 cf] 25 2) := hG3.keep.find (fun h => h) (by rw [find_add_ne _ m7]; exact w7)
    have x8 : A3.find b8 = some (ABlk.cells [.int .i64 (fP M), .slice ba (fR M).length ca] 25 2) := hG3.keep.find (fun h => h) (by rw [find_add_ne _ m8]; exact w8)
    have x10 : A3.find b10 = some (ABlk.cells [.int .i64 (fP M), .slice bb (fR M).length cb] 25 2) := hG3.keep.find (fun h => h) k10
    have sL3 : SlcIn A3 1 base cap (L.map e1) := (sL2.add h_b10).keep hG3.keep fun _ _ h => h
    have sM3 : SlcIn A3 1 base cap (M.map e1) := (sM2.add h_b10).keep hG3.keep fun _ _ h => h
    have sS3 : SlcIn A3 4 (some ⟨b, o, none⟩) cf (S.map enc) := (sS2.add h_b10).keep hG3.keep fun _ _ h => h
    have ga3 : SlcIn A3 4 ba ca ((fR M).map enc) := (ga2.add h_b10).keep hG3.keep fun _ _ h => h
    have gb3 : SlcIn A3 4 bb cb ((fR M).map enc) := (hG2.slc.add h_b10).keep hG3.keep fun _ _ h => h
    have l3 : H.le A3 := AH.le_trans (AH.le_add l2 h_b10.2) hG3.keep.all
    have r7 := (Keep.refl (ex := fun _ => False)).row x7 (n := 2) rfl
    
    simp (dsimp := false) (maxSteps := 4000000) only [r7, go_sem, ↓reduceIte, Nat.reduceEqDiff, Nat.reduceLT, Nat.reduceLeDiff, Nat.reduceAdd, Nat.reduceMul, Nat.reduceSub, reduceCtorEq, Int.reduceToNat, Int.reduceLT, Int.reduceLE, Int.reduceEq, Int.reduceNe, Int.reduceBEq, Nat.reduceBEq, Int.reduceBNe, Nat.reduceBNe, Int.reduceAdd, Int.reduceSub, Int.reduceMul, Int.reduceNeg]
    refine (RefSequence_u sS3 hw2 hn_).mono ?_; rintro _ A4 ⟨bd, cd, rfl, hG4⟩
    have r8 := hG4.keep.row x8 (n := 2) rfl
    have r10 := hG4.keep.row x10 (n := 2) rfl
    have sL4 : SlcIn A4 1 base cap (L.map e1) := sL3.keep hG4.keep fun _ _ h => h
    have sM4 : SlcIn A4 1 base cap (M.map e1) := sM3.keep hG4.keep fun _ _ h => h
    have ga4 : SlcIn A4 4 ba ca ((fR M).map enc) := ga3.keep hG4.keep fun _ _ h => h
    have gb4 : SlcIn A4 4 bb cb ((fR M).map enc) := gb3.keep hG4.keep fun _ _ h => h
    have gc4 := hG3.slc.keep hG4.keep fun _ _ h => h
    have l4 : H.le A4 := AH.le_trans l3 hG4.keep.all
    simp (dsimp := false) (maxSteps := 4000000) only [go_sem, ↓reduceIte, Nat.reduceEqDiff, Nat.reduceLT, Nat.reduceLeDiff, Nat.reduceAdd, Nat.reduceMul, Nat.reduceSub, reduceCtorEq, Int.reduceToNat, Int.reduceLT, Int.reduceLE, Int.reduceEq, Int.reduceNe, Int.reduceBEq, Nat.reduceBEq, Int.reduceBNe, Nat.reduceBNe, Int.reduceAdd, Int.reduceSub, Int.reduceMul, Int.reduceNeg]
    refine (few_x sL4 hM).mono ?_; rintro _ _ ⟨rfl, rfl⟩
    simp (dsimp := false) (maxSteps := 4000000) only [go_sem, ↓reduceIte, Nat.reduceEqDiff, Nat.reduceLT, Nat.reduceLeDiff, Nat.reduceAdd, Nat.reduceMul, Nat.reduceSub, reduceCtorEq, Int.reduceToNat, Int.reduceLT, Int.reduceLE, Int.reduceEq, Int.reduceNe, Int.reduceBEq, Nat.reduceBEq, Int.reduceBNe, Nat.reduceBNe, Int.reduceAdd, Int.reduceSub, Int.reduceMul, Int.reduceNeg]
    refine (Next_u sM4 rfl).mono ?_; rintro _ _ ⟨rfl, rfl⟩
    simp (dsimp := false) (maxSteps := 4000000) only [go_sem, ↓reduceIte, Nat.reduceEqDiff, Nat.reduceLT, Nat.reduceLeDiff, Nat.reduceAdd, Nat.reduceMul, Nat.reduceSub, reduceCtorEq, Int.reduceToNat, Int.reduceLT, Int.reduceLE, Int.reduceEq, Int.reduceNe, Int.reduceBEq, Nat.reduceBEq, Int.reduceBNe, Nat.reduceBNe, Int.reduceAdd, Int.reduceSub, Int.reduceMul, Int.reduceNeg]
    refine (few_x sL4 hM).mono ?_; rintro _ _ ⟨rfl, rfl⟩
    simp (dsimp := false) (maxSteps := 4000000) only [go_sem, ↓reduceIte, Nat.reduceEqDiff, Nat.reduceLT, Nat.reduceLeDiff, Nat.reduceAdd, Nat.reduceMul, Nat.reduceSub, reduceCtorEq, Int.reduceToNat, Int.reduceLT, Int.reduceLE, Int.reduceEq, Int.reduceNe, Int.reduceBEq, Nat.reduceBEq, Int.reduceBNe, Nat.reduceBNe, Int.reduceAdd, Int.reduceSub, Int.reduceMul, Int.reduceNeg]
    refine (RefNext_u sM4 rfl).mono ?_; rintro _ _ ⟨rfl, rfl⟩
    simp (dsimp := false) (maxSteps := 4000000) only [go_sem, ↓reduceIte, Nat.reduceEqDiff, Nat.reduceLT, Nat.reduceLeDiff, Nat.reduceAdd, Nat.reduceMul, Nat.reduceSub, reduceCtorEq, Int.reduceToNat, Int.reduceLT, Int.reduceLE, Int.reduceEq, Int.reduceNe, Int.reduceBEq, Nat.reduceBEq, Int.reduceBNe, Nat.reduceBNe, Int.reduceAdd, Int.reduceSub, Int.reduceMul, Int.reduceNeg]
    refine (awake_c _).mono ?_; rintro _ _ ⟨rfl, rfl⟩
    simp (dsimp := false) (maxSteps := 4000000) only [r8, r10, go_sem, ↓reduceIte, Nat.reduceEqDiff, Nat.reduceLT, Nat.reduceLeDiff, Nat.reduceAdd, Nat.reduceMul, Nat.reduceSub, reduceCtorEq, Int.reduceToNat, Int.reduceLT, Int.reduceLE, Int.reduceEq, Int.reduceNe, Int.reduceBEq, Nat.reduceBEq, Int.reduceBNe, Nat.reduceBNe, Int.reduceAdd, Int.reduceSub, Int.reduceMul, Int.reduceNeg]
    refine (sameR_x ga4 gb4).mono ?_; rintro _ _ ⟨rfl, rfl⟩
    simp (dsimp := false) (maxSteps := 4000000) only [go_sem, ↓reduceIte, Nat.reduceEqDiff, Nat.reduceLT, Nat.reduceLeDiff, Nat.reduceAdd, Nat.reduceMul, Nat.reduceSub, reduceCtorEq, Int.reduceToNat, Int.reduceLT, Int.reduceLE, Int.reduceEq, Int.reduceNe, Int.reduceBEq, Nat.reduceBEq, Int.reduceBNe, Nat.reduceBNe, Int.reduceAdd, Int.reduceSub, Int.reduceMul, Int.reduceNeg]
    refine (same_x gc4 hG4.slc).mono ?_; rintro _ _ ⟨rfl, rfl⟩
    simp (dsimp := false) (maxSteps := 4000000) only [go_sem, ↓reduceIte, Nat.reduceEqDiff, Nat.reduceLT, Nat.reduceLeDiff, Nat.reduceAdd, Nat.reduceMul, Nat.reduceSub, reduceCtorEq, Int.reduceToNat, Int.reduceLT, Int.reduceLE, Int.reduceEq, Int.reduceNe, Int.reduceBEq, Nat.reduceBEq, Int.reduceBNe, Nat.reduceBNe, Int.reduceAdd, Int.reduceSub, Int.reduceMul, Int.reduceNeg]
    exact ⟨H, l4, rfl⟩
    
  · have hn_ : R.length = (R.take 260).length := by rw [List.length_take]; omega
    generalize R.take 260 = S at ht2 hw2 hn_
    
    simp (dsimp := false) (maxSteps := 4000000) only [hn, hn_b4, hr_b4, hn_b7, hr_b7, go_sem, ↓reduceIte, Nat.reduceEqDiff, Nat.reduceLT, Nat.reduceLeDiff, Nat.reduceAdd, Nat.reduceMul, Nat.reduceSub, reduceCtorEq, Int.reduceToNat, Int.reduceLT, Int.reduceLE, Int.reduceEq, Int.reduceNe, Int.reduceBEq, Nat.reduceBEq, Int.reduceBNe, Nat.reduceBNe, Int.reduceAdd, Int.reduceSub, Int.reduceMul, Int.reduceNeg]
    refine (few_x ((hs.add (by simp only [fresh_add, ne_eq, hn_b4, not_false_eq_true, and_self] : Fresh _ b4)).add (by simp only [fresh_add, ne_eq, hn_b7, not_false_eq_true, and_self] : Fresh _ b7)) hM).mono ?_; rintro _ _ ⟨rfl, rfl⟩
    simp (dsimp := false) (maxSteps := 4000000) only [hn_b4, hr_b4, hn_b7, hr_b7, go_sem, ↓reduceIte, Nat.reduceEqDiff, Nat.reduceLT, Nat.reduceLeDiff, Nat.reduceAdd, Nat.reduceMul, Nat.reduceSub, reduceCtorEq, Int.reduceToNat, Int.reduceLT, Int.reduceLE, Int.reduceEq, Int.reduceNe, Int.reduceBEq, Nat.reduceBEq, Int.reduceBNe, Nat.reduceBNe, Int.reduceAdd, Int.reduceSub, Int.reduceMul, Int.reduceNeg]
    refine (File_u M base cap _ ((hs2.add (by simp only [fresh_add, ne_eq, hn_b4, not_false_eq_true, and_self] : Fresh _ b4)).add (by simp only [fresh_add, ne_eq, hn_b7, not_false_eq_true, and_self] : Fresh _ b7))).mono ?_; rintro _ A1 ⟨ba, ca, rfl, hG1⟩
    have q7 : A1.find b7 = some (ABlk.cells [.int .i64 p, .slice bf R.length cf] 25 2) := hG1.keep.find (fun h => h) (by (show AH.find _ _ = _; simp only [find_add_self, find_add_ne, find_fresh, fresh_add, ne_eq, not_false_eq_true, true_and, and_true, and_self, hn_b4, hr_b4, hn_b7, hr_b7]))
    have sL1 : SlcIn A1 1 base cap (L.map e1) := SlcIn.keep ((hs.add (by simp only [fresh_add, ne_eq, hn_b4, not_false_eq_true, and_self] : Fresh _ b4)).add (by simp only [fresh_add, ne_eq, hn_b7, not_false_eq_true, and_self] : Fresh _ b7)) hG1.keep fun _ _ h => h
    have sM1 : SlcIn A1 1 base cap (M.map e1) := SlcIn.keep ((hs2.add (by simp only [fresh_add, ne_eq, hn_b4, not_false_eq_true, and_self] : Fresh _ b4)).add (by simp only [fresh_add, ne_eq, hn_b7, not_false_eq_true, and_self] : Fresh _ b7)) hG1.keep fun _ _ h => h
    have sS1 : SlcIn A1 4 bf cf (S.map enc) := SlcIn.keep ((ht2.add (by simp only [fresh_add, ne_eq, hn_b4, not_false_eq_true, and_self] : Fresh _ b4)).add (by simp only [fresh_add, ne_eq, hn_b7, not_false_eq_true, and_self] : Fresh _ b7)) hG1.keep fun _ _ h => h
    have l1 : H.le A1 := AH.le_trans (by (repeat (first | exact AH.le_refl _ | refine AH.le_add ?_ ?_)); all_goals (first | exact AH.le_refl _ | (show AH.find _ _ = _; simp only [find_add_self, find_add_ne, find_fresh, fresh_add, ne_eq, not_false_eq_true, true_and, and_true, and_self, hn_b4, hr_b4, hn_b7, hr_b7]))) hG1.keep.all
    have r7 := (Keep.refl (ex := fun _ => False)).row q7 (n := 2) rfl
    
    simp (dsimp := false) (maxSteps := 4000000) only [r7, go_sem, ↓reduceIte, Nat.reduceEqDiff, Nat.reduceLT, Nat.reduceLeDiff, Nat.reduceAdd, Nat.reduceMul, Nat.reduceSub, reduceCtorEq, Int.reduceToNat, Int.reduceLT, Int.reduceLE, Int.reduceEq, Int.reduceNe, Int.reduceBEq, Nat.reduceBEq, Int.reduceBNe, Nat.reduceBNe, Int.reduceAdd, Int.reduceSub, Int.reduceMul, Int.reduceNeg]
    refine AllB.mk fun b8 h_b8 => ?_; have hn_b8 := h_b8; (try simp only [fresh_add, fresh_set, ne_eq] at hn_b8); have hr_b8 := hn_b8; (try simp only [@eq_comm Nat b8] at hr_b8); simp (dsimp := false) (maxSteps := 4000000) only [hn_b8, hr_b8, go_sem, ↓reduceIte, Nat.reduceEqDiff, Nat.reduceLT, Nat.reduceLeDiff, Nat.reduceAdd, Nat.reduceMul, Nat.reduceSub, reduceCtorEq, Int.reduceToNat, Int.reduceLT, Int.reduceLE, Int.reduceEq, Int.reduceNe, Int.reduceBEq, Nat.reduceBEq, Int.reduceBNe, Nat.reduceBNe, Int.reduceAdd, Int.reduceSub, Int.reduceMul, Int.reduceNeg]
    have n87 : ¬ b8 = b7 := hn_b8.ne_find q7
    have n78 : ¬ b7 = b8 := fun e => n87 e.symm
    refine (few_x (sL1.add h_b8) hM).mono ?_; rintro _ _ ⟨rfl, rfl⟩
    simp (dsimp := false) (maxSteps := 4000000) only [hn_b8, hr_b8, go_sem, ↓reduceIte, Nat.reduceEqDiff, Nat.reduceLT, Nat.reduceLeDiff, Nat.reduceAdd, Nat.reduceMul, Nat.reduceSub, reduceCtorEq, Int.reduceToNat, Int.reduceLT, Int.reduceLE, Int.reduceEq, Int.reduceNe, Int.reduceBEq, Nat.reduceBEq, Int.reduceBNe, Nat.reduceBNe, Int.reduceAdd, Int.reduceSub, Int.reduceMul, Int.reduceNeg]
    refine (RefFile_u M base cap _ (sM1.add h_b8)).mono ?_; rintro _ A2 ⟨bb, cb, rfl, hG2⟩
    have k8 : AH.find (A1.add b8 (ABlk.cells [.int .i64 (fP M), .slice ba (fR M).length ca] 25 2)) b8 = some (ABlk.cells [.int .i64 (fP M), .slice ba (fR M).length ca] 25 2) := find_add_self _ _ _
    have w7 : A2.find b7 = some (ABlk.cells [.int .i64 p, .slice bf R.length cf] 25 2) := hG2.keep.find (fun h => h) (by rw [find_add_ne _ n87]; exact q7)
    have w8 : A2.find b8 = some (ABlk.cells [.int .i64 (fP M), .slice ba (fR M).length ca] 25 2) := hG2.keep.find (fun h => h) k8
    have sL2 : SlcIn A2 1 base cap (L.map e1) := (sL1.add h_b8).keep hG2.keep fun _ _ h => h
    have sM2 : SlcIn A2 1 base cap (M.map e1) := (sM1.add h_b8).keep hG2.keep fun _ _ h => h
    have sS2 : SlcIn A2 4 bf cf (S.map enc) := (sS1.add h_b8).keep hG2.keep fun _ _ h => h
    have ga2 : SlcIn A2 4 ba ca ((fR M).map enc) := (hG1.slc.add h_b8).keep hG2.keep fun _ _ h => h
    have l2 : H.le A2 := AH.le_trans (AH.le_add l1 h_b8.2) hG2.keep.all
    have r7 := (Keep.refl (ex := fun _ => False)).row w7 (n := 2) rfl
    
    simp (dsimp := false) (maxSteps := 4000000) only [go_sem, ↓reduceIte, Nat.reduceEqDiff, Nat.reduceLT, Nat.reduceLeDiff, Nat.reduceAdd, Nat.reduceMul, Nat.reduceSub, reduceCtorEq, Int.reduceToNat, Int.reduceLT, Int.reduceLE, Int.reduceEq, Int.reduceNe, Int.reduceBEq, Nat.reduceBEq, Int.reduceBNe, Nat.reduceBNe, Int.reduceAdd, Int.reduceSub, Int.reduceMul, Int.reduceNeg]
    refine AllB.mk fun b10 h_b10 => ?_; have hn_b10 := h_b10; (try simp only [fresh_add, fresh_set, ne_eq] at hn_b10); have hr_b10 := hn_b10; (try simp only [@eq_comm Nat b10] at hr_b10); simp (dsimp := false) (maxSteps := 4000000) only [hn_b10, hr_b10, go_sem, ↓reduceIte, Nat.reduceEqDiff, Nat.reduceLT, Nat.reduceLeDiff, Nat.reduceAdd, Nat.reduceMul, Nat.reduceSub, reduceCtorEq, Int.reduceToNat, Int.reduceLT, Int.reduceLE, Int.reduceEq, Int.reduceNe, Int.reduceBEq, Nat.reduceBEq, Int.reduceBNe, Nat.reduceBNe, Int.reduceAdd, Int.reduceSub, Int.reduceMul, Int.reduceNeg]
    have m7 : ¬ b10 = b7 := hn_b10.ne_find w7
    have m8 : ¬ b10 = b8 := hn_b10.ne_find w8
    simp (dsimp := false) (maxSteps := 4000000) only [r7, m7, hn_b10, hr_b10, go_sem, ↓reduceIte, Nat.reduceEqDiff, Nat.reduceLT, Nat.reduceLeDiff, Nat.reduceAdd, Nat.reduceMul, Nat.reduceSub, reduceCtorEq, Int.reduceToNat, Int.reduceLT, Int.reduceLE, Int.reduceEq, Int.reduceNe, Int.reduceBEq, Nat.reduceBEq, Int.reduceBNe, Nat.reduceBNe, Int.reduceAdd, Int.reduceSub, Int.reduceMul, Int.reduceNeg]
    refine (Sequence_u (sS2.add h_b10) hw2 hn_).mono ?_; rintro _ A3 ⟨bc, cc, rfl, hG3⟩
    have k10 : AH.find (A2.add b10 (ABlk.cells [.int .i64 (fP M), .slice bb (fR M).length cb] 25 2)) b10 = some (ABlk.cells [.int .i64 (fP M), .slice bb (fR M).length cb] 25 2) := find_add_self _ _ _
    have x7 : A3.find b7 = some (ABlk.cells [.int .i64 p, .slice bf R.length cf] 25 2) := hG3.keep.find (fun h => h) (by rw [find_add_ne _ m7]; exact w7)
    have x8 : A3.find b8 = some (ABlk.cells [.int .i64 (fP M), .slice ba (fR M).length ca] 25 2) := hG3.keep.find (fun h => h) (by rw [find_add_ne _ m8]; exact w8)
    have x10 : A3.find b10 = some (ABlk.cells [.int .i64 (fP M), .slice bb (fR M).length cb] 25 2) := hG3.keep.find (fun h => h) k10
    have sL3 : SlcIn A3 1 base cap (L.map e1) := (sL2.add h_b10).keep hG3.keep fun _ _ h => h
    have sM3 : SlcIn A3 1 base cap (M.map e1) := (sM2.add h_b10).keep hG3.keep fun _ _ h => h
    have sS3 : SlcIn A3 4 bf cf (S.map enc) := (sS2.add h_b10).keep hG3.keep fun _ _ h => h
    have ga3 : SlcIn A3 4 ba ca ((fR M).map enc) := (ga2.add h_b10).keep hG3.keep fun _ _ h => h
    have gb3 : SlcIn A3 4 bb cb ((fR M).map enc) := (hG2.slc.add h_b10).keep hG3.keep fun _ _ h => h
    have l3 : H.le A3 := AH.le_trans (AH.le_add l2 h_b10.2) hG3.keep.all
    have r7 := (Keep.refl (ex := fun _ => False)).row x7 (n := 2) rfl
    
    simp (dsimp := false) (maxSteps := 4000000) only [r7, go_sem, ↓reduceIte, Nat.reduceEqDiff, Nat.reduceLT, Nat.reduceLeDiff, Nat.reduceAdd, Nat.reduceMul, Nat.reduceSub, reduceCtorEq, Int.reduceToNat, Int.reduceLT, Int.reduceLE, Int.reduceEq, Int.reduceNe, Int.reduceBEq, Nat.reduceBEq, Int.reduceBNe, Nat.reduceBNe, Int.reduceAdd, Int.reduceSub, Int.reduceMul, Int.reduceNeg]
    refine (RefSequence_u sS3 hw2 hn_).mono ?_; rintro _ A4 ⟨bd, cd, rfl, hG4⟩
    have r8 := hG4.keep.row x8 (n := 2) rfl
    have r10 := hG4.keep.row x10 (n := 2) rfl
    have sL4 : SlcIn A4 1 base cap (L.map e1) := sL3.keep hG4.keep fun _ _ h => h
    have sM4 : SlcIn A4 1 base cap (M.map e1) := sM3.keep hG4.keep fun _ _ h => h
    have ga4 : SlcIn A4 4 ba ca ((fR M).map enc) := ga3.keep hG4.keep fun _ _ h => h
    have gb4 : SlcIn A4 4 bb cb ((fR M).map enc) := gb3.keep hG4.keep fun _ _ h => h
    have gc4 := hG3.slc.keep hG4.keep fun _ _ h => h
    have l4 : H.le A4 := AH.le_trans l3 hG4.keep.all
    simp (dsimp := false) (maxSteps := 4000000) only [go_sem, ↓reduceIte, Nat.reduceEqDiff, Nat.reduceLT, Nat.reduceLeDiff, Nat.reduceAdd, Nat.reduceMul, Nat.reduceSub, reduceCtorEq, Int.reduceToNat, Int.reduceLT, Int.reduceLE, Int.reduceEq, Int.reduceNe, Int.reduceBEq, Nat.reduceBEq, Int.reduceBNe, Nat.reduceBNe, Int.reduceAdd, Int.reduceSub, Int.reduceMul, Int.reduceNeg]
    refine (few_x sL4 hM).mono ?_; rintro _ _ ⟨rfl, rfl⟩
    simp (dsimp := false) (maxSteps := 4000000) only [go_sem, ↓reduceIte, Nat.reduceEqDiff, Nat.reduceLT, Nat.reduceLeDiff, Nat.reduceAdd, Nat.reduceMul, Nat.reduceSub, reduceCtorEq, Int.reduceToNat, Int.reduceLT, Int.reduceLE, Int.reduceEq, Int.reduceNe, Int.reduceBEq, Nat.reduceBEq, Int.reduceBNe, Nat.reduceBNe, Int.reduceAdd, Int.reduceSub, Int.reduceMul, Int.reduceNeg]
    refine (Next_u sM4 rfl).mono ?_; rintro _ _ ⟨rfl, rfl⟩
    simp (dsimp := false) (maxSteps := 4000000) only [go_sem, ↓reduceIte, Nat.reduceEqDiff, Nat.reduceLT, Nat.reduceLeDiff, Nat.reduceAdd, Nat.reduceMul, Nat.reduceSub, reduceCtorEq, Int.reduceToNat, Int.reduceLT, Int.reduceLE, Int.reduceEq, Int.reduceNe, Int.reduceBEq, Nat.reduceBEq, Int.reduceBNe, Nat.reduceBNe, Int.reduceAdd, Int.reduceSub, Int.reduceMul, Int.reduceNeg]
    refine (few_x sL4 hM).mono ?_; rintro _ _ ⟨rfl, rfl⟩
    simp (dsimp := false) (maxSteps := 4000000) only [go_sem, ↓reduceIte, Nat.reduceEqDiff, Nat.reduceLT, Nat.reduceLeDiff, Nat.reduceAdd, Nat.reduceMul, Nat.reduceSub, reduceCtorEq, Int.reduceToNat, Int.reduceLT, Int.reduceLE, Int.reduceEq, Int.reduceNe, Int.reduceBEq, Nat.reduceBEq, Int.reduceBNe, Nat.reduceBNe, Int.reduceAdd, Int.reduceSub, Int.reduceMul, Int.reduceNeg]
    refine (RefNext_u sM4 rfl).mono ?_; rintro _ _ ⟨rfl, rfl⟩
    simp (dsimp := false) (maxSteps := 4000000) only [go_sem, ↓reduceIte, Nat.reduceEqDiff, Nat.reduceLT, Nat.reduceLeDiff, Nat.reduceAdd, Nat.reduceMul, Nat.reduceSub, reduceCtorEq, Int.reduceToNat, Int.reduceLT, Int.reduceLE, Int.reduceEq, Int.reduceNe, Int.reduceBEq, Nat.reduceBEq, Int.reduceBNe, Nat.reduceBNe, Int.reduceAdd, Int.reduceSub, Int.reduceMul, Int.reduceNeg]
    refine (awake_c _).mono ?_; rintro _ _ ⟨rfl, rfl⟩
    simp (dsimp := false) (maxSteps := 4000000) only [r8, r10, go_sem, ↓reduceIte, Nat.reduceEqDiff, Nat.reduceLT, Nat.reduceLeDiff, Nat.reduceAdd, Nat.reduceMul, Nat.reduceSub, reduceCtorEq, Int.reduceToNat, Int.reduceLT, Int.reduceLE, Int.reduceEq, Int.reduceNe, Int.reduceBEq, Nat.reduceBEq, Int.reduceBNe, Nat.reduceBNe, Int.reduceAdd, Int.reduceSub, Int.reduceMul, Int.reduceNeg]
    refine (sameR_x ga4 gb4).mono ?_; rintro _ _ ⟨rfl, rfl⟩
    simp (dsimp := false) (maxSteps := 4000000) only [go_sem, ↓reduceIte, Nat.reduceEqDiff, Nat.reduceLT, Nat.reduceLeDiff, Nat.reduceAdd, Nat.reduceMul, Nat.reduceSub, reduceCtorEq, Int.reduceToNat, Int.reduceLT, Int.reduceLE, Int.reduceEq, Int.reduceNe, Int.reduceBEq, Nat.reduceBEq, Int.reduceBNe, Nat.reduceBNe, Int.reduceAdd, Int.reduceSub, Int.reduceMul, Int.reduceNeg]
    refine (same_x gc4 hG4.slc).mono ?_; rintro _ _ ⟨rfl, rfl⟩
    simp (dsimp := false) (maxSteps := 4000000) only [go_sem, ↓reduceIte, Nat.reduceEqDiff, Nat.reduceLT, Nat.reduceLeDiff, Nat.reduceAdd, Nat.reduceMul, Nat.reduceSub, reduceCtorEq, Int.reduceToNat, Int.reduceLT, Int.reduceLE, Int.reduceEq, Int.reduceNe, Int.reduceBEq, Nat.reduceBEq, Int.reduceBNe, Nat.reduceBNe, Int.reduceAdd, Int.reduceSub, Int.reduceMul, Int.reduceNeg]
    exact ⟨H, l4, rfl⟩
    
end Go.Proofs.Ytadbmmdmibiikaa.Rose
