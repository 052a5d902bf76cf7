/- rodl: File. -/
import Derived.Test.YtadbmmdmibiikaaRodl6
namespace Go.Proofs.Ytadbmmdmibiikaa.Rodl
set_option linter.unusedSimpArgs false
set_option linter.unusedVariables false
open Go Go.AX Go.Proofs Ty Go.Proofs.Ytadbmmdmibiikaa.File Go.Proofs.Ytadbmmdmibiikaa.Rose
set_option maxHeartbeats 4000000
set_option maxRecDepth 10000

theorem Put_v (x : En) (H : AH) : ACalls Try.prog 50 #[.agg (encE x).toArray] H (fun v H' => v = .tuple #[.agg (enc (pR x)).toArray, .int .i64 (pE x)] ∧ H = H') := Put_u x.1 x.2.1 x.2.2.1 x.2.2.2.1 x.2.2.2.2 H
theorem RefPut_v (x : En) (H : AH) : ACalls Try.prog 51 #[.agg (encE x).toArray] H (fun v H' => v = .tuple #[.agg (enc (pR x)).toArray, .int .i64 (pE x)] ∧ H = H') := RefPut_u x.1 x.2.1 x.2.2.1 x.2.2.2.1 x.2.2.2.2 H
def er : Rc := (4, 0, 0, 0)
def fileS (L : List En) (i : Nat) : List Rc := hd 3 ((L.length + 1 : Nat) : Int) :: ((L.take i).map pR ++ List.replicate (L.length + 1 - i) zr)
def fileP (L : List En) (i : Nat) : List Rc := hd 3 ((L.length + 1 : Nat) : Int) :: (L.take i).map pR
def fileE (L : List En) : List Rc := hd 3 ((L.length + 1 : Nat) : Int) :: (L.map pR ++ [er])
theorem fileS_zero (L : List En) : fileS L 0 = newR 3 (L.length + 1) := rfl
theorem fileS_all (L : List En) : (fileS L L.length).set (L.length + 1) er = fileE L := by
  simp only [fileS, fileE, List.take_length, show L.length + 1 - L.length = 1 from by omega, List.replicate_one, List.set_cons_succ]
  rw [List.set_append_right _ _ (by simp)]
  simp
theorem fileS_len {L : List En} {i : Nat} (h : i ≤ L.length) : (fileS L i).length = L.length + 2 := by simp [fileS]; omega
theorem fileE_len (L : List En) : (fileE L).length = L.length + 2 := by simp [fileE]
theorem fileS_set {L : List En} {i : Nat} {x : En} (h : L[i]? = some x) : (fileS L i).set (i + 1) (pR x) = fileS L (i + 1) := by
  have hi := lt_of_get h
  simp only [fileS, List.set_cons_succ]
  rw [List.set_append_right _ _ (by simp; omega), show L.length + 1 - i = (L.length + 1 - (i + 1)) + 1 from by omega, List.replicate_succ]
  have : i - ((L.take i).map pR).length = 0 := by simp; omega
  rw [this, List.set_cons_zero, List.take_add_one, h]
  simp
theorem mayB_len {L : List En} (h : mayB L = true) : L.length ≤ 64 := by
  simp only [mayB, Bool.and_eq_true, decide_eq_true_eq] at h
  exact h.2
theorem pR_er : pR (4, 0, 0, 0, 0) = er := by decide
theorem File_bad {L : List En} {base : Option Addr} {cap : Nat} {H : AH} (hs : SlcIn H 5 base cap (L.map encE)) (g : mayB L = false) :
    ACalls Try.prog 60 #[.slice base L.length cap] H (fun v H' => v = fbad 1 ∧ H = H') := by
  refine ACalls.enter2 Try.func60 rfl Try.ntmps60 Try.results60 (by simp) ?_; simp (dsimp := false) (maxSteps := 4000000) only [go_sem, ↓reduceIte, Nat.reduceEqDiff, Nat.reduceLT, Nat.reduceLeDiff, Nat.reduceAdd, Nat.reduceMul, Nat.reduceSub, reduceCtorEq, Int.reduceToNat, Int.reduceLT, Int.reduceLE, Int.reduceEq, Int.reduceNe, Int.reduceBEq, Nat.reduceBEq, Int.reduceBNe, Nat.reduceBNe, Int.reduceAdd, Int.reduceSub, Int.reduceMul, Int.reduceNeg]
  refine AllB.mk fun b2 h_b2 => ?_; have hn_b2 := h_b2; (try simp only [fresh_add, fresh_set, ne_eq] at hn_b2); have hr_b2 := hn_b2; (try simp only [@eq_comm Nat b2] at hr_b2); simp (dsimp := false) (maxSteps := 4000000) only [hn_b2, hr_b2, go_sem, ↓reduceIte, Nat.reduceEqDiff, Nat.reduceLT, Nat.reduceLeDiff, Nat.reduceAdd, Nat.reduceMul, Nat.reduceSub, reduceCtorEq, Int.reduceToNat, Int.reduceLT, Int.reduceLE, Int.reduceEq, Int.reduceNe, Int.reduceBEq, Nat.reduceBEq, Int.reduceBNe, Nat.reduceBNe, Int.reduceAdd, Int.reduceSub, Int.reduceMul, Int.reduceNeg]
  refine (table_c L base cap _ (hs.add (by simp only [fresh_add, ne_eq, hn_b2, not_false_eq_true, and_self] : Fresh _ b2))).mono ?_; rintro _ _ ⟨rfl, rfl⟩
  simp (dsimp := false) (maxSteps := 4000000) only [g, hn_b2, hr_b2, go_sem, ↓reduceIte, Nat.reduceEqDiff, Nat.reduceLT, Nat.reduceLeDiff, Nat.reduceAdd, Nat.reduceMul, Nat.reduceSub, reduceCtorEq, Int.reduceToNat, Int.reduceLT, Int.reduceLE, Int.reduceEq, Int.reduceNe, Int.reduceBEq, Nat.reduceBEq, Int.reduceBNe, Nat.reduceBNe, Int.reduceAdd, Int.reduceSub, Int.reduceMul, Int.reduceNeg]
  exact ⟨H, (AH.le_add (AH.le_refl _) ((by simp only [fresh_add, fresh_set, ne_eq, hn_b2, not_false_eq_true, and_self] : Fresh _ b2).2)), (by first | exact ⟨rfl, rfl⟩ | rfl)⟩
theorem File_ok {L : List En} {base : Option Addr} {cap : Nat} {H : AH} (hs : SlcIn H 5 base cap (L.map encE)) (g : mayB L = true) :
    ACalls Try.prog 60 #[.slice base L.length cap] H (fun v H' => ∃ b, Fresh H b ∧ v = .tuple #[.agg #[.int .i64 3, .slice (some ⟨b, 0, none⟩) (L.length + 2) (L.length + 2)], .int .i64 0] ∧ H' = H.add b (.cells ((fileE L).map enc).flatten 64 ((L.length + 2) * 4))) := by
  have hl := mayB_len g
  have e0 := i64_succ (i := L.length) (by omega)
  refine ACalls.enter2 Try.func60 rfl Try.ntmps60 Try.results60 (by simp) ?_; simp (dsimp := false) (maxSteps := 4000000) only [e0, enc_len, enc_scal, enc_take, encE_len, encE_scal, encE_z5, encE_take, go_sem, ↓reduceIte, Nat.reduceEqDiff, Nat.reduceLT, Nat.reduceLeDiff, Nat.reduceAdd, Nat.reduceMul, Nat.reduceSub, reduceCtorEq, Int.reduceToNat, Int.reduceLT, Int.reduceLE, Int.reduceEq, Int.reduceNe, Int.reduceBEq, Nat.reduceBEq, Int.reduceBNe, Nat.reduceBNe, Int.reduceAdd, Int.reduceSub, Int.reduceMul, Int.reduceNeg]
  refine AllB.mk fun b2 h_b2 => ?_; have hn_b2 := h_b2; (try simp only [fresh_add, fresh_set, ne_eq] at hn_b2); have hr_b2 := hn_b2; (try simp only [@eq_comm Nat b2] at hr_b2); simp (dsimp := false) (maxSteps := 4000000) only [e0, enc_len, enc_scal, enc_take, encE_len, encE_scal, encE_z5, encE_take, hn_b2, hr_b2, go_sem, ↓reduceIte, Nat.reduceEqDiff, Nat.reduceLT, Nat.reduceLeDiff, Nat.reduceAdd, Nat.reduceMul, Nat.reduceSub, reduceCtorEq, Int.reduceToNat, Int.reduceLT, Int.reduceLE, Int.reduceEq, Int.reduceNe, Int.reduceBEq, Nat.reduceBEq, Int.reduceBNe, Nat.reduceBNe, Int.reduceAdd, Int.reduceSub, Int.reduceMul, Int.reduceNeg]
  refine (table_c L base cap _ (hs.add (by simp only [fresh_add, ne_eq, hn_b2, not_false_eq_true, and_self] : Fresh _ b2))).mono ?_; rintro _ _ ⟨rfl, rfl⟩
  simp (dsimp := false) (maxSteps := 4000000) only [g, e0, enc_len, enc_scal, enc_take, encE_len, encE_scal, encE_z5, encE_take, hn_b2, hr_b2, go_sem, ↓reduceIte, Nat.reduceEqDiff, Nat.reduceLT, Nat.reduceLeDiff, Nat.reduceAdd, Nat.reduceMul, Nat.reduceSub, reduceCtorEq, Int.reduceToNat, Int.reduceLT, Int.reduceLE, Int.reduceEq, Int.reduceNe, Int.reduceBEq, Nat.reduceBEq, Int.reduceBNe, Nat.reduceBNe, Int.reduceAdd, Int.reduceSub, Int.reduceMul, Int.reduceNeg]
  refine (New_c 3 (L.length + 1) ⟨by decide, by decide, by omega, by omega⟩ _).mono ?_; rintro _ _ ⟨bn, h_bn, rfl, rfl⟩
  have hn_bn := h_bn; (try simp only [fresh_add, fresh_set, ne_eq] at hn_bn); have hr_bn := hn_bn; (try simp only [@eq_comm Nat bn] at hr_bn)
  unfold fv
  simp (dsimp := false) (maxSteps := 4000000) only [e0, enc_len, enc_scal, enc_take, encE_len, encE_scal, encE_z5, encE_take, hn_b2, hr_b2, hn_bn, hr_bn, go_sem, ↓reduceIte, Nat.reduceEqDiff, Nat.reduceLT, Nat.reduceLeDiff, Nat.reduceAdd, Nat.reduceMul, Nat.reduceSub, reduceCtorEq, Int.reduceToNat, Int.reduceLT, Int.reduceLE, Int.reduceEq, Int.reduceNe, Int.reduceBEq, Nat.reduceBEq, Int.reduceBNe, Nat.reduceBNe, Int.reduceAdd, Int.reduceSub, Int.reduceMul, Int.reduceNeg]
  refine AllB.mk fun b4 h_b4 => ?_; have hn_b4 := h_b4; (try simp only [fresh_add, fresh_set, ne_eq] at hn_b4); have hr_b4 := hn_b4; (try simp only [@eq_comm Nat b4] at hr_b4); simp (dsimp := false) (maxSteps := 4000000) only [e0, enc_len, enc_scal, enc_take, encE_len, encE_scal, encE_z5, encE_take, hn_b2, hr_b2, hn_bn, hr_bn, hn_b4, hr_b4, go_sem, ↓reduceIte, Nat.reduceEqDiff, Nat.reduceLT, Nat.reduceLeDiff, Nat.reduceAdd, Nat.reduceMul, Nat.reduceSub, reduceCtorEq, Int.reduceToNat, Int.reduceLT, Int.reduceLE, Int.reduceEq, Int.reduceNe, Int.reduceBEq, Nat.reduceBEq, Int.reduceBNe, Nat.reduceBNe, Int.reduceAdd, Int.reduceSub, Int.reduceMul, Int.reduceNeg]
  rw [← fileS_zero]
  refine AWp.loopo (ι := Nat) (fun i => i ≤ L.length) (fun i => [(21, .int .i64 i), (20, .int .i64 L.length), (19, .slice base L.length cap), (0, .slice base L.length cap), (2, .pointer (some ⟨b2, 0, none⟩)), (4, .pointer (some ⟨b4, 0, none⟩)), (5, .int .i64 0)])
    (fun i => ((H.add b2 (.cells [.int .i64 0, .slice none 0 0] 25 2)).add bn (.cells ((fileS L i).map enc).flatten 64 ((L.length + 1 + 1) * 4))).add b4 (.cells [.int .i64 3, .slice (some ⟨bn, 0, none⟩) (L.length + 1 + 1) (L.length + 1 + 1)] 25 2)) (fun i => L.length - i) 0 (by omega) (FrLe.of_lks ?_) (AH.le_refl _) fun i hi Q again out => ?_
  · simp (dsimp := false) (maxSteps := 4000000) only [e0, enc_len, enc_scal, enc_take, encE_len, encE_scal, encE_z5, encE_take, hn_b2, hr_b2, hn_bn, hr_bn, hn_b4, hr_b4, go_sem, ↓reduceIte, Nat.reduceEqDiff, Nat.reduceLT, Nat.reduceLeDiff, Nat.reduceAdd, Nat.reduceMul, Nat.reduceSub, reduceCtorEq, Int.reduceToNat, Int.reduceLT, Int.reduceLE, Int.reduceEq, Int.reduceNe, Int.reduceBEq, Nat.reduceBEq, Int.reduceBNe, Nat.reduceBNe, Int.reduceAdd, Int.reduceSub, Int.reduceMul, Int.reduceNeg]
  · by_cases h : (i : Int) < L.length
    · obtain ⟨x, hn⟩ := get_some (l := L) (i := i) (by omega)
      obtain ⟨b, o, rfl, hrow, _⟩ := hs.get (map_get (f := encE) hn)
      have ee := i64_succ (i := i) (by omega)
      have e2 : IntKind.i64.wrap (1 + (i : Int)) = ((i + 1 : Nat) : Int) := by rw [i64_eq (by omega) (by omega)]; omega
      have c1 : ((i + 1 : Nat) : Int) < ((L.length + 1 + 1 : Nat) : Int) := by omega
      have nr_hrow := (And.intro (Fresh.ne_row (by simp only [hn_b2] : Fresh H b2) hrow) (And.intro (Fresh.ne_row (by simp only [hn_bn] : Fresh H bn) hrow) (Fresh.ne_row (by simp only [hn_b4] : Fresh H b4) hrow)))
      have hst := put4 (pR x) (L := fileS L i) (i := i + 1) (by rw [fileS_len hi]; omega)
      rw [fileS_set hn] at hst
      have hl4 := flat4 (fileS L i)
      rw [fileS_len hi] at hl4
      have c2 : (i + 1) * 4 + 4 ≤ (L.length + 2) * 4 := by omega
      have c3 : (L.length + 2) * 4 ≤ (L.length + 1 + 1) * 4 := by omega
      
      simp (dsimp := false) (maxSteps := 4000000) only [h, hrow, nr_hrow, e0, enc_len, enc_scal, enc_take, encE_len, encE_scal, encE_z5, encE_take, hn_b2, hr_b2, hn_bn, hr_bn, hn_b4, hr_b4, go_sem, ↓reduceIte, Nat.reduceEqDiff, Nat.reduceLT, Nat.reduceLeDiff, Nat.reduceAdd, Nat.reduceMul, Nat.reduceSub, reduceCtorEq, Int.reduceToNat, Int.reduceLT, Int.reduceLE, Int.reduceEq, Int.reduceNe, Int.reduceBEq, Nat.reduceBEq, Int.reduceBNe, Nat.reduceBNe, Int.reduceAdd, Int.reduceSub, Int.reduceMul, Int.reduceNeg]
      refine AllB.mk fun b7 h_b7 => ?_; have hn_b7 := h_b7; (try simp only [fresh_add, fresh_set, ne_eq] at hn_b7); have hr_b7 := hn_b7; (try simp only [@eq_comm Nat b7] at hr_b7); simp (dsimp := false) (maxSteps := 4000000) only [e0, enc_len, enc_scal, enc_take, encE_len, encE_scal, encE_z5, encE_take, hn_b2, hr_b2, hn_bn, hr_bn, hn_b4, hr_b4, hn_b7, hr_b7, go_sem, ↓reduceIte, Nat.reduceEqDiff, Nat.reduceLT, Nat.reduceLeDiff, Nat.reduceAdd, Nat.reduceMul, Nat.reduceSub, reduceCtorEq, Int.reduceToNat, Int.reduceLT, Int.reduceLE, Int.reduceEq, Int.reduceNe, Int.reduceBEq, Nat.reduceBEq, Int.reduceBNe, Nat.reduceBNe, Int.reduceAdd, Int.reduceSub, Int.reduceMul, Int.reduceNeg]
      refine AWp.gen [.pu, .rd, .pu, .pu, .rd, .ch, .pu, .pu, .pu, .pu, .ch] [0, 1, 0, 4, 0, 16, 48, 112, 112, 255, 767] 6 (_) mixed (by kernel_rfl) (AH.le_refl _) ?_
      simp (dsimp := false) (maxSteps := 4000000) only [AH.le_refl, e0, enc_len, enc_scal, enc_take, encE_len, encE_scal, encE_z5, encE_take, hn_b2, hr_b2, hn_bn, hr_bn, hn_b4, hr_b4, hn_b7, hr_b7, go_sem, ↓reduceIte, Nat.reduceEqDiff, Nat.reduceLT, Nat.reduceLeDiff, Nat.reduceAdd, Nat.reduceMul, Nat.reduceSub, reduceCtorEq, Int.reduceToNat, Int.reduceLT, Int.reduceLE, Int.reduceEq, Int.reduceNe, Int.reduceBEq, Nat.reduceBEq, Int.reduceBNe, Nat.reduceBNe, Int.reduceAdd, Int.reduceSub, Int.reduceMul, Int.reduceNeg]
      refine (Put_v x _).mono ?_; rintro _ _ ⟨rfl, rfl⟩
      simp (dsimp := false) (maxSteps := 4000000) only [AH.le_refl, e2, c1, hst, hl4, c2, c3, ee, e0, enc_len, enc_scal, enc_take, encE_len, encE_scal, encE_z5, encE_take, hn_b2, hr_b2, hn_bn, hr_bn, hn_b4, hr_b4, hn_b7, hr_b7, go_sem, ↓reduceIte, Nat.reduceEqDiff, Nat.reduceLT, Nat.reduceLeDiff, Nat.reduceAdd, Nat.reduceMul, Nat.reduceSub, reduceCtorEq, Int.reduceToNat, Int.reduceLT, Int.reduceLE, Int.reduceEq, Int.reduceNe, Int.reduceBEq, Nat.reduceBEq, Int.reduceBNe, Nat.reduceBNe, Int.reduceAdd, Int.reduceSub, Int.reduceMul, Int.reduceNeg]
      exact again (i + 1) _ _ (by omega) (FrLe.of_lks (by simp (dsimp := false) (maxSteps := 4000000) only [ee, e0, enc_len, enc_scal, enc_take, encE_len, encE_scal, encE_z5, encE_take, hn_b2, hr_b2, hn_bn, hr_bn, hn_b4, hr_b4, hn_b7, hr_b7, go_sem, ↓reduceIte, Nat.reduceEqDiff, Nat.reduceLT, Nat.reduceLeDiff, Nat.reduceAdd, Nat.reduceMul, Nat.reduceSub, reduceCtorEq, Int.reduceToNat, Int.reduceLT, Int.reduceLE, Int.reduceEq, Int.reduceNe, Int.reduceBEq, Nat.reduceBEq, Int.reduceBNe, Nat.reduceBNe, Int.reduceAdd, Int.reduceSub, Int.reduceMul, Int.reduceNeg])) (by refine AH.le_cons ?_ ?_; (show AH.find _ _ = _; simp only [find_add_self, find_add_ne, find_fresh, fresh_add, ne_eq, not_false_eq_true, true_and, and_true, and_self, e0, enc_len, enc_scal, enc_take, encE_len, encE_scal, encE_z5, encE_take, hn_b2, hr_b2, hn_bn, hr_bn, hn_b4, hr_b4, hn_b7, hr_b7]); refine AH.le_cons ?_ ?_; (show AH.find _ _ = _; simp only [find_add_self, find_add_ne, find_fresh, fresh_add, ne_eq, not_false_eq_true, true_and, and_true, and_self, e0, enc_len, enc_scal, enc_take, encE_len, encE_scal, encE_z5, encE_take, hn_b2, hr_b2, hn_bn, hr_bn, hn_b4, hr_b4, hn_b7, hr_b7]); refine AH.le_cons ?_ ?_; (show AH.find _ _ = _; simp only [find_add_self, find_add_ne, find_fresh, fresh_add, ne_eq, not_false_eq_true, true_and, and_true, and_self, e0, enc_len, enc_scal, enc_take, encE_len, encE_scal, encE_z5, encE_take, hn_b2, hr_b2, hn_bn, hr_bn, hn_b4, hr_b4, hn_b7, hr_b7]); (repeat (first | exact AH.le_refl _ | refine AH.le_add ?_ ?_)); all_goals (first | exact AH.le_refl _ | (show AH.find _ _ = _; simp only [find_add_self, find_add_ne, find_fresh, fresh_add, ne_eq, not_false_eq_true, true_and, and_true, and_self, e0, enc_len, enc_scal, enc_take, encE_len, encE_scal, encE_z5, encE_take, hn_b2, hr_b2, hn_bn, hr_bn, hn_b4, hr_b4, hn_b7, hr_b7]))) (by omega)
      
    · obtain rfl : i = L.length := by omega
      simp (dsimp := false) (maxSteps := 4000000) only [h, e0, enc_len, enc_scal, enc_take, encE_len, encE_scal, encE_z5, encE_take, hn_b2, hr_b2, hn_bn, hr_bn, hn_b4, hr_b4, go_sem, ↓reduceIte, Nat.reduceEqDiff, Nat.reduceLT, Nat.reduceLeDiff, Nat.reduceAdd, Nat.reduceMul, Nat.reduceSub, reduceCtorEq, Int.reduceToNat, Int.reduceLT, Int.reduceLE, Int.reduceEq, Int.reduceNe, Int.reduceBEq, Nat.reduceBEq, Int.reduceBNe, Nat.reduceBNe, Int.reduceAdd, Int.reduceSub, Int.reduceMul, Int.reduceNeg]
      refine out _ _ _ (by simp) ?_
      simp (dsimp := false) (maxSteps := 4000000) only [e0, enc_len, enc_scal, enc_take, encE_len, encE_scal, encE_z5, encE_take, hn_b2, hr_b2, hn_bn, hr_bn, hn_b4, hr_b4, go_sem, ↓reduceIte, Nat.reduceEqDiff, Nat.reduceLT, Nat.reduceLeDiff, Nat.reduceAdd, Nat.reduceMul, Nat.reduceSub, reduceCtorEq, Int.reduceToNat, Int.reduceLT, Int.reduceLE, Int.reduceEq, Int.reduceNe, Int.reduceBEq, Nat.reduceBEq, Int.reduceBNe, Nat.reduceBNe, Int.reduceAdd, Int.reduceSub, Int.reduceMul, Int.reduceNeg]
      have e2 : IntKind.i64.wrap (1 + (L.length : Int)) = ((L.length + 1 : Nat) : Int) := by rw [i64_eq (by omega) (by omega)]; omega
      have c1 : ((L.length + 1 : Nat) : Int) < ((L.length + 1 + 1 : Nat) : Int) := by omega
      have hst := put4 er (L := fileS L L.length) (i := L.length + 1) (by rw [fileS_len hi]; omega)
      rw [fileS_all] at hst
      have hl4 := flat4 (fileS L L.length)
      rw [fileS_len hi] at hl4
      have c2 : (L.length + 1) * 4 + 4 ≤ (L.length + 2) * 4 := by omega
      have c3 : (L.length + 2) * 4 ≤ (L.length + 1 + 1) * 4 := by omega
      refine AWp.gen [.pu, .rd, .pu, .pu, .pu, .pu, .ch, .pu, .pu, .pu, .pu, .ch] [0, 1, 0, 4, 12, 0, 32, 96, 224, 224, 511, 1535] 7 (_) mixed (by kernel_rfl) (AH.le_refl _) ?_
      simp (dsimp := false) (maxSteps := 4000000) only [e0, enc_len, enc_scal, enc_take, encE_len, encE_scal, encE_z5, encE_take, hn_b2, hr_b2, hn_bn, hr_bn, hn_b4, hr_b4, go_sem, ↓reduceIte, Nat.reduceEqDiff, Nat.reduceLT, Nat.reduceLeDiff, Nat.reduceAdd, Nat.reduceMul, Nat.reduceSub, reduceCtorEq, Int.reduceToNat, Int.reduceLT, Int.reduceLE, Int.reduceEq, Int.reduceNe, Int.reduceBEq, Nat.reduceBEq, Int.reduceBNe, Nat.reduceBNe, Int.reduceAdd, Int.reduceSub, Int.reduceMul, Int.reduceNeg]
      refine (Put_u 4 0 0 0 0 _).mono ?_; rintro _ _ ⟨rfl, rfl⟩
      rw [pR_er]
      simp (dsimp := false) (maxSteps := 4000000) only [AH.le_refl, e2, c1, hst, hl4, c2, c3, e0, enc_len, enc_scal, enc_take, encE_len, encE_scal, encE_z5, encE_take, hn_b2, hr_b2, hn_bn, hr_bn, hn_b4, hr_b4, go_sem, ↓reduceIte, Nat.reduceEqDiff, Nat.reduceLT, Nat.reduceLeDiff, Nat.reduceAdd, Nat.reduceMul, Nat.reduceSub, reduceCtorEq, Int.reduceToNat, Int.reduceLT, Int.reduceLE, Int.reduceEq, Int.reduceNe, Int.reduceBEq, Nat.reduceBEq, Int.reduceBNe, Nat.reduceBNe, Int.reduceAdd, Int.reduceSub, Int.reduceMul, Int.reduceNeg]
      exact ⟨_, (by refine AH.le_cons ?_ ?_; (show AH.find _ _ = _; simp only [find_add_self, find_add_ne, find_fresh, fresh_add, ne_eq, not_false_eq_true, true_and, and_true, and_self, e0, enc_len, enc_scal, enc_take, encE_len, encE_scal, encE_z5, encE_take, hn_b2, hr_b2, hn_bn, hr_bn, hn_b4, hr_b4]); (repeat (first | exact AH.le_refl _ | refine AH.le_add ?_ ?_)); all_goals (first | exact AH.le_refl _ | (show AH.find _ _ = _; simp only [find_add_self, find_add_ne, find_fresh, fresh_add, ne_eq, not_false_eq_true, true_and, and_true, and_self, e0, enc_len, enc_scal, enc_take, encE_len, encE_scal, encE_z5, encE_take, hn_b2, hr_b2, hn_bn, hr_bn, hn_b4, hr_b4]))), bn, hn_bn.2, rfl, rfl⟩
def fP (L : List En) : Int := if mayB L = true then 3 else 0
def fR (L : List En) : List Rc := if mayB L = true then fileE L else []
def fE (L : List En) : Int := if mayB L = true then 0 else 1
theorem File_u {L : List En} {n : Nat} {base : Option Addr} {cap : Nat} {H : AH} (hs : SlcIn H 5 base cap (L.map encE)) (hn : n = L.length) :
    ACalls Try.prog 60 #[.slice base n cap] H (fun v H' => ∃ b c, v = .tuple #[.agg #[.int .i64 (fP L), .slice b (fR L).length c], .int .i64 (fE L)] ∧ Got H H' 4 b c ((fR L).map enc)) := by
  subst hn
  cases g : mayB L with
  | true =>
    have h1 : fR L = fileE L := by simp [fR, g]
    have hl := mayB_len g
    refine (File_ok hs g).mono fun v H' ⟨b, h2, h3, h4⟩ => ⟨some ⟨b, 0, none⟩, L.length + 2, ?_, ?_⟩
    · rw [h1, fileE_len, h3]; simp [fP, fE, g]
    · rw [h1, h4]; exact Got.add h2 (rows4 _) (by rw [List.length_map, fileE_len]; omega) (by rw [List.length_map, fileE_len]; omega)
  | false =>
    have h1 : fR L = [] := by simp [fR, g]
    refine (File_bad hs g).mono fun v H' ⟨h3, h4⟩ => ⟨none, 0, ?_, ?_⟩
    · rw [h1, h3]; simp [fP, fE, g, fbad]
    · rw [h1, ← h4]; exact Got.nil
end Go.Proofs.Ytadbmmdmibiikaa.Rodl
