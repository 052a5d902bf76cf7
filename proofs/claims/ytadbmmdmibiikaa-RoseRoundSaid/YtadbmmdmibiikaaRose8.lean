/- rose's law RoseRound. -/
import Derived.Test.YtadbmmdmibiikaaRose7
namespace Go.Proofs.Ytadbmmdmibiikaa.Rose
set_option linter.unusedSimpArgs false
set_option linter.unusedVariables false
open Go Go.AX Go.Proofs Ty Go.Proofs.Ytadbmmdmibiikaa.File
set_option maxHeartbeats 4000000
set_option maxRecDepth 10000

theorem bad_of {M : List Int} (g : seqB M = true) {n : Int} (hn : n ∈ M) : 0 ≤ n ∧ n ≤ 5 := by
  simp only [seqB, Bool.and_eq_true, Bool.not_eq_true'] at g
  have := List.any_eq_false.1 g.2 n hn
  simp [bad] at this
  omega
theorem out_fileR {M : List Int} (g : seqB M = true) : outF (fileR M).tail = M := by
  simp only [outF, fileR, List.tail_cons, List.map_map]
  conv => rhs; rw [← List.map_id M]
  apply List.map_congr_left
  intro n hn
  have := bad_of g hn
  simp only [Function.comp, fb, id]
  exact u8_eq (by omega) (by omega)
theorem sq_fileR {M : List Int} (g : seqB M = true) : sq 3 (fileR M) = true := by
  have hl := seqB_len g
  have hg : goodF 3 (fileR M) = true := by
    have : M.length < 256 := by omega
    simp [goodF, fileR, this]
  rw [sq, out_fileR g, hg, g]
  simp [sameF]
theorem RoseRound_c (L : List Int) (base : Option Addr) (cap : Nat) (H : AH) (hs : SlcIn H 1 base cap (L.map e1)) :
    ACalls Try.prog 4 #[.slice base L.length cap] H (fun v H' => v = .bool true ∧ H = H') := by
  have hs2 : SlcIn H 1 base cap ((L.take 70).map e1) := by rw [List.map_take]; exact hs.take
  refine ACalls.enter2 Try.func4 rfl Try.ntmps4 Try.results4 (by simp) ?_; simp (dsimp := false) (maxSteps := 4000000) only [go_sem, ↓reduceIte, Nat.reduceEqDiff, Nat.reduceLT, Nat.reduceLeDiff, Nat.reduceAdd, Nat.reduceMul, Nat.reduceSub, reduceCtorEq, Int.reduceToNat, Int.reduceLT, Int.reduceLE, Int.reduceEq, Int.reduceNe, Int.reduceBEq, Nat.reduceBEq, Int.reduceBNe, Nat.reduceBNe, Int.reduceAdd, Int.reduceSub, Int.reduceMul, Int.reduceNeg]
  generalize hM : L.take 70 = M at hs2
  refine (few_x hs hM).mono ?_; rintro _ _ ⟨rfl, rfl⟩
  simp (dsimp := false) (maxSteps := 4000000) only [go_sem, ↓reduceIte, Nat.reduceEqDiff, Nat.reduceLT, Nat.reduceLeDiff, Nat.reduceAdd, Nat.reduceMul, Nat.reduceSub, reduceCtorEq, Int.reduceToNat, Int.reduceLT, Int.reduceLE, Int.reduceEq, Int.reduceNe, Int.reduceBEq, Nat.reduceBEq, Int.reduceBNe, Nat.reduceBNe, Int.reduceAdd, Int.reduceSub, Int.reduceMul, Int.reduceNeg]
  refine (File_u M base cap _ hs2).mono ?_; rintro _ A1 ⟨ba, ca, rfl, hG1⟩
  cases g : seqB M with
  | false =>
    have f1 : fR M = [] := by simp [fR, g]
    have f2 : fP M = 0 := by simp [fP, g]
    have f3 : fE M = 1 := by simp [fE, g]
    rw [f1]
    
    simp (dsimp := false) (maxSteps := 4000000) only [f2, f3, go_sem, ↓reduceIte, Nat.reduceEqDiff, Nat.reduceLT, Nat.reduceLeDiff, Nat.reduceAdd, Nat.reduceMul, Nat.reduceSub, reduceCtorEq, Int.reduceToNat, Int.reduceLT, Int.reduceLE, Int.reduceEq, Int.reduceNe, Int.reduceBEq, Nat.reduceBEq, Int.reduceBNe, Nat.reduceBNe, Int.reduceAdd, Int.reduceSub, Int.reduceMul, Int.reduceNeg]
    refine AllB.mk fun b4 h_b4 => ?_; have hn_b4 := h_b4; (try simp only [fresh_add, fresh_set, ne_eq] at hn_b4); have hr_b4 := hn_b4; (try simp only [@eq_comm Nat b4] at hr_b4); simp (dsimp := false) (maxSteps := 4000000) only [hn_b4, hr_b4, go_sem, ↓reduceIte, Nat.reduceEqDiff, Nat.reduceLT, Nat.reduceLeDiff, Nat.reduceAdd, Nat.reduceMul, Nat.reduceSub, reduceCtorEq, Int.reduceToNat, Int.reduceLT, Int.reduceLE, Int.reduceEq, Int.reduceNe, Int.reduceBEq, Nat.reduceBEq, Int.reduceBNe, Nat.reduceBNe, Int.reduceAdd, Int.reduceSub, Int.reduceMul, Int.reduceNeg]
    refine (awake_c _).mono ?_; rintro _ _ ⟨rfl, rfl⟩
    simp (dsimp := false) (maxSteps := 4000000) only [hn_b4, hr_b4, go_sem, ↓reduceIte, Nat.reduceEqDiff, Nat.reduceLT, Nat.reduceLeDiff, Nat.reduceAdd, Nat.reduceMul, Nat.reduceSub, reduceCtorEq, Int.reduceToNat, Int.reduceLT, Int.reduceLE, Int.reduceEq, Int.reduceNe, Int.reduceBEq, Nat.reduceBEq, Int.reduceBNe, Nat.reduceBNe, Int.reduceAdd, Int.reduceSub, Int.reduceMul, Int.reduceNeg]
    exact ⟨H, AH.le_add hG1.keep.all h_b4.2, rfl⟩
    
  | true =>
    obtain ⟨hl0, hl1⟩ := seqB_len g
    have f1 : fR M = fileR M := by simp [fR, g]
    have f2 : fP M = 3 := by simp [fP, g]
    have f3 : fE M = 0 := by simp [fE, g]
    have hok := fR_ok M
    rw [f1] at hG1 hok ⊢
    simp (dsimp := false) (maxSteps := 4000000) only [f2, f3, go_sem, ↓reduceIte, Nat.reduceEqDiff, Nat.reduceLT, Nat.reduceLeDiff, Nat.reduceAdd, Nat.reduceMul, Nat.reduceSub, reduceCtorEq, Int.reduceToNat, Int.reduceLT, Int.reduceLE, Int.reduceEq, Int.reduceNe, Int.reduceBEq, Nat.reduceBEq, Int.reduceBNe, Nat.reduceBNe, Int.reduceAdd, Int.reduceSub, Int.reduceMul, Int.reduceNeg]
    refine AllB.mk fun b4 h_b4 => ?_; have hn_b4 := h_b4; (try simp only [fresh_add, fresh_set, ne_eq] at hn_b4); have hr_b4 := hn_b4; (try simp only [@eq_comm Nat b4] at hr_b4); simp (dsimp := false) (maxSteps := 4000000) only [hn_b4, hr_b4, go_sem, ↓reduceIte, Nat.reduceEqDiff, Nat.reduceLT, Nat.reduceLeDiff, Nat.reduceAdd, Nat.reduceMul, Nat.reduceSub, reduceCtorEq, Int.reduceToNat, Int.reduceLT, Int.reduceLE, Int.reduceEq, Int.reduceNe, Int.reduceBEq, Nat.reduceBEq, Int.reduceBNe, Nat.reduceBNe, Int.reduceAdd, Int.reduceSub, Int.reduceMul, Int.reduceNeg]
    refine (Sequence_u (p := 3) (R := fileR M) (hG1.slc.add h_b4) hok rfl).mono ?_; rintro _ A2 ⟨bc, cc, rfl, hG2⟩
    have f4 : sO 3 (fileR M) = M := by rw [sO, if_pos (sq_fileR g), out_fileR g]
    have f5 : sE 3 (fileR M) = 0 := by rw [sE, if_pos (sq_fileR g)]
    rw [f4] at hG2 ⊢
    have sM : SlcIn A2 1 base cap (M.map e1) := ((hs2.keep hG1.keep fun _ _ h => h).add h_b4).keep hG2.keep fun _ _ h => h
    have l2 : H.le A2 := AH.le_trans (AH.le_add hG1.keep.all h_b4.2) hG2.keep.all
    clear hn_b4 hr_b4
    
    have e2 : IntKind.i64.wrap (2 * (M.length : Int)) = ((2 * M.length : Nat) : Int) := by rw [i64_eq (by omega) (by omega)]; omega
    simp (dsimp := false) (maxSteps := 4000000) only [f5, go_sem, ↓reduceIte, Nat.reduceEqDiff, Nat.reduceLT, Nat.reduceLeDiff, Nat.reduceAdd, Nat.reduceMul, Nat.reduceSub, reduceCtorEq, Int.reduceToNat, Int.reduceLT, Int.reduceLE, Int.reduceEq, Int.reduceNe, Int.reduceBEq, Nat.reduceBEq, Int.reduceBNe, Nat.reduceBNe, Int.reduceAdd, Int.reduceSub, Int.reduceMul, Int.reduceNeg]
    refine (same_x hG2.slc sM).mono ?_; rintro _ _ ⟨rfl, rfl⟩
    simp (dsimp := false) (maxSteps := 4000000) only [go_sem, ↓reduceIte, Nat.reduceEqDiff, Nat.reduceLT, Nat.reduceLeDiff, Nat.reduceAdd, Nat.reduceMul, Nat.reduceSub, reduceCtorEq, Int.reduceToNat, Int.reduceLT, Int.reduceLE, Int.reduceEq, Int.reduceNe, Int.reduceBEq, Nat.reduceBEq, Int.reduceBNe, Nat.reduceBNe, Int.reduceAdd, Int.reduceSub, Int.reduceMul, Int.reduceNeg]
    refine AWp.loopo (ι := Nat) (fun i => i ≤ 2 * M.length) (fun i => [(9, .int .i64 i), (8, .int .i64 ((i % M.length : Nat) : Int)), (3, .slice base M.length cap)])
      (fun _ => A2) (fun i => 2 * M.length - i) 0 (by omega) (FrLe.of_lks ?_) (AH.le_refl _) fun i hi Q again out => ?_
    · simp (dsimp := false) (maxSteps := 4000000) only [Nat.zero_mod, go_sem, ↓reduceIte, Nat.reduceEqDiff, Nat.reduceLT, Nat.reduceLeDiff, Nat.reduceAdd, Nat.reduceMul, Nat.reduceSub, reduceCtorEq, Int.reduceToNat, Int.reduceLT, Int.reduceLE, Int.reduceEq, Int.reduceNe, Int.reduceBEq, Nat.reduceBEq, Int.reduceBNe, Nat.reduceBNe, Int.reduceAdd, Int.reduceSub, Int.reduceMul, Int.reduceNeg]
    · have hml : i % M.length < M.length := Nat.mod_lt _ (by omega)
      by_cases h : (i : Int) < ((2 * M.length : Nat) : Int)
      · obtain ⟨n, hn⟩ := get_some (l := M) (i := i % M.length) hml
        obtain ⟨b, o, rfl, hrd⟩ := get1 sM hn
        have ee := i64_succ (i := i) (by omega)
        have ok : okAt M ((i % M.length : Nat) : Int) := ⟨g, by omega, by omega⟩
        have g1 : nN M ((i % M.length : Nat) : Int) = n := by rw [nN, if_pos ok, Int.toNat_natCast, List.getD_eq_getElem?_getD, hn]; rfl
        have g2 : nA M ((i % M.length : Nat) : Int) = (((i + 1) % M.length : Nat) : Int) := by
          rw [nA, if_pos ok, Int.toNat_natCast, Nat.mod_add_mod]
        have g3 : nE M ((i % M.length : Nat) : Int) = 0 := by rw [nE, if_pos ok]
        have em : ((i : Nat) : Int).tmod M.length = ((i % M.length : Nat) : Int) := by
          rw [Int.tmod_eq_emod_of_nonneg (by omega)]; rfl
        have b2 : ((i % M.length : Nat) : Int) < M.length := by omega
        have b3 : ¬ (M.length : Int) = 0 := by omega
        simp (dsimp := false) (maxSteps := 4000000) only [h, e2, go_sem, ↓reduceIte, Nat.reduceEqDiff, Nat.reduceLT, Nat.reduceLeDiff, Nat.reduceAdd, Nat.reduceMul, Nat.reduceSub, reduceCtorEq, Int.reduceToNat, Int.reduceLT, Int.reduceLE, Int.reduceEq, Int.reduceNe, Int.reduceBEq, Nat.reduceBEq, Int.reduceBNe, Nat.reduceBNe, Int.reduceAdd, Int.reduceSub, Int.reduceMul, Int.reduceNeg]
        refine (Next_u sM rfl).mono ?_; rintro _ _ ⟨rfl, rfl⟩
        simp (dsimp := false) (maxSteps := 4000000) only [g1, g2, g3, em, b2, b3, hrd, ee, go_sem, ↓reduceIte, Nat.reduceEqDiff, Nat.reduceLT, Nat.reduceLeDiff, Nat.reduceAdd, Nat.reduceMul, Nat.reduceSub, reduceCtorEq, Int.reduceToNat, Int.reduceLT, Int.reduceLE, Int.reduceEq, Int.reduceNe, Int.reduceBEq, Nat.reduceBEq, Int.reduceBNe, Nat.reduceBNe, Int.reduceAdd, Int.reduceSub, Int.reduceMul, Int.reduceNeg]
        exact again (i + 1) _ _ (by omega) (FrLe.of_lks (by simp (dsimp := false) (maxSteps := 4000000) only [go_sem, ↓reduceIte, Nat.reduceEqDiff, Nat.reduceLT, Nat.reduceLeDiff, Nat.reduceAdd, Nat.reduceMul, Nat.reduceSub, reduceCtorEq, Int.reduceToNat, Int.reduceLT, Int.reduceLE, Int.reduceEq, Int.reduceNe, Int.reduceBEq, Nat.reduceBEq, Int.reduceBNe, Nat.reduceBNe, Int.reduceAdd, Int.reduceSub, Int.reduceMul, Int.reduceNeg])) (AH.le_refl _) (by omega)
      · obtain rfl : i = 2 * M.length := by omega
        have z : ((2 * M.length) % M.length) = 0 := Nat.mul_mod_left _ _
        simp (dsimp := false) (maxSteps := 4000000) only [h, e2, go_sem, ↓reduceIte, Nat.reduceEqDiff, Nat.reduceLT, Nat.reduceLeDiff, Nat.reduceAdd, Nat.reduceMul, Nat.reduceSub, reduceCtorEq, Int.reduceToNat, Int.reduceLT, Int.reduceLE, Int.reduceEq, Int.reduceNe, Int.reduceBEq, Nat.reduceBEq, Int.reduceBNe, Nat.reduceBNe, Int.reduceAdd, Int.reduceSub, Int.reduceMul, Int.reduceNeg]
        refine out _ _ _ (by simp) ?_
        simp (dsimp := false) (maxSteps := 4000000) only [go_sem, ↓reduceIte, Nat.reduceEqDiff, Nat.reduceLT, Nat.reduceLeDiff, Nat.reduceAdd, Nat.reduceMul, Nat.reduceSub, reduceCtorEq, Int.reduceToNat, Int.reduceLT, Int.reduceLE, Int.reduceEq, Int.reduceNe, Int.reduceBEq, Nat.reduceBEq, Int.reduceBNe, Nat.reduceBNe, Int.reduceAdd, Int.reduceSub, Int.reduceMul, Int.reduceNeg]
        refine (awake_c _).mono ?_; rintro _ _ ⟨rfl, rfl⟩
        simp (dsimp := false) (maxSteps := 4000000) only [z, Int.natCast_zero, go_sem, ↓reduceIte, Nat.reduceEqDiff, Nat.reduceLT, Nat.reduceLeDiff, Nat.reduceAdd, Nat.reduceMul, Nat.reduceSub, reduceCtorEq, Int.reduceToNat, Int.reduceLT, Int.reduceLE, Int.reduceEq, Int.reduceNe, Int.reduceBEq, Nat.reduceBEq, Int.reduceBNe, Nat.reduceBNe, Int.reduceAdd, Int.reduceSub, Int.reduceMul, Int.reduceNeg]
        exact ⟨H, l2, rfl⟩
end Go.Proofs.Ytadbmmdmibiikaa.Rose
