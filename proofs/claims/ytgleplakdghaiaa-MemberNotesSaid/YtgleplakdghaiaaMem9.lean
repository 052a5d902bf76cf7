/- member: the fixed fact. -/
import Derived.Test.YtgleplakdghaiaaMem8
namespace Go.Proofs.Ytgleplakdghaiaa.Mem
set_option linter.unusedSimpArgs false
set_option linter.unusedVariables false
open Go Go.AX Go.Proofs Ty
set_option maxHeartbeats 4000000
set_option maxRecDepth 10000

theorem Keep.undel {A B : AH} {b : Nat} (h : Keep A B (· = b)) (hf : Fresh (A.del b) b) : Keep (A.del b) B fun _ => False := ⟨h.w0, fun b' _ hk => by
  by_cases e : b' = b
  · subst e
    rcases hk with hk | hk
    · rw [hf.2] at hk; cases hk
    · have := hf.1; omega
  · rw [find_del, if_neg e]
    refine h.at_ b' e ?_
    rw [find_del, if_neg e] at hk
    exact hk⟩
theorem ownE (H : AH) (b e : Nat) (x : Ent) : SlcIn (H.add b (.cells [.int .i64 x.1, .int .i64 x.2.1, .int .i64 x.2.2.1, .int .i64 x.2.2.2.1, .int .i64 x.2.2.2.2] e 5)) 5 (some ⟨b, 0, none⟩) 1 ([x].map encE) :=
  SlcIn.own (R := [x].map encE) (rowsE _) (by simp) (by simp)
def TT (b17 b19 : Nat) : List Tb := [(some ⟨b17, 0, none⟩, 1, [(1, 1, 0, 1, 0)]), (some ⟨b19, 0, none⟩, 1, [(1, 2, 0, 1, 0)])]
theorem awake_c (H : AH) : ACalls Try.prog 6 #[] H (fun v H' => v = .bool true ∧ H = H') := by
  refine ACalls.enter2 Try.func6 rfl Try.ntmps6 Try.results6 (by simp) ?_; simp (dsimp := false) (maxSteps := 4000000) only [go_sem, ↓reduceIte, Nat.reduceEqDiff, Nat.reduceLT, Nat.reduceLeDiff, Nat.reduceAdd, Nat.reduceMul, Nat.reduceSub, reduceCtorEq, Int.reduceToNat, Int.reduceLT, Int.reduceLE, Int.reduceEq, Int.reduceNe, Int.reduceBEq, Nat.reduceBEq, Int.reduceBNe, Nat.reduceBNe, Int.reduceAdd, Int.reduceSub, Int.reduceMul, Int.reduceNeg]
  refine (New_c 2 (by omega) (by omega) H).mono ?_; rintro _ A1 ⟨bm, ba, rfl, hm1, hfm, hfa, hK1⟩
  simp (dsimp := false) (maxSteps := 4000000) only [go_sem, ↓reduceIte, Nat.reduceEqDiff, Nat.reduceLT, Nat.reduceLeDiff, Nat.reduceAdd, Nat.reduceMul, Nat.reduceSub, reduceCtorEq, Int.reduceToNat, Int.reduceLT, Int.reduceLE, Int.reduceEq, Int.reduceNe, Int.reduceBEq, Nat.reduceBEq, Int.reduceBNe, Nat.reduceBNe, Int.reduceAdd, Int.reduceSub, Int.reduceMul, Int.reduceNeg]
  refine AllB.mk fun b17 h_b17 => ?_
  simp (dsimp := false) (maxSteps := 4000000) only [go_sem, ↓reduceIte, Nat.reduceEqDiff, Nat.reduceLT, Nat.reduceLeDiff, Nat.reduceAdd, Nat.reduceMul, Nat.reduceSub, reduceCtorEq, Int.reduceToNat, Int.reduceLT, Int.reduceLE, Int.reduceEq, Int.reduceNe, Int.reduceBEq, Nat.reduceBEq, Int.reduceBNe, Nat.reduceBNe, Int.reduceAdd, Int.reduceSub, Int.reduceMul, Int.reduceNeg]
  refine AllB.mk fun b19 h_b19 => ?_
  simp (dsimp := false) (maxSteps := 4000000) only [go_sem, ↓reduceIte, Nat.reduceEqDiff, Nat.reduceLT, Nat.reduceLeDiff, Nat.reduceAdd, Nat.reduceMul, Nat.reduceSub, reduceCtorEq, Int.reduceToNat, Int.reduceLT, Int.reduceLE, Int.reduceEq, Int.reduceNe, Int.reduceBEq, Nat.reduceBEq, Int.reduceBNe, Nat.reduceBNe, Int.reduceAdd, Int.reduceSub, Int.reduceMul, Int.reduceNeg]
  refine AllB.mk fun b20 h_b20 => ?_
  simp (dsimp := false) (maxSteps := 4000000) only [go_sem, ↓reduceIte, Nat.reduceEqDiff, Nat.reduceLT, Nat.reduceLeDiff, Nat.reduceAdd, Nat.reduceMul, Nat.reduceSub, reduceCtorEq, Int.reduceToNat, Int.reduceLT, Int.reduceLE, Int.reduceEq, Int.reduceNe, Int.reduceBEq, Nat.reduceBEq, Int.reduceBNe, Nat.reduceBNe, Int.reduceAdd, Int.reduceSub, Int.reduceMul, Int.reduceNeg]
  have hK2 : Keep A1 (((A1.add b17 (.cells [.int .i64 1, .int .i64 1, .int .i64 0, .int .i64 1, .int .i64 0] 50 5)).add b19 (.cells [.int .i64 1, .int .i64 2, .int .i64 0, .int .i64 1, .int .i64 0] 50 5)).add b20 (.cells [.slice (some ⟨b17, 0, none⟩) 1 1, .slice (some ⟨b19, 0, none⟩) 1 1] 51 2)) fun _ => False := ((Keep.refl.nw h_b17).nw h_b19).nw h_b20
  have hT : TabIn (((A1.add b17 (.cells [.int .i64 1, .int .i64 1, .int .i64 0, .int .i64 1, .int .i64 0] 50 5)).add b19 (.cells [.int .i64 1, .int .i64 2, .int .i64 0, .int .i64 1, .int .i64 0] 50 5)).add b20 (.cells [.slice (some ⟨b17, 0, none⟩) 1 1, .slice (some ⟨b19, 0, none⟩) 1 1] 51 2)) (some ⟨b20, 0, none⟩) 2 (TT b17 b19) := by
    refine ⟨SlcIn.own (R := [[.slice (some ⟨b17, 0, none⟩) 1 1], [.slice (some ⟨b19, 0, none⟩) 1 1]]) (by simp) (by simp) (by simp), fun x hx => ?_⟩
    simp only [TT, List.mem_cons, List.not_mem_nil, or_false] at hx
    rcases hx with rfl | rfl
    · exact ⟨((ownE A1 b17 50 (1, 1, 0, 1, 0)).add h_b19).add h_b20, by simp⟩
    · exact ⟨(ownE (A1.add b17 (.cells [.int .i64 1, .int .i64 1, .int .i64 0, .int .i64 1, .int .i64 0] 50 5)) b19 50 (1, 2, 0, 1, 0)).add h_b20, by simp⟩
  obtain ⟨szA, hrA, _⟩ := hm1.row
  have n17 : b17 ≠ ba := h_b17.ne_find hrA
  have n19 : b19 ≠ ba := h_b19.ne_find ((Keep.refl.nw h_b17).find (ex := fun _ => False) (fun h => h) hrA)
  have n20 : b20 ≠ ba := h_b20.ne_find (((Keep.refl.nw h_b17).nw h_b19).find (ex := fun _ => False) (fun h => h) hrA)
  clear hrA
  generalize (((A1.add b17 (.cells [.int .i64 1, .int .i64 1, .int .i64 0, .int .i64 1, .int .i64 0] 50 5)).add b19 (.cells [.int .i64 1, .int .i64 2, .int .i64 0, .int .i64 1, .int .i64 0] 50 5)).add b20 (.cells [.slice (some ⟨b17, 0, none⟩) 1 1, .slice (some ⟨b19, 0, none⟩) 1 1] 51 2)) = A2 at hK2 hT ⊢
  have hm2 := hm1.keep hK2 (fun h => h) (fun h => h)
  have hKH := hK1.trans hK2
  refine (Record_c hm2 (by simp)).mono ?_; rintro _ _ ⟨rfl, rfl⟩
  have d1 : digs (numB (isB (List.replicate 2 0)) (List.replicate 2 (0 : Int)).length) = [0, 0, 0, 3] := by decide +kernel
  rw [d1]
  simp (dsimp := false) (maxSteps := 4000000) only [go_sem, ↓reduceIte, Nat.reduceEqDiff, Nat.reduceLT, Nat.reduceLeDiff, Nat.reduceAdd, Nat.reduceMul, Nat.reduceSub, reduceCtorEq, Int.reduceToNat, Int.reduceLT, Int.reduceLE, Int.reduceEq, Int.reduceNe, Int.reduceBEq, Nat.reduceBEq, Int.reduceBNe, Nat.reduceBNe, Int.reduceAdd, Int.reduceSub, Int.reduceMul, Int.reduceNeg]
  refine AllB.mk fun b4 h_b4 => ?_
  simp (dsimp := false) (maxSteps := 4000000) only [go_sem, ↓reduceIte, Nat.reduceEqDiff, Nat.reduceLT, Nat.reduceLeDiff, Nat.reduceAdd, Nat.reduceMul, Nat.reduceSub, reduceCtorEq, Int.reduceToNat, Int.reduceLT, Int.reduceLE, Int.reduceEq, Int.reduceNe, Int.reduceBEq, Nat.reduceBEq, Int.reduceBNe, Nat.reduceBNe, Int.reduceAdd, Int.reduceSub, Int.reduceMul, Int.reduceNeg]
  have hKH3 := hKH.nw (k := .cells [.int .u8 0, .int .u8 0, .int .u8 0, .int .u8 3] 44 4) h_b4
  have hm3 := hm2.keep ((Keep.refl (H := A2) (ex := fun _ => False)).nw (k := .cells [.int .u8 0, .int .u8 0, .int .u8 0, .int .u8 3] 44 4) h_b4) (fun h => h) (fun h => h)
  have n4 : b4 ≠ ba := by obtain ⟨_, h1, _⟩ := hm2.row; exact h_b4.ne_find h1
  obtain ⟨_, hf0⟩ := hKH3.dels hfa
  have hT0 : TabIn ((A2.add b4 (.cells [.int .u8 0, .int .u8 0, .int .u8 0, .int .u8 3] 44 4)).del ba) (some ⟨b20, 0, none⟩) 2 (TT b17 b19) := by
    refine ⟨(hT.out.add h_b4).keep Keep.del (fun a ha => by cases ha; exact n20), fun x hx => ⟨((hT.inn x hx).1.add h_b4).keep Keep.del (fun a ha => ?_), (hT.inn x hx).2⟩⟩
    simp only [TT, List.mem_cons, List.not_mem_nil, or_false] at hx
    rcases hx with rfl | rfl
    · cases ha; exact n17
    · cases ha; exact n19
  have h4 : (A2.add b4 (.cells [.int .u8 0, .int .u8 0, .int .u8 0, .int .u8 3] 44 4)).find b4 = some (.cells [.int .u8 0, .int .u8 0, .int .u8 0, .int .u8 3] 44 4) := find_add_self _ _ _
  generalize A2.add b4 (.cells [.int .u8 0, .int .u8 0, .int .u8 0, .int .u8 3] 44 4) = A3 at hKH3 hm3 hf0 hT0 h4 ⊢
  clear hT hm1 hm2 hK1 hK2 hKH h_b4
  refine AWp.loopr (ι := Nat) (fun i B => i ≤ 3 ∧ MemAt B bm ba [0, (i : Int)] ∧ Keep A3 B (· = ba)) (fun i => [(5, .int .i64 i), (1, .pointer (some ⟨bm, 0, none⟩)), (3, .slice (some ⟨b20, 0, none⟩) 2 2), (4, .pointer (some ⟨b4, 0, none⟩))]) (fun i => 3 - i) 0 A3
    ⟨by omega, hm3, Keep.refl⟩ (FrLe.of_lks ?_) (AH.le_refl _) fun i B hi Q again out => ?_
  · simp (dsimp := false) (maxSteps := 4000000) only [go_sem, ↓reduceIte, Nat.reduceEqDiff, Nat.reduceLT, Nat.reduceLeDiff, Nat.reduceAdd, Nat.reduceMul, Nat.reduceSub, reduceCtorEq, Int.reduceToNat, Int.reduceLT, Int.reduceLE, Int.reduceEq, Int.reduceNe, Int.reduceBEq, Nat.reduceBEq, Int.reduceBNe, Nat.reduceBNe, Int.reduceAdd, Int.reduceSub, Int.reduceMul, Int.reduceNeg]
  obtain ⟨hi, hmB, hKB⟩ := hi
  by_cases hlt : (i : Int) < 3
  · have ee := i64_succ (i := i) (by omega)
    simp (dsimp := false) (maxSteps := 4000000) only [hlt, go_sem, ↓reduceIte, Nat.reduceEqDiff, Nat.reduceLT, Nat.reduceLeDiff, Nat.reduceAdd, Nat.reduceMul, Nat.reduceSub, reduceCtorEq, Int.reduceToNat, Int.reduceLT, Int.reduceLE, Int.reduceEq, Int.reduceNe, Int.reduceBEq, Nat.reduceBEq, Int.reduceBNe, Nat.reduceBNe, Int.reduceAdd, Int.reduceSub, Int.reduceMul, Int.reduceNeg]
    refine AllB.mk fun b29 h_b29 => ?_
    simp (dsimp := false) (maxSteps := 4000000) only [go_sem, ↓reduceIte, Nat.reduceEqDiff, Nat.reduceLT, Nat.reduceLeDiff, Nat.reduceAdd, Nat.reduceMul, Nat.reduceSub, reduceCtorEq, Int.reduceToNat, Int.reduceLT, Int.reduceLE, Int.reduceEq, Int.reduceNe, Int.reduceBEq, Nat.reduceBEq, Int.reduceBNe, Nat.reduceBNe, Int.reduceAdd, Int.reduceSub, Int.reduceMul, Int.reduceNeg]
    have hmN := hmB.keep ((Keep.refl (H := B) (ex := fun _ => False)).nw (k := .amap [(.int .i64 1, .int .u8 7)]) h_b29) (fun h => h) (fun h => h)
    have hnm : nM [1] (TT b17 b19) [0, (i : Int)] (min [0, (i : Int)].length (TT b17 b19).length) = [0, ((i + 1 : Nat) : Int)] := by
      have hc : i = 0 ∨ i = 1 ∨ i = 2 := by omega
      rcases hc with rfl | rfl | rfl <;> rfl
    refine (Note_c (gv := fun _ => 7) (ks := [1]) hT0 ((Keep.undel hKB hf0).nw h_b29) hf0 hmN (find_add_self _ _ _) (by simp) (fun x hx => by simp at hx; omega)).mono ?_; rintro _ B2 ⟨rfl, hmB2, hKB2⟩
    rw [hnm] at hmB2
    simp (dsimp := false) (maxSteps := 4000000) only [ee, go_sem, ↓reduceIte, Nat.reduceEqDiff, Nat.reduceLT, Nat.reduceLeDiff, Nat.reduceAdd, Nat.reduceMul, Nat.reduceSub, reduceCtorEq, Int.reduceToNat, Int.reduceLT, Int.reduceLE, Int.reduceEq, Int.reduceNe, Int.reduceBEq, Nat.reduceBEq, Int.reduceBNe, Nat.reduceBNe, Int.reduceAdd, Int.reduceSub, Int.reduceMul, Int.reduceNeg]
    exact again (i + 1) _ B2 _ ⟨by omega, hmB2, (hKB.trans (Keep.add h_b29)).trans hKB2⟩ (FrLe.of_lks (by simp (dsimp := false) (maxSteps := 4000000) only [go_sem, ↓reduceIte, Nat.reduceEqDiff, Nat.reduceLT, Nat.reduceLeDiff, Nat.reduceAdd, Nat.reduceMul, Nat.reduceSub, reduceCtorEq, Int.reduceToNat, Int.reduceLT, Int.reduceLE, Int.reduceEq, Int.reduceNe, Int.reduceBEq, Nat.reduceBEq, Int.reduceBNe, Nat.reduceBNe, Int.reduceAdd, Int.reduceSub, Int.reduceMul, Int.reduceNeg])) (AH.le_refl _) (by omega)
  obtain rfl : i = 3 := by omega
  have d2 : digs (numB (isB [0, ((3 : Nat) : Int)]) [0, ((3 : Nat) : Int)].length) = [0, 0, 0, 1] := by decide +kernel
  have t1 : thereM [0, ((3 : Nat) : Int)] 1 = false := by decide +kernel
  simp (dsimp := false) (maxSteps := 4000000) only [hlt, go_sem, ↓reduceIte, Nat.reduceEqDiff, Nat.reduceLT, Nat.reduceLeDiff, Nat.reduceAdd, Nat.reduceMul, Nat.reduceSub, reduceCtorEq, Int.reduceToNat, Int.reduceLT, Int.reduceLE, Int.reduceEq, Int.reduceNe, Int.reduceBEq, Nat.reduceBEq, Int.reduceBNe, Nat.reduceBNe, Int.reduceAdd, Int.reduceSub, Int.reduceMul, Int.reduceNeg]
  refine out _ _ _ (by simp) ?_
  simp (dsimp := false) (maxSteps := 4000000) only [go_sem, ↓reduceIte, Nat.reduceEqDiff, Nat.reduceLT, Nat.reduceLeDiff, Nat.reduceAdd, Nat.reduceMul, Nat.reduceSub, reduceCtorEq, Int.reduceToNat, Int.reduceLT, Int.reduceLE, Int.reduceEq, Int.reduceNe, Int.reduceBEq, Nat.reduceBEq, Int.reduceBNe, Nat.reduceBNe, Int.reduceAdd, Int.reduceSub, Int.reduceMul, Int.reduceNeg]
  refine (Record_c hmB (by simp)).mono ?_; rintro _ _ ⟨rfl, rfl⟩
  rw [d2]
  simp (dsimp := false) (maxSteps := 4000000) only [go_sem, ↓reduceIte, Nat.reduceEqDiff, Nat.reduceLT, Nat.reduceLeDiff, Nat.reduceAdd, Nat.reduceMul, Nat.reduceSub, reduceCtorEq, Int.reduceToNat, Int.reduceLT, Int.reduceLE, Int.reduceEq, Int.reduceNe, Int.reduceBEq, Nat.reduceBEq, Int.reduceBNe, Nat.reduceBNe, Int.reduceAdd, Int.reduceSub, Int.reduceMul, Int.reduceNeg]
  refine (There_c hmB 1).mono ?_; rintro _ _ ⟨rfl, rfl⟩
  rw [t1]
  simp (dsimp := false) (maxSteps := 4000000) only [go_sem, ↓reduceIte, Nat.reduceEqDiff, Nat.reduceLT, Nat.reduceLeDiff, Nat.reduceAdd, Nat.reduceMul, Nat.reduceSub, reduceCtorEq, Int.reduceToNat, Int.reduceLT, Int.reduceLE, Int.reduceEq, Int.reduceNe, Int.reduceBEq, Nat.reduceBEq, Int.reduceBNe, Nat.reduceBNe, Int.reduceAdd, Int.reduceSub, Int.reduceMul, Int.reduceNeg]
  refine AllB.mk fun b6 h_b6 => ?_
  simp (dsimp := false) (maxSteps := 4000000) only [go_sem, ↓reduceIte, Nat.reduceEqDiff, Nat.reduceLT, Nat.reduceLeDiff, Nat.reduceAdd, Nat.reduceMul, Nat.reduceSub, reduceCtorEq, Int.reduceToNat, Int.reduceLT, Int.reduceLE, Int.reduceEq, Int.reduceNe, Int.reduceBEq, Nat.reduceBEq, Int.reduceBNe, Nat.reduceBNe, Int.reduceAdd, Int.reduceSub, Int.reduceMul, Int.reduceNeg]
  refine AllB.mk fun b38 h_b38 => ?_
  simp (dsimp := false) (maxSteps := 4000000) only [go_sem, ↓reduceIte, Nat.reduceEqDiff, Nat.reduceLT, Nat.reduceLeDiff, Nat.reduceAdd, Nat.reduceMul, Nat.reduceSub, reduceCtorEq, Int.reduceToNat, Int.reduceLT, Int.reduceLE, Int.reduceEq, Int.reduceNe, Int.reduceBEq, Nat.reduceBEq, Int.reduceBNe, Nat.reduceBNe, Int.reduceAdd, Int.reduceSub, Int.reduceMul, Int.reduceNeg]
  have hk6 := (Keep.refl (H := B) (ex := fun b => b = ba)).trans (Keep.add (k := .cells [.int .u8 0, .int .u8 0, .int .u8 0, .int .u8 1] 44 4) h_b6)
  have hm6 := hmB.keep ((Keep.refl (H := B) (ex := fun _ => False)).nw (k := .cells [.int .u8 0, .int .u8 0, .int .u8 0, .int .u8 1] 44 4) h_b6) (fun h => h) (fun h => h)
  have hm7 := hm6.keep ((Keep.refl (ex := fun _ => False)).nw (k := .amap [(.int .i64 2, .int .u8 7)]) h_b38) (fun h => h) (fun h => h)
  have hnm2 : nM [2] (TT b17 b19) [0, ((3 : Nat) : Int)] (min [0, ((3 : Nat) : Int)].length (TT b17 b19).length) = [1, 0] := rfl
  refine (Note_c (gv := fun _ => 7) (ks := [2]) hT0 (((Keep.undel hKB hf0).nw h_b6).nw h_b38) hf0 hm7 (find_add_self _ _ _) (by simp) (fun x hx => by simp at hx; omega)).mono ?_; rintro _ B2 ⟨rfl, hmB2, hKB2⟩
  rw [hnm2] at hmB2
  have n6 : b6 ≠ ba := by obtain ⟨_, h1, _⟩ := hmB.row; exact h_b6.ne_find h1
  have n38 : b38 ≠ b6 := h_b38.ne_find (find_add_self _ _ _)
  have hkk := (hk6.trans (Keep.add h_b38)).trans hKB2
  have f4 := hkk.find n4 (hKB.find n4 h4)
  have f6 : B2.find b6 = some (.cells [.int .u8 0, .int .u8 0, .int .u8 0, .int .u8 1] 44 4) := hKB2.find n6 (by rw [find_add_ne _ n38, find_add_self])
  have w4 := row_find (off := 0) (n := 4) f4 (by simp)
  have w6 := row_find (off := 0) (n := 4) f6 (by simp)
  have u0 : thereM [1, 0] 0 = true := by decide +kernel
  have u1 : thereM [1, 0] 1 = true := by decide +kernel
  have u2 : thereM [1, 0] 2 = false := by decide +kernel
  simp (dsimp := false) (maxSteps := 4000000) only [go_sem, ↓reduceIte, Nat.reduceEqDiff, Nat.reduceLT, Nat.reduceLeDiff, Nat.reduceAdd, Nat.reduceMul, Nat.reduceSub, reduceCtorEq, Int.reduceToNat, Int.reduceLT, Int.reduceLE, Int.reduceEq, Int.reduceNe, Int.reduceBEq, Nat.reduceBEq, Int.reduceBNe, Nat.reduceBNe, Int.reduceAdd, Int.reduceSub, Int.reduceMul, Int.reduceNeg]
  refine (New_bad 33 (.inr (by omega)) _).mono ?_; rintro _ _ ⟨rfl, rfl⟩
  simp only [List.drop, List.take] at w4 w6
  simp (dsimp := false) (maxSteps := 4000000) only [w4, w6, go_sem, ↓reduceIte, Nat.reduceEqDiff, Nat.reduceLT, Nat.reduceLeDiff, Nat.reduceAdd, Nat.reduceMul, Nat.reduceSub, reduceCtorEq, Int.reduceToNat, Int.reduceLT, Int.reduceLE, Int.reduceEq, Int.reduceNe, Int.reduceBEq, Nat.reduceBEq, Int.reduceBNe, Nat.reduceBNe, Int.reduceAdd, Int.reduceSub, Int.reduceMul, Int.reduceNeg]
  refine (There_c hmB2 0).mono ?_; rintro _ _ ⟨rfl, rfl⟩
  rw [u0]
  simp (dsimp := false) (maxSteps := 4000000) only [go_sem, ↓reduceIte, Nat.reduceEqDiff, Nat.reduceLT, Nat.reduceLeDiff, Nat.reduceAdd, Nat.reduceMul, Nat.reduceSub, reduceCtorEq, Int.reduceToNat, Int.reduceLT, Int.reduceLE, Int.reduceEq, Int.reduceNe, Int.reduceBEq, Nat.reduceBEq, Int.reduceBNe, Nat.reduceBNe, Int.reduceAdd, Int.reduceSub, Int.reduceMul, Int.reduceNeg]
  refine (There_c hmB2 1).mono ?_; rintro _ _ ⟨rfl, rfl⟩
  rw [u1]
  simp (dsimp := false) (maxSteps := 4000000) only [go_sem, ↓reduceIte, Nat.reduceEqDiff, Nat.reduceLT, Nat.reduceLeDiff, Nat.reduceAdd, Nat.reduceMul, Nat.reduceSub, reduceCtorEq, Int.reduceToNat, Int.reduceLT, Int.reduceLE, Int.reduceEq, Int.reduceNe, Int.reduceBEq, Nat.reduceBEq, Int.reduceBNe, Nat.reduceBNe, Int.reduceAdd, Int.reduceSub, Int.reduceMul, Int.reduceNeg]
  refine (There_c hmB2 2).mono ?_; rintro _ _ ⟨rfl, rfl⟩
  rw [u2]
  simp (dsimp := false) (maxSteps := 4000000) only [go_sem, ↓reduceIte, Nat.reduceEqDiff, Nat.reduceLT, Nat.reduceLeDiff, Nat.reduceAdd, Nat.reduceMul, Nat.reduceSub, reduceCtorEq, Int.reduceToNat, Int.reduceLT, Int.reduceLE, Int.reduceEq, Int.reduceNe, Int.reduceBEq, Nat.reduceBEq, Int.reduceBNe, Nat.reduceBNe, Int.reduceAdd, Int.reduceSub, Int.reduceMul, Int.reduceNeg]
  exact ⟨H, (hKH3.ow (hKB.trans hkk) (fun b e => e ▸ hfa)).all, rfl⟩
end Go.Proofs.Ytgleplakdghaiaa.Mem
