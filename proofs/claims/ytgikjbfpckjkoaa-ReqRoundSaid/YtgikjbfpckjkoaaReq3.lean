/- req: Put and Answer of both sides. -/
import Derived.Test.YtgikjbfpckjkoaaReq2
namespace Go.Proofs.Ytgikjbfpckjkoaa.Req
set_option linter.unusedSimpArgs false
set_option linter.unusedVariables false
open Go Go.AX Go.Proofs Ty Go.Proofs.Ytgikjbfpckjkoaa.CatB
set_option maxHeartbeats 4000000
set_option maxRecDepth 10000

def PutL (i k n f r a b c d y : Int) : List Int := if goodQ i k n f r a b c d y = true then putL i k n f r a b c d y else []
def PutE (i k n f r a b c d y : Int) : Int := if goodQ i k n f r a b c d y = true then 0 else 1
theorem Put_c (i k n f r a b c d y : Int) (H : AH) :
    ACalls Try.prog 26 #[qv i k n f r a b c d y] H (fun v H' => ∃ b' c', v = .tuple #[.slice b' (PutL i k n f r a b c d y).length c', .int .i64 (PutE i k n f r a b c d y)] ∧ OwnS H H' 5 1 b' c' ((PutL i k n f r a b c d y).map encB) ∧ Keep H H' fun _ => False) := by
  unfold qv
  refine ACalls.enter2 Try.func26 rfl Try.ntmps26 Try.results26 (by simp) ?_; simp (dsimp := false) (maxSteps := 4000000) only [go_sem, ↓reduceIte, Nat.reduceEqDiff, Nat.reduceLT, Nat.reduceLeDiff, Nat.reduceAdd, Nat.reduceMul, Nat.reduceSub, reduceCtorEq, Int.reduceToNat, Int.reduceLT, Int.reduceLE, Int.reduceEq, Int.reduceNe, Int.reduceBEq, Nat.reduceBEq, Int.reduceBNe, Nat.reduceBNe, Int.reduceAdd, Int.reduceSub, Int.reduceMul, Int.reduceNeg]
  refine AllB.mk fun b1 h_b1 => ?_; have hn_b1 := h_b1; (try simp only [fresh_add, fresh_set, ne_eq] at hn_b1); have hr_b1 := hn_b1; (try simp only [@eq_comm Nat b1] at hr_b1); simp (dsimp := false) (maxSteps := 4000000) only [hn_b1, hr_b1, go_sem, ↓reduceIte, Nat.reduceEqDiff, Nat.reduceLT, Nat.reduceLeDiff, Nat.reduceAdd, Nat.reduceMul, Nat.reduceSub, reduceCtorEq, Int.reduceToNat, Int.reduceLT, Int.reduceLE, Int.reduceEq, Int.reduceNe, Int.reduceBEq, Nat.reduceBEq, Int.reduceBNe, Nat.reduceBNe, Int.reduceAdd, Int.reduceSub, Int.reduceMul, Int.reduceNeg]
  refine (Good_c i k n f r a b c d y _).mono ?_; rintro _ _ ⟨rfl, rfl⟩
  cases g : goodQ i k n f r a b c d y with
  | false =>
    simp (dsimp := false) (maxSteps := 4000000) only [hn_b1, hr_b1, go_sem, ↓reduceIte, Nat.reduceEqDiff, Nat.reduceLT, Nat.reduceLeDiff, Nat.reduceAdd, Nat.reduceMul, Nat.reduceSub, reduceCtorEq, Int.reduceToNat, Int.reduceLT, Int.reduceLE, Int.reduceEq, Int.reduceNe, Int.reduceBEq, Nat.reduceBEq, Int.reduceBNe, Nat.reduceBNe, Int.reduceAdd, Int.reduceSub, Int.reduceMul, Int.reduceNeg]
    exact ⟨H, (AH.le_add (AH.le_refl _) ((by simp only [fresh_add, fresh_set, ne_eq, hn_b1, not_false_eq_true, and_self] : Fresh _ b1).2)), none, 0, by simp [PutL, PutE, g], by simpa [PutL, g] using OwnS.nil, Keep.refl⟩
  | true =>
    simp (dsimp := false) (maxSteps := 4000000) only [hn_b1, hr_b1, go_sem, ↓reduceIte, Nat.reduceEqDiff, Nat.reduceLT, Nat.reduceLeDiff, Nat.reduceAdd, Nat.reduceMul, Nat.reduceSub, reduceCtorEq, Int.reduceToNat, Int.reduceLT, Int.reduceLE, Int.reduceEq, Int.reduceNe, Int.reduceBEq, Nat.reduceBEq, Int.reduceBNe, Nat.reduceBNe, Int.reduceAdd, Int.reduceSub, Int.reduceMul, Int.reduceNeg]
    refine (put_c i k n f r a b c d y _ (of_decide_eq_true g)).mono ?_; rintro _ A ⟨b', c', rfl, hO, hK⟩
    
    simp (dsimp := false) (maxSteps := 4000000) only [go_sem, ↓reduceIte, Nat.reduceEqDiff, Nat.reduceLT, Nat.reduceLeDiff, Nat.reduceAdd, Nat.reduceMul, Nat.reduceSub, reduceCtorEq, Int.reduceToNat, Int.reduceLT, Int.reduceLE, Int.reduceEq, Int.reduceNe, Int.reduceBEq, Nat.reduceBEq, Int.reduceBNe, Nat.reduceBNe, Int.reduceAdd, Int.reduceSub, Int.reduceMul, Int.reduceNeg]
    exact ⟨A, AH.le_refl _, b', c', by simp [PutL, PutE, g], by simpa [PutL, g] using hO.down (AH.le_add (AH.le_refl _) h_b1.2), (Keep.add h_b1).trans hK⟩
theorem tdiv_ {i : Int} (h : 0 ≤ i) : i.tdiv 256 = i / 256 := Int.tdiv_eq_ediv_of_nonneg h
theorem tmod_ {i : Int} (h : 0 ≤ i) : i.tmod 256 = i % 256 := Int.tmod_eq_emod_of_nonneg h
theorem RefPut_c (i k n f r a b c d y : Int) (H : AH) :
    ACalls Try.prog 27 #[qv i k n f r a b c d y] H (fun v H' => ∃ b' c', v = .tuple #[.slice b' (PutL i k n f r a b c d y).length c', .int .i64 (PutE i k n f r a b c d y)] ∧ OwnS H H' 5 1 b' c' ((PutL i k n f r a b c d y).map encB) ∧ Keep H H' fun _ => False) := by
  unfold qv
  refine ACalls.enter2 Try.func27 rfl Try.ntmps27 Try.results27 (by simp) ?_; simp (dsimp := false) (maxSteps := 4000000) only [go_sem, ↓reduceIte, Nat.reduceEqDiff, Nat.reduceLT, Nat.reduceLeDiff, Nat.reduceAdd, Nat.reduceMul, Nat.reduceSub, reduceCtorEq, Int.reduceToNat, Int.reduceLT, Int.reduceLE, Int.reduceEq, Int.reduceNe, Int.reduceBEq, Nat.reduceBEq, Int.reduceBNe, Nat.reduceBNe, Int.reduceAdd, Int.reduceSub, Int.reduceMul, Int.reduceNeg]
  refine AllB.mk fun b1 h_b1 => ?_; have hn_b1 := h_b1; (try simp only [fresh_add, fresh_set, ne_eq] at hn_b1); have hr_b1 := hn_b1; (try simp only [@eq_comm Nat b1] at hr_b1); simp (dsimp := false) (maxSteps := 4000000) only [hn_b1, hr_b1, go_sem, ↓reduceIte, Nat.reduceEqDiff, Nat.reduceLT, Nat.reduceLeDiff, Nat.reduceAdd, Nat.reduceMul, Nat.reduceSub, reduceCtorEq, Int.reduceToNat, Int.reduceLT, Int.reduceLE, Int.reduceEq, Int.reduceNe, Int.reduceBEq, Nat.reduceBEq, Int.reduceBNe, Nat.reduceBNe, Int.reduceAdd, Int.reduceSub, Int.reduceMul, Int.reduceNeg]
  refine (RefGood_c i k n f r a b c d y _).mono ?_; rintro _ _ ⟨rfl, rfl⟩
  cases g : goodQ i k n f r a b c d y with
  | false =>
    simp (dsimp := false) (maxSteps := 4000000) only [hn_b1, hr_b1, go_sem, ↓reduceIte, Nat.reduceEqDiff, Nat.reduceLT, Nat.reduceLeDiff, Nat.reduceAdd, Nat.reduceMul, Nat.reduceSub, reduceCtorEq, Int.reduceToNat, Int.reduceLT, Int.reduceLE, Int.reduceEq, Int.reduceNe, Int.reduceBEq, Nat.reduceBEq, Int.reduceBNe, Nat.reduceBNe, Int.reduceAdd, Int.reduceSub, Int.reduceMul, Int.reduceNeg]
    exact ⟨H, (AH.le_add (AH.le_refl _) ((by simp only [fresh_add, fresh_set, ne_eq, hn_b1, not_false_eq_true, and_self] : Fresh _ b1).2)), none, 0, by simp [PutL, PutE, g], by simpa [PutL, g] using OwnS.nil, Keep.refl⟩
  | true =>
    obtain ⟨g1, g2, g3, g4, g5, g6⟩ := (of_decide_eq_true g : GoodQ i k n f r a b c d y)
    have q1 : i.tdiv 256 = i / 256 := tdiv_ g1.1
    have q2 : i.tmod 256 = i % 256 := tmod_ g1.1
    have q3 : IntKind.i64.wrap (i / 256) = i / 256 := i64_eq (by omega) (by omega)
    have w1 : IntKind.u8.wrap (i / 256) = i / 256 := u8_id (by omega) (by omega)
    have w2 : IntKind.u8.wrap (i % 256) = i % 256 := u8_id (by omega) (by omega)
    have w3 : IntKind.u8.wrap k = k := u8_id (by omega) (by omega)
    have w4 : IntKind.u8.wrap n = n := u8_id (by omega) (by omega)
    have w5 : IntKind.u8.wrap f = f := u8_id (by omega) (by omega)
    have w6 : IntKind.u8.wrap r = r := u8_id (by omega) (by omega)
    have w7 : IntKind.u8.wrap y = y := u8_id (by omega) (by omega)
    simp (dsimp := false) (maxSteps := 4000000) only [q1, q2, q3, w1, w2, w3, w4, w5, w6, w7, hn_b1, hr_b1, go_sem, ↓reduceIte, Nat.reduceEqDiff, Nat.reduceLT, Nat.reduceLeDiff, Nat.reduceAdd, Nat.reduceMul, Nat.reduceSub, reduceCtorEq, Int.reduceToNat, Int.reduceLT, Int.reduceLE, Int.reduceEq, Int.reduceNe, Int.reduceBEq, Nat.reduceBEq, Int.reduceBNe, Nat.reduceBNe, Int.reduceAdd, Int.reduceSub, Int.reduceMul, Int.reduceNeg]
    refine AllB.mk fun b31 h_b31 => ?_; have hn_b31 := h_b31; (try simp only [fresh_add, fresh_set, ne_eq] at hn_b31); have hr_b31 := hn_b31; (try simp only [@eq_comm Nat b31] at hr_b31); simp (dsimp := false) (maxSteps := 4000000) only [hn_b1, hr_b1, hn_b31, hr_b31, go_sem, ↓reduceIte, Nat.reduceEqDiff, Nat.reduceLT, Nat.reduceLeDiff, Nat.reduceAdd, Nat.reduceMul, Nat.reduceSub, reduceCtorEq, Int.reduceToNat, Int.reduceLT, Int.reduceLE, Int.reduceEq, Int.reduceNe, Int.reduceBEq, Nat.reduceBEq, Int.reduceBNe, Nat.reduceBNe, Int.reduceAdd, Int.reduceSub, Int.reduceMul, Int.reduceNeg]
    by_cases k2 : k = 2
    · subst k2
      
      simp (dsimp := false) (maxSteps := 4000000) only [hn_b1, hr_b1, hn_b31, hr_b31, go_sem, ↓reduceIte, Nat.reduceEqDiff, Nat.reduceLT, Nat.reduceLeDiff, Nat.reduceAdd, Nat.reduceMul, Nat.reduceSub, reduceCtorEq, Int.reduceToNat, Int.reduceLT, Int.reduceLE, Int.reduceEq, Int.reduceNe, Int.reduceBEq, Nat.reduceBEq, Int.reduceBNe, Nat.reduceBNe, Int.reduceAdd, Int.reduceSub, Int.reduceMul, Int.reduceNeg]
      refine AllB.mk fun b50 h_b50 => ?_; have hn_b50 := h_b50; (try simp only [fresh_add, fresh_set, ne_eq] at hn_b50); have hr_b50 := hn_b50; (try simp only [@eq_comm Nat b50] at hr_b50); simp (dsimp := false) (maxSteps := 4000000) only [hn_b1, hr_b1, hn_b31, hr_b31, hn_b50, hr_b50, go_sem, ↓reduceIte, Nat.reduceEqDiff, Nat.reduceLT, Nat.reduceLeDiff, Nat.reduceAdd, Nat.reduceMul, Nat.reduceSub, reduceCtorEq, Int.reduceToNat, Int.reduceLT, Int.reduceLE, Int.reduceEq, Int.reduceNe, Int.reduceBEq, Nat.reduceBEq, Int.reduceBNe, Nat.reduceBNe, Int.reduceAdd, Int.reduceSub, Int.reduceMul, Int.reduceNeg]
      have hO : OwnS H (((H.add b1 (.cells [.int .i64 i, .int .i64 2, .int .i64 n, .int .i64 f, .int .i64 r, .int .u8 a, .int .u8 b, .int .u8 c, .int .u8 d, .int .i64 y] 43 10)).add b31 (.cells [.int .u8 0, .int .u8 11, .int .u8 (i / 256), .int .u8 (i % 256), .int .u8 2, .int .u8 n, .int .u8 f, .int .u8 r, .int .u8 y] 5 9)).add b50 (.cells [.int .u8 a, .int .u8 b, .int .u8 c, .int .u8 d] 5 4)) 5 1 (some ⟨b31, 0, none⟩) 9 ([0, 11, i / 256, i % 256, 2, n, f, r, y].map encB) :=
        OwnS.added (by exact OwnS.new (R := [0, 11, i / 256, i % 256, 2, n, f, r, y].map encB) h_b31 (AH.le_add (AH.le_refl _) h_b1.2) rfl rfl rfl (rowsB _) (by simp)) h_b50
      refine APD.growW (x := .slice (some ⟨b50, 0, none⟩) 4 4) (R' := [a, b, c, d].map encB) (m := 4) hO (AH.le_add (AH.le_add (AH.le_add (AH.le_refl _) ((by simp only [fresh_add, fresh_set, ne_eq, hn_b1, not_false_eq_true, and_self] : Fresh _ b1).2)) ((by simp only [fresh_add, fresh_set, ne_eq, hn_b31, not_false_eq_true, and_self] : Fresh _ b31).2)) ((by simp only [fresh_add, fresh_set, ne_eq, hn_b50, not_false_eq_true, and_self] : Fresh _ b50).2)) se_44 rfl (by decide) (by rw [Try.underlying44]; rfl) rfl rfl rfl (by rw [srow_some, row_add_self]; rfl) (rowsB _) (scalB _) (by omega) fun base1 cap1 A hO1 hK1 hN1 => ?_
      have hKA := (((Keep.refl.nw h_b1).nw h_b31).nw h_b50).ow hK1 fun b ⟨a, ha, e⟩ => e ▸ hO.fresh a ha
      refine ⟨_, AH.le_refl _, ?_⟩
      
      simp (dsimp := false) (maxSteps := 4000000) only [go_sem, ↓reduceIte, Nat.reduceEqDiff, Nat.reduceLT, Nat.reduceLeDiff, Nat.reduceAdd, Nat.reduceMul, Nat.reduceSub, reduceCtorEq, Int.reduceToNat, Int.reduceLT, Int.reduceLE, Int.reduceEq, Int.reduceNe, Int.reduceBEq, Nat.reduceBEq, Int.reduceBNe, Nat.reduceBNe, Int.reduceAdd, Int.reduceSub, Int.reduceMul, Int.reduceNeg]
      exact ⟨A, AH.le_refl _, base1, cap1, by simp [PutL, PutE, g, putL], by rw [PutL, if_pos g, putL, if_pos rfl]; exact hO1, hKA⟩
      
    · simp (dsimp := false) (maxSteps := 4000000) only [k2, hn_b1, hr_b1, hn_b31, hr_b31, go_sem, ↓reduceIte, Nat.reduceEqDiff, Nat.reduceLT, Nat.reduceLeDiff, Nat.reduceAdd, Nat.reduceMul, Nat.reduceSub, reduceCtorEq, Int.reduceToNat, Int.reduceLT, Int.reduceLE, Int.reduceEq, Int.reduceNe, Int.reduceBEq, Nat.reduceBEq, Int.reduceBNe, Nat.reduceBNe, Int.reduceAdd, Int.reduceSub, Int.reduceMul, Int.reduceNeg]
      refine ⟨_, AH.le_refl _, some ⟨b31, 0, none⟩, 9, by simp [PutL, PutE, g, putL, k2], ?_, (Keep.refl.nw h_b1).nw h_b31⟩
      rw [PutL, if_pos g, putL, if_neg k2]
      exact OwnS.new h_b31 (AH.le_add (AH.le_refl _) h_b1.2) rfl rfl rfl (rowsB _) (by simp)
def ansL (i e a b c d : Int) : List Int := [0, 7, i / 256, i % 256, e, a, b, c, d]
theorem answer_c (i e a b c d : Int) (H : AH) (hg : MayR i e a b c d) :
    ACalls Try.prog 79 #[rv i e a b c d] H (fun v H' => ∃ b' c', v = .slice b' (ansL i e a b c d).length c' ∧ OwnS H H' 5 1 b' c' ((ansL i e a b c d).map encB) ∧ Keep H H' fun _ => False) := by
  obtain ⟨g1, g2, g3⟩ := hg
  have w1 : IntKind.u8.wrap (i / 256) = i / 256 := u8_id (by omega) (by omega)
  have w2 : IntKind.u8.wrap i = i % 256 := rfl
  have w3 : IntKind.u8.wrap e = e := u8_id (by omega) (by omega)
  unfold rv
  refine ACalls.enter2 Try.func79 rfl Try.ntmps79 Try.results79 (by simp) ?_; simp (dsimp := false) (maxSteps := 4000000) only [w3, go_sem, ↓reduceIte, Nat.reduceEqDiff, Nat.reduceLT, Nat.reduceLeDiff, Nat.reduceAdd, Nat.reduceMul, Nat.reduceSub, reduceCtorEq, Int.reduceToNat, Int.reduceLT, Int.reduceLE, Int.reduceEq, Int.reduceNe, Int.reduceBEq, Nat.reduceBEq, Int.reduceBNe, Nat.reduceBNe, Int.reduceAdd, Int.reduceSub, Int.reduceMul, Int.reduceNeg]
  refine AllB.mk fun b1 h_b1 => ?_; have hn_b1 := h_b1; (try simp only [fresh_add, fresh_set, ne_eq] at hn_b1); have hr_b1 := hn_b1; (try simp only [@eq_comm Nat b1] at hr_b1); simp (dsimp := false) (maxSteps := 4000000) only [w3, hn_b1, hr_b1, go_sem, ↓reduceIte, Nat.reduceEqDiff, Nat.reduceLT, Nat.reduceLeDiff, Nat.reduceAdd, Nat.reduceMul, Nat.reduceSub, reduceCtorEq, Int.reduceToNat, Int.reduceLT, Int.reduceLE, Int.reduceEq, Int.reduceNe, Int.reduceBEq, Nat.reduceBEq, Int.reduceBNe, Nat.reduceBNe, Int.reduceAdd, Int.reduceSub, Int.reduceMul, Int.reduceNeg]
  refine AWp.gen [.pu, .rd, .ch, .pu, .rd, .pu, .al, .ch, .pu] [0, 1, 3, 0, 8, 24, 56, 127, 255] 3 (_) mixed (by kernel_rfl) (AH.le_refl _) ?_
  simp (dsimp := false) (maxSteps := 4000000) only [w3, hn_b1, hr_b1, go_sem, ↓reduceIte, Nat.reduceEqDiff, Nat.reduceLT, Nat.reduceLeDiff, Nat.reduceAdd, Nat.reduceMul, Nat.reduceSub, reduceCtorEq, Int.reduceToNat, Int.reduceLT, Int.reduceLE, Int.reduceEq, Int.reduceNe, Int.reduceBEq, Nat.reduceBEq, Int.reduceBNe, Nat.reduceBNe, Int.reduceAdd, Int.reduceSub, Int.reduceMul, Int.reduceNeg]
  refine (two_c i _).mono ?_; rintro _ _ ⟨b6, h_b6, rfl, rfl⟩
  rw [w1, w2] at *
  have hn_b6 := h_b6; (try simp only [fresh_add, fresh_set, ne_eq] at hn_b6); have hr_b6 := hn_b6; (try simp only [@eq_comm Nat b6] at hr_b6)
  simp (dsimp := false) (maxSteps := 4000000) only [AH.le_refl, w3, hn_b1, hr_b1, hn_b6, hr_b6, go_sem, ↓reduceIte, Nat.reduceEqDiff, Nat.reduceLT, Nat.reduceLeDiff, Nat.reduceAdd, Nat.reduceMul, Nat.reduceSub, reduceCtorEq, Int.reduceToNat, Int.reduceLT, Int.reduceLE, Int.reduceEq, Int.reduceNe, Int.reduceBEq, Nat.reduceBEq, Int.reduceBNe, Nat.reduceBNe, Int.reduceAdd, Int.reduceSub, Int.reduceMul, Int.reduceNeg]
  refine ⟨AH.le_add (AH.le_refl _) h_b6.2, ?_⟩
  refine AllB.mk fun b10 h_b10 => ?_; have hn_b10 := h_b10; (try simp only [fresh_add, fresh_set, ne_eq] at hn_b10); have hr_b10 := hn_b10; (try simp only [@eq_comm Nat b10] at hr_b10); simp (dsimp := false) (maxSteps := 4000000) only [w3, hn_b1, hr_b1, hn_b6, hr_b6, hn_b10, hr_b10, go_sem, ↓reduceIte, Nat.reduceEqDiff, Nat.reduceLT, Nat.reduceLeDiff, Nat.reduceAdd, Nat.reduceMul, Nat.reduceSub, reduceCtorEq, Int.reduceToNat, Int.reduceLT, Int.reduceLE, Int.reduceEq, Int.reduceNe, Int.reduceBEq, Nat.reduceBEq, Int.reduceBNe, Nat.reduceBNe, Int.reduceAdd, Int.reduceSub, Int.reduceMul, Int.reduceNeg]
  have hO : OwnS H (((H.add b1 (.cells [.int .i64 i, .int .i64 e, .int .u8 a, .int .u8 b, .int .u8 c, .int .u8 d] 56 6)).add b6 (.cells [.int .u8 (i / 256), .int .u8 (i % 256)] 5 2)).add b10 (.cells [.int .u8 e] 5 1)) 5 1 (some ⟨b6, 0, none⟩) 2 ([i / 256, i % 256].map encB) :=
    OwnS.added (by exact OwnS.new (R := [i / 256, i % 256].map encB) h_b6 (AH.le_add (AH.le_refl _) h_b1.2) rfl rfl rfl (rowsB _) (by simp)) h_b10
  refine APD.growW (x := .slice (some ⟨b10, 0, none⟩) 1 1) (R' := [e].map encB) (m := 1) hO (AH.le_add (AH.le_add (AH.le_add (AH.le_refl _) ((by simp only [fresh_add, fresh_set, ne_eq, hn_b1, not_false_eq_true, and_self] : Fresh _ b1).2)) ((by simp only [fresh_add, fresh_set, ne_eq, hn_b6, not_false_eq_true, and_self] : Fresh _ b6).2)) ((by simp only [fresh_add, fresh_set, ne_eq, hn_b10, not_false_eq_true, and_self] : Fresh _ b10).2)) se_44 rfl (by decide) (by rw [Try.underlying44]; rfl) rfl rfl rfl (by rw [srow_some, row_add_self]; rfl) (rowsB _) (scalB _) (by omega) fun base1 cap1 A hO1 hK1 hN1 => ?_
  have hb1 : A.find b1 = some (.cells [.int .i64 i, .int .i64 e, .int .u8 a, .int .u8 b, .int .u8 c, .int .u8 d] 56 6) := hK1.find (fun h => (hn_b6.1 (exB_some.1 h).symm)) (by (show AH.find _ _ = _; simp only [find_add_self, find_add_ne, find_fresh, fresh_add, ne_eq, not_false_eq_true, true_and, and_true, and_self, w3, hn_b1, hr_b1, hn_b6, hr_b6, hn_b10, hr_b10]))
  have hKA := (((Keep.refl.nw h_b1).nw h_b6).nw h_b10).ow hK1 fun b ⟨a, ha, e⟩ => e ▸ hO.fresh a ha
  have hO1 : OwnS H A 5 1 base1 cap1 ([i / 256, i % 256, e].map encB) := hO1
  clear hO hK1 hN1
  refine ⟨_, AH.le_refl _, ?_⟩
  
  clear hn_b1 hr_b1 hn_b6 hr_b6 hn_b10 hr_b10 h_b1 h_b6 h_b10
  simp (dsimp := false) (maxSteps := 4000000) only [AH.le_refl, rd_find hb1, w3, go_sem, ↓reduceIte, Nat.reduceEqDiff, Nat.reduceLT, Nat.reduceLeDiff, Nat.reduceAdd, Nat.reduceMul, Nat.reduceSub, reduceCtorEq, Int.reduceToNat, Int.reduceLT, Int.reduceLE, Int.reduceEq, Int.reduceNe, Int.reduceBEq, Nat.reduceBEq, Int.reduceBNe, Nat.reduceBNe, Int.reduceAdd, Int.reduceSub, Int.reduceMul, Int.reduceNeg]
  refine APD.growW (x := .slice (some ⟨b1, 2, none⟩) 4 4) (R' := [a, b, c, d].map encB) (m := 4) hO1 hKA.all se_44 rfl (by decide) (by rw [Try.underlying44]; rfl) rfl rfl rfl (by rw [srow_some, row_find hb1 (by simp)]; rfl) (rowsB _) (scalB _) (by omega) fun base2 cap2 A2 hO2 hK2 hN2 => ?_
  have hKB := hKA.ow hK2 fun b ⟨a, ha, e⟩ => e ▸ hO1.fresh a ha
  have hO2 : OwnS H A2 5 1 base2 cap2 ([i / 256, i % 256, e, a, b, c, d].map encB) := hO2
  refine ⟨_, AH.le_refl _, ?_⟩
  simp (dsimp := false) (maxSteps := 4000000) only [w3, go_sem, ↓reduceIte, Nat.reduceEqDiff, Nat.reduceLT, Nat.reduceLeDiff, Nat.reduceAdd, Nat.reduceMul, Nat.reduceSub, reduceCtorEq, Int.reduceToNat, Int.reduceLT, Int.reduceLE, Int.reduceEq, Int.reduceNe, Int.reduceBEq, Nat.reduceBEq, Int.reduceBNe, Nat.reduceBNe, Int.reduceAdd, Int.reduceSub, Int.reduceMul, Int.reduceNeg]
  refine (two_c 7 _).mono ?_; rintro _ _ ⟨b33, h_b33, rfl, rfl⟩
  have hn_b33 := h_b33; (try simp only [fresh_add, fresh_set, ne_eq] at hn_b33); have hr_b33 := hn_b33; (try simp only [@eq_comm Nat b33] at hr_b33)
  simp (dsimp := false) (maxSteps := 4000000) only [w3, hn_b33, hr_b33, go_sem, ↓reduceIte, Nat.reduceEqDiff, Nat.reduceLT, Nat.reduceLeDiff, Nat.reduceAdd, Nat.reduceMul, Nat.reduceSub, reduceCtorEq, Int.reduceToNat, Int.reduceLT, Int.reduceLE, Int.reduceEq, Int.reduceNe, Int.reduceBEq, Nat.reduceBEq, Int.reduceBNe, Nat.reduceBNe, Int.reduceAdd, Int.reduceSub, Int.reduceMul, Int.reduceNeg]
  refine AllB.mk fun b35 h_b35 => ?_; have hn_b35 := h_b35; (try simp only [fresh_add, fresh_set, ne_eq] at hn_b35); have hr_b35 := hn_b35; (try simp only [@eq_comm Nat b35] at hr_b35); simp (dsimp := false) (maxSteps := 4000000) only [w3, hn_b33, hr_b33, hn_b35, hr_b35, go_sem, ↓reduceIte, Nat.reduceEqDiff, Nat.reduceLT, Nat.reduceLeDiff, Nat.reduceAdd, Nat.reduceMul, Nat.reduceSub, reduceCtorEq, Int.reduceToNat, Int.reduceLT, Int.reduceLE, Int.reduceEq, Int.reduceNe, Int.reduceBEq, Nat.reduceBEq, Int.reduceBNe, Nat.reduceBNe, Int.reduceAdd, Int.reduceSub, Int.reduceMul, Int.reduceNeg]
  refine (pack (n := 7) hO2 hKB h_b33 (by simp) rfl h_b35).mono ?_; rintro _ A3 ⟨b', c', rfl, hO3, hK3⟩
  
  simp (dsimp := false) (maxSteps := 4000000) only [w3, go_sem, ↓reduceIte, Nat.reduceEqDiff, Nat.reduceLT, Nat.reduceLeDiff, Nat.reduceAdd, Nat.reduceMul, Nat.reduceSub, reduceCtorEq, Int.reduceToNat, Int.reduceLT, Int.reduceLE, Int.reduceEq, Int.reduceNe, Int.reduceBEq, Nat.reduceBEq, Int.reduceBNe, Nat.reduceBNe, Int.reduceAdd, Int.reduceSub, Int.reduceMul, Int.reduceNeg]
  refine ⟨A3, AH.le_refl _, b', c', ?_, ?_, hK3⟩
  · simp [ansL]
  · simpa [ansL] using hO3
def AnsL (i e a b c d : Int) : List Int := if mayR i e a b c d = true then ansL i e a b c d else []
def AnsE (i e a b c d : Int) : Int := if mayR i e a b c d = true then 0 else 1
theorem Answer_c (i e a b c d : Int) (H : AH) :
    ACalls Try.prog 33 #[rv i e a b c d] H (fun v H' => ∃ b' c', v = .tuple #[.slice b' (AnsL i e a b c d).length c', .int .i64 (AnsE i e a b c d)] ∧ OwnS H H' 5 1 b' c' ((AnsL i e a b c d).map encB) ∧ Keep H H' fun _ => False) := by
  unfold rv
  refine ACalls.enter2 Try.func33 rfl Try.ntmps33 Try.results33 (by simp) ?_; simp (dsimp := false) (maxSteps := 4000000) only [go_sem, ↓reduceIte, Nat.reduceEqDiff, Nat.reduceLT, Nat.reduceLeDiff, Nat.reduceAdd, Nat.reduceMul, Nat.reduceSub, reduceCtorEq, Int.reduceToNat, Int.reduceLT, Int.reduceLE, Int.reduceEq, Int.reduceNe, Int.reduceBEq, Nat.reduceBEq, Int.reduceBNe, Nat.reduceBNe, Int.reduceAdd, Int.reduceSub, Int.reduceMul, Int.reduceNeg]
  refine AllB.mk fun b1 h_b1 => ?_; have hn_b1 := h_b1; (try simp only [fresh_add, fresh_set, ne_eq] at hn_b1); have hr_b1 := hn_b1; (try simp only [@eq_comm Nat b1] at hr_b1); simp (dsimp := false) (maxSteps := 4000000) only [hn_b1, hr_b1, go_sem, ↓reduceIte, Nat.reduceEqDiff, Nat.reduceLT, Nat.reduceLeDiff, Nat.reduceAdd, Nat.reduceMul, Nat.reduceSub, reduceCtorEq, Int.reduceToNat, Int.reduceLT, Int.reduceLE, Int.reduceEq, Int.reduceNe, Int.reduceBEq, Nat.reduceBEq, Int.reduceBNe, Nat.reduceBNe, Int.reduceAdd, Int.reduceSub, Int.reduceMul, Int.reduceNeg]
  refine (reply_c i e a b c d _).mono ?_; rintro _ _ ⟨rfl, rfl⟩
  cases g : mayR i e a b c d with
  | false =>
    simp (dsimp := false) (maxSteps := 4000000) only [hn_b1, hr_b1, go_sem, ↓reduceIte, Nat.reduceEqDiff, Nat.reduceLT, Nat.reduceLeDiff, Nat.reduceAdd, Nat.reduceMul, Nat.reduceSub, reduceCtorEq, Int.reduceToNat, Int.reduceLT, Int.reduceLE, Int.reduceEq, Int.reduceNe, Int.reduceBEq, Nat.reduceBEq, Int.reduceBNe, Nat.reduceBNe, Int.reduceAdd, Int.reduceSub, Int.reduceMul, Int.reduceNeg]
    exact ⟨H, (AH.le_add (AH.le_refl _) ((by simp only [fresh_add, fresh_set, ne_eq, hn_b1, not_false_eq_true, and_self] : Fresh _ b1).2)), none, 0, by simp [AnsL, AnsE, g], by simpa [AnsL, g] using OwnS.nil, Keep.refl⟩
  | true =>
    simp (dsimp := false) (maxSteps := 4000000) only [hn_b1, hr_b1, go_sem, ↓reduceIte, Nat.reduceEqDiff, Nat.reduceLT, Nat.reduceLeDiff, Nat.reduceAdd, Nat.reduceMul, Nat.reduceSub, reduceCtorEq, Int.reduceToNat, Int.reduceLT, Int.reduceLE, Int.reduceEq, Int.reduceNe, Int.reduceBEq, Nat.reduceBEq, Int.reduceBNe, Nat.reduceBNe, Int.reduceAdd, Int.reduceSub, Int.reduceMul, Int.reduceNeg]
    refine (answer_c i e a b c d _ (of_decide_eq_true g)).mono ?_; rintro _ A ⟨b', c', rfl, hO, hK⟩
    
    simp (dsimp := false) (maxSteps := 4000000) only [go_sem, ↓reduceIte, Nat.reduceEqDiff, Nat.reduceLT, Nat.reduceLeDiff, Nat.reduceAdd, Nat.reduceMul, Nat.reduceSub, reduceCtorEq, Int.reduceToNat, Int.reduceLT, Int.reduceLE, Int.reduceEq, Int.reduceNe, Int.reduceBEq, Nat.reduceBEq, Int.reduceBNe, Nat.reduceBNe, Int.reduceAdd, Int.reduceSub, Int.reduceMul, Int.reduceNeg]
    exact ⟨A, AH.le_refl _, b', c', by simp [AnsL, AnsE, g], by simpa [AnsL, g] using hO.down (AH.le_add (AH.le_refl _) h_b1.2), (Keep.add h_b1).trans hK⟩
theorem RefAnswer_c (i e a b c d : Int) (H : AH) :
    ACalls Try.prog 34 #[rv i e a b c d] H (fun v H' => ∃ b' c', v = .tuple #[.slice b' (AnsL i e a b c d).length c', .int .i64 (AnsE i e a b c d)] ∧ OwnS H H' 5 1 b' c' ((AnsL i e a b c d).map encB) ∧ Keep H H' fun _ => False) := by
  unfold rv
  refine ACalls.enter2 Try.func34 rfl Try.ntmps34 Try.results34 (by simp) ?_; simp (dsimp := false) (maxSteps := 4000000) only [go_sem, ↓reduceIte, Nat.reduceEqDiff, Nat.reduceLT, Nat.reduceLeDiff, Nat.reduceAdd, Nat.reduceMul, Nat.reduceSub, reduceCtorEq, Int.reduceToNat, Int.reduceLT, Int.reduceLE, Int.reduceEq, Int.reduceNe, Int.reduceBEq, Nat.reduceBEq, Int.reduceBNe, Nat.reduceBNe, Int.reduceAdd, Int.reduceSub, Int.reduceMul, Int.reduceNeg]
  refine AllB.mk fun b1 h_b1 => ?_; have hn_b1 := h_b1; (try simp only [fresh_add, fresh_set, ne_eq] at hn_b1); have hr_b1 := hn_b1; (try simp only [@eq_comm Nat b1] at hr_b1); simp (dsimp := false) (maxSteps := 4000000) only [hn_b1, hr_b1, go_sem, ↓reduceIte, Nat.reduceEqDiff, Nat.reduceLT, Nat.reduceLeDiff, Nat.reduceAdd, Nat.reduceMul, Nat.reduceSub, reduceCtorEq, Int.reduceToNat, Int.reduceLT, Int.reduceLE, Int.reduceEq, Int.reduceNe, Int.reduceBEq, Nat.reduceBEq, Int.reduceBNe, Nat.reduceBNe, Int.reduceAdd, Int.reduceSub, Int.reduceMul, Int.reduceNeg]
  refine (May_c i e a b c d _).mono ?_; rintro _ _ ⟨rfl, rfl⟩
  cases g : mayR i e a b c d with
  | false =>
    simp (dsimp := false) (maxSteps := 4000000) only [hn_b1, hr_b1, go_sem, ↓reduceIte, Nat.reduceEqDiff, Nat.reduceLT, Nat.reduceLeDiff, Nat.reduceAdd, Nat.reduceMul, Nat.reduceSub, reduceCtorEq, Int.reduceToNat, Int.reduceLT, Int.reduceLE, Int.reduceEq, Int.reduceNe, Int.reduceBEq, Nat.reduceBEq, Int.reduceBNe, Nat.reduceBNe, Int.reduceAdd, Int.reduceSub, Int.reduceMul, Int.reduceNeg]
    exact ⟨H, (AH.le_add (AH.le_refl _) ((by simp only [fresh_add, fresh_set, ne_eq, hn_b1, not_false_eq_true, and_self] : Fresh _ b1).2)), none, 0, by simp [AnsL, AnsE, g], by simpa [AnsL, g] using OwnS.nil, Keep.refl⟩
  | true =>
    obtain ⟨g1, g2, g3⟩ := (of_decide_eq_true g : MayR i e a b c d)
    have q1 : i.tdiv 256 = i / 256 := tdiv_ g1.1
    have q2 : i.tmod 256 = i % 256 := tmod_ g1.1
    have q3 : IntKind.i64.wrap (i / 256) = i / 256 := i64_eq (by omega) (by omega)
    have w1 : IntKind.u8.wrap (i / 256) = i / 256 := u8_id (by omega) (by omega)
    have w2 : IntKind.u8.wrap (i % 256) = i % 256 := u8_id (by omega) (by omega)
    have w3 : IntKind.u8.wrap e = e := u8_id (by omega) (by omega)
    simp (dsimp := false) (maxSteps := 4000000) only [q1, q2, q3, w1, w2, w3, hn_b1, hr_b1, go_sem, ↓reduceIte, Nat.reduceEqDiff, Nat.reduceLT, Nat.reduceLeDiff, Nat.reduceAdd, Nat.reduceMul, Nat.reduceSub, reduceCtorEq, Int.reduceToNat, Int.reduceLT, Int.reduceLE, Int.reduceEq, Int.reduceNe, Int.reduceBEq, Nat.reduceBEq, Int.reduceBNe, Nat.reduceBNe, Int.reduceAdd, Int.reduceSub, Int.reduceMul, Int.reduceNeg]
    refine AllB.mk fun b30 h_b30 => ?_; have hn_b30 := h_b30; (try simp only [fresh_add, fresh_set, ne_eq] at hn_b30); have hr_b30 := hn_b30; (try simp only [@eq_comm Nat b30] at hr_b30); simp (dsimp := false) (maxSteps := 4000000) only [hn_b1, hr_b1, hn_b30, hr_b30, go_sem, ↓reduceIte, Nat.reduceEqDiff, Nat.reduceLT, Nat.reduceLeDiff, Nat.reduceAdd, Nat.reduceMul, Nat.reduceSub, reduceCtorEq, Int.reduceToNat, Int.reduceLT, Int.reduceLE, Int.reduceEq, Int.reduceNe, Int.reduceBEq, Nat.reduceBEq, Int.reduceBNe, Nat.reduceBNe, Int.reduceAdd, Int.reduceSub, Int.reduceMul, Int.reduceNeg]
    refine ⟨_, AH.le_refl _, some ⟨b30, 0, none⟩, 9, by simp [AnsL, AnsE, g, ansL], ?_, (Keep.refl.nw h_b1).nw h_b30⟩
    rw [AnsL, if_pos g, ansL]
    exact OwnS.new h_b30 (AH.le_add (AH.le_refl _) h_b1.2) rfl rfl rfl (rowsB _) (by simp)
end Go.Proofs.Ytgikjbfpckjkoaa.Req
