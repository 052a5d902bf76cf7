/- sampler: SamplerTrue. -/
import Derived.Test.YtapfabjmooagaaaSam3
import Derived.Test.YtapfabjmooagaaaClm2
namespace Go.Proofs.Ytapfabjmooagaaa.Sam
set_option linter.unusedSimpArgs false
set_option linter.unusedVariables false
open Go Go.AX Go.Proofs Ty Go.Proofs.Ytapfabjmooagaaa.Srt Go.Proofs.Ytapfabjmooagaaa.Wire Go.Proofs.Ytapfabjmooagaaa.Tck Go.Proofs.Ytapfabjmooagaaa.Send Go.Proofs.Ytapfabjmooagaaa.UaP Go.Proofs.Ytapfabjmooagaaa.UaT Go.Proofs.Ytapfabjmooagaaa.Clm
set_option maxHeartbeats 4000000
set_option maxRecDepth 10000

theorem bits_true {S K : List Stp} (hs : good S = true) (cs : calm S) (hk : good K = true) (ck : calm K) {n : Int} (h0 : 0 ≤ n) (h1 : n < 1073741824) {F : List Bool} (hF : F.length = 11) {R : List Sp} (hJ : JoinOf (fsp S n F 11) R) :
    bitsV R K (globalv S n) = F := by
  refine List.ext_getElem? fun i => ?_
  have hbl : (bitsV R K (globalv S n)).length = 11 := bitsR_len _ _ _ _
  by_cases hi : i < 11
  · obtain ⟨x, hx⟩ := get_some (l := F) (i := i) (by omega)
    rw [bitsV_get _ _ _ hi, hx]
    have l0 := low_look hs cs hk ck h0 h1 hF hJ hi hx (m := 16 * i + 7 + ((0 : Nat) : Int)) (by omega) (by omega)
    have l1 := low_look hs cs hk ck h0 h1 hF hJ hi hx (m := 16 * i + 7 + ((1 : Nat) : Int)) (by omega) (by omega)
    have l2 := low_look hs cs hk ck h0 h1 hF hJ hi hx (m := 16 * i + 7 + ((2 : Nat) : Int)) (by omega) (by omega)
    rw [bitV, lk, lk, lk, Int.add_assoc, Int.add_assoc, ← Int.add_assoc (16 * (i : Int)), l0]
    rw [Int.add_assoc, Int.add_assoc, ← Int.add_assoc (16 * (i : Int)), l1]
    rw [Int.add_assoc, Int.add_assoc, ← Int.add_assoc (16 * (i : Int)), l2]
    cases x <;> rfl
  · rw [List.getElem?_eq_none (by omega), List.getElem?_eq_none (by omega)]
theorem calm_end {L : List Stp} {i : Nat} (hi : i ≤ L.length) (hall : ∀ j, j < i → ∀ s, L[j]? = some s → -10000 ≤ s.rate ∧ s.rate ≤ 10000) (h : ¬ (i : Int) < L.length) : calm L := fun s hs => by
  obtain ⟨j, hj⟩ := List.mem_iff_getElem?.1 hs
  exact hall j (by have := lt_of_get hj; omega) s hj
theorem calm_c (L : List Stp) (b0 : Option Addr) (c0 : Nat) (H : AH) (hL : SlcIn H 2 b0 c0 (L.map enc)) : ACalls Try.prog 23 #[.slice b0 L.length c0] H (fun v H' => ∃ b, v = .bool b ∧ (b = true → calm L ∧ good L = true) ∧ H = H') := by
  have hb0 := hL.big
  simp only [List.length_map] at hb0
  refine ACalls.enter2 Try.func23 rfl Try.ntmps23 Try.results23 (by simp) ?_; simp (dsimp := false) (maxSteps := 4000000) only [go_sem, ↓reduceIte, Nat.reduceEqDiff, Nat.reduceLT, Nat.reduceLeDiff, Nat.reduceAdd, Nat.reduceMul, Nat.reduceSub, reduceCtorEq, Int.reduceToNat, Int.reduceLT, Int.reduceLE, Int.reduceEq, Int.reduceNe, Int.reduceBEq, Nat.reduceBEq, Int.reduceBNe, Nat.reduceBNe, Int.reduceAdd, Int.reduceSub, Int.reduceMul, Int.reduceNeg]
  refine AWp.loopo (ι := Nat) (fun i => i ≤ L.length ∧ ∀ j, j < i → ∀ s, L[j]? = some s → -10000 ≤ s.rate ∧ s.rate ≤ 10000) (fun i => [(3, .int .i64 i), (0, .slice b0 L.length c0)])
    (fun _ => H) (fun i => L.length - i) 0 ⟨by omega, fun j hj => by omega⟩ (FrLe.of_lks ?_) (AH.le_refl _) fun i hi Q again out => ?_
  · simp (dsimp := false) (maxSteps := 4000000) only [go_sem, ↓reduceIte, Nat.reduceEqDiff, Nat.reduceLT, Nat.reduceLeDiff, Nat.reduceAdd, Nat.reduceMul, Nat.reduceSub, reduceCtorEq, Int.reduceToNat, Int.reduceLT, Int.reduceLE, Int.reduceEq, Int.reduceNe, Int.reduceBEq, Nat.reduceBEq, Int.reduceBNe, Nat.reduceBNe, Int.reduceAdd, Int.reduceSub, Int.reduceMul, Int.reduceNeg]
  obtain ⟨hi, hall⟩ := hi
  by_cases h : (i : Int) < L.length
  · obtain ⟨s, hx⟩ := get_some (l := L) (i := i) (by omega)
    obtain ⟨bb, o, rfl, _, hrd⟩ := hL.get (map_get (f := enc) hx)
    have r1 := hrd 1 _ rfl
    have ee := i64_succ (i := i) (by omega)
    by_cases f1 : s.rate < -10000
    · simp (dsimp := false) (maxSteps := 4000000) only [h, r1, f1, go_sem, ↓reduceIte, Nat.reduceEqDiff, Nat.reduceLT, Nat.reduceLeDiff, Nat.reduceAdd, Nat.reduceMul, Nat.reduceSub, reduceCtorEq, Int.reduceToNat, Int.reduceLT, Int.reduceLE, Int.reduceEq, Int.reduceNe, Int.reduceBEq, Nat.reduceBEq, Int.reduceBNe, Nat.reduceBNe, Int.reduceAdd, Int.reduceSub, Int.reduceMul, Int.reduceNeg]
      refine out _ _ _ (by simp) ?_
      simp (dsimp := false) (maxSteps := 4000000) only [go_sem, ↓reduceIte, Nat.reduceEqDiff, Nat.reduceLT, Nat.reduceLeDiff, Nat.reduceAdd, Nat.reduceMul, Nat.reduceSub, reduceCtorEq, Int.reduceToNat, Int.reduceLT, Int.reduceLE, Int.reduceEq, Int.reduceNe, Int.reduceBEq, Nat.reduceBEq, Int.reduceBNe, Nat.reduceBNe, Int.reduceAdd, Int.reduceSub, Int.reduceMul, Int.reduceNeg]
      exact ⟨H, AH.le_refl _, false, rfl, by simp, rfl⟩
    by_cases f2 : 10000 < s.rate
    · simp (dsimp := false) (maxSteps := 4000000) only [h, r1, f1, f2, go_sem, ↓reduceIte, Nat.reduceEqDiff, Nat.reduceLT, Nat.reduceLeDiff, Nat.reduceAdd, Nat.reduceMul, Nat.reduceSub, reduceCtorEq, Int.reduceToNat, Int.reduceLT, Int.reduceLE, Int.reduceEq, Int.reduceNe, Int.reduceBEq, Nat.reduceBEq, Int.reduceBNe, Nat.reduceBNe, Int.reduceAdd, Int.reduceSub, Int.reduceMul, Int.reduceNeg]
      refine out _ _ _ (by simp) ?_
      simp (dsimp := false) (maxSteps := 4000000) only [go_sem, ↓reduceIte, Nat.reduceEqDiff, Nat.reduceLT, Nat.reduceLeDiff, Nat.reduceAdd, Nat.reduceMul, Nat.reduceSub, reduceCtorEq, Int.reduceToNat, Int.reduceLT, Int.reduceLE, Int.reduceEq, Int.reduceNe, Int.reduceBEq, Nat.reduceBEq, Int.reduceBNe, Nat.reduceBNe, Int.reduceAdd, Int.reduceSub, Int.reduceMul, Int.reduceNeg]
      exact ⟨H, AH.le_refl _, false, rfl, by simp, rfl⟩
    simp (dsimp := false) (maxSteps := 4000000) only [h, r1, f1, f2, ee, go_sem, ↓reduceIte, Nat.reduceEqDiff, Nat.reduceLT, Nat.reduceLeDiff, Nat.reduceAdd, Nat.reduceMul, Nat.reduceSub, reduceCtorEq, Int.reduceToNat, Int.reduceLT, Int.reduceLE, Int.reduceEq, Int.reduceNe, Int.reduceBEq, Nat.reduceBEq, Int.reduceBNe, Nat.reduceBNe, Int.reduceAdd, Int.reduceSub, Int.reduceMul, Int.reduceNeg]
    refine again (i + 1) _ _ ⟨by omega, fun j hj m hm => ?_⟩ (FrLe.of_lks (by simp (dsimp := false) (maxSteps := 4000000) only [go_sem, ↓reduceIte, Nat.reduceEqDiff, Nat.reduceLT, Nat.reduceLeDiff, Nat.reduceAdd, Nat.reduceMul, Nat.reduceSub, reduceCtorEq, Int.reduceToNat, Int.reduceLT, Int.reduceLE, Int.reduceEq, Int.reduceNe, Int.reduceBEq, Nat.reduceBEq, Int.reduceBNe, Nat.reduceBNe, Int.reduceAdd, Int.reduceSub, Int.reduceMul, Int.reduceNeg])) (AH.le_refl _) (by omega)
    by_cases hji : j = i
    · subst hji; rw [hx] at hm; cases hm; omega
    · exact hall j (by omega) m hm
  simp (dsimp := false) (maxSteps := 4000000) only [h, go_sem, ↓reduceIte, Nat.reduceEqDiff, Nat.reduceLT, Nat.reduceLeDiff, Nat.reduceAdd, Nat.reduceMul, Nat.reduceSub, reduceCtorEq, Int.reduceToNat, Int.reduceLT, Int.reduceLE, Int.reduceEq, Int.reduceNe, Int.reduceBEq, Nat.reduceBEq, Int.reduceBNe, Nat.reduceBNe, Int.reduceAdd, Int.reduceSub, Int.reduceMul, Int.reduceNeg]
  refine out _ _ _ (by simp) ?_
  have hcalm := calm_end hi hall h
  clear again out hi hall h
  simp (dsimp := false) (maxSteps := 4000000) only [go_sem, ↓reduceIte, Nat.reduceEqDiff, Nat.reduceLT, Nat.reduceLeDiff, Nat.reduceAdd, Nat.reduceMul, Nat.reduceSub, reduceCtorEq, Int.reduceToNat, Int.reduceLT, Int.reduceLE, Int.reduceEq, Int.reduceNe, Int.reduceBEq, Nat.reduceBEq, Int.reduceBNe, Nat.reduceBNe, Int.reduceAdd, Int.reduceSub, Int.reduceMul, Int.reduceNeg]
  refine (RefGood_c L b0 c0 _ hL).mono ?_; rintro _ _ ⟨rfl, rfl⟩
  simp (dsimp := false) (maxSteps := 4000000) only [go_sem, ↓reduceIte, Nat.reduceEqDiff, Nat.reduceLT, Nat.reduceLeDiff, Nat.reduceAdd, Nat.reduceMul, Nat.reduceSub, reduceCtorEq, Int.reduceToNat, Int.reduceLT, Int.reduceLE, Int.reduceEq, Int.reduceNe, Int.reduceBEq, Nat.reduceBEq, Int.reduceBNe, Nat.reduceBNe, Int.reduceAdd, Int.reduceSub, Int.reduceMul, Int.reduceNeg]
  exact ⟨H, AH.le_refl _, good L, rfl, fun h => ⟨hcalm, h⟩, rfl⟩
theorem SamplerTrue_c (S : List Stp) (b0 : Option Addr) (c0 : Nat) (K : List Stp) (b1 : Option Addr) (c1 : Nat) (a0 : Int) (ha0 : (Lit.int .u32 a0).wf = true) (F : List Bool) (hF : F.length = 11) (H : AH) (hS : SlcIn H 2 b0 c0 (S.map enc)) (hK : SlcIn H 2 b1 c1 (K.map enc)) :
    ACalls Try.prog 6 #[.slice b0 S.length c0, .slice b1 K.length c1, .int .u32 a0, .agg (F.map Value.bool).toArray] H (fun v H' => v = .bool true ∧ H = H') := by
  have ha' : 0 ≤ a0 ∧ a0 < 4294967296 := by simp [Lit.wf, IntKind.min, IntKind.max, IntKind.signed, IntKind.bits] at ha0; omega
  refine ACalls.enter2 Try.func6 rfl Try.ntmps6 Try.results6 (by simp) ?_; simp (dsimp := false) (maxSteps := 4000000) only [go_sem, ↓reduceIte, Nat.reduceEqDiff, Nat.reduceLT, Nat.reduceLeDiff, Nat.reduceAdd, Nat.reduceMul, Nat.reduceSub, reduceCtorEq, Int.reduceToNat, Int.reduceLT, Int.reduceLE, Int.reduceEq, Int.reduceNe, Int.reduceBEq, Nat.reduceBEq, Int.reduceBNe, Nat.reduceBNe, Int.reduceAdd, Int.reduceSub, Int.reduceMul, Int.reduceNeg]
  
  refine AllB.mk fun b7 h_b7 => ?_; have hn_b7 := h_b7; (try simp only [fresh_add, fresh_set, ne_eq] at hn_b7); have hr_b7 := hn_b7; (try simp only [@eq_comm Nat b7] at hr_b7); simp (dsimp := false) (maxSteps := 4000000) only [hF, hn_b7, hr_b7, go_sem, ↓reduceIte, Nat.reduceEqDiff, Nat.reduceLT, Nat.reduceLeDiff, Nat.reduceAdd, Nat.reduceMul, Nat.reduceSub, reduceCtorEq, Int.reduceToNat, Int.reduceLT, Int.reduceLE, Int.reduceEq, Int.reduceNe, Int.reduceBEq, Nat.reduceBEq, Int.reduceBNe, Nat.reduceBNe, Int.reduceAdd, Int.reduceSub, Int.reduceMul, Int.reduceNeg]
  refine (calm_c S b0 c0 _ (hS.add (by simp only [fresh_add, ne_eq, hn_b7, not_false_eq_true, and_self] : Fresh _ b7))).mono ?_; rintro _ _ ⟨bS, rfl, hcS, rfl⟩
  cases bS with
  | false =>
    simp (dsimp := false) (maxSteps := 4000000) only [hF, hn_b7, hr_b7, go_sem, ↓reduceIte, Nat.reduceEqDiff, Nat.reduceLT, Nat.reduceLeDiff, Nat.reduceAdd, Nat.reduceMul, Nat.reduceSub, reduceCtorEq, Int.reduceToNat, Int.reduceLT, Int.reduceLE, Int.reduceEq, Int.reduceNe, Int.reduceBEq, Nat.reduceBEq, Int.reduceBNe, Nat.reduceBNe, Int.reduceAdd, Int.reduceSub, Int.reduceMul, Int.reduceNeg]
    refine (awake5_c _).mono ?_; rintro _ _ ⟨rfl, rfl⟩
    simp (dsimp := false) (maxSteps := 4000000) only [hF, hn_b7, hr_b7, go_sem, ↓reduceIte, Nat.reduceEqDiff, Nat.reduceLT, Nat.reduceLeDiff, Nat.reduceAdd, Nat.reduceMul, Nat.reduceSub, reduceCtorEq, Int.reduceToNat, Int.reduceLT, Int.reduceLE, Int.reduceEq, Int.reduceNe, Int.reduceBEq, Nat.reduceBEq, Int.reduceBNe, Nat.reduceBNe, Int.reduceAdd, Int.reduceSub, Int.reduceMul, Int.reduceNeg]
    exact ⟨H, (AH.le_add (AH.le_refl _) ((by simp only [fresh_add, fresh_set, ne_eq, hn_b7, not_false_eq_true, and_self] : Fresh _ b7).2)), (by first | exact ⟨rfl, rfl⟩ | rfl)⟩
  | true =>
    obtain ⟨calmS, hg⟩ := hcS rfl
    simp (dsimp := false) (maxSteps := 4000000) only [hF, hn_b7, hr_b7, go_sem, ↓reduceIte, Nat.reduceEqDiff, Nat.reduceLT, Nat.reduceLeDiff, Nat.reduceAdd, Nat.reduceMul, Nat.reduceSub, reduceCtorEq, Int.reduceToNat, Int.reduceLT, Int.reduceLE, Int.reduceEq, Int.reduceNe, Int.reduceBEq, Nat.reduceBEq, Int.reduceBNe, Nat.reduceBNe, Int.reduceAdd, Int.reduceSub, Int.reduceMul, Int.reduceNeg]
    refine (calm_c K b1 c1 _ (hK.add (by simp only [fresh_add, ne_eq, hn_b7, not_false_eq_true, and_self] : Fresh _ b7))).mono ?_; rintro _ _ ⟨bK, rfl, hcK, rfl⟩
    cases bK with
    | false =>
      simp (dsimp := false) (maxSteps := 4000000) only [hF, hn_b7, hr_b7, go_sem, ↓reduceIte, Nat.reduceEqDiff, Nat.reduceLT, Nat.reduceLeDiff, Nat.reduceAdd, Nat.reduceMul, Nat.reduceSub, reduceCtorEq, Int.reduceToNat, Int.reduceLT, Int.reduceLE, Int.reduceEq, Int.reduceNe, Int.reduceBEq, Nat.reduceBEq, Int.reduceBNe, Nat.reduceBNe, Int.reduceAdd, Int.reduceSub, Int.reduceMul, Int.reduceNeg]
      refine (awake5_c _).mono ?_; rintro _ _ ⟨rfl, rfl⟩
      simp (dsimp := false) (maxSteps := 4000000) only [hF, hn_b7, hr_b7, go_sem, ↓reduceIte, Nat.reduceEqDiff, Nat.reduceLT, Nat.reduceLeDiff, Nat.reduceAdd, Nat.reduceMul, Nat.reduceSub, reduceCtorEq, Int.reduceToNat, Int.reduceLT, Int.reduceLE, Int.reduceEq, Int.reduceNe, Int.reduceBEq, Nat.reduceBEq, Int.reduceBNe, Nat.reduceBNe, Int.reduceAdd, Int.reduceSub, Int.reduceMul, Int.reduceNeg]
      exact ⟨H, (AH.le_add (AH.le_refl _) ((by simp only [fresh_add, fresh_set, ne_eq, hn_b7, not_false_eq_true, and_self] : Fresh _ b7).2)), (by first | exact ⟨rfl, rfl⟩ | rfl)⟩
    | true =>
      obtain ⟨calmK, hg2⟩ := hcK rfl
      obtain ⟨a, ha⟩ : ∃ a, a0.tmod 1073741824 = a := ⟨_, rfl⟩
      have hab : 0 ≤ a ∧ a < 1073741824 := by rw [Int.tmod_eq_emod_of_nonneg ha'.1] at ha; omega
      have ea : IntKind.i64.wrap a = a := i64_eq (by omega) (by omega)
      have hset : (F.map Value.bool).set 0 (.bool false) = (F.set 0 false).map Value.bool := by rw [List.map_set]
      have hGl : (F.set 0 false).length = 11 := by rw [List.length_set, hF]
      simp (dsimp := false) (maxSteps := 4000000) only [ha, ea, hF, hn_b7, hr_b7, go_sem, ↓reduceIte, Nat.reduceEqDiff, Nat.reduceLT, Nat.reduceLeDiff, Nat.reduceAdd, Nat.reduceMul, Nat.reduceSub, reduceCtorEq, Int.reduceToNat, Int.reduceLT, Int.reduceLE, Int.reduceEq, Int.reduceNe, Int.reduceBEq, Nat.reduceBEq, Int.reduceBNe, Nat.reduceBNe, Int.reduceAdd, Int.reduceSub, Int.reduceMul, Int.reduceNeg]
      refine AllB.mk fun b10 h_b10 => ?_; have hn_b10 := h_b10; (try simp only [fresh_add, fresh_set, ne_eq] at hn_b10); have hr_b10 := hn_b10; (try simp only [@eq_comm Nat b10] at hr_b10); simp (dsimp := false) (maxSteps := 4000000) only [hF, hn_b7, hr_b7, hn_b10, hr_b10, go_sem, ↓reduceIte, Nat.reduceEqDiff, Nat.reduceLT, Nat.reduceLeDiff, Nat.reduceAdd, Nat.reduceMul, Nat.reduceSub, reduceCtorEq, Int.reduceToNat, Int.reduceLT, Int.reduceLE, Int.reduceEq, Int.reduceNe, Int.reduceBEq, Nat.reduceBEq, Int.reduceBNe, Nat.reduceBNe, Int.reduceAdd, Int.reduceSub, Int.reduceMul, Int.reduceNeg]
      refine AWp.gen [.ch, .pu, .pu, .pu, .rd, .ch, .pu, .pu, .pu, .ch, .ch, .rd, .pu, .pu, .pu] [0, 1, 3, 3, 3, 31, 3, 3, 3, 447, 1023, 3, 4095, 8191, 16383] 11 (_) mixed (by kernel_rfl) (AH.le_refl _) ?_
      simp (dsimp := false) (maxSteps := 4000000) only [hGl, AH.le_refl, hF, hn_b7, hr_b7, hn_b10, hr_b10, go_sem, ↓reduceIte, Nat.reduceEqDiff, Nat.reduceLT, Nat.reduceLeDiff, Nat.reduceAdd, Nat.reduceMul, Nat.reduceSub, reduceCtorEq, Int.reduceToNat, Int.reduceLT, Int.reduceLE, Int.reduceEq, Int.reduceNe, Int.reduceBEq, Nat.reduceBEq, Int.reduceBNe, Nat.reduceBNe, Int.reduceAdd, Int.reduceSub, Int.reduceMul, Int.reduceNeg]
      refine (awake5_c _).mono ?_; rintro _ _ ⟨rfl, rfl⟩
      simp (dsimp := false) (maxSteps := 4000000) only [hGl, AH.le_refl, hF, hn_b7, hr_b7, hn_b10, hr_b10, go_sem, ↓reduceIte, Nat.reduceEqDiff, Nat.reduceLT, Nat.reduceLeDiff, Nat.reduceAdd, Nat.reduceMul, Nat.reduceSub, reduceCtorEq, Int.reduceToNat, Int.reduceLT, Int.reduceLE, Int.reduceEq, Int.reduceNe, Int.reduceBEq, Nat.reduceBEq, Int.reduceBNe, Nat.reduceBNe, Int.reduceAdd, Int.reduceSub, Int.reduceMul, Int.reduceNeg]
      rw [hset]
      refine (Spans_c S a (by omega) (by omega) (F.set 0 false) hGl hg b0 c0 _ ((hS.add (by simp only [fresh_add, ne_eq, hn_b7, not_false_eq_true, and_self] : Fresh _ b7)).add (by simp only [fresh_add, ne_eq, hn_b10, not_false_eq_true, and_self] : Fresh _ b10))).mono ?_; rintro _ A ⟨R, b, c, rfl, hJ, hR, hKp⟩
      have hl1 := hKp.all
      have hl2 := hl1; rw [← hset] at hl2
      have hSA := SlcIn.keep ((hS.add (by simp only [fresh_add, ne_eq, hn_b7, not_false_eq_true, and_self] : Fresh _ b7)).add (by simp only [fresh_add, ne_eq, hn_b10, not_false_eq_true, and_self] : Fresh _ b10)) hKp fun _ _ h => h
      have hKA := SlcIn.keep ((hK.add (by simp only [fresh_add, ne_eq, hn_b7, not_false_eq_true, and_self] : Fresh _ b7)).add (by simp only [fresh_add, ne_eq, hn_b10, not_false_eq_true, and_self] : Fresh _ b10)) hKp fun _ _ h => h
      simp (dsimp := false) (maxSteps := 4000000) only [hl1, hl2, AH.le_refl, hF, hn_b7, hr_b7, hn_b10, hr_b10, go_sem, ↓reduceIte, Nat.reduceEqDiff, Nat.reduceLT, Nat.reduceLeDiff, Nat.reduceAdd, Nat.reduceMul, Nat.reduceSub, reduceCtorEq, Int.reduceToNat, Int.reduceLT, Int.reduceLE, Int.reduceEq, Int.reduceNe, Int.reduceBEq, Nat.reduceBEq, Int.reduceBNe, Nat.reduceBNe, Int.reduceAdd, Int.reduceSub, Int.reduceMul, Int.reduceNeg]
      refine (Global_c S a hg b0 c0 _ hSA).mono ?_; rintro _ _ ⟨rfl, rfl⟩
      simp (dsimp := false) (maxSteps := 4000000) only [hl1, hl2, AH.le_refl, hF, hn_b7, hr_b7, hn_b10, hr_b10, go_sem, ↓reduceIte, Nat.reduceEqDiff, Nat.reduceLT, Nat.reduceLeDiff, Nat.reduceAdd, Nat.reduceMul, Nat.reduceSub, reduceCtorEq, Int.reduceToNat, Int.reduceLT, Int.reduceLE, Int.reduceEq, Int.reduceNe, Int.reduceBEq, Nat.reduceBEq, Int.reduceBNe, Nat.reduceBNe, Int.reduceAdd, Int.reduceSub, Int.reduceMul, Int.reduceNeg]
      refine (Bits_c R K (globalv S a) hg2 b c b1 c1 _ hR hKA).mono ?_; rintro _ _ ⟨rfl, rfl⟩
      rw [bits_true hg calmS hg2 calmK hab.1 hab.2 hGl hJ]
      simp (dsimp := false) (maxSteps := 4000000) only [hl1, hl2, AH.le_refl, hGl, eq_boolsl eg_41 Try.underlying41 Try.underlying4 sz_4, hF, hn_b7, hr_b7, hn_b10, hr_b10, go_sem, ↓reduceIte, Nat.reduceEqDiff, Nat.reduceLT, Nat.reduceLeDiff, Nat.reduceAdd, Nat.reduceMul, Nat.reduceSub, reduceCtorEq, Int.reduceToNat, Int.reduceLT, Int.reduceLE, Int.reduceEq, Int.reduceNe, Int.reduceBEq, Nat.reduceBEq, Int.reduceBNe, Nat.reduceBNe, Int.reduceAdd, Int.reduceSub, Int.reduceMul, Int.reduceNeg]
      have h10 := h_b10
      (try rw [hF] at h10)
      exact ⟨H, (Keep.trans (Keep.nw (Keep.nw Keep.refl h_b7) h10) hKp).all, rfl⟩
end Go.Proofs.Ytapfabjmooagaaa.Sam
