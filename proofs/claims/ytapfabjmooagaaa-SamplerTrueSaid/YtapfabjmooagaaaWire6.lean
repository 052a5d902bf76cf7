/- wire's reference: Join. -/
import Derived.Test.YtapfabjmooagaaaWire5
namespace Go.Proofs.Ytapfabjmooagaaa.Wire
set_option linter.unusedSimpArgs false
set_option linter.unusedVariables false
open Go Go.AX Go.Proofs Ty Go.Proofs.Ytapfabjmooagaaa.Srt Go.Proofs.Ytapfabjmooagaaa.CatP
set_option maxHeartbeats 4000000
set_option maxRecDepth 10000

structure Ext (X : List Sp) (b t : Int) : Prop where
  le : b ≤ t
  low : ∀ u, b ≤ u → u < t → low X u
  ends : t = b ∨ ∃ s ∈ X, s.2 = t
theorem Ext.start (X : List Sp) (b : Int) : Ext X b b := ⟨Int.le_refl _, fun u h1 h2 => by omega, .inl rfl⟩
theorem Ext.step {X : List Sp} {b t : Int} (h : Ext X b t) {s : Sp} (hs : s ∈ X) (h1 : s.1 ≤ t) (h2 : t < s.2) : Ext X b s.2 := by
  have := h.le
  refine ⟨by omega, fun u hu1 hu2 => ?_, .inr ⟨s, hs, rfl⟩⟩
  by_cases hu : u < t
  · exact h.low u hu1 hu
  · exact ⟨s, hs, by omega, hu2⟩
theorem okSp_iff {s : Sp} : okSp s = true ↔ -1099511627776 ≤ s.1 ∧ s.1 ≤ 1099511627776 ∧ -1099511627776 ≤ s.2 ∧ s.2 ≤ 1099511627776 := by
  simp [okSp, and_assoc]
theorem RefJoin_c (X : List Sp) (base : Option Addr) (cap : Nat) (H : AH) (hs : SlcIn H 2 base cap (X.map encP)) (hok : ∀ s ∈ X, okSp s = true) (hb : X.length < 100000) :
    ACalls Try.prog 38 #[.slice base X.length cap] H (fun v H' => ∃ R b c, v = .slice b R.length c ∧ JoinOf X R ∧ SlcIn H' 2 b c (R.map encP) ∧ Keep H H' fun _ => False) := by
  refine ACalls.enter2 Try.func38 rfl Try.ntmps38 Try.results38 (by simp) ?_; simp (dsimp := false) (maxSteps := 4000000) only [encP_len, encP_scal, encP_z, encP_take, go_sem, ↓reduceIte, Nat.reduceEqDiff, Nat.reduceLT, Nat.reduceLeDiff, Nat.reduceAdd, Nat.reduceMul, Nat.reduceSub, reduceCtorEq, Int.reduceToNat, Int.reduceLT, Int.reduceLE, Int.reduceEq, Int.reduceNe, Int.reduceBEq, Nat.reduceBEq, Int.reduceBNe, Nat.reduceBNe, Int.reduceAdd, Int.reduceSub, Int.reduceMul, Int.reduceNeg]
  refine AllB.mk fun b10 h_b10 => ?_; have hn_b10 := h_b10; (try simp only [fresh_add, fresh_set, ne_eq] at hn_b10); have hr_b10 := hn_b10; (try simp only [@eq_comm Nat b10] at hr_b10); simp (dsimp := false) (maxSteps := 4000000) only [encP_len, encP_scal, encP_z, encP_take, hn_b10, hr_b10, go_sem, ↓reduceIte, Nat.reduceEqDiff, Nat.reduceLT, Nat.reduceLeDiff, Nat.reduceAdd, Nat.reduceMul, Nat.reduceSub, reduceCtorEq, Int.reduceToNat, Int.reduceLT, Int.reduceLE, Int.reduceEq, Int.reduceNe, Int.reduceBEq, Nat.reduceBEq, Int.reduceBNe, Nat.reduceBNe, Int.reduceAdd, Int.reduceSub, Int.reduceMul, Int.reduceNeg]
  refine AWp.loopr (ι := List Sp × Option Addr × Nat) (fun x A => Inv X x.1 ∧ OwnS H A 53 2 x.2.1 x.2.2 (x.1.map encP) ∧ Keep H A fun _ => False)
    (fun x => [(0, .slice base X.length cap), (3, .slice x.2.1 x.1.length x.2.2)]) (fun x => X.countP fun s => afterB (lastTo x.1) s.1) ([], some ⟨b10, 0, none⟩, 0) (H.add b10 (.cells [] 53 0))
    ⟨Inv.start X, OwnS.new h_b10 (AH.le_refl _) rfl rfl rfl (by simp) (by simp), Keep.add h_b10⟩ (FrLe.of_lks ?_) (AH.le_refl _) fun x A hi Q again out => ?_
  · simp (dsimp := false) (maxSteps := 4000000) only [encP_len, encP_scal, encP_z, encP_take, hn_b10, hr_b10, go_sem, ↓reduceIte, Nat.reduceEqDiff, Nat.reduceLT, Nat.reduceLeDiff, Nat.reduceAdd, Nat.reduceMul, Nat.reduceSub, reduceCtorEq, Int.reduceToNat, Int.reduceLT, Int.reduceLE, Int.reduceEq, Int.reduceNe, Int.reduceBEq, Nat.reduceBEq, Int.reduceBNe, Nat.reduceBNe, Int.reduceAdd, Int.reduceSub, Int.reduceMul, Int.reduceNeg]
  clear h_b10 hn_b10 hr_b10
  
  obtain ⟨R, bo, co⟩ := x
  obtain ⟨hI, hO, hK⟩ := hi
  dsimp only at hI hO again ⊢
  have hsA := hs.keep hK fun _ _ h => h
  have hsO := hO.slc
  have hRl := hI.cnt
  simp (dsimp := false) (maxSteps := 4000000) only [encP_len, encP_scal, encP_z, encP_take, go_sem, ↓reduceIte, Nat.reduceEqDiff, Nat.reduceLT, Nat.reduceLeDiff, Nat.reduceAdd, Nat.reduceMul, Nat.reduceSub, reduceCtorEq, Int.reduceToNat, Int.reduceLT, Int.reduceLE, Int.reduceEq, Int.reduceNe, Int.reduceBEq, Nat.reduceBEq, Int.reduceBNe, Nat.reduceBNe, Int.reduceAdd, Int.reduceSub, Int.reduceMul, Int.reduceNeg]
  refine AWp.loopo (ι := Nat) (fun i => i ≤ X.length) (fun i => [(6, .int .i64 i), (4, .int .i64 ((bst X (lastTo R) i).getD 0)), (5, .bool (bst X (lastTo R) i).isSome), (0, .slice base X.length cap), (3, .slice bo R.length co)])
    (fun _ => A) (fun i => X.length - i) 0 (by omega) (FrLe.of_lks ?_) (AH.le_refl _) fun i hi Q2 again2 out2 => ?_
  · simp (dsimp := false) (maxSteps := 4000000) only [encP_len, encP_scal, encP_z, encP_take, go_sem, ↓reduceIte, Nat.reduceEqDiff, Nat.reduceLT, Nat.reduceLeDiff, Nat.reduceAdd, Nat.reduceMul, Nat.reduceSub, reduceCtorEq, Int.reduceToNat, Int.reduceLT, Int.reduceLE, Int.reduceEq, Int.reduceNe, Int.reduceBEq, Nat.reduceBEq, Int.reduceBNe, Nat.reduceBNe, Int.reduceAdd, Int.reduceSub, Int.reduceMul, Int.reduceNeg]
    exact ⟨rfl, rfl⟩

  by_cases h : (i : Int) < X.length
  · obtain ⟨⟨x, y⟩, hx⟩ := get_some (l := X) (i := i) (by omega)
    obtain ⟨b0, o0, rfl, hrow, hrd⟩ := hsA.get (map_get (f := encP) hx)
    have r0 := hrd 0 _ rfl
    have r1 := hrd 1 _ rfl
    simp only [Nat.add_zero] at r0 r1
    have ee := i64_succ (i := i) (by omega)
    have hso := okSp_iff.1 (hok _ (List.mem_of_getElem? hx))
    dsimp only at hso
    have em : IntKind.i64.wrap (x - 1) = x - 1 := by rw [i64_eq (by omega) (by omega)]
    have hbs := bst_succ (E := lastTo R) hx
    have no : cand X (lastTo R) (x, y) = false → bst X (lastTo R) (i + 1) = bst X (lastTo R) i := fun h => by rw [hbs, h]; rfl
    by_cases h0 : x < y
    case neg =>
      have e := no (by simp [cand, h0])
      simp (dsimp := false) (maxSteps := 4000000) only [h, r0, r1, h0, AH.le_refl, ee, encP_len, encP_scal, encP_z, encP_take, go_sem, ↓reduceIte, Nat.reduceEqDiff, Nat.reduceLT, Nat.reduceLeDiff, Nat.reduceAdd, Nat.reduceMul, Nat.reduceSub, reduceCtorEq, Int.reduceToNat, Int.reduceLT, Int.reduceLE, Int.reduceEq, Int.reduceNe, Int.reduceBEq, Nat.reduceBEq, Int.reduceBNe, Nat.reduceBNe, Int.reduceAdd, Int.reduceSub, Int.reduceMul, Int.reduceNeg]
      refine again2 (i + 1) _ _ (by omega) (FrLe.of_lks ?_) (AH.le_refl _) (by omega)
      rw [e]
      simp (dsimp := false) (maxSteps := 4000000) only [encP_len, encP_scal, encP_z, encP_take, go_sem, ↓reduceIte, Nat.reduceEqDiff, Nat.reduceLT, Nat.reduceLeDiff, Nat.reduceAdd, Nat.reduceMul, Nat.reduceSub, reduceCtorEq, Int.reduceToNat, Int.reduceLT, Int.reduceLE, Int.reduceEq, Int.reduceNe, Int.reduceBEq, Nat.reduceBEq, Int.reduceBNe, Nat.reduceBNe, Int.reduceAdd, Int.reduceSub, Int.reduceMul, Int.reduceNeg]
    simp (dsimp := false) (maxSteps := 4000000) only [h, r0, r1, h0, em, AH.le_refl, encP_len, encP_scal, encP_z, encP_take, go_sem, ↓reduceIte, Nat.reduceEqDiff, Nat.reduceLT, Nat.reduceLeDiff, Nat.reduceAdd, Nat.reduceMul, Nat.reduceSub, reduceCtorEq, Int.reduceToNat, Int.reduceLT, Int.reduceLE, Int.reduceEq, Int.reduceNe, Int.reduceBEq, Nat.reduceBEq, Int.reduceBNe, Nat.reduceBNe, Int.reduceAdd, Int.reduceSub, Int.reduceMul, Int.reduceNeg]
    refine (RefLow_c X (x - 1) _ cap _ hsA).mono ?_; rintro _ _ ⟨rfl, rfl⟩
    cases hl : lowB X (x - 1) with
    | true =>
      have e := no (by simp [cand, hl])
      simp (dsimp := false) (maxSteps := 4000000) only [AH.le_refl, ee, encP_len, encP_scal, encP_z, encP_take, go_sem, ↓reduceIte, Nat.reduceEqDiff, Nat.reduceLT, Nat.reduceLeDiff, Nat.reduceAdd, Nat.reduceMul, Nat.reduceSub, reduceCtorEq, Int.reduceToNat, Int.reduceLT, Int.reduceLE, Int.reduceEq, Int.reduceNe, Int.reduceBEq, Nat.reduceBEq, Int.reduceBNe, Nat.reduceBNe, Int.reduceAdd, Int.reduceSub, Int.reduceMul, Int.reduceNeg]
      refine again2 (i + 1) _ _ (by omega) (FrLe.of_lks ?_) (AH.le_refl _) (by omega)
      rw [e]
      simp (dsimp := false) (maxSteps := 4000000) only [encP_len, encP_scal, encP_z, encP_take, go_sem, ↓reduceIte, Nat.reduceEqDiff, Nat.reduceLT, Nat.reduceLeDiff, Nat.reduceAdd, Nat.reduceMul, Nat.reduceSub, reduceCtorEq, Int.reduceToNat, Int.reduceLT, Int.reduceLE, Int.reduceEq, Int.reduceNe, Int.reduceBEq, Nat.reduceBEq, Int.reduceBNe, Nat.reduceBNe, Int.reduceAdd, Int.reduceSub, Int.reduceMul, Int.reduceNeg]
    | false =>
      rcases List.eq_nil_or_concat R with hR | ⟨R1, l, hR⟩
      · have hR0 : R.length = 0 := by rw [hR]; rfl
        have hc : cand X (lastTo R) (x, y) = true := by simp [cand, h0, hl, hR, lastTo, afterB]
        cases hbst : bst X (lastTo R) i with
        | none =>
          have e : bst X (lastTo R) (i + 1) = some x := by rw [hbs, hc, hbst]; rfl
          simp (dsimp := false) (maxSteps := 4000000) only [hR0, Int.ofNat_zero, hbst, AH.le_refl, ee, encP_len, encP_scal, encP_z, encP_take, go_sem, ↓reduceIte, Nat.reduceEqDiff, Nat.reduceLT, Nat.reduceLeDiff, Nat.reduceAdd, Nat.reduceMul, Nat.reduceSub, reduceCtorEq, Int.reduceToNat, Int.reduceLT, Int.reduceLE, Int.reduceEq, Int.reduceNe, Int.reduceBEq, Nat.reduceBEq, Int.reduceBNe, Nat.reduceBNe, Int.reduceAdd, Int.reduceSub, Int.reduceMul, Int.reduceNeg]
          refine again2 (i + 1) _ _ (by omega) (FrLe.of_lks ?_) (AH.le_refl _) (by omega)
          rw [e]
          simp (dsimp := false) (maxSteps := 4000000) only [hR0, Option.getD_some, Option.isSome_some, encP_len, encP_scal, encP_z, encP_take, go_sem, ↓reduceIte, Nat.reduceEqDiff, Nat.reduceLT, Nat.reduceLeDiff, Nat.reduceAdd, Nat.reduceMul, Nat.reduceSub, reduceCtorEq, Int.reduceToNat, Int.reduceLT, Int.reduceLE, Int.reduceEq, Int.reduceNe, Int.reduceBEq, Nat.reduceBEq, Int.reduceBNe, Nat.reduceBNe, Int.reduceAdd, Int.reduceSub, Int.reduceMul, Int.reduceNeg]
        | some bb =>
          by_cases hlt : x < bb
          · have e : bst X (lastTo R) (i + 1) = some x := by rw [hbs, hc, hbst]; simp [better, hlt]
            simp (dsimp := false) (maxSteps := 4000000) only [hR0, Int.ofNat_zero, hbst, hlt, Option.getD_some, Option.isSome_some, AH.le_refl, ee, encP_len, encP_scal, encP_z, encP_take, go_sem, ↓reduceIte, Nat.reduceEqDiff, Nat.reduceLT, Nat.reduceLeDiff, Nat.reduceAdd, Nat.reduceMul, Nat.reduceSub, reduceCtorEq, Int.reduceToNat, Int.reduceLT, Int.reduceLE, Int.reduceEq, Int.reduceNe, Int.reduceBEq, Nat.reduceBEq, Int.reduceBNe, Nat.reduceBNe, Int.reduceAdd, Int.reduceSub, Int.reduceMul, Int.reduceNeg]
            refine again2 (i + 1) _ _ (by omega) (FrLe.of_lks ?_) (AH.le_refl _) (by omega)
            rw [e]
            simp (dsimp := false) (maxSteps := 4000000) only [hR0, Option.getD_some, Option.isSome_some, encP_len, encP_scal, encP_z, encP_take, go_sem, ↓reduceIte, Nat.reduceEqDiff, Nat.reduceLT, Nat.reduceLeDiff, Nat.reduceAdd, Nat.reduceMul, Nat.reduceSub, reduceCtorEq, Int.reduceToNat, Int.reduceLT, Int.reduceLE, Int.reduceEq, Int.reduceNe, Int.reduceBEq, Nat.reduceBEq, Int.reduceBNe, Nat.reduceBNe, Int.reduceAdd, Int.reduceSub, Int.reduceMul, Int.reduceNeg]
          · have e : bst X (lastTo R) (i + 1) = some bb := by rw [hbs, hc, hbst]; simp [better, hlt]
            simp (dsimp := false) (maxSteps := 4000000) only [hR0, Int.ofNat_zero, hbst, hlt, Option.getD_some, Option.isSome_some, AH.le_refl, ee, encP_len, encP_scal, encP_z, encP_take, go_sem, ↓reduceIte, Nat.reduceEqDiff, Nat.reduceLT, Nat.reduceLeDiff, Nat.reduceAdd, Nat.reduceMul, Nat.reduceSub, reduceCtorEq, Int.reduceToNat, Int.reduceLT, Int.reduceLE, Int.reduceEq, Int.reduceNe, Int.reduceBEq, Nat.reduceBEq, Int.reduceBNe, Nat.reduceBNe, Int.reduceAdd, Int.reduceSub, Int.reduceMul, Int.reduceNeg]
            refine again2 (i + 1) _ _ (by omega) (FrLe.of_lks ?_) (AH.le_refl _) (by omega)
            rw [e]
            simp (dsimp := false) (maxSteps := 4000000) only [hR0, Option.getD_some, Option.isSome_some, encP_len, encP_scal, encP_z, encP_take, go_sem, ↓reduceIte, Nat.reduceEqDiff, Nat.reduceLT, Nat.reduceLeDiff, Nat.reduceAdd, Nat.reduceMul, Nat.reduceSub, reduceCtorEq, Int.reduceToNat, Int.reduceLT, Int.reduceLE, Int.reduceEq, Int.reduceNe, Int.reduceBEq, Nat.reduceBEq, Int.reduceBNe, Nat.reduceBNe, Int.reduceAdd, Int.reduceSub, Int.reduceMul, Int.reduceNeg]
      · rw [List.concat_eq_append] at hR
        obtain ⟨l1, l2⟩ := l
        have hRe : lastTo R = some l2 := by rw [hR, lastTo_snoc]
        have hRn : ¬ ((R.length : Int) = 0) := by rw [hR]; simp; omega
        have hlast : R[R1.length]? = some (l1, l2) := by rw [hR]; simp
        have em2 : IntKind.i64.wrap ((R.length : Int) - 1) = (R1.length : Int) := by rw [i64_eq (by omega) (by omega), hR]; simp
        have p0 : (0 : Int) ≤ (R1.length : Int) := by omega
        have p1 : (R1.length : Int) < (R.length : Int) := by rw [hR]; simp; omega
        obtain ⟨bo1, oo, rfl, _, hrdo⟩ := hsO.get (map_get (f := encP) hlast)
        have q1 := hrdo 1 _ rfl
        by_cases hl2 : l2 < x
        case neg =>
          have e := no (by simp [cand, hRe, afterB, hl2])
          simp (dsimp := false) (maxSteps := 4000000) only [hRn, em2, p0, p1, q1, hl2, AH.le_refl, ee, encP_len, encP_scal, encP_z, encP_take, go_sem, ↓reduceIte, Nat.reduceEqDiff, Nat.reduceLT, Nat.reduceLeDiff, Nat.reduceAdd, Nat.reduceMul, Nat.reduceSub, reduceCtorEq, Int.reduceToNat, Int.reduceLT, Int.reduceLE, Int.reduceEq, Int.reduceNe, Int.reduceBEq, Nat.reduceBEq, Int.reduceBNe, Nat.reduceBNe, Int.reduceAdd, Int.reduceSub, Int.reduceMul, Int.reduceNeg]
          refine again2 (i + 1) _ _ (by omega) (FrLe.of_lks ?_) (AH.le_refl _) (by omega)
          rw [e]
          simp (dsimp := false) (maxSteps := 4000000) only [encP_len, encP_scal, encP_z, encP_take, go_sem, ↓reduceIte, Nat.reduceEqDiff, Nat.reduceLT, Nat.reduceLeDiff, Nat.reduceAdd, Nat.reduceMul, Nat.reduceSub, reduceCtorEq, Int.reduceToNat, Int.reduceLT, Int.reduceLE, Int.reduceEq, Int.reduceNe, Int.reduceBEq, Nat.reduceBEq, Int.reduceBNe, Nat.reduceBNe, Int.reduceAdd, Int.reduceSub, Int.reduceMul, Int.reduceNeg]
        have hc : cand X (lastTo R) (x, y) = true := by simp [cand, h0, hl, hRe, afterB, hl2]
        cases hbst : bst X (lastTo R) i with
        | none =>
          have e : bst X (lastTo R) (i + 1) = some x := by rw [hbs, hc, hbst]; rfl
          simp (dsimp := false) (maxSteps := 4000000) only [hRn, em2, p0, p1, q1, hl2, hbst, AH.le_refl, ee, encP_len, encP_scal, encP_z, encP_take, go_sem, ↓reduceIte, Nat.reduceEqDiff, Nat.reduceLT, Nat.reduceLeDiff, Nat.reduceAdd, Nat.reduceMul, Nat.reduceSub, reduceCtorEq, Int.reduceToNat, Int.reduceLT, Int.reduceLE, Int.reduceEq, Int.reduceNe, Int.reduceBEq, Nat.reduceBEq, Int.reduceBNe, Nat.reduceBNe, Int.reduceAdd, Int.reduceSub, Int.reduceMul, Int.reduceNeg]
          refine again2 (i + 1) _ _ (by omega) (FrLe.of_lks ?_) (AH.le_refl _) (by omega)
          rw [e]
          simp (dsimp := false) (maxSteps := 4000000) only [Option.getD_some, Option.isSome_some, encP_len, encP_scal, encP_z, encP_take, go_sem, ↓reduceIte, Nat.reduceEqDiff, Nat.reduceLT, Nat.reduceLeDiff, Nat.reduceAdd, Nat.reduceMul, Nat.reduceSub, reduceCtorEq, Int.reduceToNat, Int.reduceLT, Int.reduceLE, Int.reduceEq, Int.reduceNe, Int.reduceBEq, Nat.reduceBEq, Int.reduceBNe, Nat.reduceBNe, Int.reduceAdd, Int.reduceSub, Int.reduceMul, Int.reduceNeg]
        | some bb =>
          by_cases hlt : x < bb
          · have e : bst X (lastTo R) (i + 1) = some x := by rw [hbs, hc, hbst]; simp [better, hlt]
            simp (dsimp := false) (maxSteps := 4000000) only [hRn, em2, p0, p1, q1, hl2, hbst, hlt, Option.getD_some, Option.isSome_some, AH.le_refl, ee, encP_len, encP_scal, encP_z, encP_take, go_sem, ↓reduceIte, Nat.reduceEqDiff, Nat.reduceLT, Nat.reduceLeDiff, Nat.reduceAdd, Nat.reduceMul, Nat.reduceSub, reduceCtorEq, Int.reduceToNat, Int.reduceLT, Int.reduceLE, Int.reduceEq, Int.reduceNe, Int.reduceBEq, Nat.reduceBEq, Int.reduceBNe, Nat.reduceBNe, Int.reduceAdd, Int.reduceSub, Int.reduceMul, Int.reduceNeg]
            refine again2 (i + 1) _ _ (by omega) (FrLe.of_lks ?_) (AH.le_refl _) (by omega)
            rw [e]
            simp (dsimp := false) (maxSteps := 4000000) only [Option.getD_some, Option.isSome_some, encP_len, encP_scal, encP_z, encP_take, go_sem, ↓reduceIte, Nat.reduceEqDiff, Nat.reduceLT, Nat.reduceLeDiff, Nat.reduceAdd, Nat.reduceMul, Nat.reduceSub, reduceCtorEq, Int.reduceToNat, Int.reduceLT, Int.reduceLE, Int.reduceEq, Int.reduceNe, Int.reduceBEq, Nat.reduceBEq, Int.reduceBNe, Nat.reduceBNe, Int.reduceAdd, Int.reduceSub, Int.reduceMul, Int.reduceNeg]
          · have e : bst X (lastTo R) (i + 1) = some bb := by rw [hbs, hc, hbst]; simp [better, hlt]
            simp (dsimp := false) (maxSteps := 4000000) only [hRn, em2, p0, p1, q1, hl2, hbst, hlt, Option.getD_some, Option.isSome_some, AH.le_refl, ee, encP_len, encP_scal, encP_z, encP_take, go_sem, ↓reduceIte, Nat.reduceEqDiff, Nat.reduceLT, Nat.reduceLeDiff, Nat.reduceAdd, Nat.reduceMul, Nat.reduceSub, reduceCtorEq, Int.reduceToNat, Int.reduceLT, Int.reduceLE, Int.reduceEq, Int.reduceNe, Int.reduceBEq, Nat.reduceBEq, Int.reduceBNe, Nat.reduceBNe, Int.reduceAdd, Int.reduceSub, Int.reduceMul, Int.reduceNeg]
            refine again2 (i + 1) _ _ (by omega) (FrLe.of_lks ?_) (AH.le_refl _) (by omega)
            rw [e]
            simp (dsimp := false) (maxSteps := 4000000) only [Option.getD_some, Option.isSome_some, encP_len, encP_scal, encP_z, encP_take, go_sem, ↓reduceIte, Nat.reduceEqDiff, Nat.reduceLT, Nat.reduceLeDiff, Nat.reduceAdd, Nat.reduceMul, Nat.reduceSub, reduceCtorEq, Int.reduceToNat, Int.reduceLT, Int.reduceLE, Int.reduceEq, Int.reduceNe, Int.reduceBEq, Nat.reduceBEq, Int.reduceBNe, Nat.reduceBNe, Int.reduceAdd, Int.reduceSub, Int.reduceMul, Int.reduceNeg]
  have hiX : i = X.length := by omega
  clear again2 hi
  cases hbst : bst X (lastTo R) X.length with
  | none =>
    simp (dsimp := false) (maxSteps := 4000000) only [h, encP_len, encP_scal, encP_z, encP_take, go_sem, ↓reduceIte, Nat.reduceEqDiff, Nat.reduceLT, Nat.reduceLeDiff, Nat.reduceAdd, Nat.reduceMul, Nat.reduceSub, reduceCtorEq, Int.reduceToNat, Int.reduceLT, Int.reduceLE, Int.reduceEq, Int.reduceNe, Int.reduceBEq, Nat.reduceBEq, Int.reduceBNe, Nat.reduceBNe, Int.reduceAdd, Int.reduceSub, Int.reduceMul, Int.reduceNeg]
    refine out2 _ _ _ (by simp) ?_
    simp (dsimp := false) (maxSteps := 4000000) only [hiX, hbst, Option.isSome_none, encP_len, encP_scal, encP_z, encP_take, go_sem, ↓reduceIte, Nat.reduceEqDiff, Nat.reduceLT, Nat.reduceLeDiff, Nat.reduceAdd, Nat.reduceMul, Nat.reduceSub, reduceCtorEq, Int.reduceToNat, Int.reduceLT, Int.reduceLE, Int.reduceEq, Int.reduceNe, Int.reduceBEq, Nat.reduceBEq, Int.reduceBNe, Nat.reduceBNe, Int.reduceAdd, Int.reduceSub, Int.reduceMul, Int.reduceNeg]
    refine out _ _ _ (by simp) ?_
    simp (dsimp := false) (maxSteps := 4000000) only [encP_len, encP_scal, encP_z, encP_take, go_sem, ↓reduceIte, Nat.reduceEqDiff, Nat.reduceLT, Nat.reduceLeDiff, Nat.reduceAdd, Nat.reduceMul, Nat.reduceSub, reduceCtorEq, Int.reduceToNat, Int.reduceLT, Int.reduceLE, Int.reduceEq, Int.reduceNe, Int.reduceBEq, Nat.reduceBEq, Int.reduceBNe, Nat.reduceBNe, Int.reduceAdd, Int.reduceSub, Int.reduceMul, Int.reduceNeg]
    exact ⟨A, AH.le_refl _, R, bo, co, rfl, hI.done hbst, hsO, hK⟩
  | some bb =>
    simp (dsimp := false) (maxSteps := 4000000) only [h, encP_len, encP_scal, encP_z, encP_take, go_sem, ↓reduceIte, Nat.reduceEqDiff, Nat.reduceLT, Nat.reduceLeDiff, Nat.reduceAdd, Nat.reduceMul, Nat.reduceSub, reduceCtorEq, Int.reduceToNat, Int.reduceLT, Int.reduceLE, Int.reduceEq, Int.reduceNe, Int.reduceBEq, Nat.reduceBEq, Int.reduceBNe, Nat.reduceBNe, Int.reduceAdd, Int.reduceSub, Int.reduceMul, Int.reduceNeg]
    refine out2 _ _ _ (by simp) ?_
    clear out2 h
    subst hiX
    simp (dsimp := false) (maxSteps := 4000000) only [hbst, Option.isSome_some, Option.getD_some, encP_len, encP_scal, encP_z, encP_take, go_sem, ↓reduceIte, Nat.reduceEqDiff, Nat.reduceLT, Nat.reduceLeDiff, Nat.reduceAdd, Nat.reduceMul, Nat.reduceSub, reduceCtorEq, Int.reduceToNat, Int.reduceLT, Int.reduceLE, Int.reduceEq, Int.reduceNe, Int.reduceBEq, Nat.reduceBEq, Int.reduceBNe, Nat.reduceBNe, Int.reduceAdd, Int.reduceSub, Int.reduceMul, Int.reduceNeg]
    refine AWp.loopo (ι := Int) (fun t => Ext X bb t) (fun t => [(8, .int .i64 t), (4, .int .i64 bb), (0, .slice base X.length cap), (3, .slice bo R.length co)])
      (fun _ => A) (fun t => X.countP fun s => decide (t < s.2)) bb (Ext.start X bb) (FrLe.of_lks ?_) (AH.le_refl _) fun t hE Q3 again3 out3 => ?_
    · simp (dsimp := false) (maxSteps := 4000000) only [encP_len, encP_scal, encP_z, encP_take, go_sem, ↓reduceIte, Nat.reduceEqDiff, Nat.reduceLT, Nat.reduceLeDiff, Nat.reduceAdd, Nat.reduceMul, Nat.reduceSub, reduceCtorEq, Int.reduceToNat, Int.reduceLT, Int.reduceLE, Int.reduceEq, Int.reduceNe, Int.reduceBEq, Nat.reduceBEq, Int.reduceBNe, Nat.reduceBNe, Int.reduceAdd, Int.reduceSub, Int.reduceMul, Int.reduceNeg]
      rw [hbst]; rfl
    simp (dsimp := false) (maxSteps := 4000000) only [encP_len, encP_scal, encP_z, encP_take, go_sem, ↓reduceIte, Nat.reduceEqDiff, Nat.reduceLT, Nat.reduceLeDiff, Nat.reduceAdd, Nat.reduceMul, Nat.reduceSub, reduceCtorEq, Int.reduceToNat, Int.reduceLT, Int.reduceLE, Int.reduceEq, Int.reduceNe, Int.reduceBEq, Nat.reduceBEq, Int.reduceBNe, Nat.reduceBNe, Int.reduceAdd, Int.reduceSub, Int.reduceMul, Int.reduceNeg]
    refine (RefLow_c X t _ cap _ hsA).mono ?_; rintro _ _ ⟨rfl, rfl⟩
    cases hl : lowB X t with
    | true =>
      have hlt := lowB_iff.1 hl
      simp (dsimp := false) (maxSteps := 4000000) only [encP_len, encP_scal, encP_z, encP_take, go_sem, ↓reduceIte, Nat.reduceEqDiff, Nat.reduceLT, Nat.reduceLeDiff, Nat.reduceAdd, Nat.reduceMul, Nat.reduceSub, reduceCtorEq, Int.reduceToNat, Int.reduceLT, Int.reduceLE, Int.reduceEq, Int.reduceNe, Int.reduceBEq, Nat.reduceBEq, Int.reduceBNe, Nat.reduceBNe, Int.reduceAdd, Int.reduceSub, Int.reduceMul, Int.reduceNeg]
      refine AWp.loopo (ι := Nat × Int) (fun z => z.1 ≤ X.length ∧ Ext X bb z.2 ∧ t ≤ z.2 ∧ ((∃ s ∈ X, t < s.2 ∧ s.2 ≤ z.2) ∨ (z.2 = t ∧ ∀ j, j < z.1 → ∀ s, X[j]? = some s → lowP t s = false))) (fun z => [(9, .int .i64 z.1), (8, .int .i64 z.2), (4, .int .i64 bb), (0, .slice base X.length cap), (3, .slice bo R.length co)])
        (fun _ => A) (fun z => X.length - z.1) (0, t) ⟨by simp, hE, Int.le_refl _, .inr ⟨rfl, fun j hj => by simp at hj⟩⟩ (FrLe.of_lks ?_) (AH.le_refl _) fun z hz Q4 again4 out4 => ?_
      · simp (dsimp := false) (maxSteps := 4000000) only [encP_len, encP_scal, encP_z, encP_take, go_sem, ↓reduceIte, Nat.reduceEqDiff, Nat.reduceLT, Nat.reduceLeDiff, Nat.reduceAdd, Nat.reduceMul, Nat.reduceSub, reduceCtorEq, Int.reduceToNat, Int.reduceLT, Int.reduceLE, Int.reduceEq, Int.reduceNe, Int.reduceBEq, Nat.reduceBEq, Int.reduceBNe, Nat.reduceBNe, Int.reduceAdd, Int.reduceSub, Int.reduceMul, Int.reduceNeg]
      obtain ⟨i, u⟩ := z
      obtain ⟨hi, hEu, htu, hdis⟩ := hz
      dsimp only at hi hEu htu hdis again4 ⊢
      by_cases h : (i : Int) < X.length
      · obtain ⟨⟨x, y⟩, hx⟩ := get_some (l := X) (i := i) (by omega)
        obtain ⟨b0, o0, rfl, hrow, hrd⟩ := hsA.get (map_get (f := encP) hx)
        have r0 := hrd 0 _ rfl
        have r1 := hrd 1 _ rfl
        simp only [Nat.add_zero] at r0 r1
        have ee := i64_succ (i := i) (by omega)
        have hxm := List.mem_of_getElem? hx
        have keep : ¬ (x ≤ u ∧ u < y) → ((∃ s ∈ X, t < s.2 ∧ s.2 ≤ u) ∨ (u = t ∧ ∀ j, j < i + 1 → ∀ s, X[j]? = some s → lowP t s = false)) := fun hn => by
          rcases hdis with h1 | ⟨h1, h2⟩
          · exact .inl h1
          · refine .inr ⟨h1, fun j hj m hm => ?_⟩
            by_cases hji : j = i
            · subst hji; rw [hx] at hm; cases hm; subst h1; simp only [lowP, Bool.and_eq_false_iff, decide_eq_false_iff_not]; omega
            · exact h2 j (by omega) m hm
        by_cases h0 : x ≤ u
        · by_cases h1 : u < y
          · simp (dsimp := false) (maxSteps := 4000000) only [h, r0, r1, h0, h1, ee, encP_len, encP_scal, encP_z, encP_take, go_sem, ↓reduceIte, Nat.reduceEqDiff, Nat.reduceLT, Nat.reduceLeDiff, Nat.reduceAdd, Nat.reduceMul, Nat.reduceSub, reduceCtorEq, Int.reduceToNat, Int.reduceLT, Int.reduceLE, Int.reduceEq, Int.reduceNe, Int.reduceBEq, Nat.reduceBEq, Int.reduceBNe, Nat.reduceBNe, Int.reduceAdd, Int.reduceSub, Int.reduceMul, Int.reduceNeg]
            exact again4 (i + 1, y) _ _ ⟨by simp only; omega, hEu.step hxm h0 h1, by simp only; omega, .inl ⟨(x, y), hxm, by simp only; omega, Int.le_refl _⟩⟩ (FrLe.of_lks (by simp (dsimp := false) (maxSteps := 4000000) only [encP_len, encP_scal, encP_z, encP_take, go_sem, ↓reduceIte, Nat.reduceEqDiff, Nat.reduceLT, Nat.reduceLeDiff, Nat.reduceAdd, Nat.reduceMul, Nat.reduceSub, reduceCtorEq, Int.reduceToNat, Int.reduceLT, Int.reduceLE, Int.reduceEq, Int.reduceNe, Int.reduceBEq, Nat.reduceBEq, Int.reduceBNe, Nat.reduceBNe, Int.reduceAdd, Int.reduceSub, Int.reduceMul, Int.reduceNeg])) (AH.le_refl _) (by simp only; omega)
          · simp (dsimp := false) (maxSteps := 4000000) only [h, r0, r1, h0, h1, ee, encP_len, encP_scal, encP_z, encP_take, go_sem, ↓reduceIte, Nat.reduceEqDiff, Nat.reduceLT, Nat.reduceLeDiff, Nat.reduceAdd, Nat.reduceMul, Nat.reduceSub, reduceCtorEq, Int.reduceToNat, Int.reduceLT, Int.reduceLE, Int.reduceEq, Int.reduceNe, Int.reduceBEq, Nat.reduceBEq, Int.reduceBNe, Nat.reduceBNe, Int.reduceAdd, Int.reduceSub, Int.reduceMul, Int.reduceNeg]
            exact again4 (i + 1, u) _ _ ⟨by simp only; omega, hEu, htu, keep (by omega)⟩ (FrLe.of_lks (by simp (dsimp := false) (maxSteps := 4000000) only [encP_len, encP_scal, encP_z, encP_take, go_sem, ↓reduceIte, Nat.reduceEqDiff, Nat.reduceLT, Nat.reduceLeDiff, Nat.reduceAdd, Nat.reduceMul, Nat.reduceSub, reduceCtorEq, Int.reduceToNat, Int.reduceLT, Int.reduceLE, Int.reduceEq, Int.reduceNe, Int.reduceBEq, Nat.reduceBEq, Int.reduceBNe, Nat.reduceBNe, Int.reduceAdd, Int.reduceSub, Int.reduceMul, Int.reduceNeg])) (AH.le_refl _) (by simp only; omega)
        · simp (dsimp := false) (maxSteps := 4000000) only [h, r0, h0, ee, encP_len, encP_scal, encP_z, encP_take, go_sem, ↓reduceIte, Nat.reduceEqDiff, Nat.reduceLT, Nat.reduceLeDiff, Nat.reduceAdd, Nat.reduceMul, Nat.reduceSub, reduceCtorEq, Int.reduceToNat, Int.reduceLT, Int.reduceLE, Int.reduceEq, Int.reduceNe, Int.reduceBEq, Nat.reduceBEq, Int.reduceBNe, Nat.reduceBNe, Int.reduceAdd, Int.reduceSub, Int.reduceMul, Int.reduceNeg]
          exact again4 (i + 1, u) _ _ ⟨by simp only; omega, hEu, htu, keep (by omega)⟩ (FrLe.of_lks (by simp (dsimp := false) (maxSteps := 4000000) only [encP_len, encP_scal, encP_z, encP_take, go_sem, ↓reduceIte, Nat.reduceEqDiff, Nat.reduceLT, Nat.reduceLeDiff, Nat.reduceAdd, Nat.reduceMul, Nat.reduceSub, reduceCtorEq, Int.reduceToNat, Int.reduceLT, Int.reduceLE, Int.reduceEq, Int.reduceNe, Int.reduceBEq, Nat.reduceBEq, Int.reduceBNe, Nat.reduceBNe, Int.reduceAdd, Int.reduceSub, Int.reduceMul, Int.reduceNeg])) (AH.le_refl _) (by simp only; omega)
      · have hw : ∃ s ∈ X, t < s.2 ∧ s.2 ≤ u := by
          rcases hdis with h1 | ⟨h1, h2⟩
          · exact h1
          · obtain ⟨s, hs, h3, h4⟩ := hlt
            obtain ⟨j, hj⟩ := List.mem_iff_getElem?.1 hs
            have h5 := h2 j (by have := lt_of_get hj; omega) s hj
            simp [lowP, h3, h4] at h5
        obtain ⟨s, hsm, w1, w2⟩ := hw
        simp (dsimp := false) (maxSteps := 4000000) only [h, encP_len, encP_scal, encP_z, encP_take, go_sem, ↓reduceIte, Nat.reduceEqDiff, Nat.reduceLT, Nat.reduceLeDiff, Nat.reduceAdd, Nat.reduceMul, Nat.reduceSub, reduceCtorEq, Int.reduceToNat, Int.reduceLT, Int.reduceLE, Int.reduceEq, Int.reduceNe, Int.reduceBEq, Nat.reduceBEq, Int.reduceBNe, Nat.reduceBNe, Int.reduceAdd, Int.reduceSub, Int.reduceMul, Int.reduceNeg]
        refine out4 _ _ _ (by simp) ?_
        simp (dsimp := false) (maxSteps := 4000000) only [encP_len, encP_scal, encP_z, encP_take, go_sem, ↓reduceIte, Nat.reduceEqDiff, Nat.reduceLT, Nat.reduceLeDiff, Nat.reduceAdd, Nat.reduceMul, Nat.reduceSub, reduceCtorEq, Int.reduceToNat, Int.reduceLT, Int.reduceLE, Int.reduceEq, Int.reduceNe, Int.reduceBEq, Nat.reduceBEq, Int.reduceBNe, Nat.reduceBNe, Int.reduceAdd, Int.reduceSub, Int.reduceMul, Int.reduceNeg]
        refine again3 u _ _ hEu (FrLe.of_lks (by simp (dsimp := false) (maxSteps := 4000000) only [encP_len, encP_scal, encP_z, encP_take, go_sem, ↓reduceIte, Nat.reduceEqDiff, Nat.reduceLT, Nat.reduceLeDiff, Nat.reduceAdd, Nat.reduceMul, Nat.reduceSub, reduceCtorEq, Int.reduceToNat, Int.reduceLT, Int.reduceLE, Int.reduceEq, Int.reduceNe, Int.reduceBEq, Nat.reduceBEq, Int.reduceBNe, Nat.reduceBNe, Int.reduceAdd, Int.reduceSub, Int.reduceMul, Int.reduceNeg])) (AH.le_refl _) ?_
        exact countP_lt (fun x _ hx => by simp at hx ⊢; omega) ⟨s, hsm, by simp; omega, by simp; omega⟩
    | false =>
      have hnl := lowB_not.1 hl
      obtain ⟨hI2, hcnt⟩ := hI.next hbst hE.low hnl hE.le hE.ends
      simp (dsimp := false) (maxSteps := 4000000) only [encP_len, encP_scal, encP_z, encP_take, go_sem, ↓reduceIte, Nat.reduceEqDiff, Nat.reduceLT, Nat.reduceLeDiff, Nat.reduceAdd, Nat.reduceMul, Nat.reduceSub, reduceCtorEq, Int.reduceToNat, Int.reduceLT, Int.reduceLE, Int.reduceEq, Int.reduceNe, Int.reduceBEq, Nat.reduceBEq, Int.reduceBNe, Nat.reduceBNe, Int.reduceAdd, Int.reduceSub, Int.reduceMul, Int.reduceNeg]
      refine out3 _ _ _ (by simp) ?_
      simp (dsimp := false) (maxSteps := 4000000) only [encP_len, encP_scal, encP_z, encP_take, go_sem, ↓reduceIte, Nat.reduceEqDiff, Nat.reduceLT, Nat.reduceLeDiff, Nat.reduceAdd, Nat.reduceMul, Nat.reduceSub, reduceCtorEq, Int.reduceToNat, Int.reduceLT, Int.reduceLE, Int.reduceEq, Int.reduceNe, Int.reduceBEq, Nat.reduceBEq, Int.reduceBNe, Nat.reduceBNe, Int.reduceAdd, Int.reduceSub, Int.reduceMul, Int.reduceNeg]
      refine AllB.mk fun b41 h_b41 => ?_
      simp (dsimp := false) (maxSteps := 4000000) only [encP_len, encP_scal, encP_z, encP_take, go_sem, ↓reduceIte, Nat.reduceEqDiff, Nat.reduceLT, Nat.reduceLeDiff, Nat.reduceAdd, Nat.reduceMul, Nat.reduceSub, reduceCtorEq, Int.reduceToNat, Int.reduceLT, Int.reduceLE, Int.reduceEq, Int.reduceNe, Int.reduceBEq, Nat.reduceBEq, Int.reduceBNe, Nat.reduceBNe, Int.reduceAdd, Int.reduceSub, Int.reduceMul, Int.reduceNeg]
      refine APD.growW (x := .slice (some ⟨b41, 0, none⟩) 1 1) (R' := [encP (bb, t)]) (m := 1) (hO.added h_b41) (hK.nw h_b41).all se_22 rfl (by decide) (by rw [Try.underlying22]; rfl) (by simp) rfl rfl (by rw [srow_some, row_add_self]; rfl) (by simp [encP]) (by simp [encP, scal]) (by omega) fun base2 cap2 A' hO' hK' hN' => ?_
      refine ⟨_, AH.le_refl _, ?_⟩
      simp (dsimp := false) (maxSteps := 4000000) only [encP_len, encP_scal, encP_z, encP_take, go_sem, ↓reduceIte, Nat.reduceEqDiff, Nat.reduceLT, Nat.reduceLeDiff, Nat.reduceAdd, Nat.reduceMul, Nat.reduceSub, reduceCtorEq, Int.reduceToNat, Int.reduceLT, Int.reduceLE, Int.reduceEq, Int.reduceNe, Int.reduceBEq, Nat.reduceBEq, Int.reduceBNe, Nat.reduceBNe, Int.reduceAdd, Int.reduceSub, Int.reduceMul, Int.reduceNeg]
      have hK2 := (hK.nw h_b41).ow hK' fun b ⟨a, ha, e⟩ => e ▸ hO.fresh a ha
      have he : R.map encP ++ [encP (bb, t)] = (R ++ [(bb, t)]).map encP := by rw [List.map_append]; rfl
      rw [he] at hO'
      refine again (R ++ [(bb, t)], base2, cap2) _ _ _ ⟨hI2, hO', hK2⟩ (FrLe.of_lks ?_) (AH.le_refl _) hcnt
      have hl1 : (R ++ [(bb, t)]).length = R.length + 1 := by simp
      rw [hl1]
      simp (dsimp := false) (maxSteps := 4000000) only [encP_len, encP_scal, encP_z, encP_take, go_sem, ↓reduceIte, Nat.reduceEqDiff, Nat.reduceLT, Nat.reduceLeDiff, Nat.reduceAdd, Nat.reduceMul, Nat.reduceSub, reduceCtorEq, Int.reduceToNat, Int.reduceLT, Int.reduceLE, Int.reduceEq, Int.reduceNe, Int.reduceBEq, Nat.reduceBEq, Int.reduceBNe, Nat.reduceBNe, Int.reduceAdd, Int.reduceSub, Int.reduceMul, Int.reduceNeg]
end Go.Proofs.Ytapfabjmooagaaa.Wire
