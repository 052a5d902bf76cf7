/- send: SendOwn. -/
import Derived.Test.YtgikjbfpckjkoaaSend2
namespace Go.Proofs.Ytgikjbfpckjkoaa.Send
set_option linter.unusedSimpArgs false
set_option linter.unusedVariables false
open Go Go.AX Go.Proofs Ty Go.Proofs.Ytgikjbfpckjkoaa.Srt Go.Proofs.Ytgikjbfpckjkoaa.Wire Go.Proofs.Ytgikjbfpckjkoaa.Tck Go.Proofs.Ytgikjbfpckjkoaa.UaP
set_option maxHeartbeats 4000000
set_option maxRecDepth 10000

theorem lmono {L : List Stp} (hg : good L = true) : ∀ (n : Nat) {a b : Int}, 0 ≤ a → a ≤ b → b ≤ 4294967296 → b - a ≤ n → localv L a ≤ localv L b
  | 0, a, b, h0, h1, h2, h3 => by
    have : a = b := by omega
    rw [this]; exact Int.le_refl _
  | n + 1, a, b, h0, h1, h2, h3 => by
    by_cases h : a = b
    · rw [h]; exact Int.le_refl _
    · have k1 := local_mono hg h0 (by omega)
      have k2 := lmono hg n (a := a + 1) (b := b) (by omega) (by omega) h2 (by omega)
      omega
theorem lmono' {L : List Stp} (hg : good L = true) {a b : Int} (h0 : 0 ≤ a) (h1 : a ≤ b) (h2 : b ≤ 4294967296) : localv L a ≤ localv L b := lmono hg (b - a).toNat h0 h1 h2 (by omega)
theorem lstep {L : List Stp} (hg : good L = true) {t : Int} (h0 : 0 ≤ t) (h1 : t < 4294967296) : localv L (t + 1) ≤ localv L t + 2 := by
  rw [(localv_div hg t).1, (localv_div hg (t + 1)).1, clamp_id h0 (by omega), clamp_id (by omega) (by omega)]
  have := sumT_step t L _ (good_R hg).2
  omega
theorem lzero {L : List Stp} (hg : good L = true) : localv L 0 = 0 := by
  have := local_off hg (t := 0) (by omega) (by omega)
  rw [(localv_div hg 0).1, clamp_id (by omega) (by omega)]
  have := sumT_range (t := 0) (by omega) (good_R hg).2
  omega
theorem gmono {L : List Stp} (hg : good L = true) {x y : Int} (h : x ≤ y) : globalv L x ≤ globalv L y := by
  obtain ⟨a1, a2, a3, a4⟩ := globalv_spec L x
  obtain ⟨b1, b2, b3, b4⟩ := globalv_spec L y
  rcases Int.lt_or_le (globalv L y) (globalv L x) with hlt | hle
  · exfalso
    rcases a4 with a4 | a4
    · omega
    · rcases b3 with b3 | b3
      · omega
      · have c1 := of_decide_eq_false a4
        have c2 := of_decide_eq_true b3
        have c3 := lmono' hg b1 (show globalv L y ≤ globalv L x - 1 by omega) (by omega)
        omega
  · exact hle
theorem gstrict {L : List Stp} (hg : good L = true) {x y : Int} (h0 : 0 ≤ x) (h : x + 2 ≤ y) (hy : x ≤ 1000000) : globalv L x < globalv L y := by
  obtain ⟨a1, a2, a3, a4⟩ := globalv_spec L x
  obtain ⟨b1, b2, b3, b4⟩ := globalv_spec L y
  have hm := gmono hg (show x ≤ y by omega)
  rcases Int.lt_or_le (globalv L x) (globalv L y) with hlt | hle
  · exact hlt
  · exfalso
    have he : globalv L y = globalv L x := by omega
    rw [he] at b3
    generalize globalv L x = g at *
    by_cases hz : g = 0
    · rcases b3 with b3 | b3
      · omega
      · have c2 := of_decide_eq_true b3
        rw [hz, lzero hg] at c2
        omega
    · rcases a4 with a4 | a4
      · exact hz a4
      · have c1 := of_decide_eq_false a4
        have c4 := local_off hg (t := g - 1) (by omega) (by omega)
        rcases b3 with b3 | b3
        · subst b3
          omega
        · have c2 := of_decide_eq_true b3
          have c3 := lstep hg (t := g - 1) (by omega) (by omega)
          rw [show g - 1 + 1 = g by omega] at c3
          omega
theorem fsp_has {L : List Stp} {t : Int} {F : List Bool} {j : Nat} (h : F[j]? = some false) : ∀ i, j < i → bsp L t j ∈ fsp L t F i
  | 0, hj => by omega
  | i + 1, hj => by
    rw [fsp, List.mem_append]
    by_cases hji : j = i
    · subst hji; right; rw [if_pos h]; simp
    · exact .inl (fsp_has h i (by omega))
theorem all_true {F : List Bool} (hF : F.length = 11) (h : ∀ j, j < 11 → F[j]? ≠ some false) : F = [true, true, true, true, true, true, true, true, true, true, true] := by
  have e : F = List.replicate 11 true := by
    rw [List.eq_replicate_iff]
    refine ⟨hF, fun b hb => ?_⟩
    obtain ⟨j, hj⟩ := List.mem_iff_getElem?.1 hb
    have := h j (by have := lt_of_get hj; omega)
    rw [hj] at this
    cases b
    · exact absurd rfl this
    · rfl
  rw [e]; rfl
theorem SendOwn_c (L : List Stp) (b0 : Option Addr) (c0 : Nat) (F : List Bool) (hF : F.length = 11) (s : Int) (hs_ : (Lit.int .u8 s).wf = true) (o : Int) (ho_ : (Lit.int .u8 o).wf = true) (H : AH) (hs : SlcIn H 2 b0 c0 (L.map enc)) :
    ACalls Try.prog 14 #[.slice b0 L.length c0, .agg (F.map Value.bool).toArray, .int .u8 s, .int .u8 o] H (fun v H' => v = .bool true ∧ H = H') := by
  have ho' : 0 ≤ o ∧ o < 256 := by simp [Lit.wf, IntKind.min, IntKind.max, IntKind.signed, IntKind.bits] at ho_; omega
  have hs' : 0 ≤ s ∧ s < 256 := by simp [Lit.wf, IntKind.min, IntKind.max, IntKind.signed, IntKind.bits] at hs_; omega
  refine ACalls.enter2 Try.func14 rfl Try.ntmps14 Try.results14 (by simp) ?_; simp (dsimp := false) (maxSteps := 4000000) only [go_sem, ↓reduceIte, Nat.reduceEqDiff, Nat.reduceLT, Nat.reduceLeDiff, Nat.reduceAdd, Nat.reduceMul, Nat.reduceSub, reduceCtorEq, Int.reduceToNat, Int.reduceLT, Int.reduceLE, Int.reduceEq, Int.reduceNe, Int.reduceBEq, Nat.reduceBEq, Int.reduceBNe, Nat.reduceBNe, Int.reduceAdd, Int.reduceSub, Int.reduceMul, Int.reduceNeg]
  
  refine AllB.mk fun b5 h_b5 => ?_
  simp (dsimp := false) (maxSteps := 4000000) only [hF, go_sem, ↓reduceIte, Nat.reduceEqDiff, Nat.reduceLT, Nat.reduceLeDiff, Nat.reduceAdd, Nat.reduceMul, Nat.reduceSub, reduceCtorEq, Int.reduceToNat, Int.reduceLT, Int.reduceLE, Int.reduceEq, Int.reduceNe, Int.reduceBEq, Nat.reduceBEq, Int.reduceBNe, Nat.reduceBNe, Int.reduceAdd, Int.reduceSub, Int.reduceMul, Int.reduceNeg]
  refine (RefGood_c L b0 c0 _ (hs.add h_b5)).mono ?_; rintro _ _ ⟨rfl, rfl⟩
  cases hg : good L with
  | false =>
    simp (dsimp := false) (maxSteps := 4000000) only [hF, go_sem, ↓reduceIte, Nat.reduceEqDiff, Nat.reduceLT, Nat.reduceLeDiff, Nat.reduceAdd, Nat.reduceMul, Nat.reduceSub, reduceCtorEq, Int.reduceToNat, Int.reduceLT, Int.reduceLE, Int.reduceEq, Int.reduceNe, Int.reduceBEq, Nat.reduceBEq, Int.reduceBNe, Nat.reduceBNe, Int.reduceAdd, Int.reduceSub, Int.reduceMul, Int.reduceNeg]
    refine (awake4_c _).mono ?_; rintro _ _ ⟨rfl, rfl⟩
    simp (dsimp := false) (maxSteps := 4000000) only [hF, go_sem, ↓reduceIte, Nat.reduceEqDiff, Nat.reduceLT, Nat.reduceLeDiff, Nat.reduceAdd, Nat.reduceMul, Nat.reduceSub, reduceCtorEq, Int.reduceToNat, Int.reduceLT, Int.reduceLE, Int.reduceEq, Int.reduceNe, Int.reduceBEq, Nat.reduceBEq, Int.reduceBNe, Nat.reduceBNe, Int.reduceAdd, Int.reduceSub, Int.reduceMul, Int.reduceNeg]
    exact ⟨H, AH.le_add (AH.le_refl _) h_b5.2, rfl⟩
  | true =>
    obtain ⟨d, hd⟩ : ∃ d, o.tmod 48 = d := ⟨_, rfl⟩
    have hd' : 0 ≤ d ∧ d < 48 := by rw [Int.tmod_eq_emod_of_nonneg ho'.1] at hd; omega
    have ew : IntKind.i64.wrap d = d := i64_eq (by omega) (by omega)
    have es : IntKind.i64.wrap s = s := i64_eq (by omega) (by omega)
    have es1 : IntKind.i64.wrap (s + 1) = s + 1 := i64_eq (by omega) (by omega)
    have e1 : IntKind.i64.wrap (224 * s) = 224 * s := i64_eq (by omega) (by omega)
    obtain ⟨t, ht⟩ : ∃ t, 224 * s + d = t := ⟨_, rfl⟩
    have e2 : IntKind.i64.wrap t = t := i64_eq (by omega) (by omega)
    simp (dsimp := false) (maxSteps := 4000000) only [es, hF, go_sem, ↓reduceIte, Nat.reduceEqDiff, Nat.reduceLT, Nat.reduceLeDiff, Nat.reduceAdd, Nat.reduceMul, Nat.reduceSub, reduceCtorEq, Int.reduceToNat, Int.reduceLT, Int.reduceLE, Int.reduceEq, Int.reduceNe, Int.reduceBEq, Nat.reduceBEq, Int.reduceBNe, Nat.reduceBNe, Int.reduceAdd, Int.reduceSub, Int.reduceMul, Int.reduceNeg]
    refine (Window_c L s hs'.1 (by omega) hg b0 c0 _ (hs.add h_b5)).mono ?_; rintro _ _ ⟨rfl, rfl⟩
    simp (dsimp := false) (maxSteps := 4000000) only [es1, hF, go_sem, ↓reduceIte, Nat.reduceEqDiff, Nat.reduceLT, Nat.reduceLeDiff, Nat.reduceAdd, Nat.reduceMul, Nat.reduceSub, reduceCtorEq, Int.reduceToNat, Int.reduceLT, Int.reduceLE, Int.reduceEq, Int.reduceNe, Int.reduceBEq, Nat.reduceBEq, Int.reduceBNe, Nat.reduceBNe, Int.reduceAdd, Int.reduceSub, Int.reduceMul, Int.reduceNeg]
    refine (Window_c L (s + 1) (by omega) (by omega) hg b0 c0 _ (hs.add h_b5)).mono ?_; rintro _ _ ⟨rfl, rfl⟩
    simp (dsimp := false) (maxSteps := 4000000) only [e1, hd, ew, ht, e2, hF, go_sem, ↓reduceIte, Nat.reduceEqDiff, Nat.reduceLT, Nat.reduceLeDiff, Nat.reduceAdd, Nat.reduceMul, Nat.reduceSub, reduceCtorEq, Int.reduceToNat, Int.reduceLT, Int.reduceLE, Int.reduceEq, Int.reduceNe, Int.reduceBEq, Nat.reduceBEq, Int.reduceBNe, Nat.reduceBNe, Int.reduceAdd, Int.reduceSub, Int.reduceMul, Int.reduceNeg]
    refine (Spans_c L t (by omega) (by omega) F hF hg b0 c0 _ (hs.add h_b5)).mono ?_; rintro _ A ⟨R, br, cr, rfl, hJ, hR, hK⟩
    have hbig := hR.big
    simp only [List.length_map] at hbig
    have g1 := gstrict hg (x := 224 * s) (y := 224 * (s + 1)) (by omega) (by omega) (by omega)
    have g2 := gstrict hg (x := 224 * (s + 1)) (y := 224 * (s + 1 + 1)) (by omega) (by omega) (by omega)
    have hin : ∀ x ∈ R, globalv L (224 * s) ≤ x.1 ∧ x.2 ≤ globalv L (224 * (s + 1)) := fun x hx => by
      obtain ⟨⟨y, hy, e1⟩, ⟨z, hz, e2⟩⟩ := hJ.ends x hx
      obtain ⟨i, hi, rfl⟩ := fsp_mem hy
      obtain ⟨j, hj, rfl⟩ := fsp_mem hz
      rw [e1, e2]
      exact ⟨gmono hg (by omega), gmono hg (by omega)⟩
    have hne : R = [] → F = [true, true, true, true, true, true, true, true, true, true, true] := fun hR0 => all_true hF fun j hj hf => by
      have hm := fsp_has (L := L) (t := t) hf 11 hj
      have hlow : low (fsp L t F 11) (bsp L t j).1 := ⟨_, hm, Int.le_refl _, gstrict hg (by omega) (by omega) (by omega)⟩
      obtain ⟨x, hx, _⟩ := (hJ.same _).2 hlow
      rw [hR0] at hx; cases hx
    simp (dsimp := false) (maxSteps := 4000000) only [hF, go_sem, ↓reduceIte, Nat.reduceEqDiff, Nat.reduceLT, Nat.reduceLeDiff, Nat.reduceAdd, Nat.reduceMul, Nat.reduceSub, reduceCtorEq, Int.reduceToNat, Int.reduceLT, Int.reduceLE, Int.reduceEq, Int.reduceNe, Int.reduceBEq, Nat.reduceBEq, Int.reduceBNe, Nat.reduceBNe, Int.reduceAdd, Int.reduceSub, Int.reduceMul, Int.reduceNeg]
    refine AWp.loopo (ι := Nat) (fun i => i ≤ R.length) (fun i => [(15, .int .i64 i), (14, .slice br R.length cr), (10, .int .i64 (globalv L (224 * s))), (11, .int .i64 (globalv L (224 * (s + 1)))), (12, .int .i64 (globalv L (224 * (s + 1)))), (13, .int .i64 (globalv L (224 * (s + 1 + 1)))), (5, .pointer (some ⟨b5, 0, none⟩))])
      (fun _ => A) (fun i => R.length - i) 0 (by omega) (FrLe.of_lks ?_) (AH.le_refl _) fun i hi Q again out => ?_
    · simp (dsimp := false) (maxSteps := 4000000) only [hF, go_sem, ↓reduceIte, Nat.reduceEqDiff, Nat.reduceLT, Nat.reduceLeDiff, Nat.reduceAdd, Nat.reduceMul, Nat.reduceSub, reduceCtorEq, Int.reduceToNat, Int.reduceLT, Int.reduceLE, Int.reduceEq, Int.reduceNe, Int.reduceBEq, Nat.reduceBEq, Int.reduceBNe, Nat.reduceBNe, Int.reduceAdd, Int.reduceSub, Int.reduceMul, Int.reduceNeg]
    by_cases h : (i : Int) < R.length
    · obtain ⟨⟨x, y⟩, hx⟩ := get_some (l := R) (i := i) (by omega)
      obtain ⟨bb, oo, rfl, _, hrd⟩ := hR.get (map_get (f := encP) hx)
      have r0 := hrd 0 _ rfl
      have r1 := hrd 1 _ rfl
      simp only [Nat.add_zero] at r0 r1
      have ee := i64_succ (i := i) (by omega)
      have hxx := hin _ (List.mem_of_getElem? hx)
      dsimp only at hxx
      have n0 : ¬ x < globalv L (224 * s) := by omega
      have n1 : ¬ globalv L (224 * (s + 1)) < y := by omega
      simp (dsimp := false) (maxSteps := 4000000) only [h, r0, r1, n0, n1, ee, hF, go_sem, ↓reduceIte, Nat.reduceEqDiff, Nat.reduceLT, Nat.reduceLeDiff, Nat.reduceAdd, Nat.reduceMul, Nat.reduceSub, reduceCtorEq, Int.reduceToNat, Int.reduceLT, Int.reduceLE, Int.reduceEq, Int.reduceNe, Int.reduceBEq, Nat.reduceBEq, Int.reduceBNe, Nat.reduceBNe, Int.reduceAdd, Int.reduceSub, Int.reduceMul, Int.reduceNeg]
      exact again (i + 1) _ _ (by omega) (FrLe.of_lks (by simp (dsimp := false) (maxSteps := 4000000) only [hF, go_sem, ↓reduceIte, Nat.reduceEqDiff, Nat.reduceLT, Nat.reduceLeDiff, Nat.reduceAdd, Nat.reduceMul, Nat.reduceSub, reduceCtorEq, Int.reduceToNat, Int.reduceLT, Int.reduceLE, Int.reduceEq, Int.reduceNe, Int.reduceBEq, Nat.reduceBEq, Int.reduceBNe, Nat.reduceBNe, Int.reduceAdd, Int.reduceSub, Int.reduceMul, Int.reduceNeg])) (AH.le_refl _) (by omega)
    simp (dsimp := false) (maxSteps := 4000000) only [h, hF, go_sem, ↓reduceIte, Nat.reduceEqDiff, Nat.reduceLT, Nat.reduceLeDiff, Nat.reduceAdd, Nat.reduceMul, Nat.reduceSub, reduceCtorEq, Int.reduceToNat, Int.reduceLT, Int.reduceLE, Int.reduceEq, Int.reduceNe, Int.reduceBEq, Nat.reduceBEq, Int.reduceBNe, Nat.reduceBNe, Int.reduceAdd, Int.reduceSub, Int.reduceMul, Int.reduceNeg]
    refine out _ _ _ (by simp) ?_
    clear again out hi h
    simp (dsimp := false) (maxSteps := 4000000) only [hF, go_sem, ↓reduceIte, Nat.reduceEqDiff, Nat.reduceLT, Nat.reduceLeDiff, Nat.reduceAdd, Nat.reduceMul, Nat.reduceSub, reduceCtorEq, Int.reduceToNat, Int.reduceLT, Int.reduceLE, Int.reduceEq, Int.reduceNe, Int.reduceBEq, Nat.reduceBEq, Int.reduceBNe, Nat.reduceBNe, Int.reduceAdd, Int.reduceSub, Int.reduceMul, Int.reduceNeg]
    refine (awake4_c _).mono ?_; rintro _ _ ⟨rfl, rfl⟩
    by_cases hR0 : R = []
    · obtain rfl := hne hR0
      subst hR0
      have q5 := hK.find (fun h => h) (find_add_self H _ _)
      have q6 : A.row b5 0 11 = some [.bool true, .bool true, .bool true, .bool true, .bool true, .bool true, .bool true, .bool true, .bool true, .bool true, .bool true] := row_find q5 (by simp)
      simp (dsimp := false) (maxSteps := 4000000) only [g1, g2, q6, hF, go_sem, ↓reduceIte, Nat.reduceEqDiff, Nat.reduceLT, Nat.reduceLeDiff, Nat.reduceAdd, Nat.reduceMul, Nat.reduceSub, reduceCtorEq, Int.reduceToNat, Int.reduceLT, Int.reduceLE, Int.reduceEq, Int.reduceNe, Int.reduceBEq, Nat.reduceBEq, Int.reduceBNe, Nat.reduceBNe, Int.reduceAdd, Int.reduceSub, Int.reduceMul, Int.reduceNeg]
      exact ⟨H, ((Keep.refl.nw h_b5).trans hK).all, rfl⟩
    · have hp : (0 : Int) < (R.length : Int) := by
        cases R with
        | nil => exact absurd rfl hR0
        | cons x R => simp
      simp (dsimp := false) (maxSteps := 4000000) only [g1, g2, hp, hF, go_sem, ↓reduceIte, Nat.reduceEqDiff, Nat.reduceLT, Nat.reduceLeDiff, Nat.reduceAdd, Nat.reduceMul, Nat.reduceSub, reduceCtorEq, Int.reduceToNat, Int.reduceLT, Int.reduceLE, Int.reduceEq, Int.reduceNe, Int.reduceBEq, Nat.reduceBEq, Int.reduceBNe, Nat.reduceBNe, Int.reduceAdd, Int.reduceSub, Int.reduceMul, Int.reduceNeg]
      exact ⟨H, ((Keep.refl.nw h_b5).trans hK).all, rfl⟩
end Go.Proofs.Ytgikjbfpckjkoaa.Send
