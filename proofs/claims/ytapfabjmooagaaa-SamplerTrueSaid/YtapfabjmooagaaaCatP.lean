/- slices.Grow of nothing and slices.Concat at one type. -/
import Derived.Test.YtapfabjmooagaaaSrt
import Derived.Test.YtapfabjmooagaaaAx20
namespace Go.Proofs.Ytapfabjmooagaaa.CatP
set_option linter.unusedSimpArgs false
set_option linter.unusedVariables false
open Go Go.AX Go.Proofs Ty Go.Proofs.Ytapfabjmooagaaa.Srt
set_option maxHeartbeats 4000000
set_option maxRecDepth 10000

abbrev Ls := Option Addr × Nat × List (Int × Int)
def encS (x : Ls) : List Value := [.slice x.1 x.2.2.length x.2.1]
structure CatIn (H : AH) (base : Option Addr) (cap : Nat) (T : List Ls) : Prop where
  out : SlcIn H 1 base cap (T.map encS)
  inn : ∀ x ∈ T, SlcIn H 2 x.1 x.2.1 (x.2.2.map encP)
def tot (T : List Ls) (i : Nat) : List (Int × Int) := ((T.take i).map (·.2.2)).flatten
theorem tot_succ {T : List Ls} {i : Nat} {x : Ls} (h : T[i]? = some x) : tot T (i + 1) = tot T i ++ x.2.2 := by
  simp [tot, List.take_add_one, h]
theorem tot_le {T : List Ls} : ∀ (j i : Nat), (tot T i).length ≤ (tot T (i + j)).length
  | 0, _ => Nat.le_refl _
  | j + 1, i => by
    refine Nat.le_trans (tot_le j i) ?_
    rw [show i + (j + 1) = i + j + 1 from rfl]
    cases h : T[i + j]? with
    | some x => rw [tot_succ h]; simp
    | none => rw [tot, tot, List.take_of_length_le (by rw [List.getElem?_eq_none_iff] at h; omega), List.take_of_length_le (by rw [List.getElem?_eq_none_iff] at h; omega)]; exact Nat.le_refl _
theorem tot_all {T : List Ls} {i : Nat} (h : i ≤ T.length) : (tot T i).length ≤ (tot T T.length).length := by
  have := tot_le (T := T) (T.length - i) i
  rwa [show i + (T.length - i) = T.length from by omega] at this
theorem Grow_c (n : Nat) (hn : n < 1000000) (H : AH) : ACalls Try.prog 49 #[.slice none 0 0, .int .i64 n] H (fun v H' => ∃ base cap, v = .slice base 0 cap ∧ OwnS H H' 53 2 base cap [] ∧ Keep H H' fun _ => False) := by
  have e : IntKind.i64.wrap ((n : Int) - 0) = n := by rw [i64_eq (by omega) (by omega)]; omega
  have c : ¬ (n : Int) < 0 := by omega
  refine ACalls.enter2 Try.func49 rfl Try.ntmps49 Try.results49 (by simp) ?_; simp (dsimp := false) (maxSteps := 4000000) only [c, e, go_sem, ↓reduceIte, Nat.reduceEqDiff, Nat.reduceLT, Nat.reduceLeDiff, Nat.reduceAdd, Nat.reduceMul, Nat.reduceSub, reduceCtorEq, Int.reduceToNat, Int.reduceLT, Int.reduceLE, Int.reduceEq, Int.reduceNe, Int.reduceBEq, Nat.reduceBEq, Int.reduceBNe, Nat.reduceBNe, Int.reduceAdd, Int.reduceSub, Int.reduceMul, Int.reduceNeg]
  by_cases h : (0 : Int) < n
  · simp (dsimp := false) (maxSteps := 4000000) only [h, c, e, go_sem, ↓reduceIte, Nat.reduceEqDiff, Nat.reduceLT, Nat.reduceLeDiff, Nat.reduceAdd, Nat.reduceMul, Nat.reduceSub, reduceCtorEq, Int.reduceToNat, Int.reduceLT, Int.reduceLE, Int.reduceEq, Int.reduceNe, Int.reduceBEq, Nat.reduceBEq, Int.reduceBNe, Nat.reduceBNe, Int.reduceAdd, Int.reduceSub, Int.reduceMul, Int.reduceNeg]
    refine APD.make se_22 rfl (by decide) (Try.underlying3) (by omega) (by omega) (by decide) fun b cc h_b hc => ?_
    have hn_b := h_b; (try simp only [fresh_add, fresh_set, ne_eq] at hn_b); have hr_b := hn_b; (try simp only [@eq_comm Nat b] at hr_b)
    simp (dsimp := false) (maxSteps := 4000000) only [ite_self, Nat.sub_zero, c, e, hn_b, hr_b, go_sem, ↓reduceIte, Nat.reduceEqDiff, Nat.reduceLT, Nat.reduceLeDiff, Nat.reduceAdd, Nat.reduceMul, Nat.reduceSub, reduceCtorEq, Int.reduceToNat, Int.reduceLT, Int.reduceLE, Int.reduceEq, Int.reduceNe, Int.reduceBEq, Nat.reduceBEq, Int.reduceBNe, Nat.reduceBNe, Int.reduceAdd, Int.reduceSub, Int.reduceMul, Int.reduceNeg]
    exact ⟨_, AH.le_refl _, _, _, rfl, ⟨by simp, by simp, by simp, .inr ⟨b, _, rfl, find_add_self _ _ _, by omega, h_b⟩⟩, Keep.add h_b⟩
  · 
    simp (dsimp := false) (maxSteps := 4000000) only [h, c, e, go_sem, ↓reduceIte, Nat.reduceEqDiff, Nat.reduceLT, Nat.reduceLeDiff, Nat.reduceAdd, Nat.reduceMul, Nat.reduceSub, reduceCtorEq, Int.reduceToNat, Int.reduceLT, Int.reduceLE, Int.reduceEq, Int.reduceNe, Int.reduceBEq, Nat.reduceBEq, Int.reduceBNe, Nat.reduceBNe, Int.reduceAdd, Int.reduceSub, Int.reduceMul, Int.reduceNeg]
    exact ⟨H, AH.le_refl _, none, 0, rfl, OwnS.nil, Keep.refl⟩
theorem Concat_c (T : List Ls) (base : Option Addr) (cap : Nat) (H : AH) (hT : CatIn H base cap T) (hb : (tot T T.length).length < 1000000) :
    ACalls Try.prog 40 #[.slice base T.length cap] H (fun v H' => ∃ b' c', v = .slice b' (tot T T.length).length c' ∧ OwnS H H' 53 2 b' c' ((tot T T.length).map encP) ∧ Keep H H' fun _ => False) := by
  have hbig := hT.out.big
  simp only [List.length_map] at hbig
  refine ACalls.enter2 Try.func40 rfl Try.ntmps40 Try.results40 (by simp) ?_; simp (dsimp := false) (maxSteps := 4000000) only [go_sem, ↓reduceIte, Nat.reduceEqDiff, Nat.reduceLT, Nat.reduceLeDiff, Nat.reduceAdd, Nat.reduceMul, Nat.reduceSub, reduceCtorEq, Int.reduceToNat, Int.reduceLT, Int.reduceLE, Int.reduceEq, Int.reduceNe, Int.reduceBEq, Nat.reduceBEq, Int.reduceBNe, Nat.reduceBNe, Int.reduceAdd, Int.reduceSub, Int.reduceMul, Int.reduceNeg]
  refine AWp.loopo (ι := Nat) (fun i => i ≤ T.length) (fun i => [(11, .int .i64 i), (10, .int .i64 T.length), (9, .slice base T.length cap), (0, .slice base T.length cap), (3, .int .i64 (tot T i).length)])
    (fun _ => H) (fun i => T.length - i) 0 (by omega) (FrLe.of_lks ?_) (AH.le_refl _) fun i hi Q again out => ?_
  · simp (dsimp := false) (maxSteps := 4000000) only [go_sem, ↓reduceIte, Nat.reduceEqDiff, Nat.reduceLT, Nat.reduceLeDiff, Nat.reduceAdd, Nat.reduceMul, Nat.reduceSub, reduceCtorEq, Int.reduceToNat, Int.reduceLT, Int.reduceLE, Int.reduceEq, Int.reduceNe, Int.reduceBEq, Nat.reduceBEq, Int.reduceBNe, Nat.reduceBNe, Int.reduceAdd, Int.reduceSub, Int.reduceMul, Int.reduceNeg]
    rfl
  by_cases h : (i : Int) < T.length
  · obtain ⟨⟨tb, tc, L⟩, ht⟩ := get_some (l := T) (i := i) (by omega)
    have hin := hT.inn _ (List.mem_of_getElem? ht)
    obtain ⟨b, o, rfl, _, hrd⟩ := hT.out.get (map_get (f := encS) ht)
    have hrd := hrd 0 _ rfl
    simp only [Nat.mul_one, Nat.add_zero] at hrd
    have ee := i64_succ (i := i) (by omega)
    have e1 := tot_succ ht
    have b1 := tot_all (T := T) (i := i + 1) (by omega)
    rw [e1, List.length_append] at b1
    simp only at b1
    have e2 : IntKind.i64.wrap (((tot T i).length : Int) + L.length) = ((tot T (i + 1)).length : Int) := by
      rw [e1, List.length_append, i64_eq (by omega) (by omega)]; simp only; omega
    have c : ¬ ((tot T (i + 1)).length : Int) < 0 := by omega
    simp (dsimp := false) (maxSteps := 4000000) only [h, hrd, ee, e2, c, go_sem, ↓reduceIte, Nat.reduceEqDiff, Nat.reduceLT, Nat.reduceLeDiff, Nat.reduceAdd, Nat.reduceMul, Nat.reduceSub, reduceCtorEq, Int.reduceToNat, Int.reduceLT, Int.reduceLE, Int.reduceEq, Int.reduceNe, Int.reduceBEq, Nat.reduceBEq, Int.reduceBNe, Nat.reduceBNe, Int.reduceAdd, Int.reduceSub, Int.reduceMul, Int.reduceNeg]
    refine again (i + 1) _ _ (by omega) (FrLe.of_lks (by simp (dsimp := false) (maxSteps := 4000000) only [go_sem, ↓reduceIte, Nat.reduceEqDiff, Nat.reduceLT, Nat.reduceLeDiff, Nat.reduceAdd, Nat.reduceMul, Nat.reduceSub, reduceCtorEq, Int.reduceToNat, Int.reduceLT, Int.reduceLE, Int.reduceEq, Int.reduceNe, Int.reduceBEq, Nat.reduceBEq, Int.reduceBNe, Nat.reduceBNe, Int.reduceAdd, Int.reduceSub, Int.reduceMul, Int.reduceNeg])) (AH.le_refl _) (by omega)
  obtain rfl : i = T.length := by omega
  simp (dsimp := false) (maxSteps := 4000000) only [h, go_sem, ↓reduceIte, Nat.reduceEqDiff, Nat.reduceLT, Nat.reduceLeDiff, Nat.reduceAdd, Nat.reduceMul, Nat.reduceSub, reduceCtorEq, Int.reduceToNat, Int.reduceLT, Int.reduceLE, Int.reduceEq, Int.reduceNe, Int.reduceBEq, Nat.reduceBEq, Int.reduceBNe, Nat.reduceBNe, Int.reduceAdd, Int.reduceSub, Int.reduceMul, Int.reduceNeg]
  refine out _ _ _ (by simp) ?_
  simp (dsimp := false) (maxSteps := 4000000) only [go_sem, ↓reduceIte, Nat.reduceEqDiff, Nat.reduceLT, Nat.reduceLeDiff, Nat.reduceAdd, Nat.reduceMul, Nat.reduceSub, reduceCtorEq, Int.reduceToNat, Int.reduceLT, Int.reduceLE, Int.reduceEq, Int.reduceNe, Int.reduceBEq, Nat.reduceBEq, Int.reduceBNe, Nat.reduceBNe, Int.reduceAdd, Int.reduceSub, Int.reduceMul, Int.reduceNeg]
  refine (Grow_c _ hb _).mono ?_; rintro _ A0 ⟨b0, c0, rfl, hO0, hK0⟩
  clear out again h hi
  simp (dsimp := false) (maxSteps := 4000000) only [go_sem, ↓reduceIte, Nat.reduceEqDiff, Nat.reduceLT, Nat.reduceLeDiff, Nat.reduceAdd, Nat.reduceMul, Nat.reduceSub, reduceCtorEq, Int.reduceToNat, Int.reduceLT, Int.reduceLE, Int.reduceEq, Int.reduceNe, Int.reduceBEq, Nat.reduceBEq, Int.reduceBNe, Nat.reduceBNe, Int.reduceAdd, Int.reduceSub, Int.reduceMul, Int.reduceNeg]
  refine AWp.loopr (ι := Nat × Option Addr × Nat) (fun x A => x.1 ≤ T.length ∧ OwnS H A 53 2 x.2.1 x.2.2 ((tot T x.1).map encP) ∧ (Keep H A fun _ => False))
    (fun x => [(27, .int .i64 x.1), (26, .int .i64 T.length), (25, .slice base T.length cap), (6, .slice x.2.1 (tot T x.1).length x.2.2)]) (fun x => T.length - x.1) (0, b0, c0) A0
    ⟨by simp, hO0, hK0⟩ (FrLe.of_lks ?_) (AH.le_refl _) fun x A hi Q again out => ?_
  · simp (dsimp := false) (maxSteps := 4000000) only [go_sem, ↓reduceIte, Nat.reduceEqDiff, Nat.reduceLT, Nat.reduceLeDiff, Nat.reduceAdd, Nat.reduceMul, Nat.reduceSub, reduceCtorEq, Int.reduceToNat, Int.reduceLT, Int.reduceLE, Int.reduceEq, Int.reduceNe, Int.reduceBEq, Nat.reduceBEq, Int.reduceBNe, Nat.reduceBNe, Int.reduceAdd, Int.reduceSub, Int.reduceMul, Int.reduceNeg]
    rfl
  clear hO0 hK0
  obtain ⟨i, base', cap'⟩ := x
  obtain ⟨hi, hO, hK⟩ := hi
  dsimp only at hi hO again ⊢
  by_cases h : (i : Int) < T.length
  · obtain ⟨⟨tb, tc, L⟩, ht⟩ := get_some (l := T) (i := i) (by omega)
    have hin := (hT.inn _ (List.mem_of_getElem? ht)).keep hK fun _ _ h => h
    obtain ⟨b, o, rfl, _, hrd⟩ := (hT.out.keep hK fun _ _ h => h).get (map_get (f := encS) ht)
    have hrd := hrd 0 _ rfl
    simp only [Nat.mul_one, Nat.add_zero] at hrd
    have ee := i64_succ (i := i) (by omega)
    have e1 := tot_succ ht
    have b1 := tot_all (T := T) (i := i + 1) (by omega)
    rw [e1, List.length_append] at b1
    simp only at b1
    simp (dsimp := false) (maxSteps := 4000000) only [h, hrd, go_sem, ↓reduceIte, Nat.reduceEqDiff, Nat.reduceLT, Nat.reduceLeDiff, Nat.reduceAdd, Nat.reduceMul, Nat.reduceSub, reduceCtorEq, Int.reduceToNat, Int.reduceLT, Int.reduceLE, Int.reduceEq, Int.reduceNe, Int.reduceBEq, Nat.reduceBEq, Int.reduceBNe, Nat.reduceBNe, Int.reduceAdd, Int.reduceSub, Int.reduceMul, Int.reduceNeg]
    refine APD.growS (a := tb) (m := L.length) (c := tc) (R' := L.map encP) hO hK.all se_22 rfl (by decide) (by decide) (by rw [Try.underlying22]; rfl) (by simp) (by simp) hin (rowsP _) (scalP _) (by omega) fun base2 cap2 A' hO' hK' hN' => ?_
    refine ⟨_, AH.le_refl _, ?_⟩
    simp (dsimp := false) (maxSteps := 4000000) only [ee, go_sem, ↓reduceIte, Nat.reduceEqDiff, Nat.reduceLT, Nat.reduceLeDiff, Nat.reduceAdd, Nat.reduceMul, Nat.reduceSub, reduceCtorEq, Int.reduceToNat, Int.reduceLT, Int.reduceLE, Int.reduceEq, Int.reduceNe, Int.reduceBEq, Nat.reduceBEq, Int.reduceBNe, Nat.reduceBNe, Int.reduceAdd, Int.reduceSub, Int.reduceMul, Int.reduceNeg]
    have hK2 := hK.ow hK' fun b ⟨a, ha, e⟩ => e ▸ hO.fresh a ha
    rw [← List.map_append] at hO'
    have hO' : OwnS H A' 53 2 base2 cap2 ((tot T (i + 1)).map encP) := by rw [e1]; exact hO'
    refine again (i + 1, base2, cap2) _ _ _ ⟨by simp only; omega, hO', hK2⟩ (FrLe.of_lks ?_) (AH.le_refl _) (by simp only; omega)
    rw [e1, List.length_append]
    simp (dsimp := false) (maxSteps := 4000000) only [go_sem, ↓reduceIte, Nat.reduceEqDiff, Nat.reduceLT, Nat.reduceLeDiff, Nat.reduceAdd, Nat.reduceMul, Nat.reduceSub, reduceCtorEq, Int.reduceToNat, Int.reduceLT, Int.reduceLE, Int.reduceEq, Int.reduceNe, Int.reduceBEq, Nat.reduceBEq, Int.reduceBNe, Nat.reduceBNe, Int.reduceAdd, Int.reduceSub, Int.reduceMul, Int.reduceNeg]
  · obtain rfl : i = T.length := by omega
    simp (dsimp := false) (maxSteps := 4000000) only [h, go_sem, ↓reduceIte, Nat.reduceEqDiff, Nat.reduceLT, Nat.reduceLeDiff, Nat.reduceAdd, Nat.reduceMul, Nat.reduceSub, reduceCtorEq, Int.reduceToNat, Int.reduceLT, Int.reduceLE, Int.reduceEq, Int.reduceNe, Int.reduceBEq, Nat.reduceBEq, Int.reduceBNe, Nat.reduceBNe, Int.reduceAdd, Int.reduceSub, Int.reduceMul, Int.reduceNeg]
    refine out _ _ _ (by simp) ?_
    simp (dsimp := false) (maxSteps := 4000000) only [go_sem, ↓reduceIte, Nat.reduceEqDiff, Nat.reduceLT, Nat.reduceLeDiff, Nat.reduceAdd, Nat.reduceMul, Nat.reduceSub, reduceCtorEq, Int.reduceToNat, Int.reduceLT, Int.reduceLE, Int.reduceEq, Int.reduceNe, Int.reduceBEq, Nat.reduceBEq, Int.reduceBNe, Nat.reduceBNe, Int.reduceAdd, Int.reduceSub, Int.reduceMul, Int.reduceNeg]
    exact ⟨A, (by (repeat (first | exact AH.le_refl _ | refine AH.le_add ?_ ?_)); all_goals (first | exact AH.le_refl _ | (show AH.find _ _ = _; simp only [find_add_self, find_add_ne, find_fresh, fresh_add, ne_eq, not_false_eq_true, true_and, and_true, and_self]))), base', cap', rfl, hO, hK⟩
end Go.Proofs.Ytapfabjmooagaaa.CatP
