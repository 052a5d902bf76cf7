/- rodl: some, few, Same, Clip. -/
import Derived.Test.YtadbmmdmibiikaaRodl3
import Derived.Test.YtadbmmdmibiikaaRose6
namespace Go.Proofs.Ytadbmmdmibiikaa.Rodl
set_option linter.unusedSimpArgs false
set_option linter.unusedVariables false
open Go Go.AX Go.Proofs Ty Go.Proofs.Ytadbmmdmibiikaa.File Go.Proofs.Ytadbmmdmibiikaa.Rose
set_option maxHeartbeats 4000000
set_option maxRecDepth 10000

theorem eqlE {u : Option TypeDesc} {H : AH} {a b : Operand} {kk : Value → Prop} (r s : En) : bin u Try.prog H .eql 90 a b (.agg (encE r).toArray) (.agg (encE s).toArray) kk = (u = Try.prog.underlying 90 ∧ nv (.bool (decide (r = s))) kk) := by
  obtain ⟨r1, r2, r3, r4, r5⟩ := r
  obtain ⟨s1, s2, s3, s4, s5⟩ := s
  unfold encE; rw [eql_90]
  have : ((r1 == s1) && ((r2 == s2) && ((r3 == s3) && ((r4 == s4) && (r5 == s5))))) = decide ((r1, r2, r3, r4, r5) = (s1, s2, s3, s4, s5)) := by
    rw [Bool.eq_iff_iff]; simp [Prod.mk.injEq]
  rw [this]
theorem neqE {u : Option TypeDesc} {H : AH} {a b : Operand} {kk : Value → Prop} (r s : En) : bin u Try.prog H .neq 90 a b (.agg (encE r).toArray) (.agg (encE s).toArray) kk = (u = Try.prog.underlying 90 ∧ nv (.bool (!decide (r = s))) kk) := by
  obtain ⟨r1, r2, r3, r4, r5⟩ := r
  obtain ⟨s1, s2, s3, s4, s5⟩ := s
  unfold encE; rw [neq_90]
  have : ((r1 == s1) && ((r2 == s2) && ((r3 == s3) && ((r4 == s4) && (r5 == s5))))) = decide ((r1, r2, r3, r4, r5) = (s1, s2, s3, s4, s5)) := by
    rw [Bool.eq_iff_iff]; simp [Prod.mk.injEq]
  rw [this]
theorem some_x {L M : List En} {base : Option Addr} {cap : Nat} {H : AH} (hs : SlcIn H 5 base cap (L.map encE)) (hM : L.take 70 = M) :
    ACalls Try.prog 61 #[.slice base L.length cap] H (fun v H' => v = .slice base M.length cap ∧ H = H') := by
  subst hM
  have hle := hs.le
  simp only [List.length_map] at hle
  refine ACalls.enter2 Try.func61 rfl Try.ntmps61 Try.results61 (by simp) ?_; simp (dsimp := false) (maxSteps := 4000000) only [go_sem, ↓reduceIte, Nat.reduceEqDiff, Nat.reduceLT, Nat.reduceLeDiff, Nat.reduceAdd, Nat.reduceMul, Nat.reduceSub, reduceCtorEq, Int.reduceToNat, Int.reduceLT, Int.reduceLE, Int.reduceEq, Int.reduceNe, Int.reduceBEq, Nat.reduceBEq, Int.reduceBNe, Nat.reduceBNe, Int.reduceAdd, Int.reduceSub, Int.reduceMul, Int.reduceNeg]
  by_cases a : (70 : Int) < L.length
  · obtain ⟨r, hr⟩ := get_some (l := L) (i := 0) (by omega)
    obtain ⟨b, o, rfl, _⟩ := hs.get (map_get (f := encE) hr)
    have h1 : (70 : Int) ≤ cap := by omega
    have h2 : (L.take 70).length = 70 := by rw [List.length_take]; omega
    simp (dsimp := false) (maxSteps := 4000000) only [a, h1, h2, go_sem, ↓reduceIte, Nat.reduceEqDiff, Nat.reduceLT, Nat.reduceLeDiff, Nat.reduceAdd, Nat.reduceMul, Nat.reduceSub, reduceCtorEq, Int.reduceToNat, Int.reduceLT, Int.reduceLE, Int.reduceEq, Int.reduceNe, Int.reduceBEq, Nat.reduceBEq, Int.reduceBNe, Nat.reduceBNe, Int.reduceAdd, Int.reduceSub, Int.reduceMul, Int.reduceNeg]
    exact ⟨H, (AH.le_refl _), (by first | exact ⟨by simp, rfl⟩ | rfl)⟩
  · have h2 : (L.take 70).length = L.length := by rw [List.length_take]; omega
    simp (dsimp := false) (maxSteps := 4000000) only [a, h2, go_sem, ↓reduceIte, Nat.reduceEqDiff, Nat.reduceLT, Nat.reduceLeDiff, Nat.reduceAdd, Nat.reduceMul, Nat.reduceSub, reduceCtorEq, Int.reduceToNat, Int.reduceLT, Int.reduceLE, Int.reduceEq, Int.reduceNe, Int.reduceBEq, Nat.reduceBEq, Int.reduceBNe, Nat.reduceBNe, Int.reduceAdd, Int.reduceSub, Int.reduceMul, Int.reduceNeg]
    exact ⟨H, (AH.le_refl _), (by first | exact ⟨rfl, rfl⟩ | rfl)⟩
theorem few_x {p : Int} {R S : List Rc} {base : Option Addr} {cap : Nat} {H : AH} (hs : SlcIn H 4 base cap (R.map enc)) (hS : R.take 260 = S) :
    ACalls Try.prog 58 #[.agg #[.int .i64 p, .slice base R.length cap]] H (fun v H' => v = .agg #[.int .i64 p, .slice base S.length cap] ∧ H = H') := by
  subst hS
  have hle := hs.le
  simp only [List.length_map] at hle
  refine ACalls.enter2 Try.func58 rfl Try.ntmps58 Try.results58 (by simp) ?_; simp (dsimp := false) (maxSteps := 4000000) only [go_sem, ↓reduceIte, Nat.reduceEqDiff, Nat.reduceLT, Nat.reduceLeDiff, Nat.reduceAdd, Nat.reduceMul, Nat.reduceSub, reduceCtorEq, Int.reduceToNat, Int.reduceLT, Int.reduceLE, Int.reduceEq, Int.reduceNe, Int.reduceBEq, Nat.reduceBEq, Int.reduceBNe, Nat.reduceBNe, Int.reduceAdd, Int.reduceSub, Int.reduceMul, Int.reduceNeg]
  refine AllB.mk fun b1 h_b1 => ?_; have hn_b1 := h_b1; (try simp only [fresh_add, fresh_set, ne_eq] at hn_b1); have hr_b1 := hn_b1; (try simp only [@eq_comm Nat b1] at hr_b1); simp (dsimp := false) (maxSteps := 4000000) only [hn_b1, hr_b1, go_sem, ↓reduceIte, Nat.reduceEqDiff, Nat.reduceLT, Nat.reduceLeDiff, Nat.reduceAdd, Nat.reduceMul, Nat.reduceSub, reduceCtorEq, Int.reduceToNat, Int.reduceLT, Int.reduceLE, Int.reduceEq, Int.reduceNe, Int.reduceBEq, Nat.reduceBEq, Int.reduceBNe, Nat.reduceBNe, Int.reduceAdd, Int.reduceSub, Int.reduceMul, Int.reduceNeg]
  refine AllB.mk fun b2 h_b2 => ?_; have hn_b2 := h_b2; (try simp only [fresh_add, fresh_set, ne_eq] at hn_b2); have hr_b2 := hn_b2; (try simp only [@eq_comm Nat b2] at hr_b2); simp (dsimp := false) (maxSteps := 4000000) only [hn_b1, hr_b1, hn_b2, hr_b2, go_sem, ↓reduceIte, Nat.reduceEqDiff, Nat.reduceLT, Nat.reduceLeDiff, Nat.reduceAdd, Nat.reduceMul, Nat.reduceSub, reduceCtorEq, Int.reduceToNat, Int.reduceLT, Int.reduceLE, Int.reduceEq, Int.reduceNe, Int.reduceBEq, Nat.reduceBEq, Int.reduceBNe, Nat.reduceBNe, Int.reduceAdd, Int.reduceSub, Int.reduceMul, Int.reduceNeg]
  by_cases a : (260 : Int) < R.length
  · obtain ⟨r, hr⟩ := get_some (l := R) (i := 0) (by omega)
    obtain ⟨b, o, rfl, _, _⟩ := hs.get (map_get (f := enc) hr)
    have h1 : (260 : Int) ≤ cap := by omega
    have h2 : (R.take 260).length = 260 := by rw [List.length_take]; omega
    simp (dsimp := false) (maxSteps := 4000000) only [a, h1, h2, hn_b1, hr_b1, hn_b2, hr_b2, go_sem, ↓reduceIte, Nat.reduceEqDiff, Nat.reduceLT, Nat.reduceLeDiff, Nat.reduceAdd, Nat.reduceMul, Nat.reduceSub, reduceCtorEq, Int.reduceToNat, Int.reduceLT, Int.reduceLE, Int.reduceEq, Int.reduceNe, Int.reduceBEq, Nat.reduceBEq, Int.reduceBNe, Nat.reduceBNe, Int.reduceAdd, Int.reduceSub, Int.reduceMul, Int.reduceNeg]
    exact ⟨H, (AH.le_add (AH.le_add (AH.le_refl _) ((by simp only [fresh_add, fresh_set, ne_eq, hn_b1, not_false_eq_true, and_self] : Fresh _ b1).2)) ((by simp only [fresh_add, fresh_set, ne_eq, hn_b2, not_false_eq_true, and_self] : Fresh _ b2).2)), (by first | exact ⟨by simp, rfl⟩ | rfl)⟩
  · have h2 : (R.take 260).length = R.length := by rw [List.length_take]; omega
    simp (dsimp := false) (maxSteps := 4000000) only [a, h2, hn_b1, hr_b1, hn_b2, hr_b2, go_sem, ↓reduceIte, Nat.reduceEqDiff, Nat.reduceLT, Nat.reduceLeDiff, Nat.reduceAdd, Nat.reduceMul, Nat.reduceSub, reduceCtorEq, Int.reduceToNat, Int.reduceLT, Int.reduceLE, Int.reduceEq, Int.reduceNe, Int.reduceBEq, Nat.reduceBEq, Int.reduceBNe, Nat.reduceBNe, Int.reduceAdd, Int.reduceSub, Int.reduceMul, Int.reduceNeg]
    exact ⟨H, (AH.le_add (AH.le_add (AH.le_refl _) ((by simp only [fresh_add, fresh_set, ne_eq, hn_b1, not_false_eq_true, and_self] : Fresh _ b1).2)) ((by simp only [fresh_add, fresh_set, ne_eq, hn_b2, not_false_eq_true, and_self] : Fresh _ b2).2)), (by first | exact ⟨rfl, rfl⟩ | rfl)⟩
theorem Same_c (L M : List En) (b1 b2 : Option Addr) (c1 c2 : Nat) (H : AH) (hs : SlcIn H 5 b1 c1 (L.map encE)) (ht : SlcIn H 5 b2 c2 (M.map encE)) :
    ACalls Try.prog 63 #[.slice b1 L.length c1, .slice b2 M.length c2] H (fun v H' => v = .bool (decide (L = M)) ∧ H = H') := by
  have hbig := hs.big
  simp only [List.length_map] at hbig
  by_cases hl : L.length = M.length
  · have hl' : (L.length : Int) = (M.length : Int) := by omega
    refine ACalls.enter2 Try.func63 rfl Try.ntmps63 Try.results63 (by simp) ?_; simp (dsimp := false) (maxSteps := 4000000) only [hl', go_sem, ↓reduceIte, Nat.reduceEqDiff, Nat.reduceLT, Nat.reduceLeDiff, Nat.reduceAdd, Nat.reduceMul, Nat.reduceSub, reduceCtorEq, Int.reduceToNat, Int.reduceLT, Int.reduceLE, Int.reduceEq, Int.reduceNe, Int.reduceBEq, Nat.reduceBEq, Int.reduceBNe, Nat.reduceBNe, Int.reduceAdd, Int.reduceSub, Int.reduceMul, Int.reduceNeg]
    refine AWp.loopo (ι := Nat) (fun i => i ≤ L.length ∧ ∀ j, j < i → L[j]? = M[j]?) (fun i => [(5, .int .i64 i), (0, .slice b1 L.length c1), (1, .slice b2 M.length c2)])
      (fun _ => H) (fun i => L.length - i) 0 ⟨by omega, fun j hj => by omega⟩ (FrLe.of_lks ?_) (AH.le_refl _) fun i hi Q again out => ?_
    · simp (dsimp := false) (maxSteps := 4000000) only [hl', go_sem, ↓reduceIte, Nat.reduceEqDiff, Nat.reduceLT, Nat.reduceLeDiff, Nat.reduceAdd, Nat.reduceMul, Nat.reduceSub, reduceCtorEq, Int.reduceToNat, Int.reduceLT, Int.reduceLE, Int.reduceEq, Int.reduceNe, Int.reduceBEq, Nat.reduceBEq, Int.reduceBNe, Nat.reduceBNe, Int.reduceAdd, Int.reduceSub, Int.reduceMul, Int.reduceNeg]
    · obtain ⟨hi, hall⟩ := hi
      by_cases h : (i : Int) < M.length
      · obtain ⟨r, hr⟩ := get_some (l := L) (i := i) (by omega)
        obtain ⟨s, hsi⟩ := get_some (l := M) (i := i) (by omega)
        obtain ⟨b, o, rfl, hrow, _⟩ := hs.get (map_get (f := encE) hr)
        obtain ⟨b', o', rfl, hrow', _⟩ := ht.get (map_get (f := encE) hsi)
        have ee := i64_succ (i := i) (by omega)
        simp (dsimp := false) (maxSteps := 4000000) only [h, hl', go_sem, ↓reduceIte, Nat.reduceEqDiff, Nat.reduceLT, Nat.reduceLeDiff, Nat.reduceAdd, Nat.reduceMul, Nat.reduceSub, reduceCtorEq, Int.reduceToNat, Int.reduceLT, Int.reduceLE, Int.reduceEq, Int.reduceNe, Int.reduceBEq, Nat.reduceBEq, Int.reduceBNe, Nat.reduceBNe, Int.reduceAdd, Int.reduceSub, Int.reduceMul, Int.reduceNeg]
        refine AWp.quiet mixed (by kernel_rfl) ?_
        by_cases e : r = s
        · simp (dsimp := false) (maxSteps := 4000000) only [h, hrow, hrow', neqE, e, ee, hl', go_sem, ↓reduceIte, Nat.reduceEqDiff, Nat.reduceLT, Nat.reduceLeDiff, Nat.reduceAdd, Nat.reduceMul, Nat.reduceSub, reduceCtorEq, Int.reduceToNat, Int.reduceLT, Int.reduceLE, Int.reduceEq, Int.reduceNe, Int.reduceBEq, Nat.reduceBEq, Int.reduceBNe, Nat.reduceBNe, Int.reduceAdd, Int.reduceSub, Int.reduceMul, Int.reduceNeg]
          refine again (i + 1) _ _ ⟨by omega, fun j hj => ?_⟩ (FrLe.of_lks (by simp (dsimp := false) (maxSteps := 4000000) only [hl', go_sem, ↓reduceIte, Nat.reduceEqDiff, Nat.reduceLT, Nat.reduceLeDiff, Nat.reduceAdd, Nat.reduceMul, Nat.reduceSub, reduceCtorEq, Int.reduceToNat, Int.reduceLT, Int.reduceLE, Int.reduceEq, Int.reduceNe, Int.reduceBEq, Nat.reduceBEq, Int.reduceBNe, Nat.reduceBNe, Int.reduceAdd, Int.reduceSub, Int.reduceMul, Int.reduceNeg])) (AH.le_refl _) (by omega)
          by_cases hji : j = i
          · subst hji; rw [hr, hsi, e]
          · exact hall j (by omega)
        · simp (dsimp := false) (maxSteps := 4000000) only [h, hrow, hrow', neqE, e, hl', go_sem, ↓reduceIte, Nat.reduceEqDiff, Nat.reduceLT, Nat.reduceLeDiff, Nat.reduceAdd, Nat.reduceMul, Nat.reduceSub, reduceCtorEq, Int.reduceToNat, Int.reduceLT, Int.reduceLE, Int.reduceEq, Int.reduceNe, Int.reduceBEq, Nat.reduceBEq, Int.reduceBNe, Nat.reduceBNe, Int.reduceAdd, Int.reduceSub, Int.reduceMul, Int.reduceNeg]
          refine out _ _ _ (by simp) ?_
          simp (dsimp := false) (maxSteps := 4000000) only [hl', go_sem, ↓reduceIte, Nat.reduceEqDiff, Nat.reduceLT, Nat.reduceLeDiff, Nat.reduceAdd, Nat.reduceMul, Nat.reduceSub, reduceCtorEq, Int.reduceToNat, Int.reduceLT, Int.reduceLE, Int.reduceEq, Int.reduceNe, Int.reduceBEq, Nat.reduceBEq, Int.reduceBNe, Nat.reduceBNe, Int.reduceAdd, Int.reduceSub, Int.reduceMul, Int.reduceNeg]
          exact ⟨H, (AH.le_refl _), (by first | exact ⟨by rw [decide_eq_false]; intro hx; subst hx; rw [hr] at hsi; cases hsi; exact e rfl, rfl⟩ | rfl)⟩
      · simp (dsimp := false) (maxSteps := 4000000) only [h, hl', go_sem, ↓reduceIte, Nat.reduceEqDiff, Nat.reduceLT, Nat.reduceLeDiff, Nat.reduceAdd, Nat.reduceMul, Nat.reduceSub, reduceCtorEq, Int.reduceToNat, Int.reduceLT, Int.reduceLE, Int.reduceEq, Int.reduceNe, Int.reduceBEq, Nat.reduceBEq, Int.reduceBNe, Nat.reduceBNe, Int.reduceAdd, Int.reduceSub, Int.reduceMul, Int.reduceNeg]
        refine out _ _ _ (by simp) ?_
        simp (dsimp := false) (maxSteps := 4000000) only [hl', go_sem, ↓reduceIte, Nat.reduceEqDiff, Nat.reduceLT, Nat.reduceLeDiff, Nat.reduceAdd, Nat.reduceMul, Nat.reduceSub, reduceCtorEq, Int.reduceToNat, Int.reduceLT, Int.reduceLE, Int.reduceEq, Int.reduceNe, Int.reduceBEq, Nat.reduceBEq, Int.reduceBNe, Nat.reduceBNe, Int.reduceAdd, Int.reduceSub, Int.reduceMul, Int.reduceNeg]
        exact ⟨H, (AH.le_refl _), (by first | exact ⟨by rw [decide_eq_true (by
          apply List.ext_getElem?
          intro j
          by_cases hj : j < i
          · exact hall j hj
          · rw [List.getElem?_eq_none (by omega), List.getElem?_eq_none (by omega)])], rfl⟩ | rfl)⟩
  · have hl' : ¬ (L.length : Int) = (M.length : Int) := by omega
    refine ACalls.enter2 Try.func63 rfl Try.ntmps63 Try.results63 (by simp) ?_; simp (dsimp := false) (maxSteps := 4000000) only [hl', go_sem, ↓reduceIte, Nat.reduceEqDiff, Nat.reduceLT, Nat.reduceLeDiff, Nat.reduceAdd, Nat.reduceMul, Nat.reduceSub, reduceCtorEq, Int.reduceToNat, Int.reduceLT, Int.reduceLE, Int.reduceEq, Int.reduceNe, Int.reduceBEq, Nat.reduceBEq, Int.reduceBNe, Nat.reduceBNe, Int.reduceAdd, Int.reduceSub, Int.reduceMul, Int.reduceNeg]
    exact ⟨H, (AH.le_refl _), (by first | exact ⟨by rw [decide_eq_false]; intro hx; subst hx; exact hl rfl, rfl⟩ | rfl)⟩
theorem Clip_e (base : Option Addr) (n cap : Nat) (H : AH) (h : n ≤ cap) :
    ACalls Try.prog 87 #[.slice base n cap] H (fun v H' => v = .slice base n n ∧ H = H') := by
  refine ACalls.enter2 Try.func87 rfl Try.ntmps87 Try.results87 (by simp) ?_; simp (dsimp := false) (maxSteps := 4000000) only [go_sem, ↓reduceIte, Nat.reduceEqDiff, Nat.reduceLT, Nat.reduceLeDiff, Nat.reduceAdd, Nat.reduceMul, Nat.reduceSub, reduceCtorEq, Int.reduceToNat, Int.reduceLT, Int.reduceLE, Int.reduceEq, Int.reduceNe, Int.reduceBEq, Nat.reduceBEq, Int.reduceBNe, Nat.reduceBNe, Int.reduceAdd, Int.reduceSub, Int.reduceMul, Int.reduceNeg]
  have h' : (n : Int) ≤ cap := by omega
  simp (dsimp := false) (maxSteps := 4000000) only [h', Int.le_refl, go_sem, ↓reduceIte, Nat.reduceEqDiff, Nat.reduceLT, Nat.reduceLeDiff, Nat.reduceAdd, Nat.reduceMul, Nat.reduceSub, reduceCtorEq, Int.reduceToNat, Int.reduceLT, Int.reduceLE, Int.reduceEq, Int.reduceNe, Int.reduceBEq, Nat.reduceBEq, Int.reduceBNe, Nat.reduceBNe, Int.reduceAdd, Int.reduceSub, Int.reduceMul, Int.reduceNeg]
  exact ⟨H, (AH.le_refl _), (by first | exact ⟨rfl, rfl⟩ | rfl)⟩
end Go.Proofs.Ytadbmmdmibiikaa.Rodl
