/- check: Sender of both sides. -/
import Derived.Test.YtgikjbfpckjkoaaChk
namespace Go.Proofs.Ytgikjbfpckjkoaa.Chk
set_option linter.unusedSimpArgs false
set_option linter.unusedVariables false
open Go Go.AX Go.Proofs Ty
set_option maxHeartbeats 4000000
set_option maxRecDepth 10000

abbrev Tb := Option Addr × Nat × List En
def encT (x : Tb) : List Value := [.slice x.1 x.2.2.length x.2.1]
structure TabIn (H : AH) (base : Option Addr) (cap : Nat) (T : List Tb) : Prop where
  out : SlcIn H 1 base cap (T.map encT)
  inn : ∀ x ∈ T, SlcIn H 5 x.1 x.2.1 (x.2.2.map encE)
def snd (slot : Int) (x : En) : Bool := decide (x.1 = 1) && decide (x.2.1 = slot)
theorem sends1_c (x : En) (slot : Int) (bs : Nat) (H : AH) (h : H.rd ⟨bs, 0, none⟩ = some (.int .i64 slot)) :
    ACalls Try.prog 108 #[.agg (encE x).toArray, .pointer (some ⟨bs, 0, none⟩)] H (fun v H' => v = .bool (snd slot x) ∧ H = H') := by
  obtain ⟨k, s, f, r, b⟩ := x
  refine ACalls.enter2 Try.func108 rfl Try.ntmps108 Try.results108 (by simp) ?_; simp (dsimp := false) (maxSteps := 4000000) only [encE_mk, go_sem, ↓reduceIte, Nat.reduceEqDiff, Nat.reduceLT, Nat.reduceLeDiff, Nat.reduceAdd, Nat.reduceMul, Nat.reduceSub, reduceCtorEq, Int.reduceToNat, Int.reduceLT, Int.reduceLE, Int.reduceEq, Int.reduceNe, Int.reduceBEq, Nat.reduceBEq, Int.reduceBNe, Nat.reduceBNe, Int.reduceAdd, Int.reduceSub, Int.reduceMul, Int.reduceNeg]
  refine AllB.mk fun b2 h_b2 => ?_; have hn_b2 := h_b2; (try simp only [fresh_add, fresh_set, ne_eq] at hn_b2); have hr_b2 := hn_b2; (try simp only [@eq_comm Nat b2] at hr_b2); simp (dsimp := false) (maxSteps := 4000000) only [encE_mk, hn_b2, hr_b2, go_sem, ↓reduceIte, Nat.reduceEqDiff, Nat.reduceLT, Nat.reduceLeDiff, Nat.reduceAdd, Nat.reduceMul, Nat.reduceSub, reduceCtorEq, Int.reduceToNat, Int.reduceLT, Int.reduceLE, Int.reduceEq, Int.reduceNe, Int.reduceBEq, Nat.reduceBEq, Int.reduceBNe, Nat.reduceBNe, Int.reduceAdd, Int.reduceSub, Int.reduceMul, Int.reduceNeg]
  have nr_h := (Fresh.ne_rd (by simp only [hn_b2] : Fresh H b2) h)
  by_cases a : k = 1
  · simp (dsimp := false) (maxSteps := 4000000) only [a, h, nr_h, encE_mk, hn_b2, hr_b2, go_sem, ↓reduceIte, Nat.reduceEqDiff, Nat.reduceLT, Nat.reduceLeDiff, Nat.reduceAdd, Nat.reduceMul, Nat.reduceSub, reduceCtorEq, Int.reduceToNat, Int.reduceLT, Int.reduceLE, Int.reduceEq, Int.reduceNe, Int.reduceBEq, Nat.reduceBEq, Int.reduceBNe, Nat.reduceBNe, Int.reduceAdd, Int.reduceSub, Int.reduceMul, Int.reduceNeg]
    exact ⟨H, (AH.le_add (AH.le_refl _) ((by simp only [fresh_add, fresh_set, ne_eq, hn_b2, not_false_eq_true, and_self] : Fresh _ b2).2)), (by first | exact ⟨congrArg Value.bool (by rw [Bool.eq_iff_iff]; simp [snd, a]), rfl⟩ | rfl)⟩
  · simp (dsimp := false) (maxSteps := 4000000) only [a, encE_mk, hn_b2, hr_b2, go_sem, ↓reduceIte, Nat.reduceEqDiff, Nat.reduceLT, Nat.reduceLeDiff, Nat.reduceAdd, Nat.reduceMul, Nat.reduceSub, reduceCtorEq, Int.reduceToNat, Int.reduceLT, Int.reduceLE, Int.reduceEq, Int.reduceNe, Int.reduceBEq, Nat.reduceBEq, Int.reduceBNe, Nat.reduceBNe, Int.reduceAdd, Int.reduceSub, Int.reduceMul, Int.reduceNeg]
    exact ⟨H, (AH.le_add (AH.le_refl _) ((by simp only [fresh_add, fresh_set, ne_eq, hn_b2, not_false_eq_true, and_self] : Fresh _ b2).2)), (by first | exact ⟨by simp [snd, a], rfl⟩ | rfl)⟩
/-- The first that meets g: what an index of it comes to. -/
def Ix (g : En → Bool) (L : List En) (r : Int) : Prop := (r = -1 ∧ ∀ x ∈ L, g x = false) ∨ ∃ (i : Nat) (x : En), L[i]? = some x ∧ g x = true ∧ r = i ∧ ∀ j, j < i → ∀ y, L[j]? = some y → g y = false
theorem Index_g {g : En → Bool} {fid : Nat} {caps : List Value} {L : List En} {n : Nat} {base : Option Addr} {cap : Nat} {H : AH} (hs : SlcIn H 5 base cap (L.map encE)) (hn : n = L.length) (hok : fnOk Try.prog fid = true)
    (hf : ∀ x ∈ L, ACalls Try.prog fid ([] ++ [Value.agg (encE x).toArray] ++ caps).toArray H (fun v H' => v = .bool (g x) ∧ H = H')) :
    ACalls Try.prog 83 #[.slice base n cap, .func (.func fid) #[] caps.toArray] H (fun v H' => ∃ r : Int, v = .int .i64 r ∧ Ix g L r ∧ H = H') := by
  subst hn
  have hbig := hs.big
  simp only [List.length_map] at hbig
  refine ACalls.enter2 Try.func83 rfl Try.ntmps83 Try.results83 (by simp) ?_; simp (dsimp := false) (maxSteps := 4000000) only [go_sem, ↓reduceIte, Nat.reduceEqDiff, Nat.reduceLT, Nat.reduceLeDiff, Nat.reduceAdd, Nat.reduceMul, Nat.reduceSub, reduceCtorEq, Int.reduceToNat, Int.reduceLT, Int.reduceLE, Int.reduceEq, Int.reduceNe, Int.reduceBEq, Nat.reduceBEq, Int.reduceBNe, Nat.reduceBNe, Int.reduceAdd, Int.reduceSub, Int.reduceMul, Int.reduceNeg]
  refine AWp.loopo (ι := Nat) (fun i => i ≤ L.length ∧ ∀ j, j < i → ∀ y, L[j]? = some y → g y = false) (fun i => [(8, .int .i64 i), (7, .int .i64 L.length), (0, .slice base L.length cap), (1, .func (.func fid) #[] caps.toArray)])
    (fun _ => H) (fun i => L.length - i) 0 ⟨by omega, fun j hj => by omega⟩ (FrLe.of_lks ?_) (AH.le_refl _) fun i hi Q again out => ?_
  · simp (dsimp := false) (maxSteps := 4000000) only [go_sem, ↓reduceIte, Nat.reduceEqDiff, Nat.reduceLT, Nat.reduceLeDiff, Nat.reduceAdd, Nat.reduceMul, Nat.reduceSub, reduceCtorEq, Int.reduceToNat, Int.reduceLT, Int.reduceLE, Int.reduceEq, Int.reduceNe, Int.reduceBEq, Nat.reduceBEq, Int.reduceBNe, Nat.reduceBNe, Int.reduceAdd, Int.reduceSub, Int.reduceMul, Int.reduceNeg]
  · obtain ⟨hi, hall⟩ := hi
    by_cases h : (i : Int) < L.length
    · obtain ⟨x, hx⟩ := get_some (l := L) (i := i) (by omega)
      obtain ⟨b, o, rfl, hrow, _⟩ := hs.get (map_get (f := encE) hx)
      have ee := i64_succ (i := i) (by omega)
      simp (dsimp := false) (maxSteps := 4000000) only [h, hrow, hok, go_sem, ↓reduceIte, Nat.reduceEqDiff, Nat.reduceLT, Nat.reduceLeDiff, Nat.reduceAdd, Nat.reduceMul, Nat.reduceSub, reduceCtorEq, Int.reduceToNat, Int.reduceLT, Int.reduceLE, Int.reduceEq, Int.reduceNe, Int.reduceBEq, Nat.reduceBEq, Int.reduceBNe, Nat.reduceBNe, Int.reduceAdd, Int.reduceSub, Int.reduceMul, Int.reduceNeg]
      refine (hf x (List.mem_of_getElem? hx)).mono ?_; rintro _ _ ⟨rfl, rfl⟩
      cases hb : g x with
      | true =>
        simp (dsimp := false) (maxSteps := 4000000) only [go_sem, ↓reduceIte, Nat.reduceEqDiff, Nat.reduceLT, Nat.reduceLeDiff, Nat.reduceAdd, Nat.reduceMul, Nat.reduceSub, reduceCtorEq, Int.reduceToNat, Int.reduceLT, Int.reduceLE, Int.reduceEq, Int.reduceNe, Int.reduceBEq, Nat.reduceBEq, Int.reduceBNe, Nat.reduceBNe, Int.reduceAdd, Int.reduceSub, Int.reduceMul, Int.reduceNeg]
        refine out _ _ _ (by simp) ?_
        simp (dsimp := false) (maxSteps := 4000000) only [go_sem, ↓reduceIte, Nat.reduceEqDiff, Nat.reduceLT, Nat.reduceLeDiff, Nat.reduceAdd, Nat.reduceMul, Nat.reduceSub, reduceCtorEq, Int.reduceToNat, Int.reduceLT, Int.reduceLE, Int.reduceEq, Int.reduceNe, Int.reduceBEq, Nat.reduceBEq, Int.reduceBNe, Nat.reduceBNe, Int.reduceAdd, Int.reduceSub, Int.reduceMul, Int.reduceNeg]
        exact ⟨H, (by (repeat (first | exact AH.le_refl _ | refine AH.le_add ?_ ?_)); all_goals (first | exact AH.le_refl _ | (show AH.find _ _ = _; simp only [find_add_self, find_add_ne, find_fresh, fresh_add, ne_eq, not_false_eq_true, true_and, and_true, and_self]))), _, rfl, .inr ⟨i, x, hx, hb, rfl, hall⟩, rfl⟩
      | false =>
        simp (dsimp := false) (maxSteps := 4000000) only [ee, go_sem, ↓reduceIte, Nat.reduceEqDiff, Nat.reduceLT, Nat.reduceLeDiff, Nat.reduceAdd, Nat.reduceMul, Nat.reduceSub, reduceCtorEq, Int.reduceToNat, Int.reduceLT, Int.reduceLE, Int.reduceEq, Int.reduceNe, Int.reduceBEq, Nat.reduceBEq, Int.reduceBNe, Nat.reduceBNe, Int.reduceAdd, Int.reduceSub, Int.reduceMul, Int.reduceNeg]
        refine again (i + 1) _ _ ⟨by omega, fun j hj m hm => ?_⟩ (FrLe.of_lks (by simp (dsimp := false) (maxSteps := 4000000) only [go_sem, ↓reduceIte, Nat.reduceEqDiff, Nat.reduceLT, Nat.reduceLeDiff, Nat.reduceAdd, Nat.reduceMul, Nat.reduceSub, reduceCtorEq, Int.reduceToNat, Int.reduceLT, Int.reduceLE, Int.reduceEq, Int.reduceNe, Int.reduceBEq, Nat.reduceBEq, Int.reduceBNe, Nat.reduceBNe, Int.reduceAdd, Int.reduceSub, Int.reduceMul, Int.reduceNeg])) (AH.le_refl _) (by omega)
        by_cases hji : j = i
        · subst hji; rw [hx] at hm; cases hm; exact hb
        · exact hall j (by omega) m hm
    · simp (dsimp := false) (maxSteps := 4000000) only [h, go_sem, ↓reduceIte, Nat.reduceEqDiff, Nat.reduceLT, Nat.reduceLeDiff, Nat.reduceAdd, Nat.reduceMul, Nat.reduceSub, reduceCtorEq, Int.reduceToNat, Int.reduceLT, Int.reduceLE, Int.reduceEq, Int.reduceNe, Int.reduceBEq, Nat.reduceBEq, Int.reduceBNe, Nat.reduceBNe, Int.reduceAdd, Int.reduceSub, Int.reduceMul, Int.reduceNeg]
      refine out _ _ _ (by simp) ?_
      simp (dsimp := false) (maxSteps := 4000000) only [go_sem, ↓reduceIte, Nat.reduceEqDiff, Nat.reduceLT, Nat.reduceLeDiff, Nat.reduceAdd, Nat.reduceMul, Nat.reduceSub, reduceCtorEq, Int.reduceToNat, Int.reduceLT, Int.reduceLE, Int.reduceEq, Int.reduceNe, Int.reduceBEq, Nat.reduceBEq, Int.reduceBNe, Nat.reduceBNe, Int.reduceAdd, Int.reduceSub, Int.reduceMul, Int.reduceNeg]
      exact ⟨H, (by (repeat (first | exact AH.le_refl _ | refine AH.le_add ?_ ?_)); all_goals (first | exact AH.le_refl _ | (show AH.find _ _ = _; simp only [find_add_self, find_add_ne, find_fresh, fresh_add, ne_eq, not_false_eq_true, true_and, and_true, and_self]))), _, rfl, .inl ⟨rfl, fun y hy => by
        obtain ⟨j, hj⟩ := List.mem_iff_getElem?.1 hy
        exact hall j (by have := lt_of_get hj; omega) y hj⟩, rfl⟩
end Go.Proofs.Ytgikjbfpckjkoaa.Chk
