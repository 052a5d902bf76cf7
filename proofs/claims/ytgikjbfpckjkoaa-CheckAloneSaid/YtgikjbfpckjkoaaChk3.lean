/- check: Sender. -/
import Derived.Test.YtgikjbfpckjkoaaChk2
namespace Go.Proofs.Ytgikjbfpckjkoaa.Chk
set_option linter.unusedSimpArgs false
set_option linter.unusedVariables false
open Go Go.AX Go.Proofs Ty
set_option maxHeartbeats 4000000
set_option maxRecDepth 10000

def sndO (slot : Int) : Nat → List Tb → Option (Nat × En)
  | _, [] => none
  | n, t :: T => match t.2.2.find? (snd slot) with
    | some x => some (n, x)
    | none => sndO slot (n + 1) T
theorem sndO_hit {slot : Int} : ∀ {T : List Tb} {i m : Nat} {t : Tb} {x : En}, T[i]? = some t → (∀ j, j < i → ∀ t, T[j]? = some t → t.2.2.find? (snd slot) = none) → t.2.2.find? (snd slot) = some x → sndO slot m T = some (m + i, x)
  | [], _, _, _, _, h, _, _ => by simp at h
  | t0 :: T, 0, m, t, x, h, _, hx => by
    simp at h; subst h
    rw [sndO, hx]; rfl
  | t0 :: T, i + 1, m, t, x, h, hp, hx => by
    have h0 := hp 0 (by omega) t0 rfl
    rw [sndO, h0]
    simp only [List.getElem?_cons_succ] at h
    show sndO slot (m + 1) T = _
    rw [sndO_hit h (fun j hj t ht => hp (j + 1) (by omega) t ht) hx, show m + 1 + i = m + (i + 1) from by omega]
theorem sndO_none {slot : Int} : ∀ {T : List Tb} {m : Nat}, (∀ t ∈ T, t.2.2.find? (snd slot) = none) → sndO slot m T = none
  | [], _, _ => rfl
  | t0 :: T, m, h => by
    rw [sndO, h t0 (List.mem_cons_self ..)]
    exact sndO_none fun t ht => h t (List.mem_cons_of_mem _ ht)
theorem find_none {g : En → Bool} {L : List En} (h : ∀ x ∈ L, g x = false) : L.find? g = none := List.find?_eq_none.2 fun x hx => by rw [h x hx]; simp
theorem find_some {g : En → Bool} : ∀ {L : List En} {i : Nat} {x : En}, L[i]? = some x → g x = true → (∀ j, j < i → ∀ y, L[j]? = some y → g y = false) → L.find? g = some x
  | [], _, _, h, _, _ => by simp at h
  | y :: L, 0, x, h, hg, _ => by simp at h; subst h; simp [hg]
  | y :: L, i + 1, x, h, hg, hp => by
    have h0 := hp 0 (by omega) y rfl
    simp only [List.getElem?_cons_succ] at h
    rw [List.find?_cons, h0]
    exact find_some h hg fun j hj z hz => hp (j + 1) (by omega) z hz
theorem sends_c (slot : Int) (H : AH) : ACalls Try.prog 84 #[.int .i64 slot] H (fun v H' => ∃ b, Fresh H b ∧ v = .func (.func 108) #[] [.pointer (some ⟨b, 0, none⟩)].toArray ∧ H' = H.add b (.cells [.int .i64 slot] 3 1)) := by
  refine ACalls.enter2 Try.func84 rfl Try.ntmps84 Try.results84 (by simp) ?_; simp (dsimp := false) (maxSteps := 4000000) only [go_sem, ↓reduceIte, Nat.reduceEqDiff, Nat.reduceLT, Nat.reduceLeDiff, Nat.reduceAdd, Nat.reduceMul, Nat.reduceSub, reduceCtorEq, Int.reduceToNat, Int.reduceLT, Int.reduceLE, Int.reduceEq, Int.reduceNe, Int.reduceBEq, Nat.reduceBEq, Int.reduceBNe, Nat.reduceBNe, Int.reduceAdd, Int.reduceSub, Int.reduceMul, Int.reduceNeg]
  refine AllB.mk fun b1 h_b1 => ?_; have hn_b1 := h_b1; (try simp only [fresh_add, fresh_set, ne_eq] at hn_b1); have hr_b1 := hn_b1; (try simp only [@eq_comm Nat b1] at hr_b1); simp (dsimp := false) (maxSteps := 4000000) only [hn_b1, hr_b1, go_sem, ↓reduceIte, Nat.reduceEqDiff, Nat.reduceLT, Nat.reduceLeDiff, Nat.reduceAdd, Nat.reduceMul, Nat.reduceSub, reduceCtorEq, Int.reduceToNat, Int.reduceLT, Int.reduceLE, Int.reduceEq, Int.reduceNe, Int.reduceBEq, Nat.reduceBEq, Int.reduceBNe, Nat.reduceBNe, Int.reduceAdd, Int.reduceSub, Int.reduceMul, Int.reduceNeg]
  exact ⟨_, AH.le_refl _, b1, h_b1, rfl, rfl⟩
def sN (slot : Int) (T : List Tb) : Int := match sndO slot 0 T with | some x => x.1 | none => -1
def sX (slot : Int) (T : List Tb) : En := match sndO slot 0 T with | some x => x.2 | none => ze
theorem Sender_c (T : List Tb) (base : Option Addr) (cap : Nat) (slot : Int) (H : AH) (hT : TabIn H base cap T) :
    ACalls Try.prog 41 #[.slice base T.length cap, .int .i64 slot] H (fun v H' => v = .tuple #[.int .i64 (sN slot T), .agg (encE (sX slot T)).toArray] ∧ H = H') := by
  have hbig := hT.out.big
  simp only [List.length_map] at hbig
  refine ACalls.enter2 Try.func41 rfl Try.ntmps41 Try.results41 (by simp) ?_; simp (dsimp := false) (maxSteps := 4000000) only [encE_len, encE_scal, encE_z5, encE_take, go_sem, ↓reduceIte, Nat.reduceEqDiff, Nat.reduceLT, Nat.reduceLeDiff, Nat.reduceAdd, Nat.reduceMul, Nat.reduceSub, reduceCtorEq, Int.reduceToNat, Int.reduceLT, Int.reduceLE, Int.reduceEq, Int.reduceNe, Int.reduceBEq, Nat.reduceBEq, Int.reduceBNe, Nat.reduceBNe, Int.reduceAdd, Int.reduceSub, Int.reduceMul, Int.reduceNeg]
  refine AllB.mk fun b5 h_b5 => ?_; have hn_b5 := h_b5; (try simp only [fresh_add, fresh_set, ne_eq] at hn_b5); have hr_b5 := hn_b5; (try simp only [@eq_comm Nat b5] at hr_b5); simp (dsimp := false) (maxSteps := 4000000) only [encE_len, encE_scal, encE_z5, encE_take, hn_b5, hr_b5, go_sem, ↓reduceIte, Nat.reduceEqDiff, Nat.reduceLT, Nat.reduceLeDiff, Nat.reduceAdd, Nat.reduceMul, Nat.reduceSub, reduceCtorEq, Int.reduceToNat, Int.reduceLT, Int.reduceLE, Int.reduceEq, Int.reduceNe, Int.reduceBEq, Nat.reduceBEq, Int.reduceBNe, Nat.reduceBNe, Int.reduceAdd, Int.reduceSub, Int.reduceMul, Int.reduceNeg]
  have f5 : Fresh H b5 := h_b5
  refine AWp.loopo (ι := Nat) (fun i => i ≤ T.length ∧ ∀ j, j < i → ∀ t, T[j]? = some t → t.2.2.find? (snd slot) = none) (fun i => [(11, .int .i64 i), (10, .int .i64 T.length), (9, .slice base T.length cap), (0, .slice base T.length cap), (1, .int .i64 slot), (5, .pointer (some ⟨b5, 0, none⟩))])
    (fun _ => H.add b5 (.cells [.int .i64 0, .int .i64 0, .int .i64 0, .int .i64 0, .int .i64 0] 75 5)) (fun i => T.length - i) 0 ⟨by omega, fun j hj => by omega⟩ (FrLe.of_lks ?_) (AH.le_refl _) fun i hi Q again out => ?_
  · simp (dsimp := false) (maxSteps := 4000000) only [encE_len, encE_scal, encE_z5, encE_take, hn_b5, hr_b5, go_sem, ↓reduceIte, Nat.reduceEqDiff, Nat.reduceLT, Nat.reduceLeDiff, Nat.reduceAdd, Nat.reduceMul, Nat.reduceSub, reduceCtorEq, Int.reduceToNat, Int.reduceLT, Int.reduceLE, Int.reduceEq, Int.reduceNe, Int.reduceBEq, Nat.reduceBEq, Int.reduceBNe, Nat.reduceBNe, Int.reduceAdd, Int.reduceSub, Int.reduceMul, Int.reduceNeg]
  · obtain ⟨hi, hall⟩ := hi
    by_cases h : (i : Int) < T.length
    · obtain ⟨⟨tb, tc, L⟩, ht⟩ := get_some (l := T) (i := i) (by omega)
      have hin := hT.inn _ (List.mem_of_getElem? ht)
      obtain ⟨b, o, rfl, _, hrd⟩ := hT.out.get (map_get (f := encT) ht)
      have hrd := hrd 0 _ rfl
      simp only [Nat.mul_one, Nat.add_zero] at hrd
      have ee := i64_succ (i := i) (by omega)
      have nr_hrd := (Fresh.ne_rd (by simp only [hn_b5] : Fresh H b5) hrd)
      
      simp (dsimp := false) (maxSteps := 4000000) only [h, hrd, nr_hrd, encE_len, encE_scal, encE_z5, encE_take, hn_b5, hr_b5, go_sem, ↓reduceIte, Nat.reduceEqDiff, Nat.reduceLT, Nat.reduceLeDiff, Nat.reduceAdd, Nat.reduceMul, Nat.reduceSub, reduceCtorEq, Int.reduceToNat, Int.reduceLT, Int.reduceLE, Int.reduceEq, Int.reduceNe, Int.reduceBEq, Nat.reduceBEq, Int.reduceBNe, Nat.reduceBNe, Int.reduceAdd, Int.reduceSub, Int.reduceMul, Int.reduceNeg]
      refine (sends_c slot _).mono ?_; rintro _ _ ⟨bs, h_bs, rfl, rfl⟩
      have hn_bs := h_bs; (try simp only [fresh_add, fresh_set, ne_eq] at hn_bs); have hr_bs := hn_bs; (try simp only [@eq_comm Nat bs] at hr_bs)
      simp (dsimp := false) (maxSteps := 4000000) only [encE_len, encE_scal, encE_z5, encE_take, hn_b5, hr_b5, hn_bs, hr_bs, go_sem, ↓reduceIte, Nat.reduceEqDiff, Nat.reduceLT, Nat.reduceLeDiff, Nat.reduceAdd, Nat.reduceMul, Nat.reduceSub, reduceCtorEq, Int.reduceToNat, Int.reduceLT, Int.reduceLE, Int.reduceEq, Int.reduceNe, Int.reduceBEq, Nat.reduceBEq, Int.reduceBNe, Nat.reduceBNe, Int.reduceAdd, Int.reduceSub, Int.reduceMul, Int.reduceNeg]
      refine (Index_g (g := snd slot) (fid := 108) (L := L) ((hin.add f5).add h_bs) rfl (by kernel_rfl) fun x hx => sends1_c x slot bs _ (by rw [rd_add_self]; rfl)).mono ?_; rintro _ _ ⟨r, rfl, hr, rfl⟩
      rcases hr with ⟨rfl, hno⟩ | ⟨q, x, hq, hg, rfl, hpre⟩
      · have hf := find_none hno
        simp (dsimp := false) (maxSteps := 4000000) only [ee, encE_len, encE_scal, encE_z5, encE_take, hn_b5, hr_b5, hn_bs, hr_bs, go_sem, ↓reduceIte, Nat.reduceEqDiff, Nat.reduceLT, Nat.reduceLeDiff, Nat.reduceAdd, Nat.reduceMul, Nat.reduceSub, reduceCtorEq, Int.reduceToNat, Int.reduceLT, Int.reduceLE, Int.reduceEq, Int.reduceNe, Int.reduceBEq, Nat.reduceBEq, Int.reduceBNe, Nat.reduceBNe, Int.reduceAdd, Int.reduceSub, Int.reduceMul, Int.reduceNeg]
        refine again (i + 1) _ _ ⟨by omega, fun j hj t' ht' => ?_⟩ (FrLe.of_lks (by simp (dsimp := false) (maxSteps := 4000000) only [encE_len, encE_scal, encE_z5, encE_take, hn_b5, hr_b5, hn_bs, hr_bs, go_sem, ↓reduceIte, Nat.reduceEqDiff, Nat.reduceLT, Nat.reduceLeDiff, Nat.reduceAdd, Nat.reduceMul, Nat.reduceSub, reduceCtorEq, Int.reduceToNat, Int.reduceLT, Int.reduceLE, Int.reduceEq, Int.reduceNe, Int.reduceBEq, Nat.reduceBEq, Int.reduceBNe, Nat.reduceBNe, Int.reduceAdd, Int.reduceSub, Int.reduceMul, Int.reduceNeg])) (by refine AH.le_cons ?_ ?_; (show AH.find _ _ = _; simp only [find_add_self, find_add_ne, find_fresh, fresh_add, ne_eq, not_false_eq_true, true_and, and_true, and_self, encE_len, encE_scal, encE_z5, encE_take, hn_b5, hr_b5, hn_bs, hr_bs]); (repeat (first | exact AH.le_refl _ | refine AH.le_add ?_ ?_)); all_goals (first | exact AH.le_refl _ | (show AH.find _ _ = _; simp only [find_add_self, find_add_ne, find_fresh, fresh_add, ne_eq, not_false_eq_true, true_and, and_true, and_self, encE_len, encE_scal, encE_z5, encE_take, hn_b5, hr_b5, hn_bs, hr_bs]))) (by omega)
        by_cases hji : j = i
        · subst hji; rw [ht] at ht'; cases ht'; exact hf
        · exact hall j (by omega) t' ht'
      · have hf := find_some hq hg hpre
        have hs0 := sndO_hit (m := 0) ht hall hf
        rw [Nat.zero_add] at hs0
        obtain ⟨b', o', rfl, hrow, _⟩ := hin.get (map_get (f := encE) hq)
        have q0 : (0 : Int) ≤ (q : Int) := by omega
        have q1 : (q : Int) < L.length := by have := lt_of_get hq; omega
        have nr_hrow := (And.intro (Fresh.ne_row (by simp only [hn_b5] : Fresh H b5) hrow) (Fresh.ne_row (by simp only [hn_bs] : Fresh H bs) hrow))
        simp (dsimp := false) (maxSteps := 4000000) only [q0, encE_len, encE_scal, encE_z5, encE_take, hn_b5, hr_b5, hn_bs, hr_bs, go_sem, ↓reduceIte, Nat.reduceEqDiff, Nat.reduceLT, Nat.reduceLeDiff, Nat.reduceAdd, Nat.reduceMul, Nat.reduceSub, reduceCtorEq, Int.reduceToNat, Int.reduceLT, Int.reduceLE, Int.reduceEq, Int.reduceNe, Int.reduceBEq, Nat.reduceBEq, Int.reduceBNe, Nat.reduceBNe, Int.reduceAdd, Int.reduceSub, Int.reduceMul, Int.reduceNeg]
        refine AWp.gen [.pu, .pu, .pu, .pu, .rd, .pu, .ch] [0, 0, 0, 6, 14, 1, 63] 0 (_) mixed (by kernel_rfl) (AH.le_refl _) ?_
        simp (dsimp := false) (maxSteps := 4000000) only [q1, hrow, nr_hrow, AH.le_refl, encE_len, encE_scal, encE_z5, encE_take, hn_b5, hr_b5, hn_bs, hr_bs, go_sem, ↓reduceIte, Nat.reduceEqDiff, Nat.reduceLT, Nat.reduceLeDiff, Nat.reduceAdd, Nat.reduceMul, Nat.reduceSub, reduceCtorEq, Int.reduceToNat, Int.reduceLT, Int.reduceLE, Int.reduceEq, Int.reduceNe, Int.reduceBEq, Nat.reduceBEq, Int.reduceBNe, Nat.reduceBNe, Int.reduceAdd, Int.reduceSub, Int.reduceMul, Int.reduceNeg]
        refine out _ _ _ (by simp) ?_
        simp (dsimp := false) (maxSteps := 4000000) only [encE_len, encE_scal, encE_z5, encE_take, hn_b5, hr_b5, hn_bs, hr_bs, go_sem, ↓reduceIte, Nat.reduceEqDiff, Nat.reduceLT, Nat.reduceLeDiff, Nat.reduceAdd, Nat.reduceMul, Nat.reduceSub, reduceCtorEq, Int.reduceToNat, Int.reduceLT, Int.reduceLE, Int.reduceEq, Int.reduceNe, Int.reduceBEq, Nat.reduceBEq, Int.reduceBNe, Nat.reduceBNe, Int.reduceAdd, Int.reduceSub, Int.reduceMul, Int.reduceNeg]
        exact ⟨H, (AH.le_add (AH.le_add (AH.le_refl _) ((by simp only [fresh_add, fresh_set, ne_eq, hn_b5, not_false_eq_true, and_self] : Fresh _ b5).2)) ((by simp only [fresh_add, fresh_set, ne_eq, hn_bs, not_false_eq_true, and_self] : Fresh _ bs).2)), (by first | exact ⟨by simp [sN, sX, hs0], rfl⟩ | rfl)⟩
      
    · simp (dsimp := false) (maxSteps := 4000000) only [h, encE_len, encE_scal, encE_z5, encE_take, hn_b5, hr_b5, go_sem, ↓reduceIte, Nat.reduceEqDiff, Nat.reduceLT, Nat.reduceLeDiff, Nat.reduceAdd, Nat.reduceMul, Nat.reduceSub, reduceCtorEq, Int.reduceToNat, Int.reduceLT, Int.reduceLE, Int.reduceEq, Int.reduceNe, Int.reduceBEq, Nat.reduceBEq, Int.reduceBNe, Nat.reduceBNe, Int.reduceAdd, Int.reduceSub, Int.reduceMul, Int.reduceNeg]
      refine out _ _ _ (by simp) ?_
      have hz := sndO_none (slot := slot) (T := T) (m := 0) fun t ht => by
        obtain ⟨j, hj⟩ := List.mem_iff_getElem?.1 ht
        exact hall j (by have := lt_of_get hj; omega) t hj
      simp (dsimp := false) (maxSteps := 4000000) only [encE_len, encE_scal, encE_z5, encE_take, hn_b5, hr_b5, go_sem, ↓reduceIte, Nat.reduceEqDiff, Nat.reduceLT, Nat.reduceLeDiff, Nat.reduceAdd, Nat.reduceMul, Nat.reduceSub, reduceCtorEq, Int.reduceToNat, Int.reduceLT, Int.reduceLE, Int.reduceEq, Int.reduceNe, Int.reduceBEq, Nat.reduceBEq, Int.reduceBNe, Nat.reduceBNe, Int.reduceAdd, Int.reduceSub, Int.reduceMul, Int.reduceNeg]
      exact ⟨H, (AH.le_add (AH.le_refl _) ((by simp only [fresh_add, fresh_set, ne_eq, hn_b5, not_false_eq_true, and_self] : Fresh _ b5).2)), (by first | exact ⟨by simp [sN, sX, hz, encE, ze], rfl⟩ | rfl)⟩
end Go.Proofs.Ytgikjbfpckjkoaa.Chk
