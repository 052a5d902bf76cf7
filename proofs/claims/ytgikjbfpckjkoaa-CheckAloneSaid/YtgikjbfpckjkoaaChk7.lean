/- check: Tables of both sides. -/
import Derived.Test.YtgikjbfpckjkoaaChk6
namespace Go.Proofs.Ytgikjbfpckjkoaa.Chk
set_option linter.unusedSimpArgs false
set_option linter.unusedVariables false
open Go Go.AX Go.Proofs Ty
set_option maxHeartbeats 4000000
set_option maxRecDepth 10000

def bad (T : List Tb) (s : Int) : Option Nat := (List.range T.length).find? fun n => !fitB T n s
theorem bad_some {T : List Tb} {s : Int} {n : Nat} (hn : n < T.length) (h : fitB T n s = false) (hp : ∀ m, m < n → fitB T m s = true) : bad T s = some n := by
  rw [bad, List.find?_range_eq_some]
  exact ⟨by rw [h]; rfl, List.mem_range.2 hn, fun j hj => by rw [hp j hj]; rfl⟩
theorem bad_none {T : List Tb} {s : Int} {n : Nat} (hn : T.length ≤ n) (h : ∀ m, m < n → fitB T m s = true) : bad T s = none := by
  rw [bad, List.find?_range_eq_none]
  intro i hi
  rw [h i (by omega)]; rfl
def tabs (T : List Tb) : Int × Int := match bad T 2 with
  | some n => (n, 2)
  | none => match bad T 8 with
    | some n => (n, 8)
    | none => match bad T 9 with
      | some n => (n, 9)
      | none => (-1, 0)
def ss : List Int := [2, 8, 9]
theorem tabs_at {T : List Tb} {i n : Nat} {s : Int} (hi : ss[i]? = some s) (hp : ∀ j, j < i → ∀ s, ss[j]? = some s → bad T s = none) (h : bad T s = some n) : tabs T = ((n : Int), s) := by
  match i, hi with
  | 0, hi => cases hi; simp [tabs, h]
  | 1, hi => cases hi; simp [tabs, h, hp 0 (by omega) _ rfl]
  | 2, hi => cases hi; simp [tabs, h, hp 0 (by omega) _ rfl, hp 1 (by omega) _ rfl]
theorem tabs_no {T : List Tb} (hp : ∀ j, j < 3 → ∀ s, ss[j]? = some s → bad T s = none) : tabs T = (-1, 0) := by
  simp [tabs, hp 0 (by omega) _ rfl, hp 1 (by omega) _ rfl, hp 2 (by omega) _ rfl]
theorem Tables_c (T : List Tb) (base : Option Addr) (cap : Nat) (H : AH) (hT : TabIn H base cap T) :
    ACalls Try.prog 38 #[.slice base T.length cap] H (fun v H' => v = .tuple #[.int .i64 (tabs T).1, .int .i64 (tabs T).2] ∧ H = H') := by
  have hbig := hT.out.big
  simp only [List.length_map] at hbig
  refine ACalls.enter2 Try.func38 rfl Try.ntmps38 Try.results38 (by simp) ?_; simp (dsimp := false) (maxSteps := 4000000) only [go_sem, ↓reduceIte, Nat.reduceEqDiff, Nat.reduceLT, Nat.reduceLeDiff, Nat.reduceAdd, Nat.reduceMul, Nat.reduceSub, reduceCtorEq, Int.reduceToNat, Int.reduceLT, Int.reduceLE, Int.reduceEq, Int.reduceNe, Int.reduceBEq, Nat.reduceBEq, Int.reduceBNe, Nat.reduceBNe, Int.reduceAdd, Int.reduceSub, Int.reduceMul, Int.reduceNeg]
  refine AllB.mk fun b7 h_b7 => ?_; have hn_b7 := h_b7; (try simp only [fresh_add, fresh_set, ne_eq] at hn_b7); have hr_b7 := hn_b7; (try simp only [@eq_comm Nat b7] at hr_b7); simp (dsimp := false) (maxSteps := 4000000) only [hn_b7, hr_b7, go_sem, ↓reduceIte, Nat.reduceEqDiff, Nat.reduceLT, Nat.reduceLeDiff, Nat.reduceAdd, Nat.reduceMul, Nat.reduceSub, reduceCtorEq, Int.reduceToNat, Int.reduceLT, Int.reduceLE, Int.reduceEq, Int.reduceNe, Int.reduceBEq, Nat.reduceBEq, Int.reduceBNe, Nat.reduceBNe, Int.reduceAdd, Int.reduceSub, Int.reduceMul, Int.reduceNeg]
  refine AWp.loopo (ι := Nat) (fun i => i ≤ 3 ∧ ∀ j, j < i → ∀ s, ss[j]? = some s → bad T s = none) (fun i => [(9, .int .i64 i), (8, .int .i64 3), (7, .slice (some ⟨b7, 0, none⟩) 3 3), (0, .slice base T.length cap)])
    (fun _ => H.add b7 (.cells [.int .i64 2, .int .i64 8, .int .i64 9] 28 3)) (fun i => 3 - i) 0 ⟨by omega, fun j hj => by omega⟩ (FrLe.of_lks ?_) (AH.le_refl _) fun i hi Q again out => ?_
  · simp (dsimp := false) (maxSteps := 4000000) only [hn_b7, hr_b7, go_sem, ↓reduceIte, Nat.reduceEqDiff, Nat.reduceLT, Nat.reduceLeDiff, Nat.reduceAdd, Nat.reduceMul, Nat.reduceSub, reduceCtorEq, Int.reduceToNat, Int.reduceLT, Int.reduceLE, Int.reduceEq, Int.reduceNe, Int.reduceBEq, Nat.reduceBEq, Int.reduceBNe, Nat.reduceBNe, Int.reduceAdd, Int.reduceSub, Int.reduceMul, Int.reduceNeg]
  · obtain ⟨hi, hall⟩ := hi
    by_cases h : (i : Int) < 3
    · obtain ⟨s, hs⟩ := get_some (l := ss) (i := i) (by simp [ss]; omega)
      have hq : ([.int .i64 2, .int .i64 8, .int .i64 9] : List Value)[i]? = some (.int .i64 s) := by
        have : (ss.map (Value.int .i64))[i]? = some (.int .i64 s) := by rw [List.getElem?_map, hs]; rfl
        exact this
      have ee := i64_succ (i := i) (by omega)
      simp (dsimp := false) (maxSteps := 4000000) only [h, hq, hn_b7, hr_b7, go_sem, ↓reduceIte, Nat.reduceEqDiff, Nat.reduceLT, Nat.reduceLeDiff, Nat.reduceAdd, Nat.reduceMul, Nat.reduceSub, reduceCtorEq, Int.reduceToNat, Int.reduceLT, Int.reduceLE, Int.reduceEq, Int.reduceNe, Int.reduceBEq, Nat.reduceBEq, Int.reduceBNe, Nat.reduceBNe, Int.reduceAdd, Int.reduceSub, Int.reduceMul, Int.reduceNeg]
      refine AWp.loopo (ι := Nat) (fun n => n ≤ T.length ∧ ∀ m, m < n → fitB T m s = true) (fun n => [(15, .int .i64 n), (14, .int .i64 T.length), (5, .int .i64 s), (9, .int .i64 i), (8, .int .i64 3), (7, .slice (some ⟨b7, 0, none⟩) 3 3), (0, .slice base T.length cap)])
        (fun _ => H.add b7 (.cells [.int .i64 2, .int .i64 8, .int .i64 9] 28 3)) (fun i => T.length - i) 0 ⟨by omega, fun j hj => by omega⟩ (FrLe.of_lks ?_) (AH.le_refl _) fun n hn Q2 again2 out2 => ?_
      · simp (dsimp := false) (maxSteps := 4000000) only [hn_b7, hr_b7, go_sem, ↓reduceIte, Nat.reduceEqDiff, Nat.reduceLT, Nat.reduceLeDiff, Nat.reduceAdd, Nat.reduceMul, Nat.reduceSub, reduceCtorEq, Int.reduceToNat, Int.reduceLT, Int.reduceLE, Int.reduceEq, Int.reduceNe, Int.reduceBEq, Nat.reduceBEq, Int.reduceBNe, Nat.reduceBNe, Int.reduceAdd, Int.reduceSub, Int.reduceMul, Int.reduceNeg]
      · obtain ⟨hn, hpre⟩ := hn
        by_cases h2 : (n : Int) < T.length
        · have e2 := i64_succ (i := n) (by omega)
          simp (dsimp := false) (maxSteps := 4000000) only [h2, hn_b7, hr_b7, go_sem, ↓reduceIte, Nat.reduceEqDiff, Nat.reduceLT, Nat.reduceLeDiff, Nat.reduceAdd, Nat.reduceMul, Nat.reduceSub, reduceCtorEq, Int.reduceToNat, Int.reduceLT, Int.reduceLE, Int.reduceEq, Int.reduceNe, Int.reduceBEq, Nat.reduceBEq, Int.reduceBNe, Nat.reduceBNe, Int.reduceAdd, Int.reduceSub, Int.reduceMul, Int.reduceNeg]
          refine (fits_c T base cap n s _ (hT.add h_b7) (by omega)).mono ?_; rintro _ _ ⟨rfl, rfl⟩
          cases hf : fitB T n s with
          | true =>
            simp (dsimp := false) (maxSteps := 4000000) only [e2, hn_b7, hr_b7, go_sem, ↓reduceIte, Nat.reduceEqDiff, Nat.reduceLT, Nat.reduceLeDiff, Nat.reduceAdd, Nat.reduceMul, Nat.reduceSub, reduceCtorEq, Int.reduceToNat, Int.reduceLT, Int.reduceLE, Int.reduceEq, Int.reduceNe, Int.reduceBEq, Nat.reduceBEq, Int.reduceBNe, Nat.reduceBNe, Int.reduceAdd, Int.reduceSub, Int.reduceMul, Int.reduceNeg]
            refine again2 (n + 1) _ _ ⟨by omega, fun m hm => ?_⟩ (FrLe.of_lks (by simp (dsimp := false) (maxSteps := 4000000) only [hn_b7, hr_b7, go_sem, ↓reduceIte, Nat.reduceEqDiff, Nat.reduceLT, Nat.reduceLeDiff, Nat.reduceAdd, Nat.reduceMul, Nat.reduceSub, reduceCtorEq, Int.reduceToNat, Int.reduceLT, Int.reduceLE, Int.reduceEq, Int.reduceNe, Int.reduceBEq, Nat.reduceBEq, Int.reduceBNe, Nat.reduceBNe, Int.reduceAdd, Int.reduceSub, Int.reduceMul, Int.reduceNeg])) (AH.le_refl _) (by omega)
            by_cases e : m = n
            · rw [e]; exact hf
            · exact hpre m (by omega)
          | false =>
            have ht := tabs_at hs hall (bad_some (by omega) hf hpre)
            simp (dsimp := false) (maxSteps := 4000000) only [hn_b7, hr_b7, go_sem, ↓reduceIte, Nat.reduceEqDiff, Nat.reduceLT, Nat.reduceLeDiff, Nat.reduceAdd, Nat.reduceMul, Nat.reduceSub, reduceCtorEq, Int.reduceToNat, Int.reduceLT, Int.reduceLE, Int.reduceEq, Int.reduceNe, Int.reduceBEq, Nat.reduceBEq, Int.reduceBNe, Nat.reduceBNe, Int.reduceAdd, Int.reduceSub, Int.reduceMul, Int.reduceNeg]
            refine out2 _ _ _ (by simp) ?_
            simp (dsimp := false) (maxSteps := 4000000) only [hn_b7, hr_b7, go_sem, ↓reduceIte, Nat.reduceEqDiff, Nat.reduceLT, Nat.reduceLeDiff, Nat.reduceAdd, Nat.reduceMul, Nat.reduceSub, reduceCtorEq, Int.reduceToNat, Int.reduceLT, Int.reduceLE, Int.reduceEq, Int.reduceNe, Int.reduceBEq, Nat.reduceBEq, Int.reduceBNe, Nat.reduceBNe, Int.reduceAdd, Int.reduceSub, Int.reduceMul, Int.reduceNeg]
            refine out _ _ _ (by simp) ?_
            simp (dsimp := false) (maxSteps := 4000000) only [hn_b7, hr_b7, go_sem, ↓reduceIte, Nat.reduceEqDiff, Nat.reduceLT, Nat.reduceLeDiff, Nat.reduceAdd, Nat.reduceMul, Nat.reduceSub, reduceCtorEq, Int.reduceToNat, Int.reduceLT, Int.reduceLE, Int.reduceEq, Int.reduceNe, Int.reduceBEq, Nat.reduceBEq, Int.reduceBNe, Nat.reduceBNe, Int.reduceAdd, Int.reduceSub, Int.reduceMul, Int.reduceNeg]
            exact ⟨H, (AH.le_add (AH.le_refl _) ((by simp only [fresh_add, fresh_set, ne_eq, hn_b7, not_false_eq_true, and_self] : Fresh _ b7).2)), (by first | exact ⟨by rw [ht], rfl⟩ | rfl)⟩
        · simp (dsimp := false) (maxSteps := 4000000) only [h2, hn_b7, hr_b7, go_sem, ↓reduceIte, Nat.reduceEqDiff, Nat.reduceLT, Nat.reduceLeDiff, Nat.reduceAdd, Nat.reduceMul, Nat.reduceSub, reduceCtorEq, Int.reduceToNat, Int.reduceLT, Int.reduceLE, Int.reduceEq, Int.reduceNe, Int.reduceBEq, Nat.reduceBEq, Int.reduceBNe, Nat.reduceBNe, Int.reduceAdd, Int.reduceSub, Int.reduceMul, Int.reduceNeg]
          refine out2 _ _ _ (by simp) ?_
          simp (dsimp := false) (maxSteps := 4000000) only [ee, hn_b7, hr_b7, go_sem, ↓reduceIte, Nat.reduceEqDiff, Nat.reduceLT, Nat.reduceLeDiff, Nat.reduceAdd, Nat.reduceMul, Nat.reduceSub, reduceCtorEq, Int.reduceToNat, Int.reduceLT, Int.reduceLE, Int.reduceEq, Int.reduceNe, Int.reduceBEq, Nat.reduceBEq, Int.reduceBNe, Nat.reduceBNe, Int.reduceAdd, Int.reduceSub, Int.reduceMul, Int.reduceNeg]
          refine again (i + 1) _ _ ⟨by omega, fun j hj s' hs' => ?_⟩ (FrLe.of_lks (by simp (dsimp := false) (maxSteps := 4000000) only [hn_b7, hr_b7, go_sem, ↓reduceIte, Nat.reduceEqDiff, Nat.reduceLT, Nat.reduceLeDiff, Nat.reduceAdd, Nat.reduceMul, Nat.reduceSub, reduceCtorEq, Int.reduceToNat, Int.reduceLT, Int.reduceLE, Int.reduceEq, Int.reduceNe, Int.reduceBEq, Nat.reduceBEq, Int.reduceBNe, Nat.reduceBNe, Int.reduceAdd, Int.reduceSub, Int.reduceMul, Int.reduceNeg])) (AH.le_refl _) (by omega)
          by_cases e : j = i
          · subst e; rw [hs] at hs'; cases hs'; exact bad_none (by omega) hpre
          · exact hall j (by omega) s' hs'
    · have ht := tabs_no (T := T) fun j hj => hall j (by omega)
      simp (dsimp := false) (maxSteps := 4000000) only [h, hn_b7, hr_b7, go_sem, ↓reduceIte, Nat.reduceEqDiff, Nat.reduceLT, Nat.reduceLeDiff, Nat.reduceAdd, Nat.reduceMul, Nat.reduceSub, reduceCtorEq, Int.reduceToNat, Int.reduceLT, Int.reduceLE, Int.reduceEq, Int.reduceNe, Int.reduceBEq, Nat.reduceBEq, Int.reduceBNe, Nat.reduceBNe, Int.reduceAdd, Int.reduceSub, Int.reduceMul, Int.reduceNeg]
      refine out _ _ _ (by simp) ?_
      simp (dsimp := false) (maxSteps := 4000000) only [hn_b7, hr_b7, go_sem, ↓reduceIte, Nat.reduceEqDiff, Nat.reduceLT, Nat.reduceLeDiff, Nat.reduceAdd, Nat.reduceMul, Nat.reduceSub, reduceCtorEq, Int.reduceToNat, Int.reduceLT, Int.reduceLE, Int.reduceEq, Int.reduceNe, Int.reduceBEq, Nat.reduceBEq, Int.reduceBNe, Nat.reduceBNe, Int.reduceAdd, Int.reduceSub, Int.reduceMul, Int.reduceNeg]
      exact ⟨H, (AH.le_add (AH.le_refl _) ((by simp only [fresh_add, fresh_set, ne_eq, hn_b7, not_false_eq_true, and_self] : Fresh _ b7).2)), (by first | exact ⟨by rw [ht], rfl⟩ | rfl)⟩

/-! ### The reference's -/
theorem sndO_lt {slot : Int} : ∀ {T : List Tb} {m k : Nat} {x : En}, sndO slot m T = some (k, x) → m ≤ k ∧ k < m + T.length
  | [], _, _, _, h => by simp [sndO] at h
  | t :: T, m, k, x, h => by
    rw [sndO] at h
    split at h
    · cases h; simp
    · have := sndO_lt h
      simp only [List.length_cons]; omega
theorem sndO_app {slot : Int} : ∀ {A B : List Tb} {m : Nat}, sndO slot m (A ++ B) = match sndO slot m A with | some x => some x | none => sndO slot (m + A.length) B
  | [], B, m => by simp [sndO]
  | t :: A, B, m => by
    rw [List.cons_append, sndO, sndO]
    cases t.2.2.find? (snd slot) with
    | some x => rfl
    | none =>
      simp only
      rw [sndO_app]
      simp only [List.length_cons, Nat.add_assoc, Nat.add_comm 1]
theorem sN_take {T : List Tb} {n : Nat} {t : Tb} {x : En} (ht : T[n]? = some t) (hx : x ∈ t.2.2) (h1 : x.1 = 1) : (sN x.2.1 T < n ↔ 0 ≤ sN x.2.1 (T.take n)) := by
  have hn := lt_of_get ht
  have e : T = T.take n ++ t :: T.drop (n + 1) := by
    have hd := List.drop_eq_getElem_cons hn
    rw [List.getElem?_eq_getElem hn] at ht
    cases ht
    rw [← hd, List.take_append_drop]
  have hl : (T.take n).length = n := by rw [List.length_take]; omega
  have h2 : sndO x.2.1 0 T = match sndO x.2.1 0 (T.take n) with | some x => some x | none => sndO x.2.1 (0 + (T.take n).length) (t :: T.drop (n + 1)) := by
    conv => lhs; rw [e]
    exact sndO_app
  cases h3 : sndO x.2.1 0 (T.take n) with
  | some y =>
    obtain ⟨k, y⟩ := y
    have h4 := sndO_lt h3
    rw [h3] at h2
    simp only [sN, h2, h3]
    omega
  | none =>
    rw [h3, sndO] at h2
    cases hf : t.2.2.find? (snd x.2.1) with
    | none =>
      have := List.find?_eq_none.1 hf x hx
      simp [snd, h1] at this
    | some y =>
      rw [hf] at h2
      simp only [sN, h2, h3, hl]
      omega
def clashR (T : List Tb) (n : Nat) (x : En) : Bool := decide (x.1 = 1) && decide (0 ≤ sN x.2.1 (T.take n))
theorem clashR_eq {T : List Tb} {n : Nat} {t : Tb} {x : En} (ht : T[n]? = some t) (hx : x ∈ t.2.2) : clashR T n x = clash T n x := by
  unfold clashR clash
  by_cases h1 : x.1 = 1
  · have := sN_take ht hx h1
    rw [decide_eq_decide.2 this.symm]
  · simp [h1]
theorem any_none {g : En → Bool} {L : List En} (h : ∀ i, i < L.length → ∀ x, L[i]? = some x → g x = false) : L.any g = false := by
  rw [List.any_eq_false]
  intro x hx
  obtain ⟨i, hi⟩ := List.mem_iff_getElem?.1 hx
  rw [h i (lt_of_get hi) x hi]; simp
theorem TabIn.take {H : AH} {base : Option Addr} {cap : Nat} {T : List Tb} (h : TabIn H base cap T) (n : Nat) : TabIn H base cap (T.take n) :=
  ⟨by rw [List.map_take]; exact h.out.take, fun x hx => h.inn x (List.mem_of_mem_take hx)⟩
theorem RefSender_n (T : List Tb) (base : Option Addr) (cap n : Nat) (slot : Int) (H : AH) (hT : TabIn H base cap T) (hn : n = T.length) :
    ACalls Try.prog 42 #[.slice base n cap, .int .i64 slot] H (fun v H' => v = .tuple #[.int .i64 (sN slot T), .agg (encE (sX slot T)).toArray] ∧ H = H') := hn ▸ RefSender_c T base cap slot H hT
theorem RefTables_c (T : List Tb) (base : Option Addr) (cap : Nat) (H : AH) (hT : TabIn H base cap T) :
    ACalls Try.prog 40 #[.slice base T.length cap] H (fun v H' => v = .tuple #[.int .i64 (tabs T).1, .int .i64 (tabs T).2] ∧ H = H') := by
  have hbig := hT.out.big
  simp only [List.length_map] at hbig
  refine ACalls.enter2 Try.func40 rfl Try.ntmps40 Try.results40 (by simp) ?_; simp (dsimp := false) (maxSteps := 4000000) only [encE_mk, encE_len, encE_scal, encE_z5, go_sem, ↓reduceIte, Nat.reduceEqDiff, Nat.reduceLT, Nat.reduceLeDiff, Nat.reduceAdd, Nat.reduceMul, Nat.reduceSub, reduceCtorEq, Int.reduceToNat, Int.reduceLT, Int.reduceLE, Int.reduceEq, Int.reduceNe, Int.reduceBEq, Nat.reduceBEq, Int.reduceBNe, Nat.reduceBNe, Int.reduceAdd, Int.reduceSub, Int.reduceMul, Int.reduceNeg]
  refine AWp.loopo (ι := Nat) (fun n => n ≤ T.length ∧ ∀ m, m < n → fitB T m 2 = true) (fun n => [(4, .int .i64 n), (0, .slice base T.length cap)])
    (fun _ => H) (fun n => T.length - n) 0 ⟨by omega, fun j hj => by omega⟩ (FrLe.of_lks ?_) (AH.le_refl _) fun n hn Q again out => ?_
  · simp (dsimp := false) (maxSteps := 4000000) only [encE_mk, encE_len, encE_scal, encE_z5, go_sem, ↓reduceIte, Nat.reduceEqDiff, Nat.reduceLT, Nat.reduceLeDiff, Nat.reduceAdd, Nat.reduceMul, Nat.reduceSub, reduceCtorEq, Int.reduceToNat, Int.reduceLT, Int.reduceLE, Int.reduceEq, Int.reduceNe, Int.reduceBEq, Nat.reduceBEq, Int.reduceBNe, Nat.reduceBNe, Int.reduceAdd, Int.reduceSub, Int.reduceMul, Int.reduceNeg]
  obtain ⟨hn, hpre⟩ := hn
  by_cases h : (n : Int) < T.length
  · obtain ⟨⟨tb, tc, L⟩, ht⟩ := get_some (l := T) (i := n) (by omega)
    have hin := hT.inn _ (List.mem_of_getElem? ht)
    obtain ⟨b, o, rfl, _, hrd⟩ := hT.out.get (map_get (f := encT) ht)
    have hrd := hrd 0 _ rfl
    simp only [Nat.mul_one, Nat.add_zero] at hrd
    have ee := i64_succ (i := n) (by omega)
    have er : rowT T n = L := by simp [rowT, ht]
    simp (dsimp := false) (maxSteps := 4000000) only [h, hrd, encE_mk, encE_len, encE_scal, encE_z5, go_sem, ↓reduceIte, Nat.reduceEqDiff, Nat.reduceLT, Nat.reduceLeDiff, Nat.reduceAdd, Nat.reduceMul, Nat.reduceSub, reduceCtorEq, Int.reduceToNat, Int.reduceLT, Int.reduceLE, Int.reduceEq, Int.reduceNe, Int.reduceBEq, Nat.reduceBEq, Int.reduceBNe, Nat.reduceBNe, Int.reduceAdd, Int.reduceSub, Int.reduceMul, Int.reduceNeg]
    refine (May_c L tb tc _ hin).mono ?_; rintro _ _ ⟨rfl, rfl⟩
    cases hf : mayB L with
    | true =>
      simp (dsimp := false) (maxSteps := 4000000) only [ee, encE_mk, encE_len, encE_scal, encE_z5, go_sem, ↓reduceIte, Nat.reduceEqDiff, Nat.reduceLT, Nat.reduceLeDiff, Nat.reduceAdd, Nat.reduceMul, Nat.reduceSub, reduceCtorEq, Int.reduceToNat, Int.reduceLT, Int.reduceLE, Int.reduceEq, Int.reduceNe, Int.reduceBEq, Nat.reduceBEq, Int.reduceBNe, Nat.reduceBNe, Int.reduceAdd, Int.reduceSub, Int.reduceMul, Int.reduceNeg]
      refine again (n + 1) _ _ ⟨by omega, fun m hm => ?_⟩ (FrLe.of_lks (by simp (dsimp := false) (maxSteps := 4000000) only [encE_mk, encE_len, encE_scal, encE_z5, go_sem, ↓reduceIte, Nat.reduceEqDiff, Nat.reduceLT, Nat.reduceLeDiff, Nat.reduceAdd, Nat.reduceMul, Nat.reduceSub, reduceCtorEq, Int.reduceToNat, Int.reduceLT, Int.reduceLE, Int.reduceEq, Int.reduceNe, Int.reduceBEq, Nat.reduceBEq, Int.reduceBNe, Nat.reduceBNe, Int.reduceAdd, Int.reduceSub, Int.reduceMul, Int.reduceNeg])) (AH.le_refl _) (by omega)
      by_cases e : m = n
      · rw [e, fitB, if_pos rfl, er]; exact hf
      · exact hpre m (by omega)
    | false =>
      have ht := tabs_at (T := T) (i := 0) (s := 2) rfl (fun j hj => by omega) (bad_some (by omega) (by rw [fitB, if_pos rfl, er]; exact hf) hpre)
      simp (dsimp := false) (maxSteps := 4000000) only [encE_mk, encE_len, encE_scal, encE_z5, go_sem, ↓reduceIte, Nat.reduceEqDiff, Nat.reduceLT, Nat.reduceLeDiff, Nat.reduceAdd, Nat.reduceMul, Nat.reduceSub, reduceCtorEq, Int.reduceToNat, Int.reduceLT, Int.reduceLE, Int.reduceEq, Int.reduceNe, Int.reduceBEq, Nat.reduceBEq, Int.reduceBNe, Nat.reduceBNe, Int.reduceAdd, Int.reduceSub, Int.reduceMul, Int.reduceNeg]
      refine out _ _ _ (by simp) ?_
      simp (dsimp := false) (maxSteps := 4000000) only [encE_mk, encE_len, encE_scal, encE_z5, go_sem, ↓reduceIte, Nat.reduceEqDiff, Nat.reduceLT, Nat.reduceLeDiff, Nat.reduceAdd, Nat.reduceMul, Nat.reduceSub, reduceCtorEq, Int.reduceToNat, Int.reduceLT, Int.reduceLE, Int.reduceEq, Int.reduceNe, Int.reduceBEq, Nat.reduceBEq, Int.reduceBNe, Nat.reduceBNe, Int.reduceAdd, Int.reduceSub, Int.reduceMul, Int.reduceNeg]
      exact ⟨H, (AH.le_refl _), (by first | exact ⟨by rw [ht], rfl⟩ | rfl)⟩
  have bad2 : bad T 2 = none := bad_none (by omega) hpre
  clear hn hpre
  simp (dsimp := false) (maxSteps := 4000000) only [h, encE_mk, encE_len, encE_scal, encE_z5, go_sem, ↓reduceIte, Nat.reduceEqDiff, Nat.reduceLT, Nat.reduceLeDiff, Nat.reduceAdd, Nat.reduceMul, Nat.reduceSub, reduceCtorEq, Int.reduceToNat, Int.reduceLT, Int.reduceLE, Int.reduceEq, Int.reduceNe, Int.reduceBEq, Nat.reduceBEq, Int.reduceBNe, Nat.reduceBNe, Int.reduceAdd, Int.reduceSub, Int.reduceMul, Int.reduceNeg]
  refine out _ _ _ (by simp) ?_
  clear h out again
  simp (dsimp := false) (maxSteps := 4000000) only [encE_mk, encE_len, encE_scal, encE_z5, go_sem, ↓reduceIte, Nat.reduceEqDiff, Nat.reduceLT, Nat.reduceLeDiff, Nat.reduceAdd, Nat.reduceMul, Nat.reduceSub, reduceCtorEq, Int.reduceToNat, Int.reduceLT, Int.reduceLE, Int.reduceEq, Int.reduceNe, Int.reduceBEq, Nat.reduceBEq, Int.reduceBNe, Nat.reduceBNe, Int.reduceAdd, Int.reduceSub, Int.reduceMul, Int.reduceNeg]
  refine AWp.loopo (ι := Nat) (fun n => n ≤ T.length ∧ ∀ m, m < n → fitB T m 8 = true) (fun n => [(5, .int .i64 n), (0, .slice base T.length cap)])
    (fun _ => H) (fun n => T.length - n) 0 ⟨by omega, fun j hj => by omega⟩ (FrLe.of_lks ?_) (AH.le_refl _) fun n hn Q again out => ?_
  · simp (dsimp := false) (maxSteps := 4000000) only [encE_mk, encE_len, encE_scal, encE_z5, go_sem, ↓reduceIte, Nat.reduceEqDiff, Nat.reduceLT, Nat.reduceLeDiff, Nat.reduceAdd, Nat.reduceMul, Nat.reduceSub, reduceCtorEq, Int.reduceToNat, Int.reduceLT, Int.reduceLE, Int.reduceEq, Int.reduceNe, Int.reduceBEq, Nat.reduceBEq, Int.reduceBNe, Nat.reduceBNe, Int.reduceAdd, Int.reduceSub, Int.reduceMul, Int.reduceNeg]
  obtain ⟨hn, hpre⟩ := hn
  by_cases h : (n : Int) < T.length
  · obtain ⟨⟨tb, tc, L⟩, ht⟩ := get_some (l := T) (i := n) (by omega)
    have hin := hT.inn _ (List.mem_of_getElem? ht)
    have hbigL := hin.big
    simp only [List.length_map] at hbigL
    have hle := hT.out.le
    simp only [List.length_map] at hle
    obtain ⟨b, o, rfl, _, hrd⟩ := hT.out.get (map_get (f := encT) ht)
    have hrd := hrd 0 _ rfl
    simp only [Nat.mul_one, Nat.add_zero] at hrd
    have ee := i64_succ (i := n) (by omega)
    have er : rowT T n = L := by simp [rowT, ht]
    simp (dsimp := false) (maxSteps := 4000000) only [h, encE_mk, encE_len, encE_scal, encE_z5, go_sem, ↓reduceIte, Nat.reduceEqDiff, Nat.reduceLT, Nat.reduceLeDiff, Nat.reduceAdd, Nat.reduceMul, Nat.reduceSub, reduceCtorEq, Int.reduceToNat, Int.reduceLT, Int.reduceLE, Int.reduceEq, Int.reduceNe, Int.reduceBEq, Nat.reduceBEq, Int.reduceBNe, Nat.reduceBNe, Int.reduceAdd, Int.reduceSub, Int.reduceMul, Int.reduceNeg]
    refine AWp.loopo (ι := Nat) (fun i => i ≤ L.length ∧ ∀ j, j < i → ∀ x, L[j]? = some x → clash T n x = false) (fun i => [(6, .int .i64 i), (5, .int .i64 n), (0, .slice (some ⟨b, o, none⟩) T.length cap)])
      (fun _ => H) (fun i => L.length - i) 0 ⟨by omega, fun j hj => by omega⟩ (FrLe.of_lks ?_) (AH.le_refl _) fun i hi Q2 again2 out2 => ?_
    · simp (dsimp := false) (maxSteps := 4000000) only [encE_mk, encE_len, encE_scal, encE_z5, go_sem, ↓reduceIte, Nat.reduceEqDiff, Nat.reduceLT, Nat.reduceLeDiff, Nat.reduceAdd, Nat.reduceMul, Nat.reduceSub, reduceCtorEq, Int.reduceToNat, Int.reduceLT, Int.reduceLE, Int.reduceEq, Int.reduceNe, Int.reduceBEq, Nat.reduceBEq, Int.reduceBNe, Nat.reduceBNe, Int.reduceAdd, Int.reduceSub, Int.reduceMul, Int.reduceNeg]
    obtain ⟨hi, hpre2⟩ := hi
    by_cases h2 : (i : Int) < L.length
    · obtain ⟨⟨k, s, f, r, y⟩, hx⟩ := get_some (l := L) (i := i) (by omega)
      have hmem := List.mem_of_getElem? hx
      have hcl := clashR_eq ht hmem
      obtain ⟨b', o', rfl, hrow, hrd'⟩ := hin.get (map_get (f := encE) hx)
      have r0 := hrd' 0 _ rfl
      have r1 := hrd' 1 _ rfl
      simp only [encE_mk, Nat.add_zero] at r0 r1
      have e2 := i64_succ (i := i) (by omega)
      have n1 : (n : Int) ≤ cap := by omega
      simp (dsimp := false) (maxSteps := 4000000) only [h, h2, hrd, encE_mk, encE_len, encE_scal, encE_z5, go_sem, ↓reduceIte, Nat.reduceEqDiff, Nat.reduceLT, Nat.reduceLeDiff, Nat.reduceAdd, Nat.reduceMul, Nat.reduceSub, reduceCtorEq, Int.reduceToNat, Int.reduceLT, Int.reduceLE, Int.reduceEq, Int.reduceNe, Int.reduceBEq, Nat.reduceBEq, Int.reduceBNe, Nat.reduceBNe, Int.reduceAdd, Int.reduceSub, Int.reduceMul, Int.reduceNeg]
      refine AWp.gen [.pu, .pu, .pu, .pu, .pu, .pu, .rd, .pu, .pu, .pu, .rd, .ch, .pu, .pu, .pu, .al, .pu, .ch] [0, 0, 3, 0, 0, 24, 56, 0, 248, 504, 1016, 2047, 4095, 8191, 8191, 0, 49151, 131071] 0 (_) mixed (by kernel_rfl) (AH.le_refl _) ?_
      simp (dsimp := false) (maxSteps := 4000000) only [h, h2, hrd, r1, n1, Nat.sub_zero, ite_self, encE_mk, encE_len, encE_scal, encE_z5, go_sem, ↓reduceIte, Nat.reduceEqDiff, Nat.reduceLT, Nat.reduceLeDiff, Nat.reduceAdd, Nat.reduceMul, Nat.reduceSub, reduceCtorEq, Int.reduceToNat, Int.reduceLT, Int.reduceLE, Int.reduceEq, Int.reduceNe, Int.reduceBEq, Nat.reduceBEq, Int.reduceBNe, Nat.reduceBNe, Int.reduceAdd, Int.reduceSub, Int.reduceMul, Int.reduceNeg]
      refine (RefSender_n (T.take n) (some ⟨b, o, none⟩) cap n s _ (hT.take n) (by rw [List.length_take]; omega)).mono ?_; rintro _ _ ⟨rfl, rfl⟩
      simp (dsimp := false) (maxSteps := 4000000) only [AH.le_refl, encE_mk, encE_len, encE_scal, encE_z5, go_sem, ↓reduceIte, Nat.reduceEqDiff, Nat.reduceLT, Nat.reduceLeDiff, Nat.reduceAdd, Nat.reduceMul, Nat.reduceSub, reduceCtorEq, Int.reduceToNat, Int.reduceLT, Int.reduceLE, Int.reduceEq, Int.reduceNe, Int.reduceBEq, Nat.reduceBEq, Int.reduceBNe, Nat.reduceBNe, Int.reduceAdd, Int.reduceSub, Int.reduceMul, Int.reduceNeg]
      refine AllB.mk fun b8 h_b8 => ?_; have hn_b8 := h_b8; (try simp only [fresh_add, fresh_set, ne_eq] at hn_b8); have hr_b8 := hn_b8; (try simp only [@eq_comm Nat b8] at hr_b8); simp (dsimp := false) (maxSteps := 4000000) only [encE_mk, encE_len, encE_scal, encE_z5, hn_b8, hr_b8, go_sem, ↓reduceIte, Nat.reduceEqDiff, Nat.reduceLT, Nat.reduceLeDiff, Nat.reduceAdd, Nat.reduceMul, Nat.reduceSub, reduceCtorEq, Int.reduceToNat, Int.reduceLT, Int.reduceLE, Int.reduceEq, Int.reduceNe, Int.reduceBEq, Nat.reduceBEq, Int.reduceBNe, Nat.reduceBNe, Int.reduceAdd, Int.reduceSub, Int.reduceMul, Int.reduceNeg]
      have nr_hrd := (Fresh.ne_rd (by simp only [hn_b8] : Fresh H b8) hrd)
      have nr_r0 := (Fresh.ne_rd (by simp only [hn_b8] : Fresh H b8) r0)
      by_cases k1 : k = 1
      · by_cases k2 : 0 ≤ sN s (T.take n)
        · have hf : clash T n (k, s, f, r, y) = true := by rw [← hcl]; simp [clashR, k1, k2]
          have hb : fitB T n 8 = false := by
            rw [fitB, if_neg (by decide), if_pos rfl, er, List.any_eq_true.2 ⟨_, hmem, hf⟩]; rfl
          have ht := tabs_at (T := T) (i := 1) (s := 8) rfl (fun j hj s' hs' => by
            obtain rfl : j = 0 := by omega
            cases hs'; exact bad2) (bad_some (by omega) hb hpre)
          simp (dsimp := false) (maxSteps := 4000000) only [h, h2, hrd, nr_hrd, r0, nr_r0, k1, k2, encE_mk, encE_len, encE_scal, encE_z5, hn_b8, hr_b8, go_sem, ↓reduceIte, Nat.reduceEqDiff, Nat.reduceLT, Nat.reduceLeDiff, Nat.reduceAdd, Nat.reduceMul, Nat.reduceSub, reduceCtorEq, Int.reduceToNat, Int.reduceLT, Int.reduceLE, Int.reduceEq, Int.reduceNe, Int.reduceBEq, Nat.reduceBEq, Int.reduceBNe, Nat.reduceBNe, Int.reduceAdd, Int.reduceSub, Int.reduceMul, Int.reduceNeg]
          refine out2 _ _ _ (by simp) ?_
          simp (dsimp := false) (maxSteps := 4000000) only [encE_mk, encE_len, encE_scal, encE_z5, hn_b8, hr_b8, go_sem, ↓reduceIte, Nat.reduceEqDiff, Nat.reduceLT, Nat.reduceLeDiff, Nat.reduceAdd, Nat.reduceMul, Nat.reduceSub, reduceCtorEq, Int.reduceToNat, Int.reduceLT, Int.reduceLE, Int.reduceEq, Int.reduceNe, Int.reduceBEq, Nat.reduceBEq, Int.reduceBNe, Nat.reduceBNe, Int.reduceAdd, Int.reduceSub, Int.reduceMul, Int.reduceNeg]
          refine out _ _ _ (by simp) ?_
          simp (dsimp := false) (maxSteps := 4000000) only [encE_mk, encE_len, encE_scal, encE_z5, hn_b8, hr_b8, go_sem, ↓reduceIte, Nat.reduceEqDiff, Nat.reduceLT, Nat.reduceLeDiff, Nat.reduceAdd, Nat.reduceMul, Nat.reduceSub, reduceCtorEq, Int.reduceToNat, Int.reduceLT, Int.reduceLE, Int.reduceEq, Int.reduceNe, Int.reduceBEq, Nat.reduceBEq, Int.reduceBNe, Nat.reduceBNe, Int.reduceAdd, Int.reduceSub, Int.reduceMul, Int.reduceNeg]
          exact ⟨H, (AH.le_add (AH.le_refl _) ((by simp only [fresh_add, fresh_set, ne_eq, hn_b8, not_false_eq_true, and_self] : Fresh _ b8).2)), (by first | exact ⟨by rw [ht], rfl⟩ | rfl)⟩
        · have hf : clash T n (k, s, f, r, y) = false := by rw [← hcl]; simp only [clashR, decide_eq_false k2, Bool.and_false]
          simp (dsimp := false) (maxSteps := 4000000) only [h, h2, hrd, nr_hrd, r0, nr_r0, k1, k2, e2, encE_mk, encE_len, encE_scal, encE_z5, hn_b8, hr_b8, go_sem, ↓reduceIte, Nat.reduceEqDiff, Nat.reduceLT, Nat.reduceLeDiff, Nat.reduceAdd, Nat.reduceMul, Nat.reduceSub, reduceCtorEq, Int.reduceToNat, Int.reduceLT, Int.reduceLE, Int.reduceEq, Int.reduceNe, Int.reduceBEq, Nat.reduceBEq, Int.reduceBNe, Nat.reduceBNe, Int.reduceAdd, Int.reduceSub, Int.reduceMul, Int.reduceNeg]
          refine again2 (i + 1) _ _ ⟨by omega, fun q hq z hz => ?_⟩ (FrLe.of_lks (by simp (dsimp := false) (maxSteps := 4000000) only [encE_mk, encE_len, encE_scal, encE_z5, hn_b8, hr_b8, go_sem, ↓reduceIte, Nat.reduceEqDiff, Nat.reduceLT, Nat.reduceLeDiff, Nat.reduceAdd, Nat.reduceMul, Nat.reduceSub, reduceCtorEq, Int.reduceToNat, Int.reduceLT, Int.reduceLE, Int.reduceEq, Int.reduceNe, Int.reduceBEq, Nat.reduceBEq, Int.reduceBNe, Nat.reduceBNe, Int.reduceAdd, Int.reduceSub, Int.reduceMul, Int.reduceNeg])) (by (repeat (first | exact AH.le_refl _ | refine AH.le_add ?_ ?_)); all_goals (first | exact AH.le_refl _ | (show AH.find _ _ = _; simp only [find_add_self, find_add_ne, find_fresh, fresh_add, ne_eq, not_false_eq_true, true_and, and_true, and_self, encE_mk, encE_len, encE_scal, encE_z5, hn_b8, hr_b8]))) (by omega)
          by_cases e : q = i
          · subst e; rw [hx] at hz; cases hz; exact hf
          · exact hpre2 q (by omega) z hz
      · have hf : clash T n (k, s, f, r, y) = false := by simp [clash, k1]
        simp (dsimp := false) (maxSteps := 4000000) only [h, h2, hrd, nr_hrd, r0, nr_r0, k1, e2, encE_mk, encE_len, encE_scal, encE_z5, hn_b8, hr_b8, go_sem, ↓reduceIte, Nat.reduceEqDiff, Nat.reduceLT, Nat.reduceLeDiff, Nat.reduceAdd, Nat.reduceMul, Nat.reduceSub, reduceCtorEq, Int.reduceToNat, Int.reduceLT, Int.reduceLE, Int.reduceEq, Int.reduceNe, Int.reduceBEq, Nat.reduceBEq, Int.reduceBNe, Nat.reduceBNe, Int.reduceAdd, Int.reduceSub, Int.reduceMul, Int.reduceNeg]
        refine again2 (i + 1) _ _ ⟨by omega, fun q hq z hz => ?_⟩ (FrLe.of_lks (by simp (dsimp := false) (maxSteps := 4000000) only [encE_mk, encE_len, encE_scal, encE_z5, hn_b8, hr_b8, go_sem, ↓reduceIte, Nat.reduceEqDiff, Nat.reduceLT, Nat.reduceLeDiff, Nat.reduceAdd, Nat.reduceMul, Nat.reduceSub, reduceCtorEq, Int.reduceToNat, Int.reduceLT, Int.reduceLE, Int.reduceEq, Int.reduceNe, Int.reduceBEq, Nat.reduceBEq, Int.reduceBNe, Nat.reduceBNe, Int.reduceAdd, Int.reduceSub, Int.reduceMul, Int.reduceNeg])) (by (repeat (first | exact AH.le_refl _ | refine AH.le_add ?_ ?_)); all_goals (first | exact AH.le_refl _ | (show AH.find _ _ = _; simp only [find_add_self, find_add_ne, find_fresh, fresh_add, ne_eq, not_false_eq_true, true_and, and_true, and_self, encE_mk, encE_len, encE_scal, encE_z5, hn_b8, hr_b8]))) (by omega)
        by_cases e : q = i
        · subst e; rw [hx] at hz; cases hz; exact hf
        · exact hpre2 q (by omega) z hz
    · 
      simp (dsimp := false) (maxSteps := 4000000) only [h, h2, hrd, encE_mk, encE_len, encE_scal, encE_z5, go_sem, ↓reduceIte, Nat.reduceEqDiff, Nat.reduceLT, Nat.reduceLeDiff, Nat.reduceAdd, Nat.reduceMul, Nat.reduceSub, reduceCtorEq, Int.reduceToNat, Int.reduceLT, Int.reduceLE, Int.reduceEq, Int.reduceNe, Int.reduceBEq, Nat.reduceBEq, Int.reduceBNe, Nat.reduceBNe, Int.reduceAdd, Int.reduceSub, Int.reduceMul, Int.reduceNeg]
      refine out2 _ _ _ (by simp) ?_
      simp (dsimp := false) (maxSteps := 4000000) only [ee, encE_mk, encE_len, encE_scal, encE_z5, go_sem, ↓reduceIte, Nat.reduceEqDiff, Nat.reduceLT, Nat.reduceLeDiff, Nat.reduceAdd, Nat.reduceMul, Nat.reduceSub, reduceCtorEq, Int.reduceToNat, Int.reduceLT, Int.reduceLE, Int.reduceEq, Int.reduceNe, Int.reduceBEq, Nat.reduceBEq, Int.reduceBNe, Nat.reduceBNe, Int.reduceAdd, Int.reduceSub, Int.reduceMul, Int.reduceNeg]
      refine again (n + 1) _ _ ⟨by omega, fun m hm => ?_⟩ (FrLe.of_lks (by simp (dsimp := false) (maxSteps := 4000000) only [encE_mk, encE_len, encE_scal, encE_z5, go_sem, ↓reduceIte, Nat.reduceEqDiff, Nat.reduceLT, Nat.reduceLeDiff, Nat.reduceAdd, Nat.reduceMul, Nat.reduceSub, reduceCtorEq, Int.reduceToNat, Int.reduceLT, Int.reduceLE, Int.reduceEq, Int.reduceNe, Int.reduceBEq, Nat.reduceBEq, Int.reduceBNe, Nat.reduceBNe, Int.reduceAdd, Int.reduceSub, Int.reduceMul, Int.reduceNeg])) (AH.le_refl _) (by omega)
      by_cases e : m = n
      · rw [e, fitB, if_neg (by decide), if_pos rfl, er, any_none fun j hj x hx => hpre2 j (by omega) x hx]; rfl
      · exact hpre m (by omega)
  have bad8 : bad T 8 = none := bad_none (by omega) hpre
  clear hn hpre
  simp (dsimp := false) (maxSteps := 4000000) only [h, encE_mk, encE_len, encE_scal, encE_z5, go_sem, ↓reduceIte, Nat.reduceEqDiff, Nat.reduceLT, Nat.reduceLeDiff, Nat.reduceAdd, Nat.reduceMul, Nat.reduceSub, reduceCtorEq, Int.reduceToNat, Int.reduceLT, Int.reduceLE, Int.reduceEq, Int.reduceNe, Int.reduceBEq, Nat.reduceBEq, Int.reduceBNe, Nat.reduceBNe, Int.reduceAdd, Int.reduceSub, Int.reduceMul, Int.reduceNeg]
  refine out _ _ _ (by simp) ?_
  clear h out again
  simp (dsimp := false) (maxSteps := 4000000) only [encE_mk, encE_len, encE_scal, encE_z5, go_sem, ↓reduceIte, Nat.reduceEqDiff, Nat.reduceLT, Nat.reduceLeDiff, Nat.reduceAdd, Nat.reduceMul, Nat.reduceSub, reduceCtorEq, Int.reduceToNat, Int.reduceLT, Int.reduceLE, Int.reduceEq, Int.reduceNe, Int.reduceBEq, Nat.reduceBEq, Int.reduceBNe, Nat.reduceBNe, Int.reduceAdd, Int.reduceSub, Int.reduceMul, Int.reduceNeg]
  refine AWp.loopo (ι := Nat) (fun n => n ≤ T.length ∧ ∀ m, m < n → fitB T m 9 = true) (fun n => [(9, .int .i64 n), (0, .slice base T.length cap)])
    (fun _ => H) (fun n => T.length - n) 0 ⟨by omega, fun j hj => by omega⟩ (FrLe.of_lks ?_) (AH.le_refl _) fun n hn Q again out => ?_
  · simp (dsimp := false) (maxSteps := 4000000) only [encE_mk, encE_len, encE_scal, encE_z5, go_sem, ↓reduceIte, Nat.reduceEqDiff, Nat.reduceLT, Nat.reduceLeDiff, Nat.reduceAdd, Nat.reduceMul, Nat.reduceSub, reduceCtorEq, Int.reduceToNat, Int.reduceLT, Int.reduceLE, Int.reduceEq, Int.reduceNe, Int.reduceBEq, Nat.reduceBEq, Int.reduceBNe, Nat.reduceBNe, Int.reduceAdd, Int.reduceSub, Int.reduceMul, Int.reduceNeg]
  obtain ⟨hn, hpre⟩ := hn
  by_cases h : (n : Int) < T.length
  · obtain ⟨⟨tb, tc, L⟩, ht⟩ := get_some (l := T) (i := n) (by omega)
    have hin := hT.inn _ (List.mem_of_getElem? ht)
    have hbigL := hin.big
    simp only [List.length_map] at hbigL
    obtain ⟨b, o, rfl, _, hrd⟩ := hT.out.get (map_get (f := encT) ht)
    have hrd := hrd 0 _ rfl
    simp only [Nat.mul_one, Nat.add_zero] at hrd
    have ee := i64_succ (i := n) (by omega)
    have er : rowT T n = L := by simp [rowT, ht]
    simp (dsimp := false) (maxSteps := 4000000) only [h, encE_mk, encE_len, encE_scal, encE_z5, go_sem, ↓reduceIte, Nat.reduceEqDiff, Nat.reduceLT, Nat.reduceLeDiff, Nat.reduceAdd, Nat.reduceMul, Nat.reduceSub, reduceCtorEq, Int.reduceToNat, Int.reduceLT, Int.reduceLE, Int.reduceEq, Int.reduceNe, Int.reduceBEq, Nat.reduceBEq, Int.reduceBNe, Nat.reduceBNe, Int.reduceAdd, Int.reduceSub, Int.reduceMul, Int.reduceNeg]
    refine AWp.loopo (ι := Nat) (fun i => i ≤ L.length ∧ ∀ j, j < i → ∀ x, L[j]? = some x → gap T x = false) (fun i => [(10, .int .i64 i), (9, .int .i64 n), (0, .slice (some ⟨b, o, none⟩) T.length cap)])
      (fun _ => H) (fun i => L.length - i) 0 ⟨by omega, fun j hj => by omega⟩ (FrLe.of_lks ?_) (AH.le_refl _) fun i hi Q2 again2 out2 => ?_
    · simp (dsimp := false) (maxSteps := 4000000) only [encE_mk, encE_len, encE_scal, encE_z5, go_sem, ↓reduceIte, Nat.reduceEqDiff, Nat.reduceLT, Nat.reduceLeDiff, Nat.reduceAdd, Nat.reduceMul, Nat.reduceSub, reduceCtorEq, Int.reduceToNat, Int.reduceLT, Int.reduceLE, Int.reduceEq, Int.reduceNe, Int.reduceBEq, Nat.reduceBEq, Int.reduceBNe, Nat.reduceBNe, Int.reduceAdd, Int.reduceSub, Int.reduceMul, Int.reduceNeg]
    obtain ⟨hi, hpre2⟩ := hi
    by_cases h2 : (i : Int) < L.length
    · obtain ⟨⟨k, s, f, r, y⟩, hx⟩ := get_some (l := L) (i := i) (by omega)
      have hmem := List.mem_of_getElem? hx
      obtain ⟨b', o', rfl, hrow, hrd'⟩ := hin.get (map_get (f := encE) hx)
      have r0 := hrd' 0 _ rfl
      have r1 := hrd' 1 _ rfl
      simp only [encE_mk, Nat.add_zero] at r0 r1
      have e2 := i64_succ (i := i) (by omega)
      simp (dsimp := false) (maxSteps := 4000000) only [h, h2, hrd, r1, encE_mk, encE_len, encE_scal, encE_z5, go_sem, ↓reduceIte, Nat.reduceEqDiff, Nat.reduceLT, Nat.reduceLeDiff, Nat.reduceAdd, Nat.reduceMul, Nat.reduceSub, reduceCtorEq, Int.reduceToNat, Int.reduceLT, Int.reduceLE, Int.reduceEq, Int.reduceNe, Int.reduceBEq, Nat.reduceBEq, Int.reduceBNe, Nat.reduceBNe, Int.reduceAdd, Int.reduceSub, Int.reduceMul, Int.reduceNeg]
      refine (RefSender_c T (some ⟨b, o, none⟩) cap s _ hT).mono ?_; rintro _ _ ⟨rfl, rfl⟩
      simp (dsimp := false) (maxSteps := 4000000) only [encE_mk, encE_len, encE_scal, encE_z5, go_sem, ↓reduceIte, Nat.reduceEqDiff, Nat.reduceLT, Nat.reduceLeDiff, Nat.reduceAdd, Nat.reduceMul, Nat.reduceSub, reduceCtorEq, Int.reduceToNat, Int.reduceLT, Int.reduceLE, Int.reduceEq, Int.reduceNe, Int.reduceBEq, Nat.reduceBEq, Int.reduceBNe, Nat.reduceBNe, Int.reduceAdd, Int.reduceSub, Int.reduceMul, Int.reduceNeg]
      refine AllB.mk fun b12 h_b12 => ?_; have hn_b12 := h_b12; (try simp only [fresh_add, fresh_set, ne_eq] at hn_b12); have hr_b12 := hn_b12; (try simp only [@eq_comm Nat b12] at hr_b12); simp (dsimp := false) (maxSteps := 4000000) only [encE_mk, encE_len, encE_scal, encE_z5, hn_b12, hr_b12, go_sem, ↓reduceIte, Nat.reduceEqDiff, Nat.reduceLT, Nat.reduceLeDiff, Nat.reduceAdd, Nat.reduceMul, Nat.reduceSub, reduceCtorEq, Int.reduceToNat, Int.reduceLT, Int.reduceLE, Int.reduceEq, Int.reduceNe, Int.reduceBEq, Nat.reduceBEq, Int.reduceBNe, Nat.reduceBNe, Int.reduceAdd, Int.reduceSub, Int.reduceMul, Int.reduceNeg]
      have nr_hrd := (Fresh.ne_rd (by simp only [hn_b12] : Fresh H b12) hrd)
      have nr_r0 := (Fresh.ne_rd (by simp only [hn_b12] : Fresh H b12) r0)
      by_cases k1 : k = 2
      · by_cases k2 : sN s T < 0
        · have hf : gap T (k, s, f, r, y) = true := by simp [gap, k1, k2]
          have hb : fitB T n 9 = false := by
            rw [fitB, if_neg (by decide), if_neg (by decide), er, List.any_eq_true.2 ⟨_, hmem, hf⟩]; rfl
          have ht := tabs_at (T := T) (i := 2) (s := 9) rfl (fun j hj s' hs' => by
            match j, hs' with
            | 0, hs' => cases hs'; exact bad2
            | 1, hs' => cases hs'; exact bad8) (bad_some (by omega) hb hpre)
          simp (dsimp := false) (maxSteps := 4000000) only [h, h2, hrd, nr_hrd, r0, nr_r0, k1, k2, encE_mk, encE_len, encE_scal, encE_z5, hn_b12, hr_b12, go_sem, ↓reduceIte, Nat.reduceEqDiff, Nat.reduceLT, Nat.reduceLeDiff, Nat.reduceAdd, Nat.reduceMul, Nat.reduceSub, reduceCtorEq, Int.reduceToNat, Int.reduceLT, Int.reduceLE, Int.reduceEq, Int.reduceNe, Int.reduceBEq, Nat.reduceBEq, Int.reduceBNe, Nat.reduceBNe, Int.reduceAdd, Int.reduceSub, Int.reduceMul, Int.reduceNeg]
          refine out2 _ _ _ (by simp) ?_
          simp (dsimp := false) (maxSteps := 4000000) only [encE_mk, encE_len, encE_scal, encE_z5, hn_b12, hr_b12, go_sem, ↓reduceIte, Nat.reduceEqDiff, Nat.reduceLT, Nat.reduceLeDiff, Nat.reduceAdd, Nat.reduceMul, Nat.reduceSub, reduceCtorEq, Int.reduceToNat, Int.reduceLT, Int.reduceLE, Int.reduceEq, Int.reduceNe, Int.reduceBEq, Nat.reduceBEq, Int.reduceBNe, Nat.reduceBNe, Int.reduceAdd, Int.reduceSub, Int.reduceMul, Int.reduceNeg]
          refine out _ _ _ (by simp) ?_
          simp (dsimp := false) (maxSteps := 4000000) only [encE_mk, encE_len, encE_scal, encE_z5, hn_b12, hr_b12, go_sem, ↓reduceIte, Nat.reduceEqDiff, Nat.reduceLT, Nat.reduceLeDiff, Nat.reduceAdd, Nat.reduceMul, Nat.reduceSub, reduceCtorEq, Int.reduceToNat, Int.reduceLT, Int.reduceLE, Int.reduceEq, Int.reduceNe, Int.reduceBEq, Nat.reduceBEq, Int.reduceBNe, Nat.reduceBNe, Int.reduceAdd, Int.reduceSub, Int.reduceMul, Int.reduceNeg]
          exact ⟨H, (AH.le_add (AH.le_refl _) ((by simp only [fresh_add, fresh_set, ne_eq, hn_b12, not_false_eq_true, and_self] : Fresh _ b12).2)), (by first | exact ⟨by rw [ht], rfl⟩ | rfl)⟩
        · have hf : gap T (k, s, f, r, y) = false := by simp only [gap, decide_eq_false k2, Bool.and_false]
          simp (dsimp := false) (maxSteps := 4000000) only [h, h2, hrd, nr_hrd, r0, nr_r0, k1, k2, e2, encE_mk, encE_len, encE_scal, encE_z5, hn_b12, hr_b12, go_sem, ↓reduceIte, Nat.reduceEqDiff, Nat.reduceLT, Nat.reduceLeDiff, Nat.reduceAdd, Nat.reduceMul, Nat.reduceSub, reduceCtorEq, Int.reduceToNat, Int.reduceLT, Int.reduceLE, Int.reduceEq, Int.reduceNe, Int.reduceBEq, Nat.reduceBEq, Int.reduceBNe, Nat.reduceBNe, Int.reduceAdd, Int.reduceSub, Int.reduceMul, Int.reduceNeg]
          refine again2 (i + 1) _ _ ⟨by omega, fun q hq z hz => ?_⟩ (FrLe.of_lks (by simp (dsimp := false) (maxSteps := 4000000) only [encE_mk, encE_len, encE_scal, encE_z5, hn_b12, hr_b12, go_sem, ↓reduceIte, Nat.reduceEqDiff, Nat.reduceLT, Nat.reduceLeDiff, Nat.reduceAdd, Nat.reduceMul, Nat.reduceSub, reduceCtorEq, Int.reduceToNat, Int.reduceLT, Int.reduceLE, Int.reduceEq, Int.reduceNe, Int.reduceBEq, Nat.reduceBEq, Int.reduceBNe, Nat.reduceBNe, Int.reduceAdd, Int.reduceSub, Int.reduceMul, Int.reduceNeg])) (by (repeat (first | exact AH.le_refl _ | refine AH.le_add ?_ ?_)); all_goals (first | exact AH.le_refl _ | (show AH.find _ _ = _; simp only [find_add_self, find_add_ne, find_fresh, fresh_add, ne_eq, not_false_eq_true, true_and, and_true, and_self, encE_mk, encE_len, encE_scal, encE_z5, hn_b12, hr_b12]))) (by omega)
          by_cases e : q = i
          · subst e; rw [hx] at hz; cases hz; exact hf
          · exact hpre2 q (by omega) z hz
      · have hf : gap T (k, s, f, r, y) = false := by simp [gap, k1]
        simp (dsimp := false) (maxSteps := 4000000) only [h, h2, hrd, nr_hrd, r0, nr_r0, k1, e2, encE_mk, encE_len, encE_scal, encE_z5, hn_b12, hr_b12, go_sem, ↓reduceIte, Nat.reduceEqDiff, Nat.reduceLT, Nat.reduceLeDiff, Nat.reduceAdd, Nat.reduceMul, Nat.reduceSub, reduceCtorEq, Int.reduceToNat, Int.reduceLT, Int.reduceLE, Int.reduceEq, Int.reduceNe, Int.reduceBEq, Nat.reduceBEq, Int.reduceBNe, Nat.reduceBNe, Int.reduceAdd, Int.reduceSub, Int.reduceMul, Int.reduceNeg]
        refine again2 (i + 1) _ _ ⟨by omega, fun q hq z hz => ?_⟩ (FrLe.of_lks (by simp (dsimp := false) (maxSteps := 4000000) only [encE_mk, encE_len, encE_scal, encE_z5, hn_b12, hr_b12, go_sem, ↓reduceIte, Nat.reduceEqDiff, Nat.reduceLT, Nat.reduceLeDiff, Nat.reduceAdd, Nat.reduceMul, Nat.reduceSub, reduceCtorEq, Int.reduceToNat, Int.reduceLT, Int.reduceLE, Int.reduceEq, Int.reduceNe, Int.reduceBEq, Nat.reduceBEq, Int.reduceBNe, Nat.reduceBNe, Int.reduceAdd, Int.reduceSub, Int.reduceMul, Int.reduceNeg])) (by (repeat (first | exact AH.le_refl _ | refine AH.le_add ?_ ?_)); all_goals (first | exact AH.le_refl _ | (show AH.find _ _ = _; simp only [find_add_self, find_add_ne, find_fresh, fresh_add, ne_eq, not_false_eq_true, true_and, and_true, and_self, encE_mk, encE_len, encE_scal, encE_z5, hn_b12, hr_b12]))) (by omega)
        by_cases e : q = i
        · subst e; rw [hx] at hz; cases hz; exact hf
        · exact hpre2 q (by omega) z hz
    · 
      simp (dsimp := false) (maxSteps := 4000000) only [h, h2, hrd, encE_mk, encE_len, encE_scal, encE_z5, go_sem, ↓reduceIte, Nat.reduceEqDiff, Nat.reduceLT, Nat.reduceLeDiff, Nat.reduceAdd, Nat.reduceMul, Nat.reduceSub, reduceCtorEq, Int.reduceToNat, Int.reduceLT, Int.reduceLE, Int.reduceEq, Int.reduceNe, Int.reduceBEq, Nat.reduceBEq, Int.reduceBNe, Nat.reduceBNe, Int.reduceAdd, Int.reduceSub, Int.reduceMul, Int.reduceNeg]
      refine out2 _ _ _ (by simp) ?_
      simp (dsimp := false) (maxSteps := 4000000) only [ee, encE_mk, encE_len, encE_scal, encE_z5, go_sem, ↓reduceIte, Nat.reduceEqDiff, Nat.reduceLT, Nat.reduceLeDiff, Nat.reduceAdd, Nat.reduceMul, Nat.reduceSub, reduceCtorEq, Int.reduceToNat, Int.reduceLT, Int.reduceLE, Int.reduceEq, Int.reduceNe, Int.reduceBEq, Nat.reduceBEq, Int.reduceBNe, Nat.reduceBNe, Int.reduceAdd, Int.reduceSub, Int.reduceMul, Int.reduceNeg]
      refine again (n + 1) _ _ ⟨by omega, fun m hm => ?_⟩ (FrLe.of_lks (by simp (dsimp := false) (maxSteps := 4000000) only [encE_mk, encE_len, encE_scal, encE_z5, go_sem, ↓reduceIte, Nat.reduceEqDiff, Nat.reduceLT, Nat.reduceLeDiff, Nat.reduceAdd, Nat.reduceMul, Nat.reduceSub, reduceCtorEq, Int.reduceToNat, Int.reduceLT, Int.reduceLE, Int.reduceEq, Int.reduceNe, Int.reduceBEq, Nat.reduceBEq, Int.reduceBNe, Nat.reduceBNe, Int.reduceAdd, Int.reduceSub, Int.reduceMul, Int.reduceNeg])) (AH.le_refl _) (by omega)
      by_cases e : m = n
      · rw [e, fitB, if_neg (by decide), if_neg (by decide), er, any_none fun j hj x hx => hpre2 j (by omega) x hx]; rfl
      · exact hpre m (by omega)
  have bad9 : bad T 9 = none := bad_none (by omega) hpre
  have ht : tabs T = (-1, 0) := by simp [tabs, bad2, bad8, bad9]
  simp (dsimp := false) (maxSteps := 4000000) only [h, encE_mk, encE_len, encE_scal, encE_z5, go_sem, ↓reduceIte, Nat.reduceEqDiff, Nat.reduceLT, Nat.reduceLeDiff, Nat.reduceAdd, Nat.reduceMul, Nat.reduceSub, reduceCtorEq, Int.reduceToNat, Int.reduceLT, Int.reduceLE, Int.reduceEq, Int.reduceNe, Int.reduceBEq, Nat.reduceBEq, Int.reduceBNe, Nat.reduceBNe, Int.reduceAdd, Int.reduceSub, Int.reduceMul, Int.reduceNeg]
  refine out _ _ _ (by simp) ?_
  simp (dsimp := false) (maxSteps := 4000000) only [encE_mk, encE_len, encE_scal, encE_z5, go_sem, ↓reduceIte, Nat.reduceEqDiff, Nat.reduceLT, Nat.reduceLeDiff, Nat.reduceAdd, Nat.reduceMul, Nat.reduceSub, reduceCtorEq, Int.reduceToNat, Int.reduceLT, Int.reduceLE, Int.reduceEq, Int.reduceNe, Int.reduceBEq, Nat.reduceBEq, Int.reduceBNe, Nat.reduceBNe, Int.reduceAdd, Int.reduceSub, Int.reduceMul, Int.reduceNeg]
  exact ⟨H, (AH.le_refl _), (by first | exact ⟨by rw [ht], rfl⟩ | rfl)⟩
end Go.Proofs.Ytgikjbfpckjkoaa.Chk
