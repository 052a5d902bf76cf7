/- check: the law CheckAlone. -/
import Derived.Test.YtgikjbfpckjkoaaChk8
namespace Go.Proofs.Ytgikjbfpckjkoaa.Chk
set_option linter.unusedSimpArgs false
set_option linter.unusedVariables false
open Go Go.AX Go.Proofs Ty
set_option maxHeartbeats 4000000
set_option maxRecDepth 10000

def inc : Int → List En → Prop
  | _, [] => True
  | p, x :: L => p < x.2.1 ∧ inc x.2.1 L
theorem inc_of : ∀ {L : List En} {p : Int}, (∀ i x, L[i]? = some x → (if i = 0 then p else (L.getD (i - 1) ze).2.1) < x.2.1) → inc p L
  | [], _, _ => trivial
  | x :: L, p, h => by
    refine ⟨by simpa using h 0 x rfl, inc_of fun i y hy => ?_⟩
    have := h (i + 1) y (by simpa using hy)
    rw [if_neg (by omega), Nat.add_sub_cancel] at this
    cases i with
    | zero => simpa using this
    | succ k => simpa using this
theorem inc_gt : ∀ {L : List En} {p : Int}, inc p L → ∀ x ∈ L, p < x.2.1
  | [], _, _, x, hx => by cases hx
  | y :: L, p, h, x, hx => by
    rcases List.mem_cons.1 hx with rfl | hx
    · exact h.1
    · have := inc_gt h.2 x hx
      have := h.1
      omega
theorem inc_one {slot : Int} : ∀ {L : List En} {p : Int}, inc p L → L.countP (snd slot) ≤ 1
  | [], _, _ => by simp
  | y :: L, p, h => by
    rw [List.countP_cons]
    have h1 := inc_one (slot := slot) h.2
    by_cases hy : snd slot y = true
    · have h2 : L.countP (snd slot) = 0 := by
        rw [List.countP_eq_zero]
        intro x hx hs
        have := inc_gt h.2 x hx
        simp [snd] at hy hs
        omega
      rw [h2]; simp; split <;> omega
    · rw [if_neg hy]; omega
theorem mayB_one {slot : Int} {L : List En} (h : mayB L = true) : L.countP (snd slot) ≤ 1 := by
  refine inc_one (p := 0) (inc_of fun i x hx => ?_)
  simp only [mayB, Bool.and_eq_true, List.all_eq_true] at h
  have := h.1 i (List.mem_range.2 (lt_of_get hx))
  simp only [chk, hx, Bool.and_eq_true, decide_eq_true_eq] at this
  exact this.2
theorem cnt_all {slot : Int} : ∀ {T : List Tb} {m : Nat}, (∀ t ∈ T, t.2.2.countP (snd slot) ≤ 1) → (∀ k x, sndO slot m T = some (k, x) → ∀ i t, T[i]? = some t → k < m + i → t.2.2.countP (snd slot) = 0) →
    ((T.map (·.2.2)).flatten).countP (snd slot) = if (sndO slot m T).isSome then 1 else 0
  | [], _, _, _ => rfl
  | t :: T, m, h1, h2 => by
    rw [List.map_cons, List.flatten_cons, List.countP_append]
    cases hf : t.2.2.find? (snd slot) with
    | some x =>
      have e : sndO slot m (t :: T) = some (m, x) := by rw [sndO, hf]
      have a1 := h1 t (List.mem_cons_self ..)
      have a2 : 0 < t.2.2.countP (snd slot) := List.countP_pos_iff.2 ⟨x, List.mem_of_find?_eq_some hf, List.find?_some hf⟩
      have a3 : ((T.map (·.2.2)).flatten).countP (snd slot) = 0 := by
        rw [List.countP_eq_zero]
        intro y hy
        obtain ⟨l, hl, hy⟩ := List.mem_flatten.1 hy
        obtain ⟨t', ht', rfl⟩ := List.mem_map.1 hl
        obtain ⟨i, hi⟩ := List.mem_iff_getElem?.1 ht'
        have := h2 m x e (i + 1) t' (by simpa using hi) (by omega)
        exact List.countP_eq_zero.1 this y hy
      rw [a3, e]; simp; omega
    | none =>
      have e : sndO slot m (t :: T) = sndO slot (m + 1) T := by rw [sndO, hf]
      have a1 : t.2.2.countP (snd slot) = 0 := List.countP_eq_zero.2 (List.find?_eq_none.1 hf)
      rw [a1, Nat.zero_add, e]
      refine cnt_all (fun t' ht' => h1 t' (List.mem_cons_of_mem _ ht')) fun k x hk i t' ht' hi => h2 k x (e ▸ hk) (i + 1) t' (by simpa using ht') (by omega)
theorem bad_all {T : List Tb} {s : Int} (h : bad T s = none) {n : Nat} (hn : n < T.length) : fitB T n s = true := by
  rw [bad, List.find?_range_eq_none] at h
  simpa using h n hn
theorem tabs_ok {T : List Tb} (h : (tabs T).2 = 0) : bad T 2 = none ∧ bad T 8 = none ∧ bad T 9 = none := by
  cases h2 : bad T 2 with
  | some n => simp [tabs, h2] at h
  | none =>
    cases h8 : bad T 8 with
    | some n => simp [tabs, h2, h8] at h
    | none =>
      cases h9 : bad T 9 with
      | some n => simp [tabs, h2, h8, h9] at h
      | none => exact ⟨rfl, rfl, rfl⟩
def rcv (slot : Int) (x : En) : Bool := decide (x.1 = 2) && decide (x.2.1 = slot)
def cs (p : En → Bool) (T : List Tb) (n : Nat) : Nat := (((T.take n).map (·.2.2)).flatten).countP p
theorem cs_succ {p : En → Bool} {T : List Tb} {n : Nat} {t : Tb} (h : T[n]? = some t) : cs p T (n + 1) = cs p T n + t.2.2.countP p := by
  simp [cs, List.take_add_one, h]
theorem cs_le {p : En → Bool} {T : List Tb} (h : ∀ t ∈ T, t.2.2.length ≤ 70) : ∀ n, n ≤ T.length → cs p T n ≤ 70 * n
  | 0, _ => by simp [cs]
  | n + 1, hn => by
    obtain ⟨t, ht⟩ := get_some (l := T) (i := n) (by omega)
    rw [cs_succ ht]
    have := cs_le (p := p) h n (by omega)
    have := h t (List.mem_of_getElem? ht)
    have : t.2.2.countP p ≤ t.2.2.length := List.countP_le_length
    omega
theorem fewT_le {T : List Tb} : ∀ t ∈ fewT T, t.2.2.length ≤ 70 := fun t ht => by
  obtain ⟨x, _, rfl⟩ := List.mem_map.1 ht
  simp [cut]; omega
theorem fewT_len (T : List Tb) : (fewT T).length ≤ 12 := by simp [fewT]; omega
theorem alone {T : List Tb} (h : (tabs T).2 = 0) (slot : Int) :
    cs (snd slot) T T.length = (if 0 ≤ sN slot T then 1 else 0) ∧ (0 < cs (rcv slot) T T.length → 0 ≤ sN slot T) ∧ (0 ≤ sN slot T → (sX slot T).2.1 = slot) := by
  obtain ⟨b2, b8, b9⟩ := tabs_ok h
  have row : ∀ {n t}, T[n]? = some t → rowT T n = t.2.2 := fun h => by simp [rowT, h]
  have hs : 0 ≤ sN slot T ↔ (sndO slot 0 T).isSome = true := by
    unfold sN
    cases sndO slot 0 T with
    | some y => simp
    | none => simp
  refine ⟨?_, fun hr => ?_, fun hp => ?_⟩
  · rw [cs, List.take_length, cnt_all (m := 0)]
    · by_cases hp : 0 ≤ sN slot T
      · rw [if_pos hp, if_pos (hs.1 hp)]
      · rw [if_neg hp, if_neg (fun h => hp (hs.2 h))]
    · intro t ht
      obtain ⟨i, hi⟩ := List.mem_iff_getElem?.1 ht
      have := bad_all b2 (lt_of_get hi)
      rw [fitB, if_pos rfl, row hi] at this
      exact mayB_one this
    · intro k x hk i t ht hi
      rw [List.countP_eq_zero]
      intro y hy hsy
      have := bad_all b8 (lt_of_get ht)
      rw [fitB, if_neg (by decide), if_pos rfl, row ht, Bool.not_eq_true', List.any_eq_false] at this
      refine this y hy ?_
      simp only [snd, Bool.and_eq_true, decide_eq_true_eq] at hsy
      simp only [clash, Bool.and_eq_true, decide_eq_true_eq]
      refine ⟨hsy.1, ?_⟩
      rw [hsy.2, sN, hk]
      simp only; omega
  · obtain ⟨x, hx, hxr⟩ := List.countP_pos_iff.1 hr
    rw [List.take_length] at hx
    obtain ⟨l, hl, hx⟩ := List.mem_flatten.1 hx
    obtain ⟨t, ht, rfl⟩ := List.mem_map.1 hl
    obtain ⟨i, hi⟩ := List.mem_iff_getElem?.1 ht
    have := bad_all b9 (lt_of_get hi)
    rw [fitB, if_neg (by decide), if_neg (by decide), row hi, Bool.not_eq_true', List.any_eq_false] at this
    have := this x hx
    simp only [rcv, Bool.and_eq_true, decide_eq_true_eq] at hxr
    simp only [gap, Bool.and_eq_true, decide_eq_true_eq, hxr.1, hxr.2, true_and] at this
    omega
  · have : ∀ {T : List Tb} {m k : Nat} {x : En}, sndO slot m T = some (k, x) → x.2.1 = slot := by
      intro T
      induction T with
      | nil => intro m k x h; simp [sndO] at h
      | cons t T ih =>
        intro m k x h
        rw [sndO] at h
        split at h
        · rename_i y hy
          cases h
          have := List.find?_some hy
          simp [snd] at this
          exact this.2
        · exact ih h
    obtain ⟨⟨k, x⟩, hx⟩ := Option.isSome_iff_exists.1 (hs.1 hp)
    rw [sX, hx]
    exact this hx
theorem encE_1' (x : En) : (encE x)[1]? = some (.int .i64 x.2.1) := rfl
theorem cp_succ {p : En → Bool} {L : List En} {i : Nat} {x : En} (h : L[i]? = some x) : (L.take (i + 1)).countP p = (L.take i).countP p + (if p x = true then 1 else 0) := by
  rw [List.take_add_one, h]; simp [List.countP_append, List.countP_cons]
theorem CheckAlone_c (T : List Tb) (base : Option Addr) (cap : Nat) (H : AH) (hT : TabIn H base cap T) :
    ACalls Try.prog 9 #[.slice base T.length cap] H (fun v H' => v = .bool true ∧ H = H') := by
  refine ACalls.enter2 Try.func9 rfl Try.ntmps9 Try.results9 (by simp) ?_; simp (dsimp := false) (maxSteps := 4000000) only [encE_len, encE_scal, encE_z5, encE_take, encE_1', eqlE, go_sem, ↓reduceIte, Nat.reduceEqDiff, Nat.reduceLT, Nat.reduceLeDiff, Nat.reduceAdd, Nat.reduceMul, Nat.reduceSub, reduceCtorEq, Int.reduceToNat, Int.reduceLT, Int.reduceLE, Int.reduceEq, Int.reduceNe, Int.reduceBEq, Nat.reduceBEq, Int.reduceBNe, Nat.reduceBNe, Int.reduceAdd, Int.reduceSub, Int.reduceMul, Int.reduceNeg]
  refine (few_c T base cap H hT).mono ?_; rintro _ A ⟨p1, q1, rfl, hO1, hK1⟩
  have hU : TabIn A p1 q1 (fewT T) := (hT.keep hK1).few hO1
  have hle := fewT_le (T := T)
  have hlen := fewT_len T
  have hHA : H.le A := hK1.all
  generalize fewT T = U at hU hle hlen
  clear hO1 hT hK1
  simp (dsimp := false) (maxSteps := 4000000) only [encE_len, encE_scal, encE_z5, encE_take, encE_1', eqlE, go_sem, ↓reduceIte, Nat.reduceEqDiff, Nat.reduceLT, Nat.reduceLeDiff, Nat.reduceAdd, Nat.reduceMul, Nat.reduceSub, reduceCtorEq, Int.reduceToNat, Int.reduceLT, Int.reduceLE, Int.reduceEq, Int.reduceNe, Int.reduceBEq, Nat.reduceBEq, Int.reduceBNe, Nat.reduceBNe, Int.reduceAdd, Int.reduceSub, Int.reduceMul, Int.reduceNeg]
  refine (Tables_c _ _ _ _ hU).mono ?_; rintro _ _ ⟨rfl, rfl⟩
  by_cases he : (tabs U).2 = 0
  case neg =>
    simp (dsimp := false) (maxSteps := 4000000) only [he, encE_len, encE_scal, encE_z5, encE_take, encE_1', eqlE, go_sem, ↓reduceIte, Nat.reduceEqDiff, Nat.reduceLT, Nat.reduceLeDiff, Nat.reduceAdd, Nat.reduceMul, Nat.reduceSub, reduceCtorEq, Int.reduceToNat, Int.reduceLT, Int.reduceLE, Int.reduceEq, Int.reduceNe, Int.reduceBEq, Nat.reduceBEq, Int.reduceBNe, Nat.reduceBNe, Int.reduceAdd, Int.reduceSub, Int.reduceMul, Int.reduceNeg]
    refine (awake_c _).mono ?_; rintro _ _ ⟨rfl, rfl⟩
    simp (dsimp := false) (maxSteps := 4000000) only [encE_len, encE_scal, encE_z5, encE_take, encE_1', eqlE, go_sem, ↓reduceIte, Nat.reduceEqDiff, Nat.reduceLT, Nat.reduceLeDiff, Nat.reduceAdd, Nat.reduceMul, Nat.reduceSub, reduceCtorEq, Int.reduceToNat, Int.reduceLT, Int.reduceLE, Int.reduceEq, Int.reduceNe, Int.reduceBEq, Nat.reduceBEq, Int.reduceBNe, Nat.reduceBNe, Int.reduceAdd, Int.reduceSub, Int.reduceMul, Int.reduceNeg]
    exact ⟨H, hHA, rfl⟩
  simp (dsimp := false) (maxSteps := 4000000) only [he, encE_len, encE_scal, encE_z5, encE_take, encE_1', eqlE, go_sem, ↓reduceIte, Nat.reduceEqDiff, Nat.reduceLT, Nat.reduceLeDiff, Nat.reduceAdd, Nat.reduceMul, Nat.reduceSub, reduceCtorEq, Int.reduceToNat, Int.reduceLT, Int.reduceLE, Int.reduceEq, Int.reduceNe, Int.reduceBEq, Nat.reduceBEq, Int.reduceBNe, Nat.reduceBNe, Int.reduceAdd, Int.reduceSub, Int.reduceMul, Int.reduceNeg]
  refine AWp.loopo (ι := Nat) (fun k => k ≤ 17) (fun k => [(6, .int .i64 k), (3, .slice p1 U.length q1)])
    (fun _ => A) (fun k => 17 - k) 1 (by omega) (FrLe.of_lks ?_) (AH.le_refl _) fun slot hk Q again out => ?_
  · simp (dsimp := false) (maxSteps := 4000000) only [encE_len, encE_scal, encE_z5, encE_take, encE_1', eqlE, go_sem, ↓reduceIte, Nat.reduceEqDiff, Nat.reduceLT, Nat.reduceLeDiff, Nat.reduceAdd, Nat.reduceMul, Nat.reduceSub, reduceCtorEq, Int.reduceToNat, Int.reduceLT, Int.reduceLE, Int.reduceEq, Int.reduceNe, Int.reduceBEq, Nat.reduceBEq, Int.reduceBNe, Nat.reduceBNe, Int.reduceAdd, Int.reduceSub, Int.reduceMul, Int.reduceNeg]
  by_cases h16 : (slot : Int) ≤ 16
  case neg =>
    simp (dsimp := false) (maxSteps := 4000000) only [h16, encE_len, encE_scal, encE_z5, encE_take, encE_1', eqlE, go_sem, ↓reduceIte, Nat.reduceEqDiff, Nat.reduceLT, Nat.reduceLeDiff, Nat.reduceAdd, Nat.reduceMul, Nat.reduceSub, reduceCtorEq, Int.reduceToNat, Int.reduceLT, Int.reduceLE, Int.reduceEq, Int.reduceNe, Int.reduceBEq, Nat.reduceBEq, Int.reduceBNe, Nat.reduceBNe, Int.reduceAdd, Int.reduceSub, Int.reduceMul, Int.reduceNeg]
    refine out _ _ _ (by simp) ?_
    simp (dsimp := false) (maxSteps := 4000000) only [encE_len, encE_scal, encE_z5, encE_take, encE_1', eqlE, go_sem, ↓reduceIte, Nat.reduceEqDiff, Nat.reduceLT, Nat.reduceLeDiff, Nat.reduceAdd, Nat.reduceMul, Nat.reduceSub, reduceCtorEq, Int.reduceToNat, Int.reduceLT, Int.reduceLE, Int.reduceEq, Int.reduceNe, Int.reduceBEq, Nat.reduceBEq, Int.reduceBNe, Nat.reduceBNe, Int.reduceAdd, Int.reduceSub, Int.reduceMul, Int.reduceNeg]
    refine (awake_c _).mono ?_; rintro _ _ ⟨rfl, rfl⟩
    simp (dsimp := false) (maxSteps := 4000000) only [encE_len, encE_scal, encE_z5, encE_take, encE_1', eqlE, go_sem, ↓reduceIte, Nat.reduceEqDiff, Nat.reduceLT, Nat.reduceLeDiff, Nat.reduceAdd, Nat.reduceMul, Nat.reduceSub, reduceCtorEq, Int.reduceToNat, Int.reduceLT, Int.reduceLE, Int.reduceEq, Int.reduceNe, Int.reduceBEq, Nat.reduceBEq, Int.reduceBNe, Nat.reduceBNe, Int.reduceAdd, Int.reduceSub, Int.reduceMul, Int.reduceNeg]
    exact ⟨H, hHA, rfl⟩
  have es := i64_succ (i := slot) (by omega)
  simp (dsimp := false) (maxSteps := 4000000) only [h16, encE_len, encE_scal, encE_z5, encE_take, encE_1', eqlE, go_sem, ↓reduceIte, Nat.reduceEqDiff, Nat.reduceLT, Nat.reduceLeDiff, Nat.reduceAdd, Nat.reduceMul, Nat.reduceSub, reduceCtorEq, Int.reduceToNat, Int.reduceLT, Int.reduceLE, Int.reduceEq, Int.reduceNe, Int.reduceBEq, Nat.reduceBEq, Int.reduceBNe, Nat.reduceBNe, Int.reduceAdd, Int.reduceSub, Int.reduceMul, Int.reduceNeg]
  refine AWp.loopo (ι := Nat) (fun n => n ≤ U.length) (fun n => [(9, .int .i64 n), (8, .int .i64 (cs (rcv slot) U n)), (7, .int .i64 (cs (snd slot) U n)), (6, .int .i64 slot), (3, .slice p1 U.length q1)])
    (fun _ => A) (fun n => U.length - n) 0 (by omega) (FrLe.of_lks ?_) (AH.le_refl _) fun n hn Q2 again2 out2 => ?_
  · simp (dsimp := false) (maxSteps := 4000000) only [encE_len, encE_scal, encE_z5, encE_take, encE_1', eqlE, go_sem, ↓reduceIte, Nat.reduceEqDiff, Nat.reduceLT, Nat.reduceLeDiff, Nat.reduceAdd, Nat.reduceMul, Nat.reduceSub, reduceCtorEq, Int.reduceToNat, Int.reduceLT, Int.reduceLE, Int.reduceEq, Int.reduceNe, Int.reduceBEq, Nat.reduceBEq, Int.reduceBNe, Nat.reduceBNe, Int.reduceAdd, Int.reduceSub, Int.reduceMul, Int.reduceNeg]
    exact ⟨rfl, rfl⟩
  by_cases h : (n : Int) < U.length
  · obtain ⟨⟨tb, tc, L⟩, ht⟩ := get_some (l := U) (i := n) (by omega)
    have hin := hU.inn _ (List.mem_of_getElem? ht)
    have hL : L.length ≤ 70 := hle _ (List.mem_of_getElem? ht)
    have b1 := cs_le (p := snd slot) hle n hn
    have b2 := cs_le (p := rcv slot) hle n hn
    obtain ⟨b, o, rfl, _, hrd⟩ := hU.out.get (map_get (f := encT) ht)
    have hrd := hrd 0 _ rfl
    simp only [Nat.mul_one, Nat.add_zero] at hrd
    have ee := i64_succ (i := n) (by omega)
    simp (dsimp := false) (maxSteps := 4000000) only [h, encE_len, encE_scal, encE_z5, encE_take, encE_1', eqlE, go_sem, ↓reduceIte, Nat.reduceEqDiff, Nat.reduceLT, Nat.reduceLeDiff, Nat.reduceAdd, Nat.reduceMul, Nat.reduceSub, reduceCtorEq, Int.reduceToNat, Int.reduceLT, Int.reduceLE, Int.reduceEq, Int.reduceNe, Int.reduceBEq, Nat.reduceBEq, Int.reduceBNe, Nat.reduceBNe, Int.reduceAdd, Int.reduceSub, Int.reduceMul, Int.reduceNeg]
    refine AWp.loopo (ι := Nat) (fun i => i ≤ L.length) (fun i => [(10, .int .i64 i), (9, .int .i64 n), (8, .int .i64 ((cs (rcv slot) U n + (L.take i).countP (rcv slot) : Nat) : Int)), (7, .int .i64 ((cs (snd slot) U n + (L.take i).countP (snd slot) : Nat) : Int)), (6, .int .i64 slot), (3, .slice (some ⟨b, o, none⟩) U.length q1)])
      (fun _ => A) (fun i => L.length - i) 0 (by omega) (FrLe.of_lks ?_) (AH.le_refl _) fun i hi Q3 again3 out3 => ?_
    · simp (dsimp := false) (maxSteps := 4000000) only [encE_len, encE_scal, encE_z5, encE_take, encE_1', eqlE, go_sem, ↓reduceIte, Nat.reduceEqDiff, Nat.reduceLT, Nat.reduceLeDiff, Nat.reduceAdd, Nat.reduceMul, Nat.reduceSub, reduceCtorEq, Int.reduceToNat, Int.reduceLT, Int.reduceLE, Int.reduceEq, Int.reduceNe, Int.reduceBEq, Nat.reduceBEq, Int.reduceBNe, Nat.reduceBNe, Int.reduceAdd, Int.reduceSub, Int.reduceMul, Int.reduceNeg]
      simp
    by_cases h2 : (i : Int) < L.length
    · obtain ⟨⟨k, s, f, r, y⟩, hx⟩ := get_some (l := L) (i := i) (by omega)
      obtain ⟨b', o', rfl, hrow, hrd'⟩ := hin.get (map_get (f := encE) hx)
      have r0 := hrd' 0 _ rfl
      have r1 := hrd' 1 _ rfl
      simp only [encE_mk, Nat.add_zero] at r0 r1
      have e2 := i64_succ (i := i) (by omega)
      have c1 : (L.take i).countP (snd slot) ≤ (L.take i).length := List.countP_le_length
      have c2 : (L.take i).countP (rcv slot) ≤ (L.take i).length := List.countP_le_length
      rw [List.length_take] at c1 c2
      have g1 := cp_succ (p := snd slot) hx
      have g2 := cp_succ (p := rcv slot) hx
      have w1 := i64_succ (i := cs (snd slot) U n + (L.take i).countP (snd slot)) (by omega)
      have w2 := i64_succ (i := cs (rcv slot) U n + (L.take i).countP (rcv slot)) (by omega)
      by_cases k1 : s = slot
      · by_cases k2 : k = 1
        · have v1 : snd slot (k, s, f, r, y) = true := by simp [snd, k1, k2]
          have v2 : rcv slot (k, s, f, r, y) = false := by simp [rcv, k2]
          rw [if_pos v1] at g1
          rw [v2, if_neg (by simp)] at g2
          simp (dsimp := false) (maxSteps := 4000000) only [h, h2, hrd, r0, r1, k1, k2, e2, w1, encE_len, encE_scal, encE_z5, encE_take, encE_1', eqlE, go_sem, ↓reduceIte, Nat.reduceEqDiff, Nat.reduceLT, Nat.reduceLeDiff, Nat.reduceAdd, Nat.reduceMul, Nat.reduceSub, reduceCtorEq, Int.reduceToNat, Int.reduceLT, Int.reduceLE, Int.reduceEq, Int.reduceNe, Int.reduceBEq, Nat.reduceBEq, Int.reduceBNe, Nat.reduceBNe, Int.reduceAdd, Int.reduceSub, Int.reduceMul, Int.reduceNeg]
          refine again3 (i + 1) _ _ (by omega) (FrLe.of_lks ?_) (AH.le_refl _) (by omega)
          rw [g1, g2]
          simp (dsimp := false) (maxSteps := 4000000) only [encE_len, encE_scal, encE_z5, encE_take, encE_1', eqlE, go_sem, ↓reduceIte, Nat.reduceEqDiff, Nat.reduceLT, Nat.reduceLeDiff, Nat.reduceAdd, Nat.reduceMul, Nat.reduceSub, reduceCtorEq, Int.reduceToNat, Int.reduceLT, Int.reduceLE, Int.reduceEq, Int.reduceNe, Int.reduceBEq, Nat.reduceBEq, Int.reduceBNe, Nat.reduceBNe, Int.reduceAdd, Int.reduceSub, Int.reduceMul, Int.reduceNeg]
          rfl
        · have v1 : snd slot (k, s, f, r, y) = false := by simp [snd, k2]
          by_cases k3 : k = 2
          · have v2 : rcv slot (k, s, f, r, y) = true := by simp [rcv, k1, k3]
            rw [if_pos v2] at g2
            rw [v1, if_neg (by simp)] at g1
            simp (dsimp := false) (maxSteps := 4000000) only [h, h2, hrd, r0, r1, k1, k3, e2, w2, encE_len, encE_scal, encE_z5, encE_take, encE_1', eqlE, go_sem, ↓reduceIte, Nat.reduceEqDiff, Nat.reduceLT, Nat.reduceLeDiff, Nat.reduceAdd, Nat.reduceMul, Nat.reduceSub, reduceCtorEq, Int.reduceToNat, Int.reduceLT, Int.reduceLE, Int.reduceEq, Int.reduceNe, Int.reduceBEq, Nat.reduceBEq, Int.reduceBNe, Nat.reduceBNe, Int.reduceAdd, Int.reduceSub, Int.reduceMul, Int.reduceNeg]
            refine again3 (i + 1) _ _ (by omega) (FrLe.of_lks ?_) (AH.le_refl _) (by omega)
            rw [g1, g2]
            simp (dsimp := false) (maxSteps := 4000000) only [encE_len, encE_scal, encE_z5, encE_take, encE_1', eqlE, go_sem, ↓reduceIte, Nat.reduceEqDiff, Nat.reduceLT, Nat.reduceLeDiff, Nat.reduceAdd, Nat.reduceMul, Nat.reduceSub, reduceCtorEq, Int.reduceToNat, Int.reduceLT, Int.reduceLE, Int.reduceEq, Int.reduceNe, Int.reduceBEq, Nat.reduceBEq, Int.reduceBNe, Nat.reduceBNe, Int.reduceAdd, Int.reduceSub, Int.reduceMul, Int.reduceNeg]
            rfl
          · have v2 : rcv slot (k, s, f, r, y) = false := by simp [rcv, k3]
            rw [v2, if_neg (by simp)] at g2
            rw [v1, if_neg (by simp)] at g1
            simp (dsimp := false) (maxSteps := 4000000) only [h, h2, hrd, r0, r1, k1, k2, k3, e2, encE_len, encE_scal, encE_z5, encE_take, encE_1', eqlE, go_sem, ↓reduceIte, Nat.reduceEqDiff, Nat.reduceLT, Nat.reduceLeDiff, Nat.reduceAdd, Nat.reduceMul, Nat.reduceSub, reduceCtorEq, Int.reduceToNat, Int.reduceLT, Int.reduceLE, Int.reduceEq, Int.reduceNe, Int.reduceBEq, Nat.reduceBEq, Int.reduceBNe, Nat.reduceBNe, Int.reduceAdd, Int.reduceSub, Int.reduceMul, Int.reduceNeg]
            refine again3 (i + 1) _ _ (by omega) (FrLe.of_lks ?_) (AH.le_refl _) (by omega)
            rw [g1, g2]
            simp (dsimp := false) (maxSteps := 4000000) only [encE_len, encE_scal, encE_z5, encE_take, encE_1', eqlE, go_sem, ↓reduceIte, Nat.reduceEqDiff, Nat.reduceLT, Nat.reduceLeDiff, Nat.reduceAdd, Nat.reduceMul, Nat.reduceSub, reduceCtorEq, Int.reduceToNat, Int.reduceLT, Int.reduceLE, Int.reduceEq, Int.reduceNe, Int.reduceBEq, Nat.reduceBEq, Int.reduceBNe, Nat.reduceBNe, Int.reduceAdd, Int.reduceSub, Int.reduceMul, Int.reduceNeg]
      · have v1 : snd slot (k, s, f, r, y) = false := by simp [snd, k1]
        have v2 : rcv slot (k, s, f, r, y) = false := by simp [rcv, k1]
        rw [v2, if_neg (by simp)] at g2
        rw [v1, if_neg (by simp)] at g1
        simp (dsimp := false) (maxSteps := 4000000) only [h, h2, hrd, r0, r1, k1, e2, encE_len, encE_scal, encE_z5, encE_take, encE_1', eqlE, go_sem, ↓reduceIte, Nat.reduceEqDiff, Nat.reduceLT, Nat.reduceLeDiff, Nat.reduceAdd, Nat.reduceMul, Nat.reduceSub, reduceCtorEq, Int.reduceToNat, Int.reduceLT, Int.reduceLE, Int.reduceEq, Int.reduceNe, Int.reduceBEq, Nat.reduceBEq, Int.reduceBNe, Nat.reduceBNe, Int.reduceAdd, Int.reduceSub, Int.reduceMul, Int.reduceNeg]
        refine again3 (i + 1) _ _ (by omega) (FrLe.of_lks ?_) (AH.le_refl _) (by omega)
        rw [g1, g2]
        simp (dsimp := false) (maxSteps := 4000000) only [encE_len, encE_scal, encE_z5, encE_take, encE_1', eqlE, go_sem, ↓reduceIte, Nat.reduceEqDiff, Nat.reduceLT, Nat.reduceLeDiff, Nat.reduceAdd, Nat.reduceMul, Nat.reduceSub, reduceCtorEq, Int.reduceToNat, Int.reduceLT, Int.reduceLE, Int.reduceEq, Int.reduceNe, Int.reduceBEq, Nat.reduceBEq, Int.reduceBNe, Nat.reduceBNe, Int.reduceAdd, Int.reduceSub, Int.reduceMul, Int.reduceNeg]
    · obtain rfl : i = L.length := by omega
      have g1 := cs_succ (p := snd slot) ht
      have g2 := cs_succ (p := rcv slot) ht
      simp (dsimp := false) (maxSteps := 4000000) only [h, h2, hrd, encE_len, encE_scal, encE_z5, encE_take, encE_1', eqlE, go_sem, ↓reduceIte, Nat.reduceEqDiff, Nat.reduceLT, Nat.reduceLeDiff, Nat.reduceAdd, Nat.reduceMul, Nat.reduceSub, reduceCtorEq, Int.reduceToNat, Int.reduceLT, Int.reduceLE, Int.reduceEq, Int.reduceNe, Int.reduceBEq, Nat.reduceBEq, Int.reduceBNe, Nat.reduceBNe, Int.reduceAdd, Int.reduceSub, Int.reduceMul, Int.reduceNeg]
      refine out3 _ _ _ (by simp) ?_
      simp (dsimp := false) (maxSteps := 4000000) only [ee, encE_len, encE_scal, encE_z5, encE_take, encE_1', eqlE, go_sem, ↓reduceIte, Nat.reduceEqDiff, Nat.reduceLT, Nat.reduceLeDiff, Nat.reduceAdd, Nat.reduceMul, Nat.reduceSub, reduceCtorEq, Int.reduceToNat, Int.reduceLT, Int.reduceLE, Int.reduceEq, Int.reduceNe, Int.reduceBEq, Nat.reduceBEq, Int.reduceBNe, Nat.reduceBNe, Int.reduceAdd, Int.reduceSub, Int.reduceMul, Int.reduceNeg]
      refine again2 (n + 1) _ _ (by omega) (FrLe.of_lks ?_) (AH.le_refl _) (by omega)
      rw [g1, g2]
      simp (dsimp := false) (maxSteps := 4000000) only [encE_len, encE_scal, encE_z5, encE_take, encE_1', eqlE, go_sem, ↓reduceIte, Nat.reduceEqDiff, Nat.reduceLT, Nat.reduceLeDiff, Nat.reduceAdd, Nat.reduceMul, Nat.reduceSub, reduceCtorEq, Int.reduceToNat, Int.reduceLT, Int.reduceLE, Int.reduceEq, Int.reduceNe, Int.reduceBEq, Nat.reduceBEq, Int.reduceBNe, Nat.reduceBNe, Int.reduceAdd, Int.reduceSub, Int.reduceMul, Int.reduceNeg]
  · obtain rfl : n = U.length := by omega
    obtain ⟨a1, a2, a3⟩ := alone he slot
    simp (dsimp := false) (maxSteps := 4000000) only [h, encE_len, encE_scal, encE_z5, encE_take, encE_1', eqlE, go_sem, ↓reduceIte, Nat.reduceEqDiff, Nat.reduceLT, Nat.reduceLeDiff, Nat.reduceAdd, Nat.reduceMul, Nat.reduceSub, reduceCtorEq, Int.reduceToNat, Int.reduceLT, Int.reduceLE, Int.reduceEq, Int.reduceNe, Int.reduceBEq, Nat.reduceBEq, Int.reduceBNe, Nat.reduceBNe, Int.reduceAdd, Int.reduceSub, Int.reduceMul, Int.reduceNeg]
    refine out2 _ _ _ (by simp) ?_
    simp (dsimp := false) (maxSteps := 4000000) only [encE_len, encE_scal, encE_z5, encE_take, encE_1', eqlE, go_sem, ↓reduceIte, Nat.reduceEqDiff, Nat.reduceLT, Nat.reduceLeDiff, Nat.reduceAdd, Nat.reduceMul, Nat.reduceSub, reduceCtorEq, Int.reduceToNat, Int.reduceLT, Int.reduceLE, Int.reduceEq, Int.reduceNe, Int.reduceBEq, Nat.reduceBEq, Int.reduceBNe, Nat.reduceBNe, Int.reduceAdd, Int.reduceSub, Int.reduceMul, Int.reduceNeg]
    refine (Sender_c _ _ _ slot _ hU).mono ?_; rintro _ _ ⟨rfl, rfl⟩
    simp (dsimp := false) (maxSteps := 4000000) only [encE_len, encE_scal, encE_z5, encE_take, encE_1', eqlE, go_sem, ↓reduceIte, Nat.reduceEqDiff, Nat.reduceLT, Nat.reduceLeDiff, Nat.reduceAdd, Nat.reduceMul, Nat.reduceSub, reduceCtorEq, Int.reduceToNat, Int.reduceLT, Int.reduceLE, Int.reduceEq, Int.reduceNe, Int.reduceBEq, Nat.reduceBEq, Int.reduceBNe, Nat.reduceBNe, Int.reduceAdd, Int.reduceSub, Int.reduceMul, Int.reduceNeg]
    refine AllB.mk fun b12 h_b12 => ?_; have hn_b12 := h_b12; (try simp only [fresh_add, fresh_set, ne_eq] at hn_b12); have hr_b12 := hn_b12; (try simp only [@eq_comm Nat b12] at hr_b12); simp (dsimp := false) (maxSteps := 4000000) only [encE_len, encE_scal, encE_z5, encE_take, encE_1', eqlE, hn_b12, hr_b12, go_sem, ↓reduceIte, Nat.reduceEqDiff, Nat.reduceLT, Nat.reduceLeDiff, Nat.reduceAdd, Nat.reduceMul, Nat.reduceSub, reduceCtorEq, Int.reduceToNat, Int.reduceLT, Int.reduceLE, Int.reduceEq, Int.reduceNe, Int.reduceBEq, Nat.reduceBEq, Int.reduceBNe, Nat.reduceBNe, Int.reduceAdd, Int.reduceSub, Int.reduceMul, Int.reduceNeg]
    by_cases hp : 0 ≤ sN slot U
    · rw [if_pos hp] at a1
      have a3 := a3 hp
      rw [a1]
      by_cases hr : (0 : Int) < cs (rcv slot) U U.length
      · simp (dsimp := false) (maxSteps := 4000000) only [hp, hr, a3, es, encE_len, encE_scal, encE_z5, encE_take, encE_1', eqlE, hn_b12, hr_b12, go_sem, ↓reduceIte, Nat.reduceEqDiff, Nat.reduceLT, Nat.reduceLeDiff, Nat.reduceAdd, Nat.reduceMul, Nat.reduceSub, reduceCtorEq, Int.reduceToNat, Int.reduceLT, Int.reduceLE, Int.reduceEq, Int.reduceNe, Int.reduceBEq, Nat.reduceBEq, Int.reduceBNe, Nat.reduceBNe, Int.reduceAdd, Int.reduceSub, Int.reduceMul, Int.reduceNeg]
        refine again (slot + 1) _ _ (by omega) (FrLe.of_lks (by simp (dsimp := false) (maxSteps := 4000000) only [encE_len, encE_scal, encE_z5, encE_take, encE_1', eqlE, hn_b12, hr_b12, go_sem, ↓reduceIte, Nat.reduceEqDiff, Nat.reduceLT, Nat.reduceLeDiff, Nat.reduceAdd, Nat.reduceMul, Nat.reduceSub, reduceCtorEq, Int.reduceToNat, Int.reduceLT, Int.reduceLE, Int.reduceEq, Int.reduceNe, Int.reduceBEq, Nat.reduceBEq, Int.reduceBNe, Nat.reduceBNe, Int.reduceAdd, Int.reduceSub, Int.reduceMul, Int.reduceNeg])) (by (repeat (first | exact AH.le_refl _ | refine AH.le_add ?_ ?_)); all_goals (first | exact AH.le_refl _ | (show AH.find _ _ = _; simp only [find_add_self, find_add_ne, find_fresh, fresh_add, ne_eq, not_false_eq_true, true_and, and_true, and_self, encE_len, encE_scal, encE_z5, encE_take, encE_1', eqlE, hn_b12, hr_b12]))) (by omega)
      · simp (dsimp := false) (maxSteps := 4000000) only [hp, hr, a3, es, encE_len, encE_scal, encE_z5, encE_take, encE_1', eqlE, hn_b12, hr_b12, go_sem, ↓reduceIte, Nat.reduceEqDiff, Nat.reduceLT, Nat.reduceLeDiff, Nat.reduceAdd, Nat.reduceMul, Nat.reduceSub, reduceCtorEq, Int.reduceToNat, Int.reduceLT, Int.reduceLE, Int.reduceEq, Int.reduceNe, Int.reduceBEq, Nat.reduceBEq, Int.reduceBNe, Nat.reduceBNe, Int.reduceAdd, Int.reduceSub, Int.reduceMul, Int.reduceNeg]
        refine again (slot + 1) _ _ (by omega) (FrLe.of_lks (by simp (dsimp := false) (maxSteps := 4000000) only [encE_len, encE_scal, encE_z5, encE_take, encE_1', eqlE, hn_b12, hr_b12, go_sem, ↓reduceIte, Nat.reduceEqDiff, Nat.reduceLT, Nat.reduceLeDiff, Nat.reduceAdd, Nat.reduceMul, Nat.reduceSub, reduceCtorEq, Int.reduceToNat, Int.reduceLT, Int.reduceLE, Int.reduceEq, Int.reduceNe, Int.reduceBEq, Nat.reduceBEq, Int.reduceBNe, Nat.reduceBNe, Int.reduceAdd, Int.reduceSub, Int.reduceMul, Int.reduceNeg])) (by (repeat (first | exact AH.le_refl _ | refine AH.le_add ?_ ?_)); all_goals (first | exact AH.le_refl _ | (show AH.find _ _ = _; simp only [find_add_self, find_add_ne, find_fresh, fresh_add, ne_eq, not_false_eq_true, true_and, and_true, and_self, encE_len, encE_scal, encE_z5, encE_take, encE_1', eqlE, hn_b12, hr_b12]))) (by omega)
    · rw [if_neg hp] at a1
      rw [a1]
      have hr : ¬ (0 : Int) < cs (rcv slot) U U.length := fun h => hp (a2 (by omega))
      simp (dsimp := false) (maxSteps := 4000000) only [hp, hr, es, encE_len, encE_scal, encE_z5, encE_take, encE_1', eqlE, hn_b12, hr_b12, go_sem, ↓reduceIte, Nat.reduceEqDiff, Nat.reduceLT, Nat.reduceLeDiff, Nat.reduceAdd, Nat.reduceMul, Nat.reduceSub, reduceCtorEq, Int.reduceToNat, Int.reduceLT, Int.reduceLE, Int.reduceEq, Int.reduceNe, Int.reduceBEq, Nat.reduceBEq, Int.reduceBNe, Nat.reduceBNe, Int.reduceAdd, Int.reduceSub, Int.reduceMul, Int.reduceNeg]
      refine again (slot + 1) _ _ (by omega) (FrLe.of_lks (by simp (dsimp := false) (maxSteps := 4000000) only [encE_len, encE_scal, encE_z5, encE_take, encE_1', eqlE, hn_b12, hr_b12, go_sem, ↓reduceIte, Nat.reduceEqDiff, Nat.reduceLT, Nat.reduceLeDiff, Nat.reduceAdd, Nat.reduceMul, Nat.reduceSub, reduceCtorEq, Int.reduceToNat, Int.reduceLT, Int.reduceLE, Int.reduceEq, Int.reduceNe, Int.reduceBEq, Nat.reduceBEq, Int.reduceBNe, Nat.reduceBNe, Int.reduceAdd, Int.reduceSub, Int.reduceMul, Int.reduceNeg])) (by (repeat (first | exact AH.le_refl _ | refine AH.le_add ?_ ?_)); all_goals (first | exact AH.le_refl _ | (show AH.find _ _ = _; simp only [find_add_self, find_add_ne, find_fresh, fresh_add, ne_eq, not_false_eq_true, true_and, and_true, and_self, encE_len, encE_scal, encE_z5, encE_take, encE_1', eqlE, hn_b12, hr_b12]))) (by omega)
end Go.Proofs.Ytgikjbfpckjkoaa.Chk
