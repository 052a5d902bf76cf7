/- wire: Fall; awake. -/
import Derived.Test.YtapfabjmooagaaaWire6
namespace Go.Proofs.Ytapfabjmooagaaa.Wire
set_option linter.unusedSimpArgs false
set_option linter.unusedVariables false
open Go Go.AX Go.Proofs Ty Go.Proofs.Ytapfabjmooagaaa.Srt Go.Proofs.Ytapfabjmooagaaa.CatP
set_option maxHeartbeats 4000000
set_option maxRecDepth 10000

theorem catOne {A : AH} {b cap : Nat} {base : Option Addr} {L : List Sp} (hf : Fresh A b) (hL : SlcIn A 2 base cap (L.map encP)) :
    CatIn (A.add b (.cells [.slice base L.length cap] 22 1)) (some ⟨b, 0, none⟩) 1 [(base, cap, L)] :=
  ⟨SlcIn.own (R := [[.slice base L.length cap]]) (by simp) (by simp) (by simp), fun x hx => by
    simp only [List.mem_cons, List.not_mem_nil, or_false] at hx
    subst hx
    exact hL.add hf⟩
theorem catTwo {A : AH} {b cx cy : Nat} {bx by_ : Option Addr} {X Y : List Sp} (hf : Fresh A b) (hX : SlcIn A 2 bx cx (X.map encP)) (hY : SlcIn A 2 by_ cy (Y.map encP)) :
    CatIn (A.add b (.cells [.slice bx X.length cx, .slice by_ Y.length cy] 22 2)) (some ⟨b, 0, none⟩) 2 [(bx, cx, X), (by_, cy, Y)] :=
  ⟨SlcIn.own (R := [[.slice bx X.length cx], [.slice by_ Y.length cy]]) (by simp) (by simp) (by simp), fun x hx => by
    simp only [List.mem_cons, List.not_mem_nil, or_false] at hx
    rcases hx with rfl | rfl
    · exact hX.add hf
    · exact hY.add hf⟩
theorem Join1_c {A : AH} {b cap : Nat} {base : Option Addr} {L : List Sp} (hf : Fresh A b) (hL : SlcIn A 2 base cap (L.map encP)) (hb : L.length < 100000) :
    ACalls Try.prog 29 #[.slice (some ⟨b, 0, none⟩) 1 1] (A.add b (.cells [.slice base L.length cap] 22 1)) (fun v H' => ∃ R b c, v = .slice b R.length c ∧ JoinOf L R ∧ SlcIn H' 2 b c (R.map encP) ∧ Keep A H' fun _ => False) := by
  have ht : tot [(base, cap, L)] [(base, cap, L)].length = L := by simp [tot]
  have := Join_c _ _ _ _ (catOne hf hL) (by rw [ht]; exact hb)
  rw [ht] at this
  refine ACalls.mono this ?_
  rintro _ A' ⟨R, b', c', rfl, hJ, hs, hK⟩
  exact ⟨R, b', c', rfl, hJ, hs, (Keep.refl.nw hf).trans hK⟩
theorem Join2_c {A : AH} {b cx cy : Nat} {bx by_ : Option Addr} {X Y : List Sp} (hf : Fresh A b) (hX : SlcIn A 2 bx cx (X.map encP)) (hY : SlcIn A 2 by_ cy (Y.map encP)) (hb : X.length + Y.length < 100000) :
    ACalls Try.prog 29 #[.slice (some ⟨b, 0, none⟩) 2 2] (A.add b (.cells [.slice bx X.length cx, .slice by_ Y.length cy] 22 2)) (fun v H' => ∃ R b c, v = .slice b R.length c ∧ JoinOf (X ++ Y) R ∧ SlcIn H' 2 b c (R.map encP) ∧ Keep A H' fun _ => False) := by
  have ht : tot [(bx, cx, X), (by_, cy, Y)] [(bx, cx, X), (by_, cy, Y)].length = X ++ Y := by simp [tot]
  have := Join_c _ _ _ _ (catTwo hf hX hY) (by rw [ht, List.length_append]; exact hb)
  rw [ht] at this
  refine ACalls.mono this ?_
  rintro _ A' ⟨R, b', c', rfl, hJ, hs, hK⟩
  exact ⟨R, b', c', rfl, hJ, hs, (Keep.refl.nw hf).trans hK⟩
def fp (f t : Int) (s : Sp) : Bool := decide (f ≤ s.1) && decide (s.1 < t)
def fallV (R : List Sp) (f t : Int) : Int × Bool := match R.find? (fp f t) with | some s => (s.1, true) | none => (0, false)
theorem find_first {p : Sp → Bool} : ∀ {R : List Sp} {i : Nat} {s : Sp}, R[i]? = some s → p s = true → (∀ j, j < i → ∀ y, R[j]? = some y → p y = false) → R.find? p = some s
  | [], i, s, h, _, _ => by simp at h
  | x :: R, 0, s, h, hp, _ => by simp at h; subst h; simp [hp]
  | x :: R, i + 1, s, h, hp, hall => by
    rw [List.find?_cons, hall 0 (by omega) x rfl]
    exact find_first (R := R) (i := i) (by simpa using h) hp fun j hj y hy => hall (j + 1) (by omega) y (by simpa using hy)
theorem find_no {p : Sp → Bool} {R : List Sp} (hall : ∀ j, j < R.length → ∀ y, R[j]? = some y → p y = false) : R.find? p = none := by
  rw [List.find?_eq_none]
  intro s hs
  obtain ⟨j, hj⟩ := List.mem_iff_getElem?.1 hs
  rw [hall j (lt_of_get hj) s hj]; simp
theorem Fall_c (L : List Sp) (f t : Int) (base : Option Addr) (cap : Nat) (H : AH) (hs : SlcIn H 2 base cap (L.map encP)) (hb : L.length < 100000) :
    ACalls Try.prog 25 #[.slice base L.length cap, .int .i64 f, .int .i64 t] H (fun v H' => ∃ R, JoinOf L R ∧ v = .tuple #[.int .i64 (fallV R f t).1, .bool (fallV R f t).2] ∧ H = H') := by
  refine ACalls.enter2 Try.func25 rfl Try.ntmps25 Try.results25 (by simp) ?_; simp (dsimp := false) (maxSteps := 4000000) only [encP_len, encP_scal, encP_z, encP_take, go_sem, ↓reduceIte, Nat.reduceEqDiff, Nat.reduceLT, Nat.reduceLeDiff, Nat.reduceAdd, Nat.reduceMul, Nat.reduceSub, reduceCtorEq, Int.reduceToNat, Int.reduceLT, Int.reduceLE, Int.reduceEq, Int.reduceNe, Int.reduceBEq, Nat.reduceBEq, Int.reduceBNe, Nat.reduceBNe, Int.reduceAdd, Int.reduceSub, Int.reduceMul, Int.reduceNeg]
  refine AllB.mk fun b11 h_b11 => ?_
  simp (dsimp := false) (maxSteps := 4000000) only [encP_len, encP_scal, encP_z, encP_take, go_sem, ↓reduceIte, Nat.reduceEqDiff, Nat.reduceLT, Nat.reduceLeDiff, Nat.reduceAdd, Nat.reduceMul, Nat.reduceSub, reduceCtorEq, Int.reduceToNat, Int.reduceLT, Int.reduceLE, Int.reduceEq, Int.reduceNe, Int.reduceBEq, Nat.reduceBEq, Int.reduceBNe, Nat.reduceBNe, Int.reduceAdd, Int.reduceSub, Int.reduceMul, Int.reduceNeg]
  refine (Join1_c h_b11 hs hb).mono ?_; rintro _ A ⟨R, bo, co, rfl, hJ, hsR, hK⟩
  clear h_b11
  have hbig := hsR.big
  simp only [List.length_map] at hbig
  simp (dsimp := false) (maxSteps := 4000000) only [encP_len, encP_scal, encP_z, encP_take, go_sem, ↓reduceIte, Nat.reduceEqDiff, Nat.reduceLT, Nat.reduceLeDiff, Nat.reduceAdd, Nat.reduceMul, Nat.reduceSub, reduceCtorEq, Int.reduceToNat, Int.reduceLT, Int.reduceLE, Int.reduceEq, Int.reduceNe, Int.reduceBEq, Nat.reduceBEq, Int.reduceBNe, Nat.reduceBNe, Int.reduceAdd, Int.reduceSub, Int.reduceMul, Int.reduceNeg]
  refine AWp.loopr (ι := Nat) (fun i B => B = A ∧ i ≤ R.length ∧ ∀ j, j < i → ∀ s, R[j]? = some s → fp f t s = false) (fun i => [(14, .int .i64 i), (13, .int .i64 R.length), (12, .slice bo R.length co), (1, .int .i64 f), (2, .int .i64 t)])
    (fun i => R.length - i) 0 A ⟨rfl, by omega, fun j hj => by omega⟩ (FrLe.of_lks ?_) (AH.le_refl _) fun i B hi Q again out => ?_
  · simp (dsimp := false) (maxSteps := 4000000) only [encP_len, encP_scal, encP_z, encP_take, go_sem, ↓reduceIte, Nat.reduceEqDiff, Nat.reduceLT, Nat.reduceLeDiff, Nat.reduceAdd, Nat.reduceMul, Nat.reduceSub, reduceCtorEq, Int.reduceToNat, Int.reduceLT, Int.reduceLE, Int.reduceEq, Int.reduceNe, Int.reduceBEq, Nat.reduceBEq, Int.reduceBNe, Nat.reduceBNe, Int.reduceAdd, Int.reduceSub, Int.reduceMul, Int.reduceNeg]
  obtain ⟨rfl, hi, hall⟩ := hi
  by_cases h : (i : Int) < R.length
  · obtain ⟨⟨x, y⟩, hx⟩ := get_some (l := R) (i := i) (by omega)
    obtain ⟨b0, o0, rfl, hrow, _⟩ := hsR.get (map_get (f := encP) hx)
    have ee := i64_succ (i := i) (by omega)
    have nx : fp f t (x, y) = false → ∀ j, j < i + 1 → ∀ s, R[j]? = some s → fp f t s = false := fun hf j hj m hm => by
      by_cases hji : j = i
      · subst hji; rw [hx] at hm; cases hm; exact hf
      · exact hall j (by omega) m hm
    simp (dsimp := false) (maxSteps := 4000000) only [h, hrow, encP_len, encP_scal, encP_z, encP_take, go_sem, ↓reduceIte, Nat.reduceEqDiff, Nat.reduceLT, Nat.reduceLeDiff, Nat.reduceAdd, Nat.reduceMul, Nat.reduceSub, reduceCtorEq, Int.reduceToNat, Int.reduceLT, Int.reduceLE, Int.reduceEq, Int.reduceNe, Int.reduceBEq, Nat.reduceBEq, Int.reduceBNe, Nat.reduceBNe, Int.reduceAdd, Int.reduceSub, Int.reduceMul, Int.reduceNeg]
    refine AllB.mk fun b9 h_b9 => ?_
    by_cases h0 : f ≤ x
    · by_cases h1 : x < t
      · have e := find_first (p := fp f t) hx (by simp [fp, h0, h1]) hall
        simp (dsimp := false) (maxSteps := 4000000) only [encP_mk, h0, h1, encP_len, encP_scal, encP_z, encP_take, go_sem, ↓reduceIte, Nat.reduceEqDiff, Nat.reduceLT, Nat.reduceLeDiff, Nat.reduceAdd, Nat.reduceMul, Nat.reduceSub, reduceCtorEq, Int.reduceToNat, Int.reduceLT, Int.reduceLE, Int.reduceEq, Int.reduceNe, Int.reduceBEq, Nat.reduceBEq, Int.reduceBNe, Nat.reduceBNe, Int.reduceAdd, Int.reduceSub, Int.reduceMul, Int.reduceNeg]
        refine out _ _ _ (by simp) ?_
        simp (dsimp := false) (maxSteps := 4000000) only [encP_len, encP_scal, encP_z, encP_take, go_sem, ↓reduceIte, Nat.reduceEqDiff, Nat.reduceLT, Nat.reduceLeDiff, Nat.reduceAdd, Nat.reduceMul, Nat.reduceSub, reduceCtorEq, Int.reduceToNat, Int.reduceLT, Int.reduceLE, Int.reduceEq, Int.reduceNe, Int.reduceBEq, Nat.reduceBEq, Int.reduceBNe, Nat.reduceBNe, Int.reduceAdd, Int.reduceSub, Int.reduceMul, Int.reduceNeg]
        exact ⟨_, AH.le_add hK.all h_b9.2, R, hJ, by rw [fallV, e], rfl⟩
      · simp (dsimp := false) (maxSteps := 4000000) only [encP_mk, h0, h1, ee, encP_len, encP_scal, encP_z, encP_take, go_sem, ↓reduceIte, Nat.reduceEqDiff, Nat.reduceLT, Nat.reduceLeDiff, Nat.reduceAdd, Nat.reduceMul, Nat.reduceSub, reduceCtorEq, Int.reduceToNat, Int.reduceLT, Int.reduceLE, Int.reduceEq, Int.reduceNe, Int.reduceBEq, Nat.reduceBEq, Int.reduceBNe, Nat.reduceBNe, Int.reduceAdd, Int.reduceSub, Int.reduceMul, Int.reduceNeg]
        exact again (i + 1) _ B _ ⟨rfl, by omega, nx (by simp [fp, h1])⟩ (FrLe.of_lks (by simp (dsimp := false) (maxSteps := 4000000) only [encP_len, encP_scal, encP_z, encP_take, go_sem, ↓reduceIte, Nat.reduceEqDiff, Nat.reduceLT, Nat.reduceLeDiff, Nat.reduceAdd, Nat.reduceMul, Nat.reduceSub, reduceCtorEq, Int.reduceToNat, Int.reduceLT, Int.reduceLE, Int.reduceEq, Int.reduceNe, Int.reduceBEq, Nat.reduceBEq, Int.reduceBNe, Nat.reduceBNe, Int.reduceAdd, Int.reduceSub, Int.reduceMul, Int.reduceNeg])) (AH.le_add (AH.le_refl _) h_b9.2) (by omega)
    · simp (dsimp := false) (maxSteps := 4000000) only [encP_mk, h0, ee, encP_len, encP_scal, encP_z, encP_take, go_sem, ↓reduceIte, Nat.reduceEqDiff, Nat.reduceLT, Nat.reduceLeDiff, Nat.reduceAdd, Nat.reduceMul, Nat.reduceSub, reduceCtorEq, Int.reduceToNat, Int.reduceLT, Int.reduceLE, Int.reduceEq, Int.reduceNe, Int.reduceBEq, Nat.reduceBEq, Int.reduceBNe, Nat.reduceBNe, Int.reduceAdd, Int.reduceSub, Int.reduceMul, Int.reduceNeg]
      exact again (i + 1) _ B _ ⟨rfl, by omega, nx (by simp [fp, h0])⟩ (FrLe.of_lks (by simp (dsimp := false) (maxSteps := 4000000) only [encP_len, encP_scal, encP_z, encP_take, go_sem, ↓reduceIte, Nat.reduceEqDiff, Nat.reduceLT, Nat.reduceLeDiff, Nat.reduceAdd, Nat.reduceMul, Nat.reduceSub, reduceCtorEq, Int.reduceToNat, Int.reduceLT, Int.reduceLE, Int.reduceEq, Int.reduceNe, Int.reduceBEq, Nat.reduceBEq, Int.reduceBNe, Nat.reduceBNe, Int.reduceAdd, Int.reduceSub, Int.reduceMul, Int.reduceNeg])) (AH.le_add (AH.le_refl _) h_b9.2) (by omega)
  · have e := find_no (p := fp f t) fun j hj => hall j (by omega)
    simp (dsimp := false) (maxSteps := 4000000) only [h, encP_len, encP_scal, encP_z, encP_take, go_sem, ↓reduceIte, Nat.reduceEqDiff, Nat.reduceLT, Nat.reduceLeDiff, Nat.reduceAdd, Nat.reduceMul, Nat.reduceSub, reduceCtorEq, Int.reduceToNat, Int.reduceLT, Int.reduceLE, Int.reduceEq, Int.reduceNe, Int.reduceBEq, Nat.reduceBEq, Int.reduceBNe, Nat.reduceBNe, Int.reduceAdd, Int.reduceSub, Int.reduceMul, Int.reduceNeg]
    refine out _ _ _ (by simp) ?_
    simp (dsimp := false) (maxSteps := 4000000) only [encP_len, encP_scal, encP_z, encP_take, go_sem, ↓reduceIte, Nat.reduceEqDiff, Nat.reduceLT, Nat.reduceLeDiff, Nat.reduceAdd, Nat.reduceMul, Nat.reduceSub, reduceCtorEq, Int.reduceToNat, Int.reduceLT, Int.reduceLE, Int.reduceEq, Int.reduceNe, Int.reduceBEq, Nat.reduceBEq, Int.reduceBNe, Nat.reduceBNe, Int.reduceAdd, Int.reduceSub, Int.reduceMul, Int.reduceNeg]
    exact ⟨_, hK.all, R, hJ, by rw [fallV, e], rfl⟩
theorem RefFall_c (L : List Sp) (f t : Int) (base : Option Addr) (cap : Nat) (H : AH) (hs : SlcIn H 2 base cap (L.map encP)) (hok : ∀ s ∈ L, okSp s = true) (hb : L.length < 100000) :
    ACalls Try.prog 27 #[.slice base L.length cap, .int .i64 f, .int .i64 t] H (fun v H' => ∃ R, JoinOf L R ∧ v = .tuple #[.int .i64 (fallV R f t).1, .bool (fallV R f t).2] ∧ H = H') := by
  refine ACalls.enter2 Try.func27 rfl Try.ntmps27 Try.results27 (by simp) ?_; simp (dsimp := false) (maxSteps := 4000000) only [encP_len, encP_scal, encP_z, encP_take, go_sem, ↓reduceIte, Nat.reduceEqDiff, Nat.reduceLT, Nat.reduceLeDiff, Nat.reduceAdd, Nat.reduceMul, Nat.reduceSub, reduceCtorEq, Int.reduceToNat, Int.reduceLT, Int.reduceLE, Int.reduceEq, Int.reduceNe, Int.reduceBEq, Nat.reduceBEq, Int.reduceBNe, Nat.reduceBNe, Int.reduceAdd, Int.reduceSub, Int.reduceMul, Int.reduceNeg]
  refine (RefJoin_c _ _ _ _ hs hok hb).mono ?_; rintro _ A ⟨R, bo, co, rfl, hJ, hsR, hK⟩
  have hbig := hsR.big
  simp only [List.length_map] at hbig
  simp (dsimp := false) (maxSteps := 4000000) only [encP_len, encP_scal, encP_z, encP_take, go_sem, ↓reduceIte, Nat.reduceEqDiff, Nat.reduceLT, Nat.reduceLeDiff, Nat.reduceAdd, Nat.reduceMul, Nat.reduceSub, reduceCtorEq, Int.reduceToNat, Int.reduceLT, Int.reduceLE, Int.reduceEq, Int.reduceNe, Int.reduceBEq, Nat.reduceBEq, Int.reduceBNe, Nat.reduceBNe, Int.reduceAdd, Int.reduceSub, Int.reduceMul, Int.reduceNeg]
  refine AWp.loopo (ι := Nat) (fun i => i ≤ R.length ∧ ∀ j, j < i → ∀ s, R[j]? = some s → fp f t s = false) (fun i => [(9, .int .i64 i), (8, .slice bo R.length co), (1, .int .i64 f), (2, .int .i64 t)])
    (fun _ => A) (fun i => R.length - i) 0 ⟨by omega, fun j hj => by omega⟩ (FrLe.of_lks ?_) (AH.le_refl _) fun i hi Q again out => ?_
  · simp (dsimp := false) (maxSteps := 4000000) only [encP_len, encP_scal, encP_z, encP_take, go_sem, ↓reduceIte, Nat.reduceEqDiff, Nat.reduceLT, Nat.reduceLeDiff, Nat.reduceAdd, Nat.reduceMul, Nat.reduceSub, reduceCtorEq, Int.reduceToNat, Int.reduceLT, Int.reduceLE, Int.reduceEq, Int.reduceNe, Int.reduceBEq, Nat.reduceBEq, Int.reduceBNe, Nat.reduceBNe, Int.reduceAdd, Int.reduceSub, Int.reduceMul, Int.reduceNeg]
  obtain ⟨hi, hall⟩ := hi
  by_cases h : (i : Int) < R.length
  · obtain ⟨⟨x, y⟩, hx⟩ := get_some (l := R) (i := i) (by omega)
    obtain ⟨b0, o0, rfl, hrow, hrd⟩ := hsR.get (map_get (f := encP) hx)
    have r0 := hrd 0 _ rfl
    simp only [Nat.add_zero] at r0
    have ee := i64_succ (i := i) (by omega)
    have nx : fp f t (x, y) = false → ∀ j, j < i + 1 → ∀ s, R[j]? = some s → fp f t s = false := fun hf j hj m hm => by
      by_cases hji : j = i
      · subst hji; rw [hx] at hm; cases hm; exact hf
      · exact hall j (by omega) m hm
    by_cases h0 : f ≤ x
    · by_cases h1 : x < t
      · have e := find_first (p := fp f t) hx (by simp [fp, h0, h1]) hall
        simp (dsimp := false) (maxSteps := 4000000) only [h, r0, h0, h1, encP_len, encP_scal, encP_z, encP_take, go_sem, ↓reduceIte, Nat.reduceEqDiff, Nat.reduceLT, Nat.reduceLeDiff, Nat.reduceAdd, Nat.reduceMul, Nat.reduceSub, reduceCtorEq, Int.reduceToNat, Int.reduceLT, Int.reduceLE, Int.reduceEq, Int.reduceNe, Int.reduceBEq, Nat.reduceBEq, Int.reduceBNe, Nat.reduceBNe, Int.reduceAdd, Int.reduceSub, Int.reduceMul, Int.reduceNeg]
        refine out _ _ _ (by simp) ?_
        simp (dsimp := false) (maxSteps := 4000000) only [encP_len, encP_scal, encP_z, encP_take, go_sem, ↓reduceIte, Nat.reduceEqDiff, Nat.reduceLT, Nat.reduceLeDiff, Nat.reduceAdd, Nat.reduceMul, Nat.reduceSub, reduceCtorEq, Int.reduceToNat, Int.reduceLT, Int.reduceLE, Int.reduceEq, Int.reduceNe, Int.reduceBEq, Nat.reduceBEq, Int.reduceBNe, Nat.reduceBNe, Int.reduceAdd, Int.reduceSub, Int.reduceMul, Int.reduceNeg]
        exact ⟨_, hK.all, R, hJ, by rw [fallV, e], rfl⟩
      · simp (dsimp := false) (maxSteps := 4000000) only [h, r0, h0, h1, ee, encP_len, encP_scal, encP_z, encP_take, go_sem, ↓reduceIte, Nat.reduceEqDiff, Nat.reduceLT, Nat.reduceLeDiff, Nat.reduceAdd, Nat.reduceMul, Nat.reduceSub, reduceCtorEq, Int.reduceToNat, Int.reduceLT, Int.reduceLE, Int.reduceEq, Int.reduceNe, Int.reduceBEq, Nat.reduceBEq, Int.reduceBNe, Nat.reduceBNe, Int.reduceAdd, Int.reduceSub, Int.reduceMul, Int.reduceNeg]
        exact again (i + 1) _ _ ⟨by omega, nx (by simp [fp, h1])⟩ (FrLe.of_lks (by simp (dsimp := false) (maxSteps := 4000000) only [encP_len, encP_scal, encP_z, encP_take, go_sem, ↓reduceIte, Nat.reduceEqDiff, Nat.reduceLT, Nat.reduceLeDiff, Nat.reduceAdd, Nat.reduceMul, Nat.reduceSub, reduceCtorEq, Int.reduceToNat, Int.reduceLT, Int.reduceLE, Int.reduceEq, Int.reduceNe, Int.reduceBEq, Nat.reduceBEq, Int.reduceBNe, Nat.reduceBNe, Int.reduceAdd, Int.reduceSub, Int.reduceMul, Int.reduceNeg])) (AH.le_refl _) (by omega)
    · simp (dsimp := false) (maxSteps := 4000000) only [h, r0, h0, ee, encP_len, encP_scal, encP_z, encP_take, go_sem, ↓reduceIte, Nat.reduceEqDiff, Nat.reduceLT, Nat.reduceLeDiff, Nat.reduceAdd, Nat.reduceMul, Nat.reduceSub, reduceCtorEq, Int.reduceToNat, Int.reduceLT, Int.reduceLE, Int.reduceEq, Int.reduceNe, Int.reduceBEq, Nat.reduceBEq, Int.reduceBNe, Nat.reduceBNe, Int.reduceAdd, Int.reduceSub, Int.reduceMul, Int.reduceNeg]
      exact again (i + 1) _ _ ⟨by omega, nx (by simp [fp, h0])⟩ (FrLe.of_lks (by simp (dsimp := false) (maxSteps := 4000000) only [encP_len, encP_scal, encP_z, encP_take, go_sem, ↓reduceIte, Nat.reduceEqDiff, Nat.reduceLT, Nat.reduceLeDiff, Nat.reduceAdd, Nat.reduceMul, Nat.reduceSub, reduceCtorEq, Int.reduceToNat, Int.reduceLT, Int.reduceLE, Int.reduceEq, Int.reduceNe, Int.reduceBEq, Nat.reduceBEq, Int.reduceBNe, Nat.reduceBNe, Int.reduceAdd, Int.reduceSub, Int.reduceMul, Int.reduceNeg])) (AH.le_refl _) (by omega)
  · have e := find_no (p := fp f t) fun j hj => hall j (by omega)
    simp (dsimp := false) (maxSteps := 4000000) only [h, encP_len, encP_scal, encP_z, encP_take, go_sem, ↓reduceIte, Nat.reduceEqDiff, Nat.reduceLT, Nat.reduceLeDiff, Nat.reduceAdd, Nat.reduceMul, Nat.reduceSub, reduceCtorEq, Int.reduceToNat, Int.reduceLT, Int.reduceLE, Int.reduceEq, Int.reduceNe, Int.reduceBEq, Nat.reduceBEq, Int.reduceBNe, Nat.reduceBNe, Int.reduceAdd, Int.reduceSub, Int.reduceMul, Int.reduceNeg]
    refine out _ _ _ (by simp) ?_
    simp (dsimp := false) (maxSteps := 4000000) only [encP_len, encP_scal, encP_z, encP_take, go_sem, ↓reduceIte, Nat.reduceEqDiff, Nat.reduceLT, Nat.reduceLeDiff, Nat.reduceAdd, Nat.reduceMul, Nat.reduceSub, reduceCtorEq, Int.reduceToNat, Int.reduceLT, Int.reduceLE, Int.reduceEq, Int.reduceNe, Int.reduceBEq, Nat.reduceBEq, Int.reduceBNe, Nat.reduceBNe, Int.reduceAdd, Int.reduceSub, Int.reduceMul, Int.reduceNeg]
    exact ⟨_, hK.all, R, hJ, by rw [fallV, e], rfl⟩
end Go.Proofs.Ytapfabjmooagaaa.Wire
