/- baud: Falls and Measure, and the reference's. -/
import Derived.Test.YtapfabjmooagaaaBauF
namespace Go.Proofs.Ytapfabjmooagaaa.Baud
set_option linter.unusedSimpArgs false
set_option linter.unusedVariables false
open Go Go.AX Go.Proofs Ty Go.Proofs.Ytapfabjmooagaaa.Srt Go.Proofs.Ytapfabjmooagaaa.Wire Go.Proofs.Ytapfabjmooagaaa.Tck
set_option maxHeartbeats 4000000
set_option maxRecDepth 10000

theorem fl_le (R : List Sp) (f : Int) (k : Nat) : (fl R f k).length ≤ R.length := by
  rw [fl, List.length_take, List.length_map]
  have := List.length_filter_le (ge f) R
  omega
theorem Falls_c (X : List Sp) (f k : Int) (kk : Nat) (hk : k.toNat = kk) (base : Option Addr) (cap : Nat) (H : AH) (hs : SlcIn H 2 base cap (X.map encP)) (hb : X.length < 100000) :
    ACalls Try.prog 12 #[.slice base X.length cap, .int .i64 f, .int .i64 k] H (fun v H' => ∃ R b c, JoinOf X R ∧ v = .slice b (fl R f kk).length c ∧ SlcIn H' 1 b c ((fl R f kk).map encI) ∧ Keep H H' fun _ => False) := by
  refine ACalls.enter2 Try.func12 rfl Try.ntmps12 Try.results12 (by simp) ?_; simp (dsimp := false) (maxSteps := 4000000) only [encP_len, encP_scal, encP_z, encP_take, go_sem, ↓reduceIte, Nat.reduceEqDiff, Nat.reduceLT, Nat.reduceLeDiff, Nat.reduceAdd, Nat.reduceMul, Nat.reduceSub, reduceCtorEq, Int.reduceToNat, Int.reduceLT, Int.reduceLE, Int.reduceEq, Int.reduceNe, Int.reduceBEq, Nat.reduceBEq, Int.reduceBNe, Nat.reduceBNe, Int.reduceAdd, Int.reduceSub, Int.reduceMul, Int.reduceNeg]
  refine AllB.mk fun b11 h_b11 => ?_
  simp (dsimp := false) (maxSteps := 4000000) only [encP_len, encP_scal, encP_z, encP_take, go_sem, ↓reduceIte, Nat.reduceEqDiff, Nat.reduceLT, Nat.reduceLeDiff, Nat.reduceAdd, Nat.reduceMul, Nat.reduceSub, reduceCtorEq, Int.reduceToNat, Int.reduceLT, Int.reduceLE, Int.reduceEq, Int.reduceNe, Int.reduceBEq, Nat.reduceBEq, Int.reduceBNe, Nat.reduceBNe, Int.reduceAdd, Int.reduceSub, Int.reduceMul, Int.reduceNeg]
  refine (Join1_c h_b11 hs hb).mono ?_; rintro _ A1 ⟨R, br, cr, rfl, hJ, hR, hK1⟩
  clear h_b11
  have hbig := hR.big
  simp only [List.length_map] at hbig
  have hsm := hJ.small
  simp (dsimp := false) (maxSteps := 4000000) only [encP_len, encP_scal, encP_z, encP_take, go_sem, ↓reduceIte, Nat.reduceEqDiff, Nat.reduceLT, Nat.reduceLeDiff, Nat.reduceAdd, Nat.reduceMul, Nat.reduceSub, reduceCtorEq, Int.reduceToNat, Int.reduceLT, Int.reduceLE, Int.reduceEq, Int.reduceNe, Int.reduceBEq, Nat.reduceBEq, Int.reduceBNe, Nat.reduceBNe, Int.reduceAdd, Int.reduceSub, Int.reduceMul, Int.reduceNeg]
  refine AWp.loopr (ι := Nat × Option Addr × Nat) (fun x A => x.1 ≤ R.length ∧ OwnS A1 A 3 1 x.2.1 x.2.2 ((fl (R.take x.1) f kk).map encI) ∧ Keep A1 A fun _ => False)
    (fun x => [(14, .int .i64 x.1), (13, .int .i64 R.length), (12, .slice br R.length cr), (7, .slice x.2.1 (fl (R.take x.1) f kk).length x.2.2), (1, .int .i64 f), (2, .int .i64 k)]) (fun x => R.length - x.1) (0, none, 0) A1
    ⟨by simp, by simp only [List.take_zero, fl, List.filter_nil, List.map_nil, List.take_nil]; exact OwnS.nil, Keep.refl⟩ (FrLe.of_lks ?_) (AH.le_refl _) fun x A hi Q again out => ?_
  · simp (dsimp := false) (maxSteps := 4000000) only [encP_len, encP_scal, encP_z, encP_take, go_sem, ↓reduceIte, Nat.reduceEqDiff, Nat.reduceLT, Nat.reduceLeDiff, Nat.reduceAdd, Nat.reduceMul, Nat.reduceSub, reduceCtorEq, Int.reduceToNat, Int.reduceLT, Int.reduceLE, Int.reduceEq, Int.reduceNe, Int.reduceBEq, Nat.reduceBEq, Int.reduceBNe, Nat.reduceBNe, Int.reduceAdd, Int.reduceSub, Int.reduceMul, Int.reduceNeg]
    simp [fl]
  obtain ⟨i, bo, co⟩ := x
  obtain ⟨hi, hO, hK⟩ := hi
  dsimp only at hi hO again ⊢
  have hfl := fl_le (R.take i) f kk
  rw [List.length_take] at hfl
  by_cases h : (i : Int) < R.length
  case neg =>
    obtain rfl : i = R.length := by omega
    simp (dsimp := false) (maxSteps := 4000000) only [h, encP_len, encP_scal, encP_z, encP_take, go_sem, ↓reduceIte, Nat.reduceEqDiff, Nat.reduceLT, Nat.reduceLeDiff, Nat.reduceAdd, Nat.reduceMul, Nat.reduceSub, reduceCtorEq, Int.reduceToNat, Int.reduceLT, Int.reduceLE, Int.reduceEq, Int.reduceNe, Int.reduceBEq, Nat.reduceBEq, Int.reduceBNe, Nat.reduceBNe, Int.reduceAdd, Int.reduceSub, Int.reduceMul, Int.reduceNeg]
    refine out _ _ _ (by simp) ?_
    simp (dsimp := false) (maxSteps := 4000000) only [encP_len, encP_scal, encP_z, encP_take, go_sem, ↓reduceIte, Nat.reduceEqDiff, Nat.reduceLT, Nat.reduceLeDiff, Nat.reduceAdd, Nat.reduceMul, Nat.reduceSub, reduceCtorEq, Int.reduceToNat, Int.reduceLT, Int.reduceLE, Int.reduceEq, Int.reduceNe, Int.reduceBEq, Nat.reduceBEq, Int.reduceBNe, Nat.reduceBNe, Int.reduceAdd, Int.reduceSub, Int.reduceMul, Int.reduceNeg]
    rw [List.take_length] at hO
    exact ⟨A, AH.le_refl _, R, bo, co, hJ, rfl, hO.slc, hK1.trans hK⟩
  obtain ⟨⟨x, y⟩, hx⟩ := get_some (l := R) (i := i) (by omega)
  obtain ⟨b0, o0, rfl, hrow, _⟩ := (hR.keep hK fun _ _ h => h).get (map_get (f := encP) hx)
  have ee := i64_succ (i := i) (by omega)
  have hst := fl_step hx f kk
  simp (dsimp := false) (maxSteps := 4000000) only [h, hrow, encP_len, encP_scal, encP_z, encP_take, go_sem, ↓reduceIte, Nat.reduceEqDiff, Nat.reduceLT, Nat.reduceLeDiff, Nat.reduceAdd, Nat.reduceMul, Nat.reduceSub, reduceCtorEq, Int.reduceToNat, Int.reduceLT, Int.reduceLE, Int.reduceEq, Int.reduceNe, Int.reduceBEq, Nat.reduceBEq, Int.reduceBNe, Nat.reduceBNe, Int.reduceAdd, Int.reduceSub, Int.reduceMul, Int.reduceNeg]
  refine AllB.mk fun b9 h_b9 => ?_
  by_cases h0 : f ≤ x
  case neg =>
    rw [if_neg (fun h => h0 h.1)] at hst
    simp (dsimp := false) (maxSteps := 4000000) only [encP_mk, h0, ee, encP_len, encP_scal, encP_z, encP_take, go_sem, ↓reduceIte, Nat.reduceEqDiff, Nat.reduceLT, Nat.reduceLeDiff, Nat.reduceAdd, Nat.reduceMul, Nat.reduceSub, reduceCtorEq, Int.reduceToNat, Int.reduceLT, Int.reduceLE, Int.reduceEq, Int.reduceNe, Int.reduceBEq, Nat.reduceBEq, Int.reduceBNe, Nat.reduceBNe, Int.reduceAdd, Int.reduceSub, Int.reduceMul, Int.reduceNeg]
    refine again (i + 1, bo, co) _ A _ ⟨by simp only; omega, by simp only [hst]; exact hO, hK⟩ (FrLe.of_lks ?_) (AH.le_add (AH.le_refl _) h_b9.2) (by simp only; omega)
    rw [hst]
    simp (dsimp := false) (maxSteps := 4000000) only [encP_len, encP_scal, encP_z, encP_take, go_sem, ↓reduceIte, Nat.reduceEqDiff, Nat.reduceLT, Nat.reduceLeDiff, Nat.reduceAdd, Nat.reduceMul, Nat.reduceSub, reduceCtorEq, Int.reduceToNat, Int.reduceLT, Int.reduceLE, Int.reduceEq, Int.reduceNe, Int.reduceBEq, Nat.reduceBEq, Int.reduceBNe, Nat.reduceBNe, Int.reduceAdd, Int.reduceSub, Int.reduceMul, Int.reduceNeg]
  by_cases h1 : ((fl (R.take i) f kk).length : Int) < k
  case neg =>
    rw [if_neg (fun h => h1 (by omega))] at hst
    simp (dsimp := false) (maxSteps := 4000000) only [encP_mk, h0, h1, ee, encP_len, encP_scal, encP_z, encP_take, go_sem, ↓reduceIte, Nat.reduceEqDiff, Nat.reduceLT, Nat.reduceLeDiff, Nat.reduceAdd, Nat.reduceMul, Nat.reduceSub, reduceCtorEq, Int.reduceToNat, Int.reduceLT, Int.reduceLE, Int.reduceEq, Int.reduceNe, Int.reduceBEq, Nat.reduceBEq, Int.reduceBNe, Nat.reduceBNe, Int.reduceAdd, Int.reduceSub, Int.reduceMul, Int.reduceNeg]
    refine again (i + 1, bo, co) _ A _ ⟨by simp only; omega, by simp only [hst]; exact hO, hK⟩ (FrLe.of_lks ?_) (AH.le_add (AH.le_refl _) h_b9.2) (by simp only; omega)
    rw [hst]
    simp (dsimp := false) (maxSteps := 4000000) only [encP_len, encP_scal, encP_z, encP_take, go_sem, ↓reduceIte, Nat.reduceEqDiff, Nat.reduceLT, Nat.reduceLeDiff, Nat.reduceAdd, Nat.reduceMul, Nat.reduceSub, reduceCtorEq, Int.reduceToNat, Int.reduceLT, Int.reduceLE, Int.reduceEq, Int.reduceNe, Int.reduceBEq, Nat.reduceBEq, Int.reduceBNe, Nat.reduceBNe, Int.reduceAdd, Int.reduceSub, Int.reduceMul, Int.reduceNeg]
  rw [if_pos ⟨h0, by omega⟩] at hst
  simp (dsimp := false) (maxSteps := 4000000) only [encP_mk, h0, h1, encP_len, encP_scal, encP_z, encP_take, go_sem, ↓reduceIte, Nat.reduceEqDiff, Nat.reduceLT, Nat.reduceLeDiff, Nat.reduceAdd, Nat.reduceMul, Nat.reduceSub, reduceCtorEq, Int.reduceToNat, Int.reduceLT, Int.reduceLE, Int.reduceEq, Int.reduceNe, Int.reduceBEq, Nat.reduceBEq, Int.reduceBNe, Nat.reduceBNe, Int.reduceAdd, Int.reduceSub, Int.reduceMul, Int.reduceNeg]
  refine AllB.mk fun b41 h_b41 => ?_
  simp (dsimp := false) (maxSteps := 4000000) only [encP_len, encP_scal, encP_z, encP_take, go_sem, ↓reduceIte, Nat.reduceEqDiff, Nat.reduceLT, Nat.reduceLeDiff, Nat.reduceAdd, Nat.reduceMul, Nat.reduceSub, reduceCtorEq, Int.reduceToNat, Int.reduceLT, Int.reduceLE, Int.reduceEq, Int.reduceNe, Int.reduceBEq, Nat.reduceBEq, Int.reduceBNe, Nat.reduceBNe, Int.reduceAdd, Int.reduceSub, Int.reduceMul, Int.reduceNeg]
  refine APD.growW (x := .slice (some ⟨b41, 0, none⟩) 1 1) (R' := [encI x]) (m := 1) ((hO.added h_b9).added h_b41) ((hK.nw h_b9).nw h_b41).all se_33 rfl (by decide) (by rw [Try.underlying33]; rfl) (by simp) rfl rfl (by rw [srow_some, row_add_self]; rfl) (by simp [encI]) (by simp [encI, scal]) (by omega) fun base2 cap2 A' hO' hK' hN' => ?_
  refine ⟨_, AH.le_refl _, ?_⟩
  simp (dsimp := false) (maxSteps := 4000000) only [ee, encP_len, encP_scal, encP_z, encP_take, go_sem, ↓reduceIte, Nat.reduceEqDiff, Nat.reduceLT, Nat.reduceLeDiff, Nat.reduceAdd, Nat.reduceMul, Nat.reduceSub, reduceCtorEq, Int.reduceToNat, Int.reduceLT, Int.reduceLE, Int.reduceEq, Int.reduceNe, Int.reduceBEq, Nat.reduceBEq, Int.reduceBNe, Nat.reduceBNe, Int.reduceAdd, Int.reduceSub, Int.reduceMul, Int.reduceNeg]
  have hK2 := ((hK.nw h_b9).nw h_b41).ow hK' fun b ⟨a, ha, e⟩ => e ▸ hO.fresh a ha
  have he : (fl (R.take i) f kk).map encI ++ [encI x] = (fl (R.take (i + 1)) f kk).map encI := by rw [hst, List.map_append]; rfl
  rw [he] at hO'
  refine again (i + 1, base2, cap2) _ _ _ ⟨by simp only; omega, hO', hK2⟩ (FrLe.of_lks ?_) (AH.le_refl _) (by simp only; omega)
  have hl1 : (fl (R.take (i + 1)) f kk).length = (fl (R.take i) f kk).length + 1 := by rw [hst]; simp
  rw [hl1]
  simp (dsimp := false) (maxSteps := 4000000) only [encP_len, encP_scal, encP_z, encP_take, go_sem, ↓reduceIte, Nat.reduceEqDiff, Nat.reduceLT, Nat.reduceLeDiff, Nat.reduceAdd, Nat.reduceMul, Nat.reduceSub, reduceCtorEq, Int.reduceToNat, Int.reduceLT, Int.reduceLE, Int.reduceEq, Int.reduceNe, Int.reduceBEq, Nat.reduceBEq, Int.reduceBNe, Nat.reduceBNe, Int.reduceAdd, Int.reduceSub, Int.reduceMul, Int.reduceNeg]
theorem ends_ok {X R : List Sp} (hJ : JoinOf X R) (hok : ∀ s ∈ X, okSp s = true) : ∀ s ∈ R, okSp s = true := fun s hs => by
  obtain ⟨⟨y, hy, e1⟩, ⟨z, hz, e2⟩⟩ := hJ.ends s hs
  have h1 := okSp_iff.1 (hok y hy)
  have h2 := okSp_iff.1 (hok z hz)
  rw [okSp_iff, e1, e2]
  omega
theorem fall_next {R : List Sp} (hok : ∀ s ∈ R, okSp s = true) {f cur : Int} {i : Nat} (h : R.filter (ge cur) = (R.filter (ge f)).drop i) : fallV R cur 2199023255552 = match (R.filter (ge f))[i]? with | some s => (s.1, true) | none => (0, false) := by
  rw [fallV, find_filter (fun s hs => by have := okSp_iff.1 (hok s hs); omega), h, List.head?_drop]
  cases (R.filter (ge f))[i]? <;> rfl
theorem RefFalls_c (X R : List Sp) (hJ : JoinOf X R) (f k : Int) (hf : -2199023255552 ≤ f ∧ f ≤ 2199023255552) (hk20 : k ≤ 1000) (kk : Nat) (hk : k.toNat = kk) (base : Option Addr) (cap : Nat) (H : AH) (hs : SlcIn H 2 base cap (X.map encP)) (hok : ∀ s ∈ X, okSp s = true) (hb : X.length < 100000) :
    ACalls Try.prog 13 #[.slice base X.length cap, .int .i64 f, .int .i64 k] H (fun v H' => ∃ b c, v = .slice b (fl R f kk).length c ∧ SlcIn H' 1 b c ((fl R f kk).map encI) ∧ Keep H H' fun _ => False) := by
  have hRok := ends_ok hJ hok
  have hlt := plain_lt hJ.plain
  generalize hD : R.filter (ge f) = D
  have hfl : fl R f kk = (D.map (·.1)).take kk := by rw [fl, hD]
  refine ACalls.enter2 Try.func13 rfl Try.ntmps13 Try.results13 (by simp) ?_; simp (dsimp := false) (maxSteps := 4000000) only [go_sem, ↓reduceIte, Nat.reduceEqDiff, Nat.reduceLT, Nat.reduceLeDiff, Nat.reduceAdd, Nat.reduceMul, Nat.reduceSub, reduceCtorEq, Int.reduceToNat, Int.reduceLT, Int.reduceLE, Int.reduceEq, Int.reduceNe, Int.reduceBEq, Nat.reduceBEq, Int.reduceBNe, Nat.reduceBNe, Int.reduceAdd, Int.reduceSub, Int.reduceMul, Int.reduceNeg]
  refine AllB.mk fun b11 h_b11 => ?_
  simp (dsimp := false) (maxSteps := 4000000) only [go_sem, ↓reduceIte, Nat.reduceEqDiff, Nat.reduceLT, Nat.reduceLeDiff, Nat.reduceAdd, Nat.reduceMul, Nat.reduceSub, reduceCtorEq, Int.reduceToNat, Int.reduceLT, Int.reduceLE, Int.reduceEq, Int.reduceNe, Int.reduceBEq, Nat.reduceBEq, Int.reduceBNe, Nat.reduceBNe, Int.reduceAdd, Int.reduceSub, Int.reduceMul, Int.reduceNeg]
  refine AWp.loopr (ι := Nat × Int × Option Addr × Nat) (fun x A => x.1 ≤ kk ∧ x.1 ≤ D.length ∧ R.filter (ge x.2.1) = D.drop x.1 ∧ (-2199023255552 ≤ x.2.1 ∧ x.2.1 ≤ 2199023255552) ∧ OwnS H A 3 1 x.2.2.1 x.2.2.2 (((D.map (·.1)).take x.1).map encI) ∧ Keep H A fun _ => False)
    (fun x => [(8, .int .i64 x.1), (1, .int .i64 x.2.1), (2, .int .i64 k), (0, .slice base X.length cap), (7, .slice x.2.2.1 x.1 x.2.2.2)]) (fun x => kk - x.1) (0, f, some ⟨b11, 0, none⟩, 0) (H.add b11 (.cells [] 3 0))
    ⟨by simp, by simp, by simp [hD], hf, OwnS.new h_b11 (AH.le_refl _) rfl rfl rfl (by simp) (by simp), Keep.add h_b11⟩ (FrLe.of_lks ?_) (AH.le_refl _) fun x A hi Q again out => ?_
  · simp (dsimp := false) (maxSteps := 4000000) only [go_sem, ↓reduceIte, Nat.reduceEqDiff, Nat.reduceLT, Nat.reduceLeDiff, Nat.reduceAdd, Nat.reduceMul, Nat.reduceSub, reduceCtorEq, Int.reduceToNat, Int.reduceLT, Int.reduceLE, Int.reduceEq, Int.reduceNe, Int.reduceBEq, Nat.reduceBEq, Int.reduceBNe, Nat.reduceBNe, Int.reduceAdd, Int.reduceSub, Int.reduceMul, Int.reduceNeg]
  clear h_b11
  obtain ⟨i, cur, bo, co⟩ := x
  obtain ⟨hi, hiD, hcur, hcb, hO, hK⟩ := hi
  dsimp only at hi hiD hcur hcb hO again ⊢
  have hlen : ((D.map (·.1)).take i).length = i := by simp; omega
  by_cases h : (i : Int) < k
  case neg =>
    have e : kk = i := by omega
    simp (dsimp := false) (maxSteps := 4000000) only [h, go_sem, ↓reduceIte, Nat.reduceEqDiff, Nat.reduceLT, Nat.reduceLeDiff, Nat.reduceAdd, Nat.reduceMul, Nat.reduceSub, reduceCtorEq, Int.reduceToNat, Int.reduceLT, Int.reduceLE, Int.reduceEq, Int.reduceNe, Int.reduceBEq, Nat.reduceBEq, Int.reduceBNe, Nat.reduceBNe, Int.reduceAdd, Int.reduceSub, Int.reduceMul, Int.reduceNeg]
    refine out _ _ _ (by simp) ?_
    simp (dsimp := false) (maxSteps := 4000000) only [go_sem, ↓reduceIte, Nat.reduceEqDiff, Nat.reduceLT, Nat.reduceLeDiff, Nat.reduceAdd, Nat.reduceMul, Nat.reduceSub, reduceCtorEq, Int.reduceToNat, Int.reduceLT, Int.reduceLE, Int.reduceEq, Int.reduceNe, Int.reduceBEq, Nat.reduceBEq, Int.reduceBNe, Nat.reduceBNe, Int.reduceAdd, Int.reduceSub, Int.reduceMul, Int.reduceNeg]
    rw [hfl, e, hlen]
    exact ⟨A, AH.le_refl _, bo, co, rfl, hO.slc, hK⟩
  simp (dsimp := false) (maxSteps := 4000000) only [h, go_sem, ↓reduceIte, Nat.reduceEqDiff, Nat.reduceLT, Nat.reduceLeDiff, Nat.reduceAdd, Nat.reduceMul, Nat.reduceSub, reduceCtorEq, Int.reduceToNat, Int.reduceLT, Int.reduceLE, Int.reduceEq, Int.reduceNe, Int.reduceBEq, Nat.reduceBEq, Int.reduceBNe, Nat.reduceBNe, Int.reduceAdd, Int.reduceSub, Int.reduceMul, Int.reduceNeg]
  refine (RefFall_c X cur 2199023255552 base cap A (hs.keep hK fun _ _ h => h) hok hb).mono ?_; rintro _ _ ⟨R2, hJ2, rfl, rfl⟩
  obtain rfl : R = R2 := hJ.uniq hJ2 fun t => Iff.rfl
  clear hJ2
  have hn := fall_next (f := f) (cur := cur) (i := i) hRok (by rw [hcur, hD])
  rw [hD] at hn
  cases hx : D[i]? with
  | none =>
    rw [hx] at hn
    dsimp only at hn
    have hDl : D.length ≤ i := List.getElem?_eq_none_iff.1 hx
    simp (dsimp := false) (maxSteps := 4000000) only [hn, go_sem, ↓reduceIte, Nat.reduceEqDiff, Nat.reduceLT, Nat.reduceLeDiff, Nat.reduceAdd, Nat.reduceMul, Nat.reduceSub, reduceCtorEq, Int.reduceToNat, Int.reduceLT, Int.reduceLE, Int.reduceEq, Int.reduceNe, Int.reduceBEq, Nat.reduceBEq, Int.reduceBNe, Nat.reduceBNe, Int.reduceAdd, Int.reduceSub, Int.reduceMul, Int.reduceNeg]
    refine out _ _ _ (by simp) ?_
    simp (dsimp := false) (maxSteps := 4000000) only [go_sem, ↓reduceIte, Nat.reduceEqDiff, Nat.reduceLT, Nat.reduceLeDiff, Nat.reduceAdd, Nat.reduceMul, Nat.reduceSub, reduceCtorEq, Int.reduceToNat, Int.reduceLT, Int.reduceLE, Int.reduceEq, Int.reduceNe, Int.reduceBEq, Nat.reduceBEq, Int.reduceBNe, Nat.reduceBNe, Int.reduceAdd, Int.reduceSub, Int.reduceMul, Int.reduceNeg]
    have e : fl R f kk = (D.map (·.1)).take i := by rw [hfl, List.take_of_length_le (by simp; omega), List.take_of_length_le (by simp; omega)]
    rw [e, hlen]
    exact ⟨A, AH.le_refl _, bo, co, rfl, hO.slc, hK⟩
  | some s =>
    rw [hx] at hn
    dsimp only at hn
    have hsR : s ∈ R := by
      have : s ∈ R.filter (ge f) := by rw [hD]; exact List.mem_of_getElem? hx
      exact (List.mem_filter.1 this).1
    have hsk := okSp_iff.1 (hRok s hsR)
    have hdr : D.drop i = s :: D.drop (i + 1) := by rw [List.drop_eq_getElem?_toList_append, hx]; rfl
    have hnx := filter_next hlt (hcur.trans hdr)
    have ee := i64_succ (i := i) (by omega)
    have e1 : IntKind.i64.wrap (s.1 + 1) = s.1 + 1 := i64_eq (by omega) (by omega)
    have hiD2 := lt_of_get hx
    simp (dsimp := false) (maxSteps := 4000000) only [hn, go_sem, ↓reduceIte, Nat.reduceEqDiff, Nat.reduceLT, Nat.reduceLeDiff, Nat.reduceAdd, Nat.reduceMul, Nat.reduceSub, reduceCtorEq, Int.reduceToNat, Int.reduceLT, Int.reduceLE, Int.reduceEq, Int.reduceNe, Int.reduceBEq, Nat.reduceBEq, Int.reduceBNe, Nat.reduceBNe, Int.reduceAdd, Int.reduceSub, Int.reduceMul, Int.reduceNeg]
    refine AllB.mk fun b41 h_b41 => ?_
    simp (dsimp := false) (maxSteps := 4000000) only [go_sem, ↓reduceIte, Nat.reduceEqDiff, Nat.reduceLT, Nat.reduceLeDiff, Nat.reduceAdd, Nat.reduceMul, Nat.reduceSub, reduceCtorEq, Int.reduceToNat, Int.reduceLT, Int.reduceLE, Int.reduceEq, Int.reduceNe, Int.reduceBEq, Nat.reduceBEq, Int.reduceBNe, Nat.reduceBNe, Int.reduceAdd, Int.reduceSub, Int.reduceMul, Int.reduceNeg]
    refine APD.growW (x := .slice (some ⟨b41, 0, none⟩) 1 1) (R' := [encI s.1]) (m := 1) (hO.added h_b41) (hK.nw h_b41).all se_33 rfl (by decide) (by rw [Try.underlying33]; rfl) (by simp; omega) rfl rfl (by rw [srow_some, row_add_self]; rfl) (by simp [encI]) (by simp [encI, scal]) (by omega) fun base2 cap2 A' hO' hK' hN' => ?_
    refine ⟨_, AH.le_refl _, ?_⟩
    simp (dsimp := false) (maxSteps := 4000000) only [ee, e1, go_sem, ↓reduceIte, Nat.reduceEqDiff, Nat.reduceLT, Nat.reduceLeDiff, Nat.reduceAdd, Nat.reduceMul, Nat.reduceSub, reduceCtorEq, Int.reduceToNat, Int.reduceLT, Int.reduceLE, Int.reduceEq, Int.reduceNe, Int.reduceBEq, Nat.reduceBEq, Int.reduceBNe, Nat.reduceBNe, Int.reduceAdd, Int.reduceSub, Int.reduceMul, Int.reduceNeg]
    have hK2 := (hK.nw h_b41).ow hK' fun b ⟨a, ha, e⟩ => e ▸ hO.fresh a ha
    have he : ((D.map (·.1)).take i).map encI ++ [encI s.1] = ((D.map (·.1)).take (i + 1)).map encI := by rw [List.take_add_one, List.getElem?_map, hx, List.map_append]; rfl
    rw [he] at hO'
    exact again (i + 1, s.1 + 1, base2, cap2) _ _ _ ⟨by simp only; omega, by simp only; omega, hnx, by simp only; omega, hO', hK2⟩ (FrLe.of_lks (by simp (dsimp := false) (maxSteps := 4000000) only [go_sem, ↓reduceIte, Nat.reduceEqDiff, Nat.reduceLT, Nat.reduceLeDiff, Nat.reduceAdd, Nat.reduceMul, Nat.reduceSub, reduceCtorEq, Int.reduceToNat, Int.reduceLT, Int.reduceLE, Int.reduceEq, Int.reduceNe, Int.reduceBEq, Nat.reduceBEq, Int.reduceBNe, Nat.reduceBNe, Int.reduceAdd, Int.reduceSub, Int.reduceMul, Int.reduceNeg])) (AH.le_refl _) (by simp only; omega)
def measV (L : List Stp) (R : List Sp) (a z : Int) : Int × Int := match R.find? (fp a z) with
  | none => (0, 3)
  | some _ => if (fl R a 5).length < 5 then (0, 9) else (IntKind.i64.wrap (localv L ((fl R a 5).getD 4 0) - localv L ((fl R a 5).getD 0 0)), 0)
theorem gI {R : List Sp} {a : Int} (h : ¬ (fl R a 5).length < 5) (i : Nat) (hi : i < 5) : (fl R a 5)[i]? = some ((fl R a 5).getD i 0) := by
  obtain ⟨x, hx⟩ := get_some (l := fl R a 5) (i := i) (by omega)
  simp [List.getD_eq_getElem?_getD, hx]
theorem Measure_c (X : List Sp) (L : List Stp) (a z : Int) (hg : good L = true) (base : Option Addr) (cap : Nat) (lb : Option Addr) (lc : Nat) (H : AH) (hs : SlcIn H 2 base cap (X.map encP)) (hL : SlcIn H 2 lb lc (L.map enc)) (hb : X.length < 100000) :
    ACalls Try.prog 10 #[.slice base X.length cap, .slice lb L.length lc, .int .i64 a, .int .i64 z] H (fun v H' => ∃ R, JoinOf X R ∧ v = .tuple #[.int .i64 (measV L R a z).1, .int .i64 (measV L R a z).2] ∧ H = H') := by
  refine ACalls.enter2 Try.func10 rfl Try.ntmps10 Try.results10 (by simp) ?_; simp (dsimp := false) (maxSteps := 4000000) only [go_sem, ↓reduceIte, Nat.reduceEqDiff, Nat.reduceLT, Nat.reduceLeDiff, Nat.reduceAdd, Nat.reduceMul, Nat.reduceSub, reduceCtorEq, Int.reduceToNat, Int.reduceLT, Int.reduceLE, Int.reduceEq, Int.reduceNe, Int.reduceBEq, Nat.reduceBEq, Int.reduceBNe, Nat.reduceBNe, Int.reduceAdd, Int.reduceSub, Int.reduceMul, Int.reduceNeg]
  refine (Fall_c X a z base cap H hs hb).mono ?_; rintro _ _ ⟨R, hJ, rfl, rfl⟩
  cases hf : R.find? (fp a z) with
  | none =>
    have e : fallV R a z = (0, false) := by rw [fallV, hf]
    have e2 : measV L R a z = (0, 3) := by rw [measV, hf]
    simp (dsimp := false) (maxSteps := 4000000) only [e, go_sem, ↓reduceIte, Nat.reduceEqDiff, Nat.reduceLT, Nat.reduceLeDiff, Nat.reduceAdd, Nat.reduceMul, Nat.reduceSub, reduceCtorEq, Int.reduceToNat, Int.reduceLT, Int.reduceLE, Int.reduceEq, Int.reduceNe, Int.reduceBEq, Nat.reduceBEq, Int.reduceBNe, Nat.reduceBNe, Int.reduceAdd, Int.reduceSub, Int.reduceMul, Int.reduceNeg]
    exact ⟨H, AH.le_refl _, R, hJ, by rw [e2], rfl⟩
  | some s =>
    have e : fallV R a z = (s.1, true) := by rw [fallV, hf]
    simp (dsimp := false) (maxSteps := 4000000) only [e, go_sem, ↓reduceIte, Nat.reduceEqDiff, Nat.reduceLT, Nat.reduceLeDiff, Nat.reduceAdd, Nat.reduceMul, Nat.reduceSub, reduceCtorEq, Int.reduceToNat, Int.reduceLT, Int.reduceLE, Int.reduceEq, Int.reduceNe, Int.reduceBEq, Nat.reduceBEq, Int.reduceBNe, Nat.reduceBNe, Int.reduceAdd, Int.reduceSub, Int.reduceMul, Int.reduceNeg]
    refine (Falls_c X s.1 5 5 rfl base cap H hs hb).mono ?_; rintro _ A ⟨R2, bf, cf, hJ2, rfl, hF, hK⟩
    obtain rfl : R = R2 := hJ.uniq hJ2 fun t => Iff.rfl
    rw [fl_found hJ.plain hf] at hF ⊢
    by_cases h5 : (fl R a 5).length < 5
    · have e2 : measV L R a z = (0, 9) := by rw [measV, hf]; simp only [h5, if_true]
      have h5' : ((fl R a 5).length : Int) < 5 := by omega
      simp (dsimp := false) (maxSteps := 4000000) only [h5', go_sem, ↓reduceIte, Nat.reduceEqDiff, Nat.reduceLT, Nat.reduceLeDiff, Nat.reduceAdd, Nat.reduceMul, Nat.reduceSub, reduceCtorEq, Int.reduceToNat, Int.reduceLT, Int.reduceLE, Int.reduceEq, Int.reduceNe, Int.reduceBEq, Nat.reduceBEq, Int.reduceBNe, Nat.reduceBNe, Int.reduceAdd, Int.reduceSub, Int.reduceMul, Int.reduceNeg]
      exact ⟨H, hK.all, R, hJ, by rw [e2], rfl⟩
    · have e2 : measV L R a z = (IntKind.i64.wrap (localv L ((fl R a 5).getD 4 0) - localv L ((fl R a 5).getD 0 0)), 0) := by rw [measV, hf]; simp only [h5, if_false]
      have h5' : ¬ ((fl R a 5).length : Int) < 5 := by omega
      have h4 : (4 : Int) < ((fl R a 5).length : Int) := by omega
      have h0 : (0 : Int) < ((fl R a 5).length : Int) := by omega
      obtain ⟨bb, o, rfl, _, r4⟩ := hF.get (map_get (f := encI) (gI h5 4 (by omega)))
      have q4 := r4 0 _ rfl
      have q0 : A.rd ⟨bb, o, none⟩ = some (.int .i64 ((fl R a 5).getD 0 0)) := hF.rd bb o rfl 0 0 _ _ (map_get (f := encI) (gI h5 0 (by omega))) rfl
      have hLA := hL.keep hK fun _ _ h => h
      simp (dsimp := false) (maxSteps := 4000000) only [h5', go_sem, ↓reduceIte, Nat.reduceEqDiff, Nat.reduceLT, Nat.reduceLeDiff, Nat.reduceAdd, Nat.reduceMul, Nat.reduceSub, reduceCtorEq, Int.reduceToNat, Int.reduceLT, Int.reduceLE, Int.reduceEq, Int.reduceNe, Int.reduceBEq, Nat.reduceBEq, Int.reduceBNe, Nat.reduceBNe, Int.reduceAdd, Int.reduceSub, Int.reduceMul, Int.reduceNeg]
      refine AWp.gen [.pu, .pu, .pu, .rd, .ch, .pu, .pu, .pu, .rd, .ch, .pu, .pu, .pu] [0, 0, 2, 6, 15, 0, 0, 64, 192, 511, 1023, 2047, 4095] 5 (_) mixed (by kernel_rfl) (AH.le_refl _) ?_
      simp (dsimp := false) (maxSteps := 4000000) only [h4, h0, q4, q0, AH.le_refl, go_sem, ↓reduceIte, Nat.reduceEqDiff, Nat.reduceLT, Nat.reduceLeDiff, Nat.reduceAdd, Nat.reduceMul, Nat.reduceSub, reduceCtorEq, Int.reduceToNat, Int.reduceLT, Int.reduceLE, Int.reduceEq, Int.reduceNe, Int.reduceBEq, Nat.reduceBEq, Int.reduceBNe, Nat.reduceBNe, Int.reduceAdd, Int.reduceSub, Int.reduceMul, Int.reduceNeg]
      refine (Local_c L ((fl R a 5).getD 4 0) hg lb lc _ hLA).mono ?_; rintro _ _ ⟨rfl, rfl⟩
      simp (dsimp := false) (maxSteps := 4000000) only [h0, q0, AH.le_refl, go_sem, ↓reduceIte, Nat.reduceEqDiff, Nat.reduceLT, Nat.reduceLeDiff, Nat.reduceAdd, Nat.reduceMul, Nat.reduceSub, reduceCtorEq, Int.reduceToNat, Int.reduceLT, Int.reduceLE, Int.reduceEq, Int.reduceNe, Int.reduceBEq, Nat.reduceBEq, Int.reduceBNe, Nat.reduceBNe, Int.reduceAdd, Int.reduceSub, Int.reduceMul, Int.reduceNeg]
      refine (Local_c L ((fl R a 5).getD 0 0) hg lb lc _ hLA).mono ?_; rintro _ _ ⟨rfl, rfl⟩
      simp (dsimp := false) (maxSteps := 4000000) only [AH.le_refl, go_sem, ↓reduceIte, Nat.reduceEqDiff, Nat.reduceLT, Nat.reduceLeDiff, Nat.reduceAdd, Nat.reduceMul, Nat.reduceSub, reduceCtorEq, Int.reduceToNat, Int.reduceLT, Int.reduceLE, Int.reduceEq, Int.reduceNe, Int.reduceBEq, Nat.reduceBEq, Int.reduceBNe, Nat.reduceBNe, Int.reduceAdd, Int.reduceSub, Int.reduceMul, Int.reduceNeg]
      exact ⟨H, hK.all, R, hJ, by rw [e2], rfl⟩
theorem RefMeasure_c (X R : List Sp) (hJ : JoinOf X R) (L : List Stp) (a z : Int) (ha : -2199023255552 ≤ a ∧ a ≤ 2199023255552) (hg : good L = true) (base : Option Addr) (cap : Nat) (lb : Option Addr) (lc : Nat) (H : AH) (hs : SlcIn H 2 base cap (X.map encP)) (hL : SlcIn H 2 lb lc (L.map enc)) (hok : ∀ s ∈ X, okSp s = true) (hb : X.length < 100000) :
    ACalls Try.prog 11 #[.slice base X.length cap, .slice lb L.length lc, .int .i64 a, .int .i64 z] H (fun v H' => v = .tuple #[.int .i64 (measV L R a z).1, .int .i64 (measV L R a z).2] ∧ H = H') := by
  refine ACalls.enter2 Try.func11 rfl Try.ntmps11 Try.results11 (by simp) ?_; simp (dsimp := false) (maxSteps := 4000000) only [go_sem, ↓reduceIte, Nat.reduceEqDiff, Nat.reduceLT, Nat.reduceLeDiff, Nat.reduceAdd, Nat.reduceMul, Nat.reduceSub, reduceCtorEq, Int.reduceToNat, Int.reduceLT, Int.reduceLE, Int.reduceEq, Int.reduceNe, Int.reduceBEq, Nat.reduceBEq, Int.reduceBNe, Nat.reduceBNe, Int.reduceAdd, Int.reduceSub, Int.reduceMul, Int.reduceNeg]
  refine (RefFall_c X a z base cap H hs hok hb).mono ?_; rintro _ _ ⟨R2, hJ2, rfl, rfl⟩
  obtain rfl : R = R2 := hJ.uniq hJ2 fun t => Iff.rfl
  clear hJ2
  cases hf : R.find? (fp a z) with
  | none =>
    have e : fallV R a z = (0, false) := by rw [fallV, hf]
    have e2 : measV L R a z = (0, 3) := by rw [measV, hf]
    simp (dsimp := false) (maxSteps := 4000000) only [e, go_sem, ↓reduceIte, Nat.reduceEqDiff, Nat.reduceLT, Nat.reduceLeDiff, Nat.reduceAdd, Nat.reduceMul, Nat.reduceSub, reduceCtorEq, Int.reduceToNat, Int.reduceLT, Int.reduceLE, Int.reduceEq, Int.reduceNe, Int.reduceBEq, Nat.reduceBEq, Int.reduceBNe, Nat.reduceBNe, Int.reduceAdd, Int.reduceSub, Int.reduceMul, Int.reduceNeg]
    exact ⟨H, AH.le_refl _, by rw [e2], rfl⟩
  | some s =>
    have e : fallV R a z = (s.1, true) := by rw [fallV, hf]
    simp (dsimp := false) (maxSteps := 4000000) only [e, go_sem, ↓reduceIte, Nat.reduceEqDiff, Nat.reduceLT, Nat.reduceLeDiff, Nat.reduceAdd, Nat.reduceMul, Nat.reduceSub, reduceCtorEq, Int.reduceToNat, Int.reduceLT, Int.reduceLE, Int.reduceEq, Int.reduceNe, Int.reduceBEq, Nat.reduceBEq, Int.reduceBNe, Nat.reduceBNe, Int.reduceAdd, Int.reduceSub, Int.reduceMul, Int.reduceNeg]
    refine (RefFalls_c X R hJ a 5 ha (by omega) 5 rfl base cap H hs hok hb).mono ?_; rintro _ A ⟨bf, cf, rfl, hF, hK⟩
    by_cases h5 : (fl R a 5).length < 5
    · have e2 : measV L R a z = (0, 9) := by rw [measV, hf]; simp only [h5, if_true]
      have h5' : ((fl R a 5).length : Int) < 5 := by omega
      simp (dsimp := false) (maxSteps := 4000000) only [h5', go_sem, ↓reduceIte, Nat.reduceEqDiff, Nat.reduceLT, Nat.reduceLeDiff, Nat.reduceAdd, Nat.reduceMul, Nat.reduceSub, reduceCtorEq, Int.reduceToNat, Int.reduceLT, Int.reduceLE, Int.reduceEq, Int.reduceNe, Int.reduceBEq, Nat.reduceBEq, Int.reduceBNe, Nat.reduceBNe, Int.reduceAdd, Int.reduceSub, Int.reduceMul, Int.reduceNeg]
      exact ⟨H, hK.all, by rw [e2], rfl⟩
    · have e2 : measV L R a z = (IntKind.i64.wrap (localv L ((fl R a 5).getD 4 0) - localv L ((fl R a 5).getD 0 0)), 0) := by rw [measV, hf]; simp only [h5, if_false]
      have h5' : ¬ ((fl R a 5).length : Int) < 5 := by omega
      have h4 : (4 : Int) < ((fl R a 5).length : Int) := by omega
      have h0 : (0 : Int) < ((fl R a 5).length : Int) := by omega
      obtain ⟨bb, o, rfl, _, r4⟩ := hF.get (map_get (f := encI) (gI h5 4 (by omega)))
      have q4 := r4 0 _ rfl
      have q0 : A.rd ⟨bb, o, none⟩ = some (.int .i64 ((fl R a 5).getD 0 0)) := hF.rd bb o rfl 0 0 _ _ (map_get (f := encI) (gI h5 0 (by omega))) rfl
      have hLA := hL.keep hK fun _ _ h => h
      simp (dsimp := false) (maxSteps := 4000000) only [h5', go_sem, ↓reduceIte, Nat.reduceEqDiff, Nat.reduceLT, Nat.reduceLeDiff, Nat.reduceAdd, Nat.reduceMul, Nat.reduceSub, reduceCtorEq, Int.reduceToNat, Int.reduceLT, Int.reduceLE, Int.reduceEq, Int.reduceNe, Int.reduceBEq, Nat.reduceBEq, Int.reduceBNe, Nat.reduceBNe, Int.reduceAdd, Int.reduceSub, Int.reduceMul, Int.reduceNeg]
      refine AWp.gen [.pu, .pu, .pu, .rd, .ch, .pu, .pu, .pu, .rd, .ch, .pu, .pu, .pu] [0, 0, 2, 6, 15, 0, 0, 64, 192, 511, 1023, 2047, 4095] 5 (_) mixed (by kernel_rfl) (AH.le_refl _) ?_
      simp (dsimp := false) (maxSteps := 4000000) only [h4, h0, q4, q0, AH.le_refl, go_sem, ↓reduceIte, Nat.reduceEqDiff, Nat.reduceLT, Nat.reduceLeDiff, Nat.reduceAdd, Nat.reduceMul, Nat.reduceSub, reduceCtorEq, Int.reduceToNat, Int.reduceLT, Int.reduceLE, Int.reduceEq, Int.reduceNe, Int.reduceBEq, Nat.reduceBEq, Int.reduceBNe, Nat.reduceBNe, Int.reduceAdd, Int.reduceSub, Int.reduceMul, Int.reduceNeg]
      refine (RefLocal_c L ((fl R a 5).getD 4 0) hg lb lc _ hLA).mono ?_; rintro _ _ ⟨rfl, rfl⟩
      simp (dsimp := false) (maxSteps := 4000000) only [h0, q0, AH.le_refl, go_sem, ↓reduceIte, Nat.reduceEqDiff, Nat.reduceLT, Nat.reduceLeDiff, Nat.reduceAdd, Nat.reduceMul, Nat.reduceSub, reduceCtorEq, Int.reduceToNat, Int.reduceLT, Int.reduceLE, Int.reduceEq, Int.reduceNe, Int.reduceBEq, Nat.reduceBEq, Int.reduceBNe, Nat.reduceBNe, Int.reduceAdd, Int.reduceSub, Int.reduceMul, Int.reduceNeg]
      refine (RefLocal_c L ((fl R a 5).getD 0 0) hg lb lc _ hLA).mono ?_; rintro _ _ ⟨rfl, rfl⟩
      simp (dsimp := false) (maxSteps := 4000000) only [AH.le_refl, go_sem, ↓reduceIte, Nat.reduceEqDiff, Nat.reduceLT, Nat.reduceLeDiff, Nat.reduceAdd, Nat.reduceMul, Nat.reduceSub, reduceCtorEq, Int.reduceToNat, Int.reduceLT, Int.reduceLE, Int.reduceEq, Int.reduceNe, Int.reduceBEq, Nat.reduceBEq, Int.reduceBNe, Nat.reduceBNe, Int.reduceAdd, Int.reduceSub, Int.reduceMul, Int.reduceNeg]
      exact ⟨H, hK.all, by rw [e2], rfl⟩
theorem Fits_c (n : Int) (H : AH) : ACalls Try.prog 14 #[.int .i64 n] H (fun v H' => v = .bool (decide (124 ≤ n) && decide (n ≤ 132)) ∧ H = H') := by
  refine ACalls.enter2 Try.func14 rfl Try.ntmps14 Try.results14 (by simp) ?_; simp (dsimp := false) (maxSteps := 4000000) only [go_sem, ↓reduceIte, Nat.reduceEqDiff, Nat.reduceLT, Nat.reduceLeDiff, Nat.reduceAdd, Nat.reduceMul, Nat.reduceSub, reduceCtorEq, Int.reduceToNat, Int.reduceLT, Int.reduceLE, Int.reduceEq, Int.reduceNe, Int.reduceBEq, Nat.reduceBEq, Int.reduceBNe, Nat.reduceBNe, Int.reduceAdd, Int.reduceSub, Int.reduceMul, Int.reduceNeg]
  by_cases h : 124 ≤ n
  · simp (dsimp := false) (maxSteps := 4000000) only [h, go_sem, ↓reduceIte, Nat.reduceEqDiff, Nat.reduceLT, Nat.reduceLeDiff, Nat.reduceAdd, Nat.reduceMul, Nat.reduceSub, reduceCtorEq, Int.reduceToNat, Int.reduceLT, Int.reduceLE, Int.reduceEq, Int.reduceNe, Int.reduceBEq, Nat.reduceBEq, Int.reduceBNe, Nat.reduceBNe, Int.reduceAdd, Int.reduceSub, Int.reduceMul, Int.reduceNeg]
    exact ⟨H, (AH.le_refl _), (by first | exact ⟨by simp [h], rfl⟩ | rfl)⟩
  · simp (dsimp := false) (maxSteps := 4000000) only [h, go_sem, ↓reduceIte, Nat.reduceEqDiff, Nat.reduceLT, Nat.reduceLeDiff, Nat.reduceAdd, Nat.reduceMul, Nat.reduceSub, reduceCtorEq, Int.reduceToNat, Int.reduceLT, Int.reduceLE, Int.reduceEq, Int.reduceNe, Int.reduceBEq, Nat.reduceBEq, Int.reduceBNe, Nat.reduceBNe, Int.reduceAdd, Int.reduceSub, Int.reduceMul, Int.reduceNeg]
    exact ⟨H, (AH.le_refl _), (by first | exact ⟨by simp [h], rfl⟩ | rfl)⟩
end Go.Proofs.Ytapfabjmooagaaa.Baud
