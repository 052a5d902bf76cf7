/- send: Window, Spans and the reference's Spans: what each comes to. -/
import Derived.Test.YtapfabjmooagaaaTck
import Derived.Test.YtapfabjmooagaaaUaP
import Derived.Test.YtapfabjmooagaaaWire8
namespace Go.Proofs.Ytapfabjmooagaaa.Send
set_option linter.unusedSimpArgs false
set_option linter.unusedVariables false
open Go Go.AX Go.Proofs Ty Go.Proofs.Ytapfabjmooagaaa.Srt Go.Proofs.Ytapfabjmooagaaa.Wire Go.Proofs.Ytapfabjmooagaaa.Tck
set_option maxHeartbeats 4000000
set_option maxRecDepth 10000

def bsp (L : List Stp) (t : Int) (i : Nat) : Sp := (globalv L (t + 16 * i), globalv L (t + 16 * i + 16))
def fsp (L : List Stp) (t : Int) (F : List Bool) : Nat → List Sp
  | 0 => []
  | i + 1 => fsp L t F i ++ if F[i]? = some false then [bsp L t i] else []
theorem fsp_len (L : List Stp) (t : Int) (F : List Bool) : ∀ i, (fsp L t F i).length ≤ i
  | 0 => Nat.le_refl _
  | i + 1 => by
    have := fsp_len L t F i
    rw [fsp, List.length_append]
    split <;> simp <;> omega
theorem fsp_mem {L : List Stp} {t : Int} {F : List Bool} : ∀ {i : Nat} {s : Sp}, s ∈ fsp L t F i → ∃ j, j < i ∧ s = bsp L t j
  | 0, s, h => by cases h
  | i + 1, s, h => by
    rcases List.mem_append.1 h with h | h
    · obtain ⟨j, hj, e⟩ := fsp_mem h
      exact ⟨j, by omega, e⟩
    · split at h
      · simp at h; exact ⟨i, by omega, h⟩
      · cases h
theorem fsp_ok (L : List Stp) (t : Int) (F : List Bool) (i : Nat) : ∀ s ∈ fsp L t F i, okSp s = true := fun s hs => by
  obtain ⟨j, _, rfl⟩ := fsp_mem hs
  have h1 := globalv_spec L (t + 16 * j)
  have h2 := globalv_spec L (t + 16 * j + 16)
  refine okSp_iff.2 ?_
  simp only [bsp]
  omega
theorem Spans_c (L : List Stp) (t : Int) (h0 : 0 ≤ t) (h1 : t ≤ 4294967296) (F : List Bool) (hF : F.length = 11) (hg : good L = true) (base : Option Addr) (cap : Nat) (H : AH) (hs : SlcIn H 2 base cap (L.map enc)) :
    ACalls Try.prog 15 #[.slice base L.length cap, .int .i64 t, .agg (F.map Value.bool).toArray] H (fun v H' => ∃ R b c, v = .slice b R.length c ∧ JoinOf (fsp L t F 11) R ∧ SlcIn H' 2 b c (R.map encP) ∧ Keep H H' fun _ => False) := by
  refine ACalls.enter2 Try.func15 rfl Try.ntmps15 Try.results15 (by simp) ?_; simp (dsimp := false) (maxSteps := 4000000) only [go_sem, ↓reduceIte, Nat.reduceEqDiff, Nat.reduceLT, Nat.reduceLeDiff, Nat.reduceAdd, Nat.reduceMul, Nat.reduceSub, reduceCtorEq, Int.reduceToNat, Int.reduceLT, Int.reduceLE, Int.reduceEq, Int.reduceNe, Int.reduceBEq, Nat.reduceBEq, Int.reduceBNe, Nat.reduceBNe, Int.reduceAdd, Int.reduceSub, Int.reduceMul, Int.reduceNeg]
  
  refine AllB.mk fun b5 h_b5 => ?_
  simp (dsimp := false) (maxSteps := 4000000) only [rd_add_self, hF, go_sem, ↓reduceIte, Nat.reduceEqDiff, Nat.reduceLT, Nat.reduceLeDiff, Nat.reduceAdd, Nat.reduceMul, Nat.reduceSub, reduceCtorEq, Int.reduceToNat, Int.reduceLT, Int.reduceLE, Int.reduceEq, Int.reduceNe, Int.reduceBEq, Nat.reduceBEq, Int.reduceBNe, Nat.reduceBNe, Int.reduceAdd, Int.reduceSub, Int.reduceMul, Int.reduceNeg]
  refine AWp.loopr (ι := Nat × Option Addr × Nat) (fun x A => x.1 ≤ 11 ∧ OwnS H A 53 2 x.2.1 x.2.2 ((fsp L t F x.1).map encP) ∧ Keep H A fun _ => False)
    (fun x => [(12, .int .i64 x.1), (11, .agg (F.map Value.bool).toArray), (7, .slice x.2.1 (fsp L t F x.1).length x.2.2), (0, .slice base L.length cap), (1, .int .i64 t)]) (fun x => 11 - x.1) (0, none, 0) (H.add b5 (.cells (F.map Value.bool) 41 F.length))
    ⟨by simp, OwnS.nil, Keep.refl.nw h_b5⟩ (FrLe.of_lks ?_) (AH.le_refl _) fun x A hi Q again out => ?_
  · simp (dsimp := false) (maxSteps := 4000000) only [hF, go_sem, ↓reduceIte, Nat.reduceEqDiff, Nat.reduceLT, Nat.reduceLeDiff, Nat.reduceAdd, Nat.reduceMul, Nat.reduceSub, reduceCtorEq, Int.reduceToNat, Int.reduceLT, Int.reduceLE, Int.reduceEq, Int.reduceNe, Int.reduceBEq, Nat.reduceBEq, Int.reduceBNe, Nat.reduceBNe, Int.reduceAdd, Int.reduceSub, Int.reduceMul, Int.reduceNeg]
    rfl
  clear h_b5
  obtain ⟨i, bo, co⟩ := x
  obtain ⟨hi, hO, hK⟩ := hi
  dsimp only at hi hO again ⊢
  have hfl := fsp_len L t F i
  by_cases h : (i : Int) < 11
  case neg =>
    obtain rfl : i = 11 := by omega
    simp (dsimp := false) (maxSteps := 4000000) only [h, hF, go_sem, ↓reduceIte, Nat.reduceEqDiff, Nat.reduceLT, Nat.reduceLeDiff, Nat.reduceAdd, Nat.reduceMul, Nat.reduceSub, reduceCtorEq, Int.reduceToNat, Int.reduceLT, Int.reduceLE, Int.reduceEq, Int.reduceNe, Int.reduceBEq, Nat.reduceBEq, Int.reduceBNe, Nat.reduceBNe, Int.reduceAdd, Int.reduceSub, Int.reduceMul, Int.reduceNeg]
    refine out _ _ _ (by simp) ?_
    simp (dsimp := false) (maxSteps := 4000000) only [hF, go_sem, ↓reduceIte, Nat.reduceEqDiff, Nat.reduceLT, Nat.reduceLeDiff, Nat.reduceAdd, Nat.reduceMul, Nat.reduceSub, reduceCtorEq, Int.reduceToNat, Int.reduceLT, Int.reduceLE, Int.reduceEq, Int.reduceNe, Int.reduceBEq, Nat.reduceBEq, Int.reduceBNe, Nat.reduceBNe, Int.reduceAdd, Int.reduceSub, Int.reduceMul, Int.reduceNeg]
    refine AllB.mk fun b34 h_b34 => ?_
    simp (dsimp := false) (maxSteps := 4000000) only [hF, go_sem, ↓reduceIte, Nat.reduceEqDiff, Nat.reduceLT, Nat.reduceLeDiff, Nat.reduceAdd, Nat.reduceMul, Nat.reduceSub, reduceCtorEq, Int.reduceToNat, Int.reduceLT, Int.reduceLE, Int.reduceEq, Int.reduceNe, Int.reduceBEq, Nat.reduceBEq, Int.reduceBNe, Nat.reduceBNe, Int.reduceAdd, Int.reduceSub, Int.reduceMul, Int.reduceNeg]
    refine (Join1_c h_b34 hO.slc (by omega)).mono ?_; rintro _ A' ⟨R, b, c, rfl, hJ, hR, hK'⟩
    simp (dsimp := false) (maxSteps := 4000000) only [hF, go_sem, ↓reduceIte, Nat.reduceEqDiff, Nat.reduceLT, Nat.reduceLeDiff, Nat.reduceAdd, Nat.reduceMul, Nat.reduceSub, reduceCtorEq, Int.reduceToNat, Int.reduceLT, Int.reduceLE, Int.reduceEq, Int.reduceNe, Int.reduceBEq, Nat.reduceBEq, Int.reduceBNe, Nat.reduceBNe, Int.reduceAdd, Int.reduceSub, Int.reduceMul, Int.reduceNeg]
    exact ⟨A', AH.le_refl _, R, b, c, rfl, hJ, hR, hK.trans hK'⟩
  obtain ⟨x, hx⟩ := get_some (l := F) (i := i) (by omega)
  have hr : (F.map Value.bool)[i]? = some (.bool x) := by rw [List.getElem?_map, hx]; rfl
  have ee := i64_succ (i := i) (by omega)
  have p0 : (0 : Int) ≤ (i : Int) := by omega
  have e1 : IntKind.i64.wrap (16 * (i : Int)) = 16 * i := i64_eq (by omega) (by omega)
  have e2 : IntKind.i64.wrap (t + 16 * i) = t + 16 * i := i64_eq (by omega) (by omega)
  have e3 : IntKind.i64.wrap (t + 16 * i + 16) = t + 16 * i + 16 := i64_eq (by omega) (by omega)
  have hsA := hs.keep hK fun _ _ h => h
  cases x with
  | true =>
    have hst : fsp L t F (i + 1) = fsp L t F i := by rw [fsp, hx]; simp
    simp (dsimp := false) (maxSteps := 4000000) only [h, hr, p0, ee, hF, go_sem, ↓reduceIte, Nat.reduceEqDiff, Nat.reduceLT, Nat.reduceLeDiff, Nat.reduceAdd, Nat.reduceMul, Nat.reduceSub, reduceCtorEq, Int.reduceToNat, Int.reduceLT, Int.reduceLE, Int.reduceEq, Int.reduceNe, Int.reduceBEq, Nat.reduceBEq, Int.reduceBNe, Nat.reduceBNe, Int.reduceAdd, Int.reduceSub, Int.reduceMul, Int.reduceNeg]
    refine again (i + 1, bo, co) _ A _ ⟨by simp only; omega, by simp only [hst]; exact hO, hK⟩ (FrLe.of_lks ?_) (AH.le_refl _) (by simp only; omega)
    rw [hst]
    simp (dsimp := false) (maxSteps := 4000000) only [hF, go_sem, ↓reduceIte, Nat.reduceEqDiff, Nat.reduceLT, Nat.reduceLeDiff, Nat.reduceAdd, Nat.reduceMul, Nat.reduceSub, reduceCtorEq, Int.reduceToNat, Int.reduceLT, Int.reduceLE, Int.reduceEq, Int.reduceNe, Int.reduceBEq, Nat.reduceBEq, Int.reduceBNe, Nat.reduceBNe, Int.reduceAdd, Int.reduceSub, Int.reduceMul, Int.reduceNeg]
  | false =>
    have hst : fsp L t F (i + 1) = fsp L t F i ++ [bsp L t i] := by rw [fsp, hx]; simp
    simp (dsimp := false) (maxSteps := 4000000) only [h, hr, p0, e1, e2, hF, go_sem, ↓reduceIte, Nat.reduceEqDiff, Nat.reduceLT, Nat.reduceLeDiff, Nat.reduceAdd, Nat.reduceMul, Nat.reduceSub, reduceCtorEq, Int.reduceToNat, Int.reduceLT, Int.reduceLE, Int.reduceEq, Int.reduceNe, Int.reduceBEq, Nat.reduceBEq, Int.reduceBNe, Nat.reduceBNe, Int.reduceAdd, Int.reduceSub, Int.reduceMul, Int.reduceNeg]
    refine (Global_c L (t + 16 * i) hg base cap _ hsA).mono ?_; rintro _ _ ⟨rfl, rfl⟩
    simp (dsimp := false) (maxSteps := 4000000) only [e3, hF, go_sem, ↓reduceIte, Nat.reduceEqDiff, Nat.reduceLT, Nat.reduceLeDiff, Nat.reduceAdd, Nat.reduceMul, Nat.reduceSub, reduceCtorEq, Int.reduceToNat, Int.reduceLT, Int.reduceLE, Int.reduceEq, Int.reduceNe, Int.reduceBEq, Nat.reduceBEq, Int.reduceBNe, Nat.reduceBNe, Int.reduceAdd, Int.reduceSub, Int.reduceMul, Int.reduceNeg]
    refine (Global_c L (t + 16 * i + 16) hg base cap _ hsA).mono ?_; rintro _ _ ⟨rfl, rfl⟩
    simp (dsimp := false) (maxSteps := 4000000) only [hF, go_sem, ↓reduceIte, Nat.reduceEqDiff, Nat.reduceLT, Nat.reduceLeDiff, Nat.reduceAdd, Nat.reduceMul, Nat.reduceSub, reduceCtorEq, Int.reduceToNat, Int.reduceLT, Int.reduceLE, Int.reduceEq, Int.reduceNe, Int.reduceBEq, Nat.reduceBEq, Int.reduceBNe, Nat.reduceBNe, Int.reduceAdd, Int.reduceSub, Int.reduceMul, Int.reduceNeg]
    refine AllB.mk fun b41 h_b41 => ?_
    simp (dsimp := false) (maxSteps := 4000000) only [hF, go_sem, ↓reduceIte, Nat.reduceEqDiff, Nat.reduceLT, Nat.reduceLeDiff, Nat.reduceAdd, Nat.reduceMul, Nat.reduceSub, reduceCtorEq, Int.reduceToNat, Int.reduceLT, Int.reduceLE, Int.reduceEq, Int.reduceNe, Int.reduceBEq, Nat.reduceBEq, Int.reduceBNe, Nat.reduceBNe, Int.reduceAdd, Int.reduceSub, Int.reduceMul, Int.reduceNeg]
    refine APD.growW (x := .slice (some ⟨b41, 0, none⟩) 1 1) (R' := [encP (bsp L t i)]) (m := 1) (hO.added h_b41) (hK.nw h_b41).all se_22 rfl (by decide) (by rw [Try.underlying22]; rfl) (by simp) rfl rfl (by rw [srow_some, row_add_self]; rfl) (by simp [encP]) (by simp [encP, scal]) (by omega) fun base2 cap2 A' hO' hK' hN' => ?_
    refine ⟨_, AH.le_refl _, ?_⟩
    simp (dsimp := false) (maxSteps := 4000000) only [ee, hF, go_sem, ↓reduceIte, Nat.reduceEqDiff, Nat.reduceLT, Nat.reduceLeDiff, Nat.reduceAdd, Nat.reduceMul, Nat.reduceSub, reduceCtorEq, Int.reduceToNat, Int.reduceLT, Int.reduceLE, Int.reduceEq, Int.reduceNe, Int.reduceBEq, Nat.reduceBEq, Int.reduceBNe, Nat.reduceBNe, Int.reduceAdd, Int.reduceSub, Int.reduceMul, Int.reduceNeg]
    have hK2 := (hK.nw h_b41).ow hK' fun b ⟨a, ha, e⟩ => e ▸ hO.fresh a ha
    have he : (fsp L t F i).map encP ++ [encP (bsp L t i)] = (fsp L t F (i + 1)).map encP := by rw [hst, List.map_append]; rfl
    rw [he] at hO'
    refine again (i + 1, base2, cap2) _ _ _ ⟨by simp only; omega, hO', hK2⟩ (FrLe.of_lks ?_) (AH.le_refl _) (by simp only; omega)
    have hl1 : (fsp L t F (i + 1)).length = (fsp L t F i).length + 1 := by rw [hst]; simp
    rw [hl1]
    simp (dsimp := false) (maxSteps := 4000000) only [hF, go_sem, ↓reduceIte, Nat.reduceEqDiff, Nat.reduceLT, Nat.reduceLeDiff, Nat.reduceAdd, Nat.reduceMul, Nat.reduceSub, reduceCtorEq, Int.reduceToNat, Int.reduceLT, Int.reduceLE, Int.reduceEq, Int.reduceNe, Int.reduceBEq, Nat.reduceBEq, Int.reduceBNe, Nat.reduceBNe, Int.reduceAdd, Int.reduceSub, Int.reduceMul, Int.reduceNeg]
end Go.Proofs.Ytapfabjmooagaaa.Send
