/- wire: Low, High, Meet, Same, few, near. -/
import Derived.Test.YtapfabjmooagaaaWire3
namespace Go.Proofs.Ytapfabjmooagaaa.Wire
set_option linter.unusedSimpArgs false
set_option linter.unusedVariables false
open Go Go.AX Go.Proofs Ty Go.Proofs.Ytapfabjmooagaaa.Srt Go.Proofs.Ytapfabjmooagaaa.CatP
set_option maxHeartbeats 4000000
set_option maxRecDepth 10000

def lowP (t : Int) (s : Sp) : Bool := decide (s.1 ≤ t) && decide (t < s.2)
def lowB (X : List Sp) (t : Int) : Bool := X.any (lowP t)
theorem lowB_iff {X : List Sp} {t : Int} : lowB X t = true ↔ low X t := by
  simp [lowB, low, lowP, List.any_eq_true]
theorem lowB_not {X : List Sp} {t : Int} : lowB X t = false ↔ ¬ low X t := by
  rw [← lowB_iff]; simp
theorem RefLow_c (L : List Sp) (t : Int) (base : Option Addr) (cap : Nat) (H : AH) (hs : SlcIn H 2 base cap (L.map encP)) :
    ACalls Try.prog 33 #[.slice base L.length cap, .int .i64 t] H (fun v H' => v = .bool (lowB L t) ∧ H = H') := by
  have hbig := hs.big
  simp only [List.length_map] at hbig
  refine ACalls.enter2 Try.func33 rfl Try.ntmps33 Try.results33 (by simp) ?_; simp (dsimp := false) (maxSteps := 4000000) only [go_sem, ↓reduceIte, Nat.reduceEqDiff, Nat.reduceLT, Nat.reduceLeDiff, Nat.reduceAdd, Nat.reduceMul, Nat.reduceSub, reduceCtorEq, Int.reduceToNat, Int.reduceLT, Int.reduceLE, Int.reduceEq, Int.reduceNe, Int.reduceBEq, Nat.reduceBEq, Int.reduceBNe, Nat.reduceBNe, Int.reduceAdd, Int.reduceSub, Int.reduceMul, Int.reduceNeg]
  refine AWp.loopo (ι := Nat) (fun i => i ≤ L.length ∧ ∀ j, j < i → ∀ s, L[j]? = some s → lowP t s = false) (fun i => [(5, .int .i64 i), (0, .slice base L.length cap), (1, .int .i64 t)])
    (fun _ => H) (fun i => L.length - i) 0 ⟨by omega, fun j hj => by omega⟩ (FrLe.of_lks ?_) (AH.le_refl _) fun i hi Q again out => ?_
  · simp (dsimp := false) (maxSteps := 4000000) only [go_sem, ↓reduceIte, Nat.reduceEqDiff, Nat.reduceLT, Nat.reduceLeDiff, Nat.reduceAdd, Nat.reduceMul, Nat.reduceSub, reduceCtorEq, Int.reduceToNat, Int.reduceLT, Int.reduceLE, Int.reduceEq, Int.reduceNe, Int.reduceBEq, Nat.reduceBEq, Int.reduceBNe, Nat.reduceBNe, Int.reduceAdd, Int.reduceSub, Int.reduceMul, Int.reduceNeg]
  obtain ⟨hi, hall⟩ := hi
  by_cases h : (i : Int) < L.length
  · obtain ⟨⟨x, y⟩, hx⟩ := get_some (l := L) (i := i) (by omega)
    obtain ⟨b, o, rfl, hrow, hrd⟩ := hs.get (map_get (f := encP) hx)
    have r0 := hrd 0 _ rfl
    have r1 := hrd 1 _ rfl
    simp only [Nat.add_zero] at r0 r1
    have ee := i64_succ (i := i) (by omega)
    by_cases h0 : x ≤ t
    · by_cases h1 : t < y
      · have e : lowB L t = true := List.any_eq_true.2 ⟨(x, y), List.mem_of_getElem? hx, by simp [lowP, h0, h1]⟩
        simp (dsimp := false) (maxSteps := 4000000) only [h, r0, r1, h0, h1, go_sem, ↓reduceIte, Nat.reduceEqDiff, Nat.reduceLT, Nat.reduceLeDiff, Nat.reduceAdd, Nat.reduceMul, Nat.reduceSub, reduceCtorEq, Int.reduceToNat, Int.reduceLT, Int.reduceLE, Int.reduceEq, Int.reduceNe, Int.reduceBEq, Nat.reduceBEq, Int.reduceBNe, Nat.reduceBNe, Int.reduceAdd, Int.reduceSub, Int.reduceMul, Int.reduceNeg]
        refine out _ _ _ (by simp) ?_
        simp (dsimp := false) (maxSteps := 4000000) only [go_sem, ↓reduceIte, Nat.reduceEqDiff, Nat.reduceLT, Nat.reduceLeDiff, Nat.reduceAdd, Nat.reduceMul, Nat.reduceSub, reduceCtorEq, Int.reduceToNat, Int.reduceLT, Int.reduceLE, Int.reduceEq, Int.reduceNe, Int.reduceBEq, Nat.reduceBEq, Int.reduceBNe, Nat.reduceBNe, Int.reduceAdd, Int.reduceSub, Int.reduceMul, Int.reduceNeg]
        exact ⟨H, (AH.le_refl _), (by first | exact ⟨by rw [e], rfl⟩ | rfl)⟩
      · simp (dsimp := false) (maxSteps := 4000000) only [h, r0, r1, h0, h1, ee, go_sem, ↓reduceIte, Nat.reduceEqDiff, Nat.reduceLT, Nat.reduceLeDiff, Nat.reduceAdd, Nat.reduceMul, Nat.reduceSub, reduceCtorEq, Int.reduceToNat, Int.reduceLT, Int.reduceLE, Int.reduceEq, Int.reduceNe, Int.reduceBEq, Nat.reduceBEq, Int.reduceBNe, Nat.reduceBNe, Int.reduceAdd, Int.reduceSub, Int.reduceMul, Int.reduceNeg]
        refine again (i + 1) _ _ ⟨by omega, fun j hj m hm => ?_⟩ (FrLe.of_lks (by simp (dsimp := false) (maxSteps := 4000000) only [go_sem, ↓reduceIte, Nat.reduceEqDiff, Nat.reduceLT, Nat.reduceLeDiff, Nat.reduceAdd, Nat.reduceMul, Nat.reduceSub, reduceCtorEq, Int.reduceToNat, Int.reduceLT, Int.reduceLE, Int.reduceEq, Int.reduceNe, Int.reduceBEq, Nat.reduceBEq, Int.reduceBNe, Nat.reduceBNe, Int.reduceAdd, Int.reduceSub, Int.reduceMul, Int.reduceNeg])) (AH.le_refl _) (by omega)
        by_cases hji : j = i
        · subst hji; rw [hx] at hm; cases hm; simp [lowP, h1]
        · exact hall j (by omega) m hm
    · simp (dsimp := false) (maxSteps := 4000000) only [h, r0, h0, ee, go_sem, ↓reduceIte, Nat.reduceEqDiff, Nat.reduceLT, Nat.reduceLeDiff, Nat.reduceAdd, Nat.reduceMul, Nat.reduceSub, reduceCtorEq, Int.reduceToNat, Int.reduceLT, Int.reduceLE, Int.reduceEq, Int.reduceNe, Int.reduceBEq, Nat.reduceBEq, Int.reduceBNe, Nat.reduceBNe, Int.reduceAdd, Int.reduceSub, Int.reduceMul, Int.reduceNeg]
      refine again (i + 1) _ _ ⟨by omega, fun j hj m hm => ?_⟩ (FrLe.of_lks (by simp (dsimp := false) (maxSteps := 4000000) only [go_sem, ↓reduceIte, Nat.reduceEqDiff, Nat.reduceLT, Nat.reduceLeDiff, Nat.reduceAdd, Nat.reduceMul, Nat.reduceSub, reduceCtorEq, Int.reduceToNat, Int.reduceLT, Int.reduceLE, Int.reduceEq, Int.reduceNe, Int.reduceBEq, Nat.reduceBEq, Int.reduceBNe, Nat.reduceBNe, Int.reduceAdd, Int.reduceSub, Int.reduceMul, Int.reduceNeg])) (AH.le_refl _) (by omega)
      by_cases hji : j = i
      · subst hji; rw [hx] at hm; cases hm; simp [lowP, h0]
      · exact hall j (by omega) m hm
  · have e : lowB L t = false := by
      rw [lowB, List.any_eq_false]
      intro s hx
      obtain ⟨j, hj⟩ := List.mem_iff_getElem?.1 hx
      rw [hall j (by have := lt_of_get hj; omega) s hj]; simp
    simp (dsimp := false) (maxSteps := 4000000) only [h, go_sem, ↓reduceIte, Nat.reduceEqDiff, Nat.reduceLT, Nat.reduceLeDiff, Nat.reduceAdd, Nat.reduceMul, Nat.reduceSub, reduceCtorEq, Int.reduceToNat, Int.reduceLT, Int.reduceLE, Int.reduceEq, Int.reduceNe, Int.reduceBEq, Nat.reduceBEq, Int.reduceBNe, Nat.reduceBNe, Int.reduceAdd, Int.reduceSub, Int.reduceMul, Int.reduceNeg]
    refine out _ _ _ (by simp) ?_
    simp (dsimp := false) (maxSteps := 4000000) only [go_sem, ↓reduceIte, Nat.reduceEqDiff, Nat.reduceLT, Nat.reduceLeDiff, Nat.reduceAdd, Nat.reduceMul, Nat.reduceSub, reduceCtorEq, Int.reduceToNat, Int.reduceLT, Int.reduceLE, Int.reduceEq, Int.reduceNe, Int.reduceBEq, Nat.reduceBEq, Int.reduceBNe, Nat.reduceBNe, Int.reduceAdd, Int.reduceSub, Int.reduceMul, Int.reduceNeg]
    exact ⟨H, (AH.le_refl _), (by first | exact ⟨by rw [e], rfl⟩ | rfl)⟩
theorem high1_c (x : Sp) (t : Int) (b : Nat) (H : AH) (hb : H.rd ⟨b, 0, none⟩ = some (.int .i64 t)) : ACalls Try.prog 47 ([] ++ [Value.agg (encP x).toArray] ++ [Value.pointer (some ⟨b, 0, none⟩)]).toArray H (fun v H' => v = .bool (lowP t x) ∧ H = H') := by
  obtain ⟨x, y⟩ := x
  show ACalls _ _ #[.agg #[.int .i64 x, .int .i64 y], .pointer (some ⟨b, 0, none⟩)] _ _
  refine ACalls.enter2 Try.func47 rfl Try.ntmps47 Try.results47 (by simp) ?_; simp (dsimp := false) (maxSteps := 4000000) only [go_sem, ↓reduceIte, Nat.reduceEqDiff, Nat.reduceLT, Nat.reduceLeDiff, Nat.reduceAdd, Nat.reduceMul, Nat.reduceSub, reduceCtorEq, Int.reduceToNat, Int.reduceLT, Int.reduceLE, Int.reduceEq, Int.reduceNe, Int.reduceBEq, Nat.reduceBEq, Int.reduceBNe, Nat.reduceBNe, Int.reduceAdd, Int.reduceSub, Int.reduceMul, Int.reduceNeg]
  refine AllB.mk fun b2 h_b2 => ?_; have hn_b2 := h_b2; (try simp only [fresh_add, fresh_set, ne_eq] at hn_b2); have hr_b2 := hn_b2; (try simp only [@eq_comm Nat b2] at hr_b2); simp (dsimp := false) (maxSteps := 4000000) only [hn_b2, hr_b2, go_sem, ↓reduceIte, Nat.reduceEqDiff, Nat.reduceLT, Nat.reduceLeDiff, Nat.reduceAdd, Nat.reduceMul, Nat.reduceSub, reduceCtorEq, Int.reduceToNat, Int.reduceLT, Int.reduceLE, Int.reduceEq, Int.reduceNe, Int.reduceBEq, Nat.reduceBEq, Int.reduceBNe, Nat.reduceBNe, Int.reduceAdd, Int.reduceSub, Int.reduceMul, Int.reduceNeg]
  have nr_hb := (Fresh.ne_rd (by simp only [hn_b2] : Fresh H b2) hb)
  by_cases h : x ≤ t
  · simp (dsimp := false) (maxSteps := 4000000) only [hb, nr_hb, h, hn_b2, hr_b2, go_sem, ↓reduceIte, Nat.reduceEqDiff, Nat.reduceLT, Nat.reduceLeDiff, Nat.reduceAdd, Nat.reduceMul, Nat.reduceSub, reduceCtorEq, Int.reduceToNat, Int.reduceLT, Int.reduceLE, Int.reduceEq, Int.reduceNe, Int.reduceBEq, Nat.reduceBEq, Int.reduceBNe, Nat.reduceBNe, Int.reduceAdd, Int.reduceSub, Int.reduceMul, Int.reduceNeg]
    exact ⟨H, (AH.le_add (AH.le_refl _) ((by simp only [fresh_add, fresh_set, ne_eq, hn_b2, not_false_eq_true, and_self] : Fresh _ b2).2)), (by first | exact ⟨by simp [lowP, h], rfl⟩ | rfl)⟩
  · simp (dsimp := false) (maxSteps := 4000000) only [hb, nr_hb, h, hn_b2, hr_b2, go_sem, ↓reduceIte, Nat.reduceEqDiff, Nat.reduceLT, Nat.reduceLeDiff, Nat.reduceAdd, Nat.reduceMul, Nat.reduceSub, reduceCtorEq, Int.reduceToNat, Int.reduceLT, Int.reduceLE, Int.reduceEq, Int.reduceNe, Int.reduceBEq, Nat.reduceBEq, Int.reduceBNe, Nat.reduceBNe, Int.reduceAdd, Int.reduceSub, Int.reduceMul, Int.reduceNeg]
    exact ⟨H, (AH.le_add (AH.le_refl _) ((by simp only [fresh_add, fresh_set, ne_eq, hn_b2, not_false_eq_true, and_self] : Fresh _ b2).2)), (by first | exact ⟨by simp [lowP, h], rfl⟩ | rfl)⟩
theorem High_c (L : List Sp) (t : Int) (base : Option Addr) (cap : Nat) (H : AH) (hs : SlcIn H 2 base cap (L.map encP)) :
    ACalls Try.prog 32 #[.slice base L.length cap, .int .i64 t] H (fun v H' => v = .bool (!lowB L t) ∧ H = H') := by
  refine ACalls.enter2 Try.func32 rfl Try.ntmps32 Try.results32 (by simp) ?_; simp (dsimp := false) (maxSteps := 4000000) only [go_sem, ↓reduceIte, Nat.reduceEqDiff, Nat.reduceLT, Nat.reduceLeDiff, Nat.reduceAdd, Nat.reduceMul, Nat.reduceSub, reduceCtorEq, Int.reduceToNat, Int.reduceLT, Int.reduceLE, Int.reduceEq, Int.reduceNe, Int.reduceBEq, Nat.reduceBEq, Int.reduceBNe, Nat.reduceBNe, Int.reduceAdd, Int.reduceSub, Int.reduceMul, Int.reduceNeg]
  refine AllB.mk fun b3 h_b3 => ?_; have hn_b3 := h_b3; (try simp only [fresh_add, fresh_set, ne_eq] at hn_b3); have hr_b3 := hn_b3; (try simp only [@eq_comm Nat b3] at hr_b3); simp (dsimp := false) (maxSteps := 4000000) only [hn_b3, hr_b3, go_sem, ↓reduceIte, Nat.reduceEqDiff, Nat.reduceLT, Nat.reduceLeDiff, Nat.reduceAdd, Nat.reduceMul, Nat.reduceSub, reduceCtorEq, Int.reduceToNat, Int.reduceLT, Int.reduceLE, Int.reduceEq, Int.reduceNe, Int.reduceBEq, Nat.reduceBEq, Int.reduceBNe, Nat.reduceBNe, Int.reduceAdd, Int.reduceSub, Int.reduceMul, Int.reduceNeg]
  refine (Contains_g (g := lowP t) (fid := 47) (caps := [.pointer (some ⟨b3, 0, none⟩)]) (hs.add h_b3) rfl (by kernel_rfl) fun x _ => high1_c x t b3 _ (by rw [rd_add_self]; rfl)).mono ?_; rintro _ _ ⟨rfl, rfl⟩
  simp (dsimp := false) (maxSteps := 4000000) only [hn_b3, hr_b3, go_sem, ↓reduceIte, Nat.reduceEqDiff, Nat.reduceLT, Nat.reduceLeDiff, Nat.reduceAdd, Nat.reduceMul, Nat.reduceSub, reduceCtorEq, Int.reduceToNat, Int.reduceLT, Int.reduceLE, Int.reduceEq, Int.reduceNe, Int.reduceBEq, Nat.reduceBEq, Int.reduceBNe, Nat.reduceBNe, Int.reduceAdd, Int.reduceSub, Int.reduceMul, Int.reduceNeg]
  exact ⟨H, (AH.le_add (AH.le_refl _) ((by simp only [fresh_add, fresh_set, ne_eq, hn_b3, not_false_eq_true, and_self] : Fresh _ b3).2)), (by first | exact ⟨rfl, rfl⟩ | rfl)⟩
def okSp (s : Sp) : Bool := decide (-1099511627776 ≤ s.1) && decide (s.1 ≤ 1099511627776) && decide (-1099511627776 ≤ s.2) && decide (s.2 ≤ 1099511627776)
def fewS (L : List Sp) (i : Nat) : List Sp := (L.take i).filter okSp
theorem fewS_succ {L : List Sp} {i : Nat} {s : Sp} (h : L[i]? = some s) : fewS L (i + 1) = if okSp s = true then fewS L i ++ [s] else fewS L i := by
  rw [fewS, List.take_add_one, h, List.filter_append]
  by_cases hs : okSp s = true <;> simp [hs, fewS]
theorem fewS_len (L : List Sp) (i : Nat) : (fewS L i).length ≤ i := by
  refine Nat.le_trans (List.length_filter_le _ _) ?_
  rw [List.length_take]; omega
end Go.Proofs.Ytapfabjmooagaaa.Wire
