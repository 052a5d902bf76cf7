/- baptize: Search of both sides. -/
import Derived.Test.YtgikjbfpckjkoaaBap2
namespace Go.Proofs.Ytgikjbfpckjkoaa.BapN
set_option linter.unusedSimpArgs false
set_option linter.unusedVariables false
open Go Go.AX Go.Proofs Ty
set_option maxHeartbeats 4000000
set_option maxRecDepth 10000

theorem Search_c (L : List Slv) (lb : Option Addr) (lc : Nat) (D : List Bool) (db : Option Addr) (dc : Nat) (H : AH) (hL : SlcIn H 2 lb lc (L.map enc)) (hD : SlcIn H 1 db dc (D.map encb)) :
    ACalls Try.prog 21 #[.slice lb L.length lc, .slice db D.length dc] H (fun v H' => v = .tuple #[.int .u64 (srch L D 0).1, .int .i64 (srch L D 0).2.1, .bool (srch L D 0).2.2] ∧ H = H') := by
  refine ACalls.enter2 Try.func21 rfl Try.ntmps21 Try.results21 (by simp) ?_; simp (dsimp := false) (maxSteps := 4000000) only [go_sem, ↓reduceIte, Nat.reduceEqDiff, Nat.reduceLT, Nat.reduceLeDiff, Nat.reduceAdd, Nat.reduceMul, Nat.reduceSub, reduceCtorEq, Int.reduceToNat, Int.reduceLT, Int.reduceLE, Int.reduceEq, Int.reduceNe, Int.reduceBEq, Nat.reduceBEq, Int.reduceBNe, Nat.reduceBNe, Int.reduceAdd, Int.reduceSub, Int.reduceMul, Int.reduceNeg]
  refine AllB.mk fun bm h_bm => ?_; have hn_bm := h_bm; (try simp only [fresh_add, fresh_set, ne_eq] at hn_bm); have hr_bm := hn_bm; (try simp only [@eq_comm Nat bm] at hr_bm); simp (dsimp := false) (maxSteps := 4000000) only [hn_bm, hr_bm, go_sem, ↓reduceIte, Nat.reduceEqDiff, Nat.reduceLT, Nat.reduceLeDiff, Nat.reduceAdd, Nat.reduceMul, Nat.reduceSub, reduceCtorEq, Int.reduceToNat, Int.reduceLT, Int.reduceLE, Int.reduceEq, Int.reduceNe, Int.reduceBEq, Nat.reduceBEq, Int.reduceBNe, Nat.reduceBNe, Int.reduceAdd, Int.reduceSub, Int.reduceMul, Int.reduceNeg]
  refine (search_c L lb lc D db dc bm 0 _ (find_add_self _ _ _) (fun B hk => (hL.add h_bm).past (hL.apart h_bm) hk) (fun B hk => (hD.add h_bm).past (hD.apart h_bm) hk) (by omega)).mono ?_; rintro _ A ⟨rfl, m1, K1⟩
  have hK := (Keep.refl.nw h_bm).ow K1 fun b e => e ▸ h_bm
  have m2 : A.rd ⟨bm, 2, none⟩ = some (.int .i64 (srch L D 0).2.1) := by rw [rd_find m1, Nat.zero_add]; rfl
  
  simp (dsimp := false) (maxSteps := 4000000) only [go_sem, ↓reduceIte, Nat.reduceEqDiff, Nat.reduceLT, Nat.reduceLeDiff, Nat.reduceAdd, Nat.reduceMul, Nat.reduceSub, reduceCtorEq, Int.reduceToNat, Int.reduceLT, Int.reduceLE, Int.reduceEq, Int.reduceNe, Int.reduceBEq, Nat.reduceBEq, Int.reduceBNe, Nat.reduceBNe, Int.reduceAdd, Int.reduceSub, Int.reduceMul, Int.reduceNeg]
  refine AWp.gen [.pu, .pu, .pu, .pu, .rd, .pu, .pu, .pu, .pu] [0, 0, 2, 6, 14, 0, 1, 95, 255] 0 (_) mixed (by kernel_rfl) (AH.le_refl _) ?_
  simp (dsimp := false) (maxSteps := 4000000) only [m2, go_sem, ↓reduceIte, Nat.reduceEqDiff, Nat.reduceLT, Nat.reduceLeDiff, Nat.reduceAdd, Nat.reduceMul, Nat.reduceSub, reduceCtorEq, Int.reduceToNat, Int.reduceLT, Int.reduceLE, Int.reduceEq, Int.reduceNe, Int.reduceBEq, Nat.reduceBEq, Int.reduceBNe, Nat.reduceBNe, Int.reduceAdd, Int.reduceSub, Int.reduceMul, Int.reduceNeg]
  exact ⟨H, hK.all, rfl⟩
theorem RefSearch_c (L : List Slv) (lb : Option Addr) (lc : Nat) (D : List Bool) (db : Option Addr) (dc r : Nat) (H : AH) (hL : SlcIn H 2 lb lc (L.map enc)) (hD : SlcIn H 1 db dc (D.map encb)) (hr : r < 900000000) :
    ACalls Try.prog 22 #[.slice lb L.length lc, .slice db D.length dc, .int .i64 r] H (fun v H' => v = .tuple #[.int .u64 (srch L D r).1, .int .i64 (srch L D r).2.1, .bool (srch L D r).2.2] ∧ H = H') := by
  have hbig := hL.big
  simp only [List.length_map] at hbig
  refine ACalls.enter2 Try.func22 rfl Try.ntmps22 Try.results22 (by simp) ?_; simp (dsimp := false) (maxSteps := 4000000) only [go_sem, ↓reduceIte, Nat.reduceEqDiff, Nat.reduceLT, Nat.reduceLeDiff, Nat.reduceAdd, Nat.reduceMul, Nat.reduceSub, reduceCtorEq, Int.reduceToNat, Int.reduceLT, Int.reduceLE, Int.reduceEq, Int.reduceNe, Int.reduceBEq, Nat.reduceBEq, Int.reduceBNe, Nat.reduceBNe, Int.reduceAdd, Int.reduceSub, Int.reduceMul, Int.reduceNeg]
  refine (RefAnswers_c L 18446744073709551615 lb lc _ hL).mono ?_; rintro _ _ ⟨rfl, rfl⟩
  cases h1 : ans L 18446744073709551615 with
  | false =>
    have e : srch L D r = (0, 1, false) := by
      rw [srch, if_neg]
      unfold top
      rw [h1]; simp
    simp (dsimp := false) (maxSteps := 4000000) only [go_sem, ↓reduceIte, Nat.reduceEqDiff, Nat.reduceLT, Nat.reduceLeDiff, Nat.reduceAdd, Nat.reduceMul, Nat.reduceSub, reduceCtorEq, Int.reduceToNat, Int.reduceLT, Int.reduceLE, Int.reduceEq, Int.reduceNe, Int.reduceBEq, Nat.reduceBEq, Int.reduceBNe, Nat.reduceBNe, Int.reduceAdd, Int.reduceSub, Int.reduceMul, Int.reduceNeg]
    exact ⟨H, (AH.le_refl _), (by first | exact ⟨by rw [e]; rfl, rfl⟩ | rfl)⟩
  | true =>
  simp (dsimp := false) (maxSteps := 4000000) only [go_sem, ↓reduceIte, Nat.reduceEqDiff, Nat.reduceLT, Nat.reduceLeDiff, Nat.reduceAdd, Nat.reduceMul, Nat.reduceSub, reduceCtorEq, Int.reduceToNat, Int.reduceLT, Int.reduceLE, Int.reduceEq, Int.reduceNe, Int.reduceBEq, Nat.reduceBEq, Int.reduceBNe, Nat.reduceBNe, Int.reduceAdd, Int.reduceSub, Int.reduceMul, Int.reduceNeg]
  refine (gone_c D r db dc _ hD).mono ?_; rintro _ _ ⟨rfl, rfl⟩
  cases h2 : gone D r with
  | true =>
    have e : srch L D r = (0, 1, false) := by
      rw [srch, if_neg]
      rw [h2]; simp
    simp (dsimp := false) (maxSteps := 4000000) only [go_sem, ↓reduceIte, Nat.reduceEqDiff, Nat.reduceLT, Nat.reduceLeDiff, Nat.reduceAdd, Nat.reduceMul, Nat.reduceSub, reduceCtorEq, Int.reduceToNat, Int.reduceLT, Int.reduceLE, Int.reduceEq, Int.reduceNe, Int.reduceBEq, Nat.reduceBEq, Int.reduceBNe, Nat.reduceBNe, Int.reduceAdd, Int.reduceSub, Int.reduceMul, Int.reduceNeg]
    exact ⟨H, (AH.le_refl _), (by first | exact ⟨by rw [e]; rfl, rfl⟩ | rfl)⟩
  | false =>
  have e : srch L D r = if (thr L (seaF L D 64 (r + 1) 0 top) && !gone D (r + 65)) = true then (seaF L D 64 (r + 1) 0 top, 66, true) else (0, 66, false) := by
    rw [srch, if_pos]
    unfold top
    rw [h1, h2]; rfl
  generalize hv : seaF L D 64 (r + 1) 0 top = hg at e
  simp (dsimp := false) (maxSteps := 4000000) only [go_sem, ↓reduceIte, Nat.reduceEqDiff, Nat.reduceLT, Nat.reduceLeDiff, Nat.reduceAdd, Nat.reduceMul, Nat.reduceSub, reduceCtorEq, Int.reduceToNat, Int.reduceLT, Int.reduceLE, Int.reduceEq, Int.reduceNe, Int.reduceBEq, Nat.reduceBEq, Int.reduceBNe, Nat.reduceBNe, Int.reduceAdd, Int.reduceSub, Int.reduceMul, Int.reduceNeg]
  refine AWp.loopo (ι := Nat × Int × Int) (fun x => (1 ≤ x.1 ∧ x.1 ≤ 65) ∧ (0 ≤ x.2.1 ∧ x.2.1 ≤ top) ∧ (0 ≤ x.2.2 ∧ x.2.2 ≤ top) ∧ hg = seaF L D (65 - x.1) (r + x.1) x.2.1 x.2.2)
    (fun x => [(12, .int .i64 x.1), (10, .int .u64 x.2.1), (11, .int .u64 x.2.2), (9, .int .u64 18446744073709551615), (0, .slice lb L.length lc), (1, .slice db D.length dc), (2, .int .i64 r)]) (fun _ => H) (fun x => 65 - x.1) (1, 0, top)
    ⟨⟨by decide, by decide⟩, ⟨by decide, by decide⟩, ⟨by decide, by decide⟩, hv.symm⟩ (FrLe.of_lks ?_) (AH.le_refl _) fun x hi Q again out => ?_
  · simp (dsimp := false) (maxSteps := 4000000) only [go_sem, ↓reduceIte, Nat.reduceEqDiff, Nat.reduceLT, Nat.reduceLeDiff, Nat.reduceAdd, Nat.reduceMul, Nat.reduceSub, reduceCtorEq, Int.reduceToNat, Int.reduceLT, Int.reduceLE, Int.reduceEq, Int.reduceNe, Int.reduceBEq, Nat.reduceBEq, Int.reduceBNe, Nat.reduceBNe, Int.reduceAdd, Int.reduceSub, Int.reduceMul, Int.reduceNeg]
    rfl
  obtain ⟨i, low, high⟩ := x
  obtain ⟨⟨i0, hi⟩, ⟨l0, l1⟩, ⟨g0, g1⟩, hs⟩ := hi
  dsimp only at i0 hi l0 l1 g0 g1 hs again ⊢
  have tl := l1
  have tg := g1
  unfold top at tl tg
  by_cases h : (i : Int) ≤ 64
  · have ee := i64_succ (i := i) (by omega)
    obtain ⟨q, hq⟩ : ∃ q, 65 - i = q + 1 := ⟨64 - i, by omega⟩
    have hq2 : 65 - (i + 1) = q := by omega
    have c0 : 0 ≤ (low + high) / 2 := by omega
    have c1 : (low + high) / 2 ≤ 18446744073709551615 := by omega
    have er : IntKind.i64.wrap ((r : Int) + i) = ((r + i : Nat) : Int) := by rw [i64_eq (by omega) (by omega)]; omega
    rw [hq, seaF] at hs
    simp (dsimp := false) (maxSteps := 4000000) only [h, go_sem, ↓reduceIte, Nat.reduceEqDiff, Nat.reduceLT, Nat.reduceLeDiff, Nat.reduceAdd, Nat.reduceMul, Nat.reduceSub, reduceCtorEq, Int.reduceToNat, Int.reduceLT, Int.reduceLE, Int.reduceEq, Int.reduceNe, Int.reduceBEq, Nat.reduceBEq, Int.reduceBNe, Nat.reduceBNe, Int.reduceAdd, Int.reduceSub, Int.reduceMul, Int.reduceNeg]
    refine (half_c low high l0 (by omega) g0 (by omega) _).mono ?_; rintro _ _ ⟨rfl, rfl⟩
    simp (dsimp := false) (maxSteps := 4000000) only [go_sem, ↓reduceIte, Nat.reduceEqDiff, Nat.reduceLT, Nat.reduceLeDiff, Nat.reduceAdd, Nat.reduceMul, Nat.reduceSub, reduceCtorEq, Int.reduceToNat, Int.reduceLT, Int.reduceLE, Int.reduceEq, Int.reduceNe, Int.reduceBEq, Nat.reduceBEq, Int.reduceBNe, Nat.reduceBNe, Int.reduceAdd, Int.reduceSub, Int.reduceMul, Int.reduceNeg]
    refine (RefAnswers_c L ((low + high) / 2) lb lc _ hL).mono ?_; rintro _ _ ⟨rfl, rfl⟩
    have rest : ∀ b : Bool, b = (ans L ((low + high) / 2) && !gone D (r + i)) → hg = (if b = true then seaF L D q (r + i + 1) low ((low + high) / 2) else if (low + high) / 2 < top then seaF L D q (r + i + 1) ((low + high) / 2 + 1) high else seaF L D q (r + i + 1) low high) := fun b hb => hb ▸ hs
    by_cases hc : (low + high) / 2 = 18446744073709551615
    · have hc' : ¬ (low + high) / 2 < top := by unfold top; omega
      cases ha : ans L ((low + high) / 2) with
      | false =>
        have hs := rest false (by rw [ha]; rfl)
        rw [if_neg (by simp), if_neg hc'] at hs
        simp (dsimp := false) (maxSteps := 4000000) only [hc, ee, go_sem, ↓reduceIte, Nat.reduceEqDiff, Nat.reduceLT, Nat.reduceLeDiff, Nat.reduceAdd, Nat.reduceMul, Nat.reduceSub, reduceCtorEq, Int.reduceToNat, Int.reduceLT, Int.reduceLE, Int.reduceEq, Int.reduceNe, Int.reduceBEq, Nat.reduceBEq, Int.reduceBNe, Nat.reduceBNe, Int.reduceAdd, Int.reduceSub, Int.reduceMul, Int.reduceNeg]
        refine again (i + 1, low, high) _ _ ⟨by simp only; omega, ⟨l0, l1⟩, ⟨g0, g1⟩, ?_⟩ (FrLe.of_lks (by simp (dsimp := false) (maxSteps := 4000000) only [go_sem, ↓reduceIte, Nat.reduceEqDiff, Nat.reduceLT, Nat.reduceLeDiff, Nat.reduceAdd, Nat.reduceMul, Nat.reduceSub, reduceCtorEq, Int.reduceToNat, Int.reduceLT, Int.reduceLE, Int.reduceEq, Int.reduceNe, Int.reduceBEq, Nat.reduceBEq, Int.reduceBNe, Nat.reduceBNe, Int.reduceAdd, Int.reduceSub, Int.reduceMul, Int.reduceNeg])) (AH.le_refl _) (by simp only; omega)
        simp only [hq2, ← Nat.add_assoc]; exact hs
      | true =>
        simp (dsimp := false) (maxSteps := 4000000) only [er, go_sem, ↓reduceIte, Nat.reduceEqDiff, Nat.reduceLT, Nat.reduceLeDiff, Nat.reduceAdd, Nat.reduceMul, Nat.reduceSub, reduceCtorEq, Int.reduceToNat, Int.reduceLT, Int.reduceLE, Int.reduceEq, Int.reduceNe, Int.reduceBEq, Nat.reduceBEq, Int.reduceBNe, Nat.reduceBNe, Int.reduceAdd, Int.reduceSub, Int.reduceMul, Int.reduceNeg]
        refine (gone_c D (r + i) db dc _ hD).mono ?_; rintro _ _ ⟨rfl, rfl⟩
        cases hb : gone D (r + i) with
        | true =>
          have hs := rest false (by rw [ha, hb]; rfl)
          rw [if_neg (by simp), if_neg hc'] at hs
          simp (dsimp := false) (maxSteps := 4000000) only [hc, ee, go_sem, ↓reduceIte, Nat.reduceEqDiff, Nat.reduceLT, Nat.reduceLeDiff, Nat.reduceAdd, Nat.reduceMul, Nat.reduceSub, reduceCtorEq, Int.reduceToNat, Int.reduceLT, Int.reduceLE, Int.reduceEq, Int.reduceNe, Int.reduceBEq, Nat.reduceBEq, Int.reduceBNe, Nat.reduceBNe, Int.reduceAdd, Int.reduceSub, Int.reduceMul, Int.reduceNeg]
          refine again (i + 1, low, high) _ _ ⟨by simp only; omega, ⟨l0, l1⟩, ⟨g0, g1⟩, ?_⟩ (FrLe.of_lks (by simp (dsimp := false) (maxSteps := 4000000) only [go_sem, ↓reduceIte, Nat.reduceEqDiff, Nat.reduceLT, Nat.reduceLeDiff, Nat.reduceAdd, Nat.reduceMul, Nat.reduceSub, reduceCtorEq, Int.reduceToNat, Int.reduceLT, Int.reduceLE, Int.reduceEq, Int.reduceNe, Int.reduceBEq, Nat.reduceBEq, Int.reduceBNe, Nat.reduceBNe, Int.reduceAdd, Int.reduceSub, Int.reduceMul, Int.reduceNeg])) (AH.le_refl _) (by simp only; omega)
          simp only [hq2, ← Nat.add_assoc]; exact hs
        | false =>
          have hs := rest true (by rw [ha, hb]; rfl)
          rw [if_pos rfl] at hs
          simp (dsimp := false) (maxSteps := 4000000) only [ee, go_sem, ↓reduceIte, Nat.reduceEqDiff, Nat.reduceLT, Nat.reduceLeDiff, Nat.reduceAdd, Nat.reduceMul, Nat.reduceSub, reduceCtorEq, Int.reduceToNat, Int.reduceLT, Int.reduceLE, Int.reduceEq, Int.reduceNe, Int.reduceBEq, Nat.reduceBEq, Int.reduceBNe, Nat.reduceBNe, Int.reduceAdd, Int.reduceSub, Int.reduceMul, Int.reduceNeg]
          refine again (i + 1, low, (low + high) / 2) _ _ ⟨by simp only; omega, ⟨l0, l1⟩, ⟨c0, c1⟩, ?_⟩ (FrLe.of_lks (by simp (dsimp := false) (maxSteps := 4000000) only [go_sem, ↓reduceIte, Nat.reduceEqDiff, Nat.reduceLT, Nat.reduceLeDiff, Nat.reduceAdd, Nat.reduceMul, Nat.reduceSub, reduceCtorEq, Int.reduceToNat, Int.reduceLT, Int.reduceLE, Int.reduceEq, Int.reduceNe, Int.reduceBEq, Nat.reduceBEq, Int.reduceBNe, Nat.reduceBNe, Int.reduceAdd, Int.reduceSub, Int.reduceMul, Int.reduceNeg])) (AH.le_refl _) (by simp only; omega)
          simp only [hq2, ← Nat.add_assoc]; exact hs
    · have hc' : (low + high) / 2 < top := by unfold top; omega
      have e6 : IntKind.u64.wrap ((low + high) / 2 + 1) = (low + high) / 2 + 1 := u64_eq (by omega) (by omega)
      cases ha : ans L ((low + high) / 2) with
      | false =>
        have hs := rest false (by rw [ha]; rfl)
        rw [if_neg (by simp), if_pos hc'] at hs
        simp (dsimp := false) (maxSteps := 4000000) only [hc, ee, e6, go_sem, ↓reduceIte, Nat.reduceEqDiff, Nat.reduceLT, Nat.reduceLeDiff, Nat.reduceAdd, Nat.reduceMul, Nat.reduceSub, reduceCtorEq, Int.reduceToNat, Int.reduceLT, Int.reduceLE, Int.reduceEq, Int.reduceNe, Int.reduceBEq, Nat.reduceBEq, Int.reduceBNe, Nat.reduceBNe, Int.reduceAdd, Int.reduceSub, Int.reduceMul, Int.reduceNeg]
        refine again (i + 1, (low + high) / 2 + 1, high) _ _ ⟨by simp only; omega, ⟨by simp only; omega, by simp only [top]; omega⟩, ⟨g0, g1⟩, ?_⟩ (FrLe.of_lks (by simp (dsimp := false) (maxSteps := 4000000) only [go_sem, ↓reduceIte, Nat.reduceEqDiff, Nat.reduceLT, Nat.reduceLeDiff, Nat.reduceAdd, Nat.reduceMul, Nat.reduceSub, reduceCtorEq, Int.reduceToNat, Int.reduceLT, Int.reduceLE, Int.reduceEq, Int.reduceNe, Int.reduceBEq, Nat.reduceBEq, Int.reduceBNe, Nat.reduceBNe, Int.reduceAdd, Int.reduceSub, Int.reduceMul, Int.reduceNeg])) (AH.le_refl _) (by simp only; omega)
        simp only [hq2, ← Nat.add_assoc]; exact hs
      | true =>
        simp (dsimp := false) (maxSteps := 4000000) only [er, go_sem, ↓reduceIte, Nat.reduceEqDiff, Nat.reduceLT, Nat.reduceLeDiff, Nat.reduceAdd, Nat.reduceMul, Nat.reduceSub, reduceCtorEq, Int.reduceToNat, Int.reduceLT, Int.reduceLE, Int.reduceEq, Int.reduceNe, Int.reduceBEq, Nat.reduceBEq, Int.reduceBNe, Nat.reduceBNe, Int.reduceAdd, Int.reduceSub, Int.reduceMul, Int.reduceNeg]
        refine (gone_c D (r + i) db dc _ hD).mono ?_; rintro _ _ ⟨rfl, rfl⟩
        cases hb : gone D (r + i) with
        | true =>
          have hs := rest false (by rw [ha, hb]; rfl)
          rw [if_neg (by simp), if_pos hc'] at hs
          simp (dsimp := false) (maxSteps := 4000000) only [hc, ee, e6, go_sem, ↓reduceIte, Nat.reduceEqDiff, Nat.reduceLT, Nat.reduceLeDiff, Nat.reduceAdd, Nat.reduceMul, Nat.reduceSub, reduceCtorEq, Int.reduceToNat, Int.reduceLT, Int.reduceLE, Int.reduceEq, Int.reduceNe, Int.reduceBEq, Nat.reduceBEq, Int.reduceBNe, Nat.reduceBNe, Int.reduceAdd, Int.reduceSub, Int.reduceMul, Int.reduceNeg]
          refine again (i + 1, (low + high) / 2 + 1, high) _ _ ⟨by simp only; omega, ⟨by simp only; omega, by simp only [top]; omega⟩, ⟨g0, g1⟩, ?_⟩ (FrLe.of_lks (by simp (dsimp := false) (maxSteps := 4000000) only [go_sem, ↓reduceIte, Nat.reduceEqDiff, Nat.reduceLT, Nat.reduceLeDiff, Nat.reduceAdd, Nat.reduceMul, Nat.reduceSub, reduceCtorEq, Int.reduceToNat, Int.reduceLT, Int.reduceLE, Int.reduceEq, Int.reduceNe, Int.reduceBEq, Nat.reduceBEq, Int.reduceBNe, Nat.reduceBNe, Int.reduceAdd, Int.reduceSub, Int.reduceMul, Int.reduceNeg])) (AH.le_refl _) (by simp only; omega)
          simp only [hq2, ← Nat.add_assoc]; exact hs
        | false =>
          have hs := rest true (by rw [ha, hb]; rfl)
          rw [if_pos rfl] at hs
          simp (dsimp := false) (maxSteps := 4000000) only [ee, go_sem, ↓reduceIte, Nat.reduceEqDiff, Nat.reduceLT, Nat.reduceLeDiff, Nat.reduceAdd, Nat.reduceMul, Nat.reduceSub, reduceCtorEq, Int.reduceToNat, Int.reduceLT, Int.reduceLE, Int.reduceEq, Int.reduceNe, Int.reduceBEq, Nat.reduceBEq, Int.reduceBNe, Nat.reduceBNe, Int.reduceAdd, Int.reduceSub, Int.reduceMul, Int.reduceNeg]
          refine again (i + 1, low, (low + high) / 2) _ _ ⟨by simp only; omega, ⟨l0, l1⟩, ⟨c0, c1⟩, ?_⟩ (FrLe.of_lks (by simp (dsimp := false) (maxSteps := 4000000) only [go_sem, ↓reduceIte, Nat.reduceEqDiff, Nat.reduceLT, Nat.reduceLeDiff, Nat.reduceAdd, Nat.reduceMul, Nat.reduceSub, reduceCtorEq, Int.reduceToNat, Int.reduceLT, Int.reduceLE, Int.reduceEq, Int.reduceNe, Int.reduceBEq, Nat.reduceBEq, Int.reduceBNe, Nat.reduceBNe, Int.reduceAdd, Int.reduceSub, Int.reduceMul, Int.reduceNeg])) (AH.le_refl _) (by simp only; omega)
          simp only [hq2, ← Nat.add_assoc]; exact hs
  obtain rfl : i = 65 := by omega
  rw [Nat.sub_self, seaF] at hs
  rw [hs] at e
  simp (dsimp := false) (maxSteps := 4000000) only [h, go_sem, ↓reduceIte, Nat.reduceEqDiff, Nat.reduceLT, Nat.reduceLeDiff, Nat.reduceAdd, Nat.reduceMul, Nat.reduceSub, reduceCtorEq, Int.reduceToNat, Int.reduceLT, Int.reduceLE, Int.reduceEq, Int.reduceNe, Int.reduceBEq, Nat.reduceBEq, Int.reduceBNe, Nat.reduceBNe, Int.reduceAdd, Int.reduceSub, Int.reduceMul, Int.reduceNeg]
  refine out _ _ _ (by simp) ?_
  clear again out
  simp (dsimp := false) (maxSteps := 4000000) only [go_sem, ↓reduceIte, Nat.reduceEqDiff, Nat.reduceLT, Nat.reduceLeDiff, Nat.reduceAdd, Nat.reduceMul, Nat.reduceSub, reduceCtorEq, Int.reduceToNat, Int.reduceLT, Int.reduceLE, Int.reduceEq, Int.reduceNe, Int.reduceBEq, Nat.reduceBEq, Int.reduceBNe, Nat.reduceBNe, Int.reduceAdd, Int.reduceSub, Int.reduceMul, Int.reduceNeg]
  refine AWp.loopo (ι := Nat) (fun i => i ≤ L.length ∧ ∀ j, j < i → ∀ s, L[j]? = some s → (thrP high s && !gone D (r + 65)) = false)
    (fun i => [(14, .int .i64 i), (11, .int .u64 high), (0, .slice lb L.length lc), (1, .slice db D.length dc), (2, .int .i64 r)]) (fun _ => H) (fun i => L.length - i) 0
    ⟨by omega, fun j hj => by omega⟩ (FrLe.of_lks ?_) (AH.le_refl _) fun i hi Q again out => ?_
  · simp (dsimp := false) (maxSteps := 4000000) only [go_sem, ↓reduceIte, Nat.reduceEqDiff, Nat.reduceLT, Nat.reduceLeDiff, Nat.reduceAdd, Nat.reduceMul, Nat.reduceSub, reduceCtorEq, Int.reduceToNat, Int.reduceLT, Int.reduceLE, Int.reduceEq, Int.reduceNe, Int.reduceBEq, Nat.reduceBEq, Int.reduceBNe, Nat.reduceBNe, Int.reduceAdd, Int.reduceSub, Int.reduceMul, Int.reduceNeg]
  obtain ⟨hi, hall⟩ := hi
  have er : IntKind.i64.wrap ((r : Int) + 65) = ((r + 65 : Nat) : Int) := by rw [i64_eq (by omega) (by omega)]; omega
  by_cases h : (i : Int) < L.length
  · obtain ⟨s, hx⟩ := get_some (l := L) (i := i) (by omega)
    obtain ⟨b, o, rfl, hrow, hrd⟩ := hL.get (map_get (f := enc) hx)
    have r0 := hrd 0 _ rfl
    have r1 := hrd 1 _ rfl
    simp only [Nat.add_zero] at r0 r1
    have ee := i64_succ (i := i) (by omega)
    have step : (thrP high s && !gone D (r + 65)) = false → ∀ j, j < i + 1 → ∀ s, L[j]? = some s → (thrP high s && !gone D (r + 65)) = false := fun hf j hj m hm => by
      by_cases hji : j = i
      · subst hji; rw [hx] at hm; cases hm; exact hf
      · exact hall j (by omega) m hm
    by_cases n0 : s.name = 0
    case neg =>
      simp (dsimp := false) (maxSteps := 4000000) only [h, r1, n0, ee, go_sem, ↓reduceIte, Nat.reduceEqDiff, Nat.reduceLT, Nat.reduceLeDiff, Nat.reduceAdd, Nat.reduceMul, Nat.reduceSub, reduceCtorEq, Int.reduceToNat, Int.reduceLT, Int.reduceLE, Int.reduceEq, Int.reduceNe, Int.reduceBEq, Nat.reduceBEq, Int.reduceBNe, Nat.reduceBNe, Int.reduceAdd, Int.reduceSub, Int.reduceMul, Int.reduceNeg]
      exact again (i + 1) _ _ ⟨by omega, step (by simp [thrP, n0])⟩ (FrLe.of_lks (by simp (dsimp := false) (maxSteps := 4000000) only [go_sem, ↓reduceIte, Nat.reduceEqDiff, Nat.reduceLT, Nat.reduceLeDiff, Nat.reduceAdd, Nat.reduceMul, Nat.reduceSub, reduceCtorEq, Int.reduceToNat, Int.reduceLT, Int.reduceLE, Int.reduceEq, Int.reduceNe, Int.reduceBEq, Nat.reduceBEq, Int.reduceBNe, Nat.reduceBNe, Int.reduceAdd, Int.reduceSub, Int.reduceMul, Int.reduceNeg])) (AH.le_refl _) (by omega)
    by_cases p0 : s.phys = high
    case neg =>
      simp (dsimp := false) (maxSteps := 4000000) only [h, r0, r1, n0, p0, ee, go_sem, ↓reduceIte, Nat.reduceEqDiff, Nat.reduceLT, Nat.reduceLeDiff, Nat.reduceAdd, Nat.reduceMul, Nat.reduceSub, reduceCtorEq, Int.reduceToNat, Int.reduceLT, Int.reduceLE, Int.reduceEq, Int.reduceNe, Int.reduceBEq, Nat.reduceBEq, Int.reduceBNe, Nat.reduceBNe, Int.reduceAdd, Int.reduceSub, Int.reduceMul, Int.reduceNeg]
      exact again (i + 1) _ _ ⟨by omega, step (by simp [thrP, p0])⟩ (FrLe.of_lks (by simp (dsimp := false) (maxSteps := 4000000) only [go_sem, ↓reduceIte, Nat.reduceEqDiff, Nat.reduceLT, Nat.reduceLeDiff, Nat.reduceAdd, Nat.reduceMul, Nat.reduceSub, reduceCtorEq, Int.reduceToNat, Int.reduceLT, Int.reduceLE, Int.reduceEq, Int.reduceNe, Int.reduceBEq, Nat.reduceBEq, Int.reduceBNe, Nat.reduceBNe, Int.reduceAdd, Int.reduceSub, Int.reduceMul, Int.reduceNeg])) (AH.le_refl _) (by omega)
    simp (dsimp := false) (maxSteps := 4000000) only [h, r0, r1, n0, p0, er, go_sem, ↓reduceIte, Nat.reduceEqDiff, Nat.reduceLT, Nat.reduceLeDiff, Nat.reduceAdd, Nat.reduceMul, Nat.reduceSub, reduceCtorEq, Int.reduceToNat, Int.reduceLT, Int.reduceLE, Int.reduceEq, Int.reduceNe, Int.reduceBEq, Nat.reduceBEq, Int.reduceBNe, Nat.reduceBNe, Int.reduceAdd, Int.reduceSub, Int.reduceMul, Int.reduceNeg]
    refine (gone_c D (r + 65) db dc _ hD).mono ?_; rintro _ _ ⟨rfl, rfl⟩
    cases hb : gone D (r + 65) with
    | true =>
      simp (dsimp := false) (maxSteps := 4000000) only [ee, go_sem, ↓reduceIte, Nat.reduceEqDiff, Nat.reduceLT, Nat.reduceLeDiff, Nat.reduceAdd, Nat.reduceMul, Nat.reduceSub, reduceCtorEq, Int.reduceToNat, Int.reduceLT, Int.reduceLE, Int.reduceEq, Int.reduceNe, Int.reduceBEq, Nat.reduceBEq, Int.reduceBNe, Nat.reduceBNe, Int.reduceAdd, Int.reduceSub, Int.reduceMul, Int.reduceNeg]
      exact again (i + 1) _ _ ⟨by omega, step (by rw [hb]; simp)⟩ (FrLe.of_lks (by simp (dsimp := false) (maxSteps := 4000000) only [go_sem, ↓reduceIte, Nat.reduceEqDiff, Nat.reduceLT, Nat.reduceLeDiff, Nat.reduceAdd, Nat.reduceMul, Nat.reduceSub, reduceCtorEq, Int.reduceToNat, Int.reduceLT, Int.reduceLE, Int.reduceEq, Int.reduceNe, Int.reduceBEq, Nat.reduceBEq, Int.reduceBNe, Nat.reduceBNe, Int.reduceAdd, Int.reduceSub, Int.reduceMul, Int.reduceNeg])) (AH.le_refl _) (by omega)
    | false =>
      have e2 : srch L D r = (high, 66, true) := by
        rw [e, if_pos]
        rw [hb, thr, List.any_eq_true.2 ⟨s, List.mem_of_getElem? hx, by simp [thrP, n0, p0]⟩]; rfl
      simp (dsimp := false) (maxSteps := 4000000) only [go_sem, ↓reduceIte, Nat.reduceEqDiff, Nat.reduceLT, Nat.reduceLeDiff, Nat.reduceAdd, Nat.reduceMul, Nat.reduceSub, reduceCtorEq, Int.reduceToNat, Int.reduceLT, Int.reduceLE, Int.reduceEq, Int.reduceNe, Int.reduceBEq, Nat.reduceBEq, Int.reduceBNe, Nat.reduceBNe, Int.reduceAdd, Int.reduceSub, Int.reduceMul, Int.reduceNeg]
      refine out _ _ _ (by simp) ?_
      simp (dsimp := false) (maxSteps := 4000000) only [go_sem, ↓reduceIte, Nat.reduceEqDiff, Nat.reduceLT, Nat.reduceLeDiff, Nat.reduceAdd, Nat.reduceMul, Nat.reduceSub, reduceCtorEq, Int.reduceToNat, Int.reduceLT, Int.reduceLE, Int.reduceEq, Int.reduceNe, Int.reduceBEq, Nat.reduceBEq, Int.reduceBNe, Nat.reduceBNe, Int.reduceAdd, Int.reduceSub, Int.reduceMul, Int.reduceNeg]
      exact ⟨H, (AH.le_refl _), (by first | exact ⟨by rw [e2]; rfl, rfl⟩ | rfl)⟩
  · have e2 : srch L D r = (0, 66, false) := by
      rw [e, if_neg]
      rw [Bool.and_eq_true, thr, List.any_eq_true]
      rintro ⟨⟨s, hs, ht⟩, hn⟩
      obtain ⟨j, hj⟩ := List.mem_iff_getElem?.1 hs
      have := hall j (by have := lt_of_get hj; omega) s hj
      rw [ht, hn] at this
      cases this
    simp (dsimp := false) (maxSteps := 4000000) only [h, go_sem, ↓reduceIte, Nat.reduceEqDiff, Nat.reduceLT, Nat.reduceLeDiff, Nat.reduceAdd, Nat.reduceMul, Nat.reduceSub, reduceCtorEq, Int.reduceToNat, Int.reduceLT, Int.reduceLE, Int.reduceEq, Int.reduceNe, Int.reduceBEq, Nat.reduceBEq, Int.reduceBNe, Nat.reduceBNe, Int.reduceAdd, Int.reduceSub, Int.reduceMul, Int.reduceNeg]
    refine out _ _ _ (by simp) ?_
    simp (dsimp := false) (maxSteps := 4000000) only [go_sem, ↓reduceIte, Nat.reduceEqDiff, Nat.reduceLT, Nat.reduceLeDiff, Nat.reduceAdd, Nat.reduceMul, Nat.reduceSub, reduceCtorEq, Int.reduceToNat, Int.reduceLT, Int.reduceLE, Int.reduceEq, Int.reduceNe, Int.reduceBEq, Nat.reduceBEq, Int.reduceBNe, Nat.reduceBNe, Int.reduceAdd, Int.reduceSub, Int.reduceMul, Int.reduceNeg]
    exact ⟨H, (AH.le_refl _), (by first | exact ⟨by rw [e2]; rfl, rfl⟩ | rfl)⟩
end Go.Proofs.Ytgikjbfpckjkoaa.BapN
