/- member: the reference's New. -/
import Derived.Test.YtgleplakdghaiaaMem4
namespace Go.Proofs.Ytgleplakdghaiaa.Mem
set_option linter.unusedSimpArgs false
set_option linter.unusedVariables false
open Go Go.AX Go.Proofs Ty
set_option maxHeartbeats 4000000
set_option maxRecDepth 10000

def eb (x : Bool) : List Value := [.bool x]
def ei (x : Int) : List Value := [.int .i64 x]
theorem flat_eb : ∀ (L : List Bool), (L.map eb).flatten = L.map Value.bool
  | [] => rfl
  | x :: L => by rw [List.map_cons, List.flatten_cons, flat_eb L]; rfl
theorem flat_ei : ∀ (L : List Int), (L.map ei).flatten = L.map (Value.int .i64)
  | [] => rfl
  | x :: L => by rw [List.map_cons, List.flatten_cons, flat_ei L]; rfl
theorem RefNew_bad (n : Int) (hn : n < 1 ∨ 32 < n) (H : AH) : ACalls Try.prog 5 #[.int .i64 n] H (fun v H' => v = .tuple #[.pointer none, .int .i64 1] ∧ H = H') := by
  refine ACalls.enter2 Try.func5 rfl Try.ntmps5 Try.results5 (by simp) ?_; simp (dsimp := false) (maxSteps := 4000000) only [go_sem, ↓reduceIte, Nat.reduceEqDiff, Nat.reduceLT, Nat.reduceLeDiff, Nat.reduceAdd, Nat.reduceMul, Nat.reduceSub, reduceCtorEq, Int.reduceToNat, Int.reduceLT, Int.reduceLE, Int.reduceEq, Int.reduceNe, Int.reduceBEq, Nat.reduceBEq, Int.reduceBNe, Nat.reduceBNe, Int.reduceAdd, Int.reduceSub, Int.reduceMul, Int.reduceNeg]
  by_cases h : n < 1
  · simp (dsimp := false) (maxSteps := 4000000) only [h, go_sem, ↓reduceIte, Nat.reduceEqDiff, Nat.reduceLT, Nat.reduceLeDiff, Nat.reduceAdd, Nat.reduceMul, Nat.reduceSub, reduceCtorEq, Int.reduceToNat, Int.reduceLT, Int.reduceLE, Int.reduceEq, Int.reduceNe, Int.reduceBEq, Nat.reduceBEq, Int.reduceBNe, Nat.reduceBNe, Int.reduceAdd, Int.reduceSub, Int.reduceMul, Int.reduceNeg]
    exact ⟨H, (AH.le_refl _), (by first | exact ⟨rfl, rfl⟩ | rfl)⟩
  · have h2 : 32 < n := by omega
    simp (dsimp := false) (maxSteps := 4000000) only [h, h2, go_sem, ↓reduceIte, Nat.reduceEqDiff, Nat.reduceLT, Nat.reduceLeDiff, Nat.reduceAdd, Nat.reduceMul, Nat.reduceSub, reduceCtorEq, Int.reduceToNat, Int.reduceLT, Int.reduceLE, Int.reduceEq, Int.reduceNe, Int.reduceBEq, Nat.reduceBEq, Int.reduceBNe, Nat.reduceBNe, Int.reduceAdd, Int.reduceSub, Int.reduceMul, Int.reduceNeg]
    exact ⟨H, (AH.le_refl _), (by first | exact ⟨rfl, rfl⟩ | rfl)⟩
theorem RefNew_c (n : Nat) (h1 : 1 ≤ n) (h2 : n ≤ 32) (H : AH) : ACalls Try.prog 5 #[.int .i64 n] H (fun v H' => ∃ br b1 b2 c1 c2, v = .tuple #[.pointer (some ⟨br, 0, none⟩), .int .i64 0] ∧ RefAt H' br b1 b2 (List.replicate n true) (List.replicate n 0) c1 c2 ∧ Fresh H br ∧ Fresh H b1 ∧ Fresh H b2 ∧ Keep H H' fun _ => False) := by
  have n1 : ¬ (n : Int) < 1 := by omega
  have n2 : ¬ (32 : Int) < n := by omega
  refine ACalls.enter2 Try.func5 rfl Try.ntmps5 Try.results5 (by simp) ?_; simp (dsimp := false) (maxSteps := 4000000) only [go_sem, ↓reduceIte, Nat.reduceEqDiff, Nat.reduceLT, Nat.reduceLeDiff, Nat.reduceAdd, Nat.reduceMul, Nat.reduceSub, reduceCtorEq, Int.reduceToNat, Int.reduceLT, Int.reduceLE, Int.reduceEq, Int.reduceNe, Int.reduceBEq, Nat.reduceBEq, Int.reduceBNe, Nat.reduceBNe, Int.reduceAdd, Int.reduceSub, Int.reduceMul, Int.reduceNeg]
  simp (dsimp := false) (maxSteps := 4000000) only [n1, n2, go_sem, ↓reduceIte, Nat.reduceEqDiff, Nat.reduceLT, Nat.reduceLeDiff, Nat.reduceAdd, Nat.reduceMul, Nat.reduceSub, reduceCtorEq, Int.reduceToNat, Int.reduceLT, Int.reduceLE, Int.reduceEq, Int.reduceNe, Int.reduceBEq, Nat.reduceBEq, Int.reduceBNe, Nat.reduceBNe, Int.reduceAdd, Int.reduceSub, Int.reduceMul, Int.reduceNeg]
  refine AllB.mk fun br f0 => ?_
  simp (dsimp := false) (maxSteps := 4000000) only [go_sem, ↓reduceIte, Nat.reduceEqDiff, Nat.reduceLT, Nat.reduceLeDiff, Nat.reduceAdd, Nat.reduceMul, Nat.reduceSub, reduceCtorEq, Int.reduceToNat, Int.reduceLT, Int.reduceLE, Int.reduceEq, Int.reduceNe, Int.reduceBEq, Nat.reduceBEq, Int.reduceBNe, Nat.reduceBNe, Int.reduceAdd, Int.reduceSub, Int.reduceMul, Int.reduceNeg]
  refine AWp.loopr (ι := Nat × Option Addr × Nat × Option Addr × Nat) (fun x A => x.1 ≤ n ∧ ∃ B, A = B.add br (.cells [.slice x.2.1 x.1 x.2.2.1, .slice x.2.2.2.1 x.1 x.2.2.2.2] 41 2) ∧ OwnS H B 4 1 x.2.1 x.2.2.1 ((List.replicate x.1 true).map eb) ∧ OwnS H B 3 1 x.2.2.2.1 x.2.2.2.2 ((List.replicate x.1 (0 : Int)).map ei) ∧ (∀ a1 a2, x.2.1 = some a1 → x.2.2.2.1 = some a2 → a1.block ≠ a2.block) ∧ (Keep H B fun _ => False) ∧ Fresh B br)
    (fun x => [(5, .int .i64 x.1), (0, .int .i64 n), (4, .pointer (some ⟨br, 0, none⟩))]) (fun x => n - x.1) (0, none, 0, none, 0) (H.add br (.cells [.slice none 0 0, .slice none 0 0] 41 2))
    ⟨by simp, H, rfl, OwnS.nil, OwnS.nil, fun a1 a2 h => (by cases h), Keep.refl, f0⟩ (FrLe.of_lks ?_) (AH.le_refl _) fun x A hi Q again out => ?_
  · simp (dsimp := false) (maxSteps := 4000000) only [go_sem, ↓reduceIte, Nat.reduceEqDiff, Nat.reduceLT, Nat.reduceLeDiff, Nat.reduceAdd, Nat.reduceMul, Nat.reduceSub, reduceCtorEq, Int.reduceToNat, Int.reduceLT, Int.reduceLE, Int.reduceEq, Int.reduceNe, Int.reduceBEq, Nat.reduceBEq, Int.reduceBNe, Nat.reduceBNe, Int.reduceAdd, Int.reduceSub, Int.reduceMul, Int.reduceNeg]
  obtain ⟨i, bo1, c1, bo2, c2⟩ := x
  obtain ⟨hi, B, rfl, hO1, hO2, hap, hK, g⟩ := hi
  dsimp only at hi hO1 hO2 hap again ⊢
  by_cases hlt : (i : Int) < n
  · have e1 := i64_succ (i := i) (by omega)
    have hHc : (H.add br (.cells [.slice bo1 i c1, .slice bo2 i c2] 41 2)).le (B.add br (.cells [.slice bo1 i c1, .slice bo2 i c2] 41 2)) := AH.le_cons (find_add_self _ _ _) (AH.le_add hK.all g.2)
    simp (dsimp := false) (maxSteps := 4000000) only [hlt, go_sem, ↓reduceIte, Nat.reduceEqDiff, Nat.reduceLT, Nat.reduceLeDiff, Nat.reduceAdd, Nat.reduceMul, Nat.reduceSub, reduceCtorEq, Int.reduceToNat, Int.reduceLT, Int.reduceLE, Int.reduceEq, Int.reduceNe, Int.reduceBEq, Nat.reduceBEq, Int.reduceBNe, Nat.reduceBNe, Int.reduceAdd, Int.reduceSub, Int.reduceMul, Int.reduceNeg]
    refine AWp.gen [.pu, .pu, .pu, .pu, .pu, .rd, .al, .ch, .pu, .pu, .pu, .rd, .al, .ch, .pu, .pu, .ch, .pu, .pu, .ch] [0, 0, 0, 4, 12, 28, 0, 124, 0, 256, 768, 1792, 0, 8188, 16381, 32765, 65533, 131071, 262143, 524287] 8 (H.add br (.cells [.slice bo1 i c1, .slice bo2 i c2] 41 2)) mixed (by kernel_rfl) (hHc) ?_
    simp (dsimp := false) (maxSteps := 4000000) only [hHc, go_sem, ↓reduceIte, Nat.reduceEqDiff, Nat.reduceLT, Nat.reduceLeDiff, Nat.reduceAdd, Nat.reduceMul, Nat.reduceSub, reduceCtorEq, Int.reduceToNat, Int.reduceLT, Int.reduceLE, Int.reduceEq, Int.reduceNe, Int.reduceBEq, Nat.reduceBEq, Int.reduceBNe, Nat.reduceBNe, Int.reduceAdd, Int.reduceSub, Int.reduceMul, Int.reduceNeg]
    refine AllB.mk fun b25 h_b25 => ?_
    have m25 : ¬ b25 = br := h_b25.ne_find (find_add_self _ _ _)
    have r25 : ¬ br = b25 := fun e => m25 e.symm
    simp (dsimp := false) (maxSteps := 4000000) only [m25, r25, hHc, go_sem, ↓reduceIte, Nat.reduceEqDiff, Nat.reduceLT, Nat.reduceLeDiff, Nat.reduceAdd, Nat.reduceMul, Nat.reduceSub, reduceCtorEq, Int.reduceToNat, Int.reduceLT, Int.reduceLE, Int.reduceEq, Int.reduceNe, Int.reduceBEq, Nat.reduceBEq, Int.reduceBNe, Nat.reduceBNe, Int.reduceAdd, Int.reduceSub, Int.reduceMul, Int.reduceNeg]
    have p1 : AH.find ((B.add br (.cells [.slice bo1 i c1, .slice bo2 i c2] 41 2)).add b25 (.cells [.bool true] 4 1)) br = some (.cells [.slice bo1 i c1, .slice bo2 i c2] 41 2) := by rw [find_add_ne _ m25, find_add_self]
    have hO2x := (hO2.added (k := (.cells [.slice bo1 i c1, .slice bo2 i c2] 41 2)) g).added (k := .cells [.bool true] 4 1) h_b25
    refine APD.growW (x := .slice (some ⟨b25, 0, none⟩) 1 1) (R' := [eb true]) (m := 1) ((hO1.added g).added h_b25) ((hK.nw g).nw h_b25).all se_38 rfl (by decide) (by rw [Try.underlying38]; rfl) (by simp) rfl rfl (by rw [srow_some, row_add_self]; rfl) (by simp [eb]) (by simp [eb, scal]) (by omega) fun bo1' c1' A1 hO1' hK1 hN1 => ?_
    have q1 : A1.find br = some (.cells [.slice bo1 i c1, .slice bo2 i c2] 41 2) := hK1.find (fun hx => by obtain ⟨a, ha, e⟩ := hx; exact hO1.ne g a ha e.symm) p1
    have hO2' := hO2x.keep hK1 fun a2 ha2 hx => by
      obtain ⟨a1, ha1, e⟩ := hx
      exact hap a1 a2 ha1 ha2 e.symm
    have hap1 : ∀ a1 a2, bo1' = some a1 → bo2 = some a2 → a1.block ≠ a2.block := fun a1 a2 ha1 ha2 e => by
      rcases hN1 a1 ha1 with ⟨a', h1, h2⟩ | hf
      · exact hap a' a2 h1 ha2 (h2 ▸ e)
      · exact hO2x.ne hf a2 ha2 e.symm
    have ne1 : ∀ a, bo1' = some a → a.block ≠ br := fun a ha e => by
      rcases hN1 a ha with ⟨a', h1, h2⟩ | hf
      · exact hO1.ne g a' h1 (h2 ▸ e)
      · exact hf.ne_find p1 e
    have hK1' := (((hK.nw (k := (.cells [.slice bo1 i c1, .slice bo2 i c2] 41 2)) g).nw (k := .cells [.bool true] 4 1) h_b25).ow hK1 fun b ⟨a, ha, e⟩ => e ▸ hO1.fresh a ha)
    obtain ⟨hK1'', g1⟩ := hK1'.dels f0
    have hO1d := hO1'.del ne1
    have hO2d := hO2'.del fun a ha => hO2.ne g a ha
    refine ⟨_, top1 q1, ?_⟩
    have hHc1 : (H.add br (.cells [.slice bo1 i c1, .slice bo2 i c2] 41 2)).le ((A1.del br).add br (.cells [.slice bo1 i c1, .slice bo2 i c2] 41 2)) := AH.le_cons (find_add_self _ _ _) (AH.le_add hK1''.all g1.2)
    generalize A1.del br = B1 at *
    simp (dsimp := false) (maxSteps := 4000000) only [hHc1, go_sem, ↓reduceIte, Nat.reduceEqDiff, Nat.reduceLT, Nat.reduceLeDiff, Nat.reduceAdd, Nat.reduceMul, Nat.reduceSub, reduceCtorEq, Int.reduceToNat, Int.reduceLT, Int.reduceLE, Int.reduceEq, Int.reduceNe, Int.reduceBEq, Nat.reduceBEq, Int.reduceBNe, Nat.reduceBNe, Int.reduceAdd, Int.reduceSub, Int.reduceMul, Int.reduceNeg]
    refine AllB.mk fun b31 h_b31 => ?_
    have m31 : ¬ b31 = br := h_b31.ne_find (find_add_self _ _ _)
    have r31 : ¬ br = b31 := fun e => m31 e.symm
    simp (dsimp := false) (maxSteps := 4000000) only [m31, r31, hHc1, go_sem, ↓reduceIte, Nat.reduceEqDiff, Nat.reduceLT, Nat.reduceLeDiff, Nat.reduceAdd, Nat.reduceMul, Nat.reduceSub, reduceCtorEq, Int.reduceToNat, Int.reduceLT, Int.reduceLE, Int.reduceEq, Int.reduceNe, Int.reduceBEq, Nat.reduceBEq, Int.reduceBNe, Nat.reduceBNe, Int.reduceAdd, Int.reduceSub, Int.reduceMul, Int.reduceNeg]
    have p2 : AH.find ((B1.add br (.cells [.slice bo1 i c1, .slice bo2 i c2] 41 2)).add b31 (.cells [.int .i64 0] 3 1)) br = some (.cells [.slice bo1 i c1, .slice bo2 i c2] 41 2) := by rw [find_add_ne _ m31, find_add_self]
    have hO1x := (hO1d.added (k := (.cells [.slice bo1 i c1, .slice bo2 i c2] 41 2)) g1).added (k := .cells [.int .i64 0] 3 1) h_b31
    refine APD.growW (x := .slice (some ⟨b31, 0, none⟩) 1 1) (R' := [ei 0]) (m := 1) ((hO2d.added g1).added h_b31) ((hK1''.nw g1).nw h_b31).all se_39 rfl (by decide) (by rw [Try.underlying39]; rfl) (by simp) rfl rfl (by rw [srow_some, row_add_self]; rfl) (by simp [ei]) (by simp [ei, scal]) (by omega) fun bo2' c2' A2 hO2n hK2 hN2 => ?_
    have q2 : A2.find br = some (.cells [.slice bo1 i c1, .slice bo2 i c2] 41 2) := hK2.find (fun hx => by obtain ⟨a, ha, e⟩ := hx; exact hO2d.ne g1 a ha e.symm) p2
    have hO1n := hO1x.keep hK2 fun a1 ha1 hx => by
      obtain ⟨a2, ha2, e⟩ := hx
      exact hap1 a1 a2 ha1 ha2 e
    have hap2 : ∀ a1 a2, bo1' = some a1 → bo2' = some a2 → a1.block ≠ a2.block := fun a1 a2 ha1 ha2 e => by
      rcases hN2 a2 ha2 with ⟨a', h1, h2⟩ | hf
      · exact hap1 a1 a' ha1 h1 (e.trans h2)
      · exact hO1x.ne hf a1 ha1 e
    have ne2 : ∀ a, bo2' = some a → a.block ≠ br := fun a ha e => by
      rcases hN2 a ha with ⟨a', h1, h2⟩ | hf
      · exact hO2d.ne g1 a' h1 (h2 ▸ e)
      · exact hf.ne_find p2 e
    have hK2' := (((hK1''.nw (k := (.cells [.slice bo1 i c1, .slice bo2 i c2] 41 2)) g1).nw (k := .cells [.int .i64 0] 3 1) h_b31).ow hK2 fun b ⟨a, ha, e⟩ => e ▸ hO2d.fresh a ha)
    obtain ⟨hK2'', g2⟩ := hK2'.dels f0
    have hO2f := hO2n.del ne2
    have hO1f := hO1n.del ne1
    refine ⟨_, top1 q2, ?_⟩
    generalize A2.del br = B2 at *
    simp (dsimp := false) (maxSteps := 4000000) only [e1, go_sem, ↓reduceIte, Nat.reduceEqDiff, Nat.reduceLT, Nat.reduceLeDiff, Nat.reduceAdd, Nat.reduceMul, Nat.reduceSub, reduceCtorEq, Int.reduceToNat, Int.reduceLT, Int.reduceLE, Int.reduceEq, Int.reduceNe, Int.reduceBEq, Nat.reduceBEq, Int.reduceBNe, Nat.reduceBNe, Int.reduceAdd, Int.reduceSub, Int.reduceMul, Int.reduceNeg]
    rw [show (List.replicate i true).map eb ++ [eb true] = (List.replicate (i + 1) true).map eb from by rw [List.replicate_succ', List.map_append]; rfl] at hO1f
    rw [show (List.replicate i (0 : Int)).map ei ++ [ei 0] = (List.replicate (i + 1) (0 : Int)).map ei from by rw [List.replicate_succ', List.map_append]; rfl] at hO2f
    exact again (i + 1, bo1', c1', bo2', c2') _ _ _ ⟨by simp only; omega, B2, rfl, hO1f, hO2f, hap2, hK2'', g2⟩ (FrLe.of_lks (by simp (dsimp := false) (maxSteps := 4000000) only [go_sem, ↓reduceIte, Nat.reduceEqDiff, Nat.reduceLT, Nat.reduceLeDiff, Nat.reduceAdd, Nat.reduceMul, Nat.reduceSub, reduceCtorEq, Int.reduceToNat, Int.reduceLT, Int.reduceLE, Int.reduceEq, Int.reduceNe, Int.reduceBEq, Nat.reduceBEq, Int.reduceBNe, Nat.reduceBNe, Int.reduceAdd, Int.reduceSub, Int.reduceMul, Int.reduceNeg])) (AH.le_refl _) (by simp only; omega)
  · obtain rfl : i = n := by omega
    simp (dsimp := false) (maxSteps := 4000000) only [hlt, go_sem, ↓reduceIte, Nat.reduceEqDiff, Nat.reduceLT, Nat.reduceLeDiff, Nat.reduceAdd, Nat.reduceMul, Nat.reduceSub, reduceCtorEq, Int.reduceToNat, Int.reduceLT, Int.reduceLE, Int.reduceEq, Int.reduceNe, Int.reduceBEq, Nat.reduceBEq, Int.reduceBNe, Nat.reduceBNe, Int.reduceAdd, Int.reduceSub, Int.reduceMul, Int.reduceNeg]
    refine out _ _ _ (by simp) ?_
    simp (dsimp := false) (maxSteps := 4000000) only [go_sem, ↓reduceIte, Nat.reduceEqDiff, Nat.reduceLT, Nat.reduceLeDiff, Nat.reduceAdd, Nat.reduceMul, Nat.reduceSub, reduceCtorEq, Int.reduceToNat, Int.reduceLT, Int.reduceLE, Int.reduceEq, Int.reduceNe, Int.reduceBEq, Nat.reduceBEq, Int.reduceBNe, Nat.reduceBNe, Int.reduceAdd, Int.reduceSub, Int.reduceMul, Int.reduceNeg]
    obtain ⟨b1, s1, rfl, hf1, hs1, hr1⟩ : ∃ b bs, bo1 = some ⟨b, 0, none⟩ ∧ B.find b = some (.cells ((List.replicate i true).map eb).flatten 4 bs) ∧ c1 * 1 ≤ bs ∧ Fresh H b := by
      rcases hO1.at_ with ⟨_, h0, _⟩ | ⟨b, bs, h1, h2, h3, h4⟩
      · have := congrArg List.length h0; simp at this; omega
      · exact ⟨b, bs, h1, h2, h3, h4⟩
    obtain ⟨b2, s2, rfl, hf2, hs2, hr2⟩ : ∃ b bs, bo2 = some ⟨b, 0, none⟩ ∧ B.find b = some (.cells ((List.replicate i (0 : Int)).map ei).flatten 3 bs) ∧ c2 * 1 ≤ bs ∧ Fresh H b := by
      rcases hO2.at_ with ⟨_, h0, _⟩ | ⟨b, bs, h1, h2, h3, h4⟩
      · have := congrArg List.length h0; simp at this; omega
      · exact ⟨b, bs, h1, h2, h3, h4⟩
    have hl1 := hO1.le
    have hl2 := hO2.le
    rw [List.length_map, List.length_replicate] at hl1 hl2
    rw [flat_eb] at hf1
    rw [flat_ei] at hf2
    have x1 : br ≠ b1 := g.ne_find hf1
    have x2 : br ≠ b2 := g.ne_find hf2
    refine ⟨_, AH.le_refl _, br, b1, b2, c1, c2, rfl, ⟨?_, ⟨s1, ?_, by rw [List.length_replicate]; omega⟩, ⟨s2, ?_, by rw [List.length_replicate]; omega⟩, x1, x2, hap _ _ rfl rfl⟩, f0, hr1, hr2, hK.nw g⟩
    · rw [find_add_self, List.length_replicate, List.length_replicate]
    · rw [find_add_ne _ x1]; exact hf1
    · rw [find_add_ne _ x2]; exact hf2
end Go.Proofs.Ytgleplakdghaiaa.Mem
