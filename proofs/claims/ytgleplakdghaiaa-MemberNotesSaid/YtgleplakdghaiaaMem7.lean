/- member: the reference's Note. -/
import Derived.Test.YtgleplakdghaiaaMem6
namespace Go.Proofs.Ytgleplakdghaiaa.Mem
set_option linter.unusedSimpArgs false
set_option linter.unusedVariables false
open Go Go.AX Go.Proofs Ty
set_option maxHeartbeats 4000000
set_option maxRecDepth 10000

theorem Keep.re2 {Y : AH} {b1 b2 : Nat} {k1 k1' k2 k2' : ABlk} : Keep ((Y.add b1 k1).add b2 k2) ((Y.add b1 k1').add b2 k2') (fun b => b = b1 ∨ b = b2) := ⟨rfl, fun b' hb _ => by
  rw [find_add, find_add, find_add, find_add, if_neg (fun e => hb (.inr e)), if_neg (fun e => hb (.inr e)), if_neg (fun e => hb (.inl e)), if_neg (fun e => hb (.inl e))]⟩
theorem Keep.top3 {A : AH} {b1 b2 b3 : Nat} {k1 k2 k3 : ABlk} (h1 : A.find b1 = some k1) (h2 : A.find b2 = some k2) (h3 : A.find b3 = some k3) (n12 : b1 ≠ b2) (n13 : b1 ≠ b3) (n23 : b2 ≠ b3) : Keep A ((((((A.del b1).del b2).del b3).add b1 k1).add b2 k2).add b3 k3) fun _ => False := ⟨rfl, fun b _ _ => by
  rw [find_add, find_add, find_add, find_del, find_del, find_del]
  by_cases e3 : b = b3
  · subst e3; rw [if_pos rfl, h3]
  · rw [if_neg e3]
    by_cases e2 : b = b2
    · subst e2; rw [if_pos rfl, h2]
    · rw [if_neg e2]
      by_cases e1 : b = b1
      · subst e1; rw [if_pos rfl, h1]
      · rw [if_neg e1, if_neg e3, if_neg e2, if_neg e1]⟩
def snd (t : List Ent) (j : Nat) : Bool := (t.take j).any fun e => !kd e
def wasd (ks : List Int) (t : List Ent) (j : Nat) : Bool := (t.take j).any fun e => !kd e && hd ks e
theorem snd_succ {t : List Ent} {j : Nat} {e : Ent} (h : t[j]? = some e) : snd t (j + 1) = (snd t j || !kd e) := by simp [snd, List.take_add_one, h]
theorem wasd_succ {ks : List Int} {t : List Ent} {j : Nat} {e : Ent} (h : t[j]? = some e) : wasd ks t (j + 1) = (wasd ks t j || (!kd e && hd ks e)) := by simp [wasd, List.take_add_one, h]
def stR (ks : List Int) (t : List Ent) (r : Int) : Int := if wasd ks t t.length then 0 else if snd t t.length then r + 1 else r
def nR (ks : List Int) (T : List Tb) (R : List Int) (i : Nat) : List Int := R.mapIdx fun n r => if n < i then (match T[n]? with | some t => stR ks t.2.2 r | none => r) else r
theorem nR_len (ks : List Int) (T : List Tb) (R : List Int) (i : Nat) : (nR ks T R i).length = R.length := by simp [nR]
theorem nR_zero (ks : List Int) (T : List Tb) (R : List Int) : nR ks T R 0 = R := by
  apply List.ext_getElem?; intro j; simp [nR]
theorem nR_get {ks : List Int} {T : List Tb} {R : List Int} {i : Nat} {x : Int} (hx : R[i]? = some x) : (nR ks T R i)[i]? = some x := by
  simp [nR, hx]
theorem nR_step {ks : List Int} {T : List Tb} {R : List Int} {i : Nat} {x : Int} {t : Tb} (hx : R[i]? = some x) (ht : T[i]? = some t) : nR ks T R (i + 1) = (nR ks T R i).set i (stR ks t.2.2 x) := by
  apply List.ext_getElem?
  intro j
  have hi := lt_of_get hx
  by_cases hj : j = i
  · subst hj
    rw [List.getElem?_set_self (by rw [nR_len]; exact hi)]
    simp [nR, hx, ht]
  · rw [List.getElem?_set_ne (by omega)]
    simp only [nR, List.getElem?_mapIdx]
    by_cases h1 : j < i
    · simp [h1, show j < i + 1 by omega]
    · simp [h1, show ¬ j < i + 1 by omega]
theorem set_same {α : Type} {L : List α} {i : Nat} {v : α} (h : L[i]? = some v) : L.set i v = L := by
  apply List.ext_getElem?
  intro j
  by_cases hj : j = i
  · subst hj; rw [List.getElem?_set_self (lt_of_get h), h]
  · rw [List.getElem?_set_ne (by omega)]
theorem RefNote_c {H0 A : AH} {br b1 b2 c1 c2 bh : Nat} {R : List Int} {gv : Int → Int} {ks : List Int} {T : List Tb} {base : Option Addr} {cap : Nat} (hT : TabIn H0 base cap T) (hK0 : Keep H0 A fun _ => False) (hf1 : Fresh H0 b1) (hf2 : Fresh H0 b2) (h : RefAt A br b1 b2 (isB R) R c1 c2) (hh : A.find bh = some (.amap (ks.map (encG gv)))) (hR : R.length ≤ 32) (hR0 : ∀ x ∈ R, 0 ≤ x ∧ x ≤ 1000) :
    ACalls Try.prog 9 #[.pointer (some ⟨br, 0, none⟩), .slice base T.length cap, .map (some bh)] A (fun v H' => v = undef ∧ RefAt H' br b1 b2 (isB (nR ks T R (min R.length T.length))) (nR ks T R (min R.length T.length)) c1 c2 ∧ Keep A H' (fun b => b = b1 ∨ b = b2)) := by
  have hbig := hT.out.big
  simp only [List.length_map] at hbig
  obtain ⟨N, hN⟩ : ∃ N, min R.length T.length = N := ⟨_, rfl⟩
  have hiB : ∀ L : List Int, (isB L).length = L.length := fun L => by simp [isB]
  have hb1h : b1 ≠ bh := by
    obtain ⟨sz, h1, _⟩ := h.rowB
    intro e
    rw [e, hh] at h1; cases h1
  have hb2h : b2 ≠ bh := by
    obtain ⟨sz, h1, _⟩ := h.rowR
    intro e
    rw [e, hh] at h1; cases h1
  rw [hN]
  refine ACalls.enter2 Try.func9 rfl Try.ntmps9 Try.results9 (by simp) ?_; simp (dsimp := false) (maxSteps := 4000000) only [go_sem, ↓reduceIte, Nat.reduceEqDiff, Nat.reduceLT, Nat.reduceLeDiff, Nat.reduceAdd, Nat.reduceMul, Nat.reduceSub, reduceCtorEq, Int.reduceToNat, Int.reduceLT, Int.reduceLE, Int.reduceEq, Int.reduceNe, Int.reduceBEq, Nat.reduceBEq, Int.reduceBNe, Nat.reduceBNe, Int.reduceAdd, Int.reduceSub, Int.reduceMul, Int.reduceNeg]
  refine AWp.loopr (ι := Nat) (fun i B => i ≤ N ∧ RefAt B br b1 b2 (isB (nR ks T R i)) (nR ks T R i) c1 c2 ∧ Keep A B (fun b => b = b1 ∨ b = b2))
    (fun i => [(6, .int .i64 i), (0, .pointer (some ⟨br, 0, none⟩)), (1, .slice base T.length cap), (2, .map (some bh))]) (fun i => N - i) 0 A
    ⟨by omega, by rw [nR_zero]; exact h, Keep.refl⟩ (FrLe.of_lks ?_) (AH.le_refl _) fun i B hi Q again out => ?_
  · simp (dsimp := false) (maxSteps := 4000000) only [go_sem, ↓reduceIte, Nat.reduceEqDiff, Nat.reduceLT, Nat.reduceLeDiff, Nat.reduceAdd, Nat.reduceMul, Nat.reduceSub, reduceCtorEq, Int.reduceToNat, Int.reduceLT, Int.reduceLE, Int.reduceEq, Int.reduceNe, Int.reduceBEq, Nat.reduceBEq, Int.reduceBNe, Nat.reduceBNe, Int.reduceAdd, Int.reduceSub, Int.reduceMul, Int.reduceNeg]
  obtain ⟨hi, hB, hKB⟩ := hi
  have r0 := hB.rd0
  rw [hiB, nR_len] at r0
  by_cases hlT : (i : Int) < T.length
  case neg =>
    obtain rfl : i = N := by omega
    simp (dsimp := false) (maxSteps := 4000000) only [hlT, go_sem, ↓reduceIte, Nat.reduceEqDiff, Nat.reduceLT, Nat.reduceLeDiff, Nat.reduceAdd, Nat.reduceMul, Nat.reduceSub, reduceCtorEq, Int.reduceToNat, Int.reduceLT, Int.reduceLE, Int.reduceEq, Int.reduceNe, Int.reduceBEq, Nat.reduceBEq, Int.reduceBNe, Nat.reduceBNe, Int.reduceAdd, Int.reduceSub, Int.reduceMul, Int.reduceNeg]
    refine out _ _ _ (by simp) ?_
    simp (dsimp := false) (maxSteps := 4000000) only [go_sem, ↓reduceIte, Nat.reduceEqDiff, Nat.reduceLT, Nat.reduceLeDiff, Nat.reduceAdd, Nat.reduceMul, Nat.reduceSub, reduceCtorEq, Int.reduceToNat, Int.reduceLT, Int.reduceLE, Int.reduceEq, Int.reduceNe, Int.reduceBEq, Nat.reduceBEq, Int.reduceBNe, Nat.reduceBNe, Int.reduceAdd, Int.reduceSub, Int.reduceMul, Int.reduceNeg]
    exact ⟨B, AH.le_refl _, rfl, hB, hKB⟩
  by_cases hlR : (i : Int) < R.length
  case neg =>
    obtain rfl : i = N := by omega
    simp (dsimp := false) (maxSteps := 4000000) only [hlT, r0, hlR, go_sem, ↓reduceIte, Nat.reduceEqDiff, Nat.reduceLT, Nat.reduceLeDiff, Nat.reduceAdd, Nat.reduceMul, Nat.reduceSub, reduceCtorEq, Int.reduceToNat, Int.reduceLT, Int.reduceLE, Int.reduceEq, Int.reduceNe, Int.reduceBEq, Nat.reduceBEq, Int.reduceBNe, Nat.reduceBNe, Int.reduceAdd, Int.reduceSub, Int.reduceMul, Int.reduceNeg]
    refine out _ _ _ (by simp) ?_
    simp (dsimp := false) (maxSteps := 4000000) only [go_sem, ↓reduceIte, Nat.reduceEqDiff, Nat.reduceLT, Nat.reduceLeDiff, Nat.reduceAdd, Nat.reduceMul, Nat.reduceSub, reduceCtorEq, Int.reduceToNat, Int.reduceLT, Int.reduceLE, Int.reduceEq, Int.reduceNe, Int.reduceBEq, Nat.reduceBEq, Int.reduceBNe, Nat.reduceBNe, Int.reduceAdd, Int.reduceSub, Int.reduceMul, Int.reduceNeg]
    exact ⟨B, AH.le_refl _, rfl, hB, hKB⟩
  have ee := i64_succ (i := i) (by omega)
  obtain ⟨x, hx⟩ := get_some (l := R) (i := i) (by omega)
  obtain ⟨t, ht⟩ := get_some (l := T) (i := i) (by omega)
  have hx3 := hR0 x (List.mem_of_getElem? hx)
  have hst := nR_step (ks := ks) hx ht
  have hxi := nR_get (ks := ks) (T := T) hx
  obtain ⟨s1, hrB, hs1⟩ := hB.rowB
  obtain ⟨s2, hrR, hs2⟩ := hB.rowR
  have hktop := Keep.top3 hB.top hrB hrR hB.n1 hB.n2 hB.n12
  have hletop := top3 hB.top hrB hrR
  have hmh : B.find bh = some (.amap (ks.map (encG gv))) := hKB.find (fun e => e.elim (fun e => hb1h e.symm) (fun e => hb2h e.symm)) hh
  have hmE := hktop.find (fun h => h) hmh
  have hKH : Keep H0 B (fun b => b = b1 ∨ b = b2) := (hK0.mono fun _ h => h.elim).trans hKB
  have past : ∀ {sz cap : Nat} {base : Option Addr} {L : List (List Value)}, SlcIn H0 sz base cap L → SlcIn B sz base cap L := fun hs => by
    rcases hs.apart hf1 with h1 | h1
    · exact hs.past (.inl h1) hKH
    · rcases hs.apart hf2 with h2 | h2
      · exact hs.past (.inl h2) hKH
      · exact hs.past (.inr fun a ha hx => hx.elim (h1 a ha) (h2 a ha)) hKH
  have hout := (past hT.out).keep hktop fun _ _ h => h
  have hin := (past (hT.inn t (List.mem_of_getElem? ht)).1).keep hktop fun _ _ h => h
  have n1 := hB.n1
  have n2 := hB.n2
  have n12 := hB.n12
  rw [hiB, nR_len] at hktop hletop hmE hout hin
  generalize hD : ((B.del br).del b1).del b2 = D at hktop hletop hmE hout hin
  have hnl := nR_len ks T R i
  have q1 : ¬ br = b1 := n1
  have q2 : ¬ br = b2 := n2
  have q3 : ¬ b1 = b2 := n12
  have q4 : ¬ b1 = br := fun e => n1 e.symm
  have q5 : ¬ b2 = br := fun e => n2 e.symm
  have q6 : ¬ b2 = b1 := fun e => n12 e.symm
  have hi1 : i + 1 ≤ R.length := by omega
  have hl2 := nR_len ks T R (i + 1)
  rw [hiB, hnl] at hs1
  rw [hnl] at hs2
  have hgB : ((isB (nR ks T R i)).map Value.bool)[i]? = some (.bool (decide (x < 3))) := by rw [List.getElem?_map, isB, List.getElem?_map, hxi]; rfl
  have hgR : ((nR ks T R i).map (Value.int .i64))[i]? = some (.int .i64 x) := by rw [List.getElem?_map, hxi]; rfl
  have hBl : (isB (nR ks T R i)).length = R.length := by rw [hiB, hnl]
  have hstep : ∀ y, stR ks t.2.2 x = y → RefAt (((D.add br (.cells [.slice (some ⟨b1, 0, none⟩) R.length c1, .slice (some ⟨b2, 0, none⟩) R.length c2] 41 2)).add b1 (.cells (((isB (nR ks T R i)).map Value.bool).set i (.bool (decide (y < 3)))) 4 s1)).add b2 (.cells (((nR ks T R i).map (Value.int .i64)).set i (.int .i64 y)) 3 s2)) br b1 b2 (isB (nR ks T R (i + 1))) (nR ks T R (i + 1)) c1 c2 ∧ Keep A (((D.add br (.cells [.slice (some ⟨b1, 0, none⟩) R.length c1, .slice (some ⟨b2, 0, none⟩) R.length c2] 41 2)).add b1 (.cells (((isB (nR ks T R i)).map Value.bool).set i (.bool (decide (y < 3)))) 4 s1)).add b2 (.cells (((nR ks T R i).map (Value.int .i64)).set i (.int .i64 y)) 3 s2)) (fun b => b = b1 ∨ b = b2) := by
    intro y hy
    have hsB : isB (nR ks T R (i + 1)) = (isB (nR ks T R i)).set i (decide (y < 3)) := by rw [hst, hy, isB, isB, List.map_set]
    refine ⟨⟨?_, ⟨s1, ?_, by rw [hiB, hl2]; exact hs1⟩, ⟨s2, ?_, by rw [hl2]; exact hs2⟩, n1, n2, n12⟩, ?_⟩
    · rw [find_add_ne _ q5, find_add_ne _ q4, find_add_self, hiB, hl2]
    · rw [find_add_ne _ q6, find_add_self, hsB, List.map_set]
    · rw [find_add_self, hst, hy, List.map_set]
    · exact (hKB.trans (hktop.mono fun _ h => h.elim)).trans Keep.re2
  obtain ⟨tb, tc, tl⟩ := t
  dsimp only at hin hstep hst
  have hbt := hin.big
  simp only [List.length_map] at hbt
  obtain ⟨bb, o, rfl, _, hrd⟩ := hout.get (map_get (f := encT) ht)
  have rt := hrd 0 _ rfl
  dsimp only at rt
  simp only [Nat.add_zero, Nat.mul_one] at rt
  have hmp : (((D.add br (.cells [.slice (some ⟨b1, 0, none⟩) R.length c1, .slice (some ⟨b2, 0, none⟩) R.length c2] 41 2)).add b1 (.cells ((isB (nR ks T R i)).map Value.bool) 4 s1)).add b2 (.cells ((nR ks T R i).map (Value.int .i64)) 3 s2)).mp bh = some (ks.map (encG gv)) := by unfold AH.mp; rw [hmE]
  simp (dsimp := false) (maxSteps := 4000000) only [hlT, r0, hlR, go_sem, ↓reduceIte, Nat.reduceEqDiff, Nat.reduceLT, Nat.reduceLeDiff, Nat.reduceAdd, Nat.reduceMul, Nat.reduceSub, reduceCtorEq, Int.reduceToNat, Int.reduceLT, Int.reduceLE, Int.reduceEq, Int.reduceNe, Int.reduceBEq, Nat.reduceBEq, Int.reduceBNe, Nat.reduceBNe, Int.reduceAdd, Int.reduceSub, Int.reduceMul, Int.reduceNeg]
  refine AWp.loopo (ι := Nat) (fun j => j ≤ tl.length) (fun j => [(9, .int .i64 j), (7, .bool (snd tl j)), (8, .bool (wasd ks tl j)), (6, .int .i64 i), (0, .pointer (some ⟨br, 0, none⟩)), (1, .slice (some ⟨bb, o, none⟩) T.length cap), (2, .map (some bh))])
    (fun _ => (((D.add br (.cells [.slice (some ⟨b1, 0, none⟩) R.length c1, .slice (some ⟨b2, 0, none⟩) R.length c2] 41 2)).add b1 (.cells ((isB (nR ks T R i)).map Value.bool) 4 s1)).add b2 (.cells ((nR ks T R i).map (Value.int .i64)) 3 s2))) (fun j => tl.length - j) 0 (by omega) (FrLe.of_lks ?_) hletop fun j hj Q2 again2 out2 => ?_
  · simp (dsimp := false) (maxSteps := 4000000) only [go_sem, ↓reduceIte, Nat.reduceEqDiff, Nat.reduceLT, Nat.reduceLeDiff, Nat.reduceAdd, Nat.reduceMul, Nat.reduceSub, reduceCtorEq, Int.reduceToNat, Int.reduceLT, Int.reduceLE, Int.reduceEq, Int.reduceNe, Int.reduceBEq, Nat.reduceBEq, Int.reduceBNe, Nat.reduceBNe, Int.reduceAdd, Int.reduceSub, Int.reduceMul, Int.reduceNeg]
    exact ⟨rfl, rfl⟩
  by_cases hjl : (j : Int) < tl.length
  · obtain ⟨e, he⟩ := get_some (l := tl) (i := j) (by omega)
    obtain ⟨eb_, eo, rfl, _, her⟩ := hin.get (map_get (f := encE) he)
    have k0 := her 0 _ rfl
    have k1 := her 1 _ rfl
    simp only [Nat.add_zero] at k0 k1
    have ej := i64_succ (i := j) (by omega)
    have hs_ := snd_succ he
    have hw_ := wasd_succ (ks := ks) he
    by_cases hk : e.1 = 1
    · have hkd : kd e = false := by simp [kd, hk]
      rw [hkd] at hs_ hw_
      rcases mlk_has gv e.2.1 ks 0 with ⟨hmem, jj, hm⟩ | ⟨hmem, hm⟩
      · have hhd : hd ks e = true := decide_eq_true hmem
        rw [hhd] at hw_
        simp (dsimp := false) (maxSteps := 4000000) only [hlT, rt, hjl, k0, k1, hk, hmp, hm, ej, Nat.mul_one, go_sem, ↓reduceIte, Nat.reduceEqDiff, Nat.reduceLT, Nat.reduceLeDiff, Nat.reduceAdd, Nat.reduceMul, Nat.reduceSub, reduceCtorEq, Int.reduceToNat, Int.reduceLT, Int.reduceLE, Int.reduceEq, Int.reduceNe, Int.reduceBEq, Nat.reduceBEq, Int.reduceBNe, Nat.reduceBNe, Int.reduceAdd, Int.reduceSub, Int.reduceMul, Int.reduceNeg]
        refine again2 (j + 1) _ _ (by omega) (FrLe.of_lks ?_) (AH.le_refl _) (by omega)
        rw [hs_, hw_]
        simp (dsimp := false) (maxSteps := 4000000) only [Bool.or_true, Bool.not_false, Bool.and_self, go_sem, ↓reduceIte, Nat.reduceEqDiff, Nat.reduceLT, Nat.reduceLeDiff, Nat.reduceAdd, Nat.reduceMul, Nat.reduceSub, reduceCtorEq, Int.reduceToNat, Int.reduceLT, Int.reduceLE, Int.reduceEq, Int.reduceNe, Int.reduceBEq, Nat.reduceBEq, Int.reduceBNe, Nat.reduceBNe, Int.reduceAdd, Int.reduceSub, Int.reduceMul, Int.reduceNeg]
      · have hhd : hd ks e = false := decide_eq_false hmem
        rw [hhd] at hw_
        simp (dsimp := false) (maxSteps := 4000000) only [hlT, rt, hjl, k0, k1, hk, hmp, hm, ej, Nat.mul_one, go_sem, ↓reduceIte, Nat.reduceEqDiff, Nat.reduceLT, Nat.reduceLeDiff, Nat.reduceAdd, Nat.reduceMul, Nat.reduceSub, reduceCtorEq, Int.reduceToNat, Int.reduceLT, Int.reduceLE, Int.reduceEq, Int.reduceNe, Int.reduceBEq, Nat.reduceBEq, Int.reduceBNe, Nat.reduceBNe, Int.reduceAdd, Int.reduceSub, Int.reduceMul, Int.reduceNeg]
        refine again2 (j + 1) _ _ (by omega) (FrLe.of_lks ?_) (AH.le_refl _) (by omega)
        rw [hs_, hw_]
        simp (dsimp := false) (maxSteps := 4000000) only [Bool.or_true, Bool.not_false, Bool.and_false, Bool.or_false, go_sem, ↓reduceIte, Nat.reduceEqDiff, Nat.reduceLT, Nat.reduceLeDiff, Nat.reduceAdd, Nat.reduceMul, Nat.reduceSub, reduceCtorEq, Int.reduceToNat, Int.reduceLT, Int.reduceLE, Int.reduceEq, Int.reduceNe, Int.reduceBEq, Nat.reduceBEq, Int.reduceBNe, Nat.reduceBNe, Int.reduceAdd, Int.reduceSub, Int.reduceMul, Int.reduceNeg]
    · have hkd : kd e = true := by simp [kd, hk]
      rw [hkd] at hs_ hw_
      simp (dsimp := false) (maxSteps := 4000000) only [hlT, rt, hjl, k0, hk, ej, Nat.mul_one, go_sem, ↓reduceIte, Nat.reduceEqDiff, Nat.reduceLT, Nat.reduceLeDiff, Nat.reduceAdd, Nat.reduceMul, Nat.reduceSub, reduceCtorEq, Int.reduceToNat, Int.reduceLT, Int.reduceLE, Int.reduceEq, Int.reduceNe, Int.reduceBEq, Nat.reduceBEq, Int.reduceBNe, Nat.reduceBNe, Int.reduceAdd, Int.reduceSub, Int.reduceMul, Int.reduceNeg]
      refine again2 (j + 1) _ _ (by omega) (FrLe.of_lks ?_) (AH.le_refl _) (by omega)
      rw [hs_, hw_]
      simp (dsimp := false) (maxSteps := 4000000) only [Bool.not_true, Bool.or_false, Bool.false_and, go_sem, ↓reduceIte, Nat.reduceEqDiff, Nat.reduceLT, Nat.reduceLeDiff, Nat.reduceAdd, Nat.reduceMul, Nat.reduceSub, reduceCtorEq, Int.reduceToNat, Int.reduceLT, Int.reduceLE, Int.reduceEq, Int.reduceNe, Int.reduceBEq, Nat.reduceBEq, Int.reduceBNe, Nat.reduceBNe, Int.reduceAdd, Int.reduceSub, Int.reduceMul, Int.reduceNeg]
  obtain rfl : j = tl.length := by omega
  simp (dsimp := false) (maxSteps := 4000000) only [hlT, rt, hjl, Nat.mul_one, go_sem, ↓reduceIte, Nat.reduceEqDiff, Nat.reduceLT, Nat.reduceLeDiff, Nat.reduceAdd, Nat.reduceMul, Nat.reduceSub, reduceCtorEq, Int.reduceToNat, Int.reduceLT, Int.reduceLE, Int.reduceEq, Int.reduceNe, Int.reduceBEq, Nat.reduceBEq, Int.reduceBNe, Nat.reduceBNe, Int.reduceAdd, Int.reduceSub, Int.reduceMul, Int.reduceNeg]
  refine out2 _ _ _ (by simp) ?_
  clear again2 out2 hjl
  have hle3 := AH.le_refl (((D.add br (.cells [.slice (some ⟨b1, 0, none⟩) R.length c1, .slice (some ⟨b2, 0, none⟩) R.length c2] 41 2)).add b1 (.cells ((isB (nR ks T R i)).map Value.bool) 4 s1)).add b2 (.cells ((nR ks T R i).map (Value.int .i64)) 3 s2))
  cases hwas : wasd ks tl tl.length with
  | true =>
    obtain ⟨st1, st2⟩ := hstep 0 (by rw [stR, if_pos hwas])
    simp (dsimp := false) (maxSteps := 4000000) only [go_sem, ↓reduceIte, Nat.reduceEqDiff, Nat.reduceLT, Nat.reduceLeDiff, Nat.reduceAdd, Nat.reduceMul, Nat.reduceSub, reduceCtorEq, Int.reduceToNat, Int.reduceLT, Int.reduceLE, Int.reduceEq, Int.reduceNe, Int.reduceBEq, Nat.reduceBEq, Int.reduceBNe, Nat.reduceBNe, Int.reduceAdd, Int.reduceSub, Int.reduceMul, Int.reduceNeg]
    refine AWp.gen [.pu, .pu, .pu, .rd, .pu, .pu, .pu, .pu, .rd, .pu, .pu, .ch, .pu, .ch] [0, 1, 3, 7, 0, 0, 32, 96, 224, 0, 511, 1535, 4095, 8191] 0 (_) mixed (by kernel_rfl) (AH.le_refl _) ?_
    simp (dsimp := false) (maxSteps := 4000000) only [q1, q2, q3, q4, q5, q6, hlR, hi1, hs1, hs2, hBl, hnl, AH.le_refl, ee, Nat.mul_one, Nat.zero_add, go_sem, ↓reduceIte, Nat.reduceEqDiff, Nat.reduceLT, Nat.reduceLeDiff, Nat.reduceAdd, Nat.reduceMul, Nat.reduceSub, reduceCtorEq, Int.reduceToNat, Int.reduceLT, Int.reduceLE, Int.reduceEq, Int.reduceNe, Int.reduceBEq, Nat.reduceBEq, Int.reduceBNe, Nat.reduceBNe, Int.reduceAdd, Int.reduceSub, Int.reduceMul, Int.reduceNeg]
    exact again (i + 1) _ _ _ ⟨by omega, st1, st2⟩ (FrLe.of_lks (by simp (dsimp := false) (maxSteps := 4000000) only [go_sem, ↓reduceIte, Nat.reduceEqDiff, Nat.reduceLT, Nat.reduceLeDiff, Nat.reduceAdd, Nat.reduceMul, Nat.reduceSub, reduceCtorEq, Int.reduceToNat, Int.reduceLT, Int.reduceLE, Int.reduceEq, Int.reduceNe, Int.reduceBEq, Nat.reduceBEq, Int.reduceBNe, Nat.reduceBNe, Int.reduceAdd, Int.reduceSub, Int.reduceMul, Int.reduceNeg])) (AH.le_refl _) (by omega)
  | false =>
    cases hsn : snd tl tl.length with
    | true =>
      obtain ⟨st1, st2⟩ := hstep (x + 1) (by rw [stR, hwas, hsn]; simp)
      have ex : IntKind.i64.wrap (x + 1) = x + 1 := i64_eq (by omega) (by omega)
      have hgR2 : (((nR ks T R i).map (Value.int .i64)).set i (.int .i64 (x + 1)))[i]? = some (.int .i64 (x + 1)) := by rw [List.getElem?_set_self (by rw [List.length_map, hnl]; omega)]
      by_cases h3 : 3 ≤ x + 1
      · have ed : decide (x + 1 < 3) = false := decide_eq_false (by omega)
        rw [ed] at st1 st2
        simp (dsimp := false) (maxSteps := 4000000) only [q1, q2, q3, q4, q5, q6, hlR, hi1, hs1, hs2, hBl, hnl, hgR, hgR2, ex, h3, ee, Nat.mul_one, Nat.zero_add, go_sem, ↓reduceIte, Nat.reduceEqDiff, Nat.reduceLT, Nat.reduceLeDiff, Nat.reduceAdd, Nat.reduceMul, Nat.reduceSub, reduceCtorEq, Int.reduceToNat, Int.reduceLT, Int.reduceLE, Int.reduceEq, Int.reduceNe, Int.reduceBEq, Nat.reduceBEq, Int.reduceBNe, Nat.reduceBNe, Int.reduceAdd, Int.reduceSub, Int.reduceMul, Int.reduceNeg]
        exact again (i + 1) _ _ _ ⟨by omega, st1, st2⟩ (FrLe.of_lks (by simp (dsimp := false) (maxSteps := 4000000) only [go_sem, ↓reduceIte, Nat.reduceEqDiff, Nat.reduceLT, Nat.reduceLeDiff, Nat.reduceAdd, Nat.reduceMul, Nat.reduceSub, reduceCtorEq, Int.reduceToNat, Int.reduceLT, Int.reduceLE, Int.reduceEq, Int.reduceNe, Int.reduceBEq, Nat.reduceBEq, Int.reduceBNe, Nat.reduceBNe, Int.reduceAdd, Int.reduceSub, Int.reduceMul, Int.reduceNeg])) (AH.le_refl _) (by omega)
      · have ed : decide (x + 1 < 3) = decide (x < 3) := by rw [decide_eq_true (by omega : x + 1 < 3), decide_eq_true (by omega : x < 3)]
        rw [ed, set_same hgB] at st1 st2
        simp (dsimp := false) (maxSteps := 4000000) only [q1, q2, q3, q4, q5, q6, hlR, hi1, hs1, hs2, hBl, hnl, hgR, hgR2, ex, h3, ee, Nat.mul_one, Nat.zero_add, go_sem, ↓reduceIte, Nat.reduceEqDiff, Nat.reduceLT, Nat.reduceLeDiff, Nat.reduceAdd, Nat.reduceMul, Nat.reduceSub, reduceCtorEq, Int.reduceToNat, Int.reduceLT, Int.reduceLE, Int.reduceEq, Int.reduceNe, Int.reduceBEq, Nat.reduceBEq, Int.reduceBNe, Nat.reduceBNe, Int.reduceAdd, Int.reduceSub, Int.reduceMul, Int.reduceNeg]
        exact again (i + 1) _ _ _ ⟨by omega, st1, st2⟩ (FrLe.of_lks (by simp (dsimp := false) (maxSteps := 4000000) only [go_sem, ↓reduceIte, Nat.reduceEqDiff, Nat.reduceLT, Nat.reduceLeDiff, Nat.reduceAdd, Nat.reduceMul, Nat.reduceSub, reduceCtorEq, Int.reduceToNat, Int.reduceLT, Int.reduceLE, Int.reduceEq, Int.reduceNe, Int.reduceBEq, Nat.reduceBEq, Int.reduceBNe, Nat.reduceBNe, Int.reduceAdd, Int.reduceSub, Int.reduceMul, Int.reduceNeg])) (AH.le_refl _) (by omega)
    | false =>
      obtain ⟨st1, st2⟩ := hstep x (by rw [stR, hwas, hsn]; simp)
      rw [set_same hgB, set_same hgR] at st1 st2
      simp (dsimp := false) (maxSteps := 4000000) only [ee, go_sem, ↓reduceIte, Nat.reduceEqDiff, Nat.reduceLT, Nat.reduceLeDiff, Nat.reduceAdd, Nat.reduceMul, Nat.reduceSub, reduceCtorEq, Int.reduceToNat, Int.reduceLT, Int.reduceLE, Int.reduceEq, Int.reduceNe, Int.reduceBEq, Nat.reduceBEq, Int.reduceBNe, Nat.reduceBNe, Int.reduceAdd, Int.reduceSub, Int.reduceMul, Int.reduceNeg]
      exact again (i + 1) _ _ _ ⟨by omega, st1, st2⟩ (FrLe.of_lks (by simp (dsimp := false) (maxSteps := 4000000) only [go_sem, ↓reduceIte, Nat.reduceEqDiff, Nat.reduceLT, Nat.reduceLeDiff, Nat.reduceAdd, Nat.reduceMul, Nat.reduceSub, reduceCtorEq, Int.reduceToNat, Int.reduceLT, Int.reduceLE, Int.reduceEq, Int.reduceNe, Int.reduceBEq, Nat.reduceBEq, Int.reduceBNe, Nat.reduceBNe, Int.reduceAdd, Int.reduceSub, Int.reduceMul, Int.reduceNeg])) (AH.le_refl _) (by omega)
end Go.Proofs.Ytgleplakdghaiaa.Mem
