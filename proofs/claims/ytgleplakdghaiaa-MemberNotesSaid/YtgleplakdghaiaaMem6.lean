/- member: Note. -/
import Derived.Test.YtgleplakdghaiaaMem5
namespace Go.Proofs.Ytgleplakdghaiaa.Mem
set_option linter.unusedSimpArgs false
set_option linter.unusedVariables false
open Go Go.AX Go.Proofs Ty
set_option maxHeartbeats 4000000
set_option maxRecDepth 10000

theorem Keep.readd {B : AH} {b : Nat} {k k' : ABlk} : Keep (B.add b k) (B.add b k') (· = b) := ⟨rfl, fun b' hb _ => by rw [find_add, find_add, if_neg hb, if_neg hb]⟩
abbrev Tb := Option Addr × Nat × List Ent
def encT (x : Tb) : List Value := [.slice x.1 x.2.2.length x.2.1]
structure TabIn (H : AH) (base : Option Addr) (cap : Nat) (T : List Tb) : Prop where
  out : SlcIn H 1 base cap (T.map encT)
  inn : ∀ x ∈ T, SlcIn H 5 x.1 x.2.1 (x.2.2.map encE) ∧ x.2.2.length ≤ 3518437208780
def sendsOf (t : List Ent) : List Ent := t.filter fun x => !kd x
def stM (ks : List Int) (t : List Ent) (x : Int) : Int := if sendsOf t = [] then x else if (sendsOf t).any (hd ks) then 0 else if x + 1 < 3 then x + 1 else 3
def nM (ks : List Int) (T : List Tb) (M : List Int) (i : Nat) : List Int := M.mapIdx fun n x => if n < i then (match T[n]? with | some t => stM ks t.2.2 x | none => x) else x
theorem nM_len (ks : List Int) (T : List Tb) (M : List Int) (i : Nat) : (nM ks T M i).length = M.length := by simp [nM]
theorem nM_zero (ks : List Int) (T : List Tb) (M : List Int) : nM ks T M 0 = M := by
  apply List.ext_getElem?; intro j; simp [nM]
theorem nM_get {ks : List Int} {T : List Tb} {M : List Int} {i : Nat} {x : Int} (hx : M[i]? = some x) : (nM ks T M i)[i]? = some x := by
  simp [nM, hx]
theorem nM_step {ks : List Int} {T : List Tb} {M : List Int} {i : Nat} {x : Int} {t : Tb} (hx : M[i]? = some x) (ht : T[i]? = some t) : nM ks T M (i + 1) = (nM ks T M i).set i (stM ks t.2.2 x) := by
  apply List.ext_getElem?
  intro j
  have hi := lt_of_get hx
  by_cases hj : j = i
  · subst hj
    rw [List.getElem?_set_self (by rw [nM_len]; exact hi)]
    simp [nM, hx, ht]
  · rw [List.getElem?_set_ne (by omega)]
    simp only [nM, List.getElem?_mapIdx]
    by_cases h1 : j < i
    · simp [h1, show j < i + 1 by omega]
    · simp [h1, show ¬ j < i + 1 by omega]
theorem Note_c {H0 A : AH} {bm ba bh : Nat} {M : List Int} {gv : Int → Int} {ks : List Int} {T : List Tb} {base : Option Addr} {cap : Nat} (hT : TabIn H0 base cap T) (hK0 : Keep H0 A fun _ => False) (hf : Fresh H0 ba) (h : MemAt A bm ba M) (hh : A.find bh = some (.amap (ks.map (encG gv)))) (hM : M.length ≤ 32) (hM0 : ∀ x ∈ M, 0 ≤ x ∧ x ≤ 3) :
    ACalls Try.prog 7 #[.pointer (some ⟨bm, 0, none⟩), .slice base T.length cap, .map (some bh)] A (fun v H' => v = undef ∧ MemAt H' bm ba (nM ks T M (min M.length T.length)) ∧ Keep A H' (· = ba)) := by
  have hbig := hT.out.big
  simp only [List.length_map] at hbig
  have hba : ba ≠ bh := by
    obtain ⟨sz, h1, _⟩ := h.row
    intro e
    rw [e, hh] at h1; cases h1
  refine ACalls.enter2 Try.func7 rfl Try.ntmps7 Try.results7 (by simp) ?_; simp (dsimp := false) (maxSteps := 4000000) only [go_sem, ↓reduceIte, Nat.reduceEqDiff, Nat.reduceLT, Nat.reduceLeDiff, Nat.reduceAdd, Nat.reduceMul, Nat.reduceSub, reduceCtorEq, Int.reduceToNat, Int.reduceLT, Int.reduceLE, Int.reduceEq, Int.reduceNe, Int.reduceBEq, Nat.reduceBEq, Int.reduceBNe, Nat.reduceBNe, Int.reduceAdd, Int.reduceSub, Int.reduceMul, Int.reduceNeg]
  refine AllB.mk fun b5 h_b5 => ?_
  have m5 : ¬ b5 = bm := h_b5.ne_find h.top
  have r0 := h.rd0
  obtain ⟨N, hN⟩ : ∃ N, min M.length T.length = N := ⟨_, rfl⟩
  have hmin : (if (T.length : Int) < (M.length : Int) then (T.length : Int) else (M.length : Int)) = (N : Int) := by split <;> omega
  have ba5 : ba ≠ b5 := by
    obtain ⟨sz, h1, _⟩ := h.row
    exact fun e => h_b5.ne_find h1 e.symm
  have bh5 : ¬ b5 = bh := h_b5.ne_find hh
  have hKa : Keep A (A.add b5 (.cells [.map (some bh)] 36 1)) fun _ => False := Keep.add h_b5
  have hm5 : MemAt (A.add b5 (.cells [.map (some bh)] 36 1)) bm ba M := h.keep hKa (fun h => h) (fun h => h)
  rw [hN]
  simp (dsimp := false) (maxSteps := 4000000) only [r0, m5, hmin, go_sem, ↓reduceIte, Nat.reduceEqDiff, Nat.reduceLT, Nat.reduceLeDiff, Nat.reduceAdd, Nat.reduceMul, Nat.reduceSub, reduceCtorEq, Int.reduceToNat, Int.reduceLT, Int.reduceLE, Int.reduceEq, Int.reduceNe, Int.reduceBEq, Nat.reduceBEq, Int.reduceBNe, Nat.reduceBNe, Int.reduceAdd, Int.reduceSub, Int.reduceMul, Int.reduceNeg]
  refine AWp.loopr (ι := Nat) (fun i B => i ≤ N ∧ MemAt B bm ba (nM ks T M i) ∧ Keep (A.add b5 (.cells [.map (some bh)] 36 1)) B (· = ba))
    (fun i => [(19, .int .i64 i), (18, .int .i64 N), (0, .pointer (some ⟨bm, 0, none⟩)), (1, .slice base T.length cap), (5, .pointer (some ⟨b5, 0, none⟩))]) (fun i => N - i) 0 (A.add b5 (.cells [.map (some bh)] 36 1))
    ⟨by omega, by rw [nM_zero]; exact hm5, Keep.refl⟩ (FrLe.of_lks ?_) (AH.le_refl _) fun i B hi Q again out => ?_
  · simp (dsimp := false) (maxSteps := 4000000) only [go_sem, ↓reduceIte, Nat.reduceEqDiff, Nat.reduceLT, Nat.reduceLeDiff, Nat.reduceAdd, Nat.reduceMul, Nat.reduceSub, reduceCtorEq, Int.reduceToNat, Int.reduceLT, Int.reduceLE, Int.reduceEq, Int.reduceNe, Int.reduceBEq, Nat.reduceBEq, Int.reduceBNe, Nat.reduceBNe, Int.reduceAdd, Int.reduceSub, Int.reduceMul, Int.reduceNeg]
  obtain ⟨hi, hB, hKB⟩ := hi
  by_cases hlt : (i : Int) < N
  case neg =>
    obtain rfl : i = N := by omega
    simp (dsimp := false) (maxSteps := 4000000) only [hlt, go_sem, ↓reduceIte, Nat.reduceEqDiff, Nat.reduceLT, Nat.reduceLeDiff, Nat.reduceAdd, Nat.reduceMul, Nat.reduceSub, reduceCtorEq, Int.reduceToNat, Int.reduceLT, Int.reduceLE, Int.reduceEq, Int.reduceNe, Int.reduceBEq, Nat.reduceBEq, Int.reduceBNe, Nat.reduceBNe, Int.reduceAdd, Int.reduceSub, Int.reduceMul, Int.reduceNeg]
    refine out _ _ _ (by simp) ?_
    simp (dsimp := false) (maxSteps := 4000000) only [go_sem, ↓reduceIte, Nat.reduceEqDiff, Nat.reduceLT, Nat.reduceLeDiff, Nat.reduceAdd, Nat.reduceMul, Nat.reduceSub, reduceCtorEq, Int.reduceToNat, Int.reduceLT, Int.reduceLE, Int.reduceEq, Int.reduceNe, Int.reduceBEq, Nat.reduceBEq, Int.reduceBNe, Nat.reduceBNe, Int.reduceAdd, Int.reduceSub, Int.reduceMul, Int.reduceNeg]
    exact ⟨B, AH.le_refl _, rfl, hB, (hKa.mono fun _ h => h.elim).trans hKB⟩
  have ee := i64_succ (i := i) (by omega)
  obtain ⟨x, hx⟩ := get_some (l := M) (i := i) (by omega)
  obtain ⟨t, ht⟩ := get_some (l := T) (i := i) (by omega)
  have hx3 := hM0 x (List.mem_of_getElem? hx)
  have hst := nM_step (ks := ks) hx ht
  have hxi := nM_get (ks := ks) (T := T) hx
  have hKAB : Keep H0 B (· = ba) := ((hK0.mono fun _ h => h.elim).trans (hKa.mono fun _ h => h.elim)).trans hKB
  have hout := hT.out.past (hT.out.apart hf) hKAB
  obtain ⟨hin0, htl⟩ := hT.inn t (List.mem_of_getElem? ht)
  have hin := hin0.past (hin0.apart hf) hKAB
  have hB5 : B.find b5 = some (.cells [.map (some bh)] 36 1) := hKB.find (fun e => ba5 e.symm) (find_add_self _ _ _)
  have hBh : B.find bh = some (.amap (ks.map (encG gv))) := hKB.find (fun e => hba e.symm) (by rw [find_add_ne _ bh5]; exact hh)
  obtain ⟨bb, o, rfl, _, hrd⟩ := hout.get (map_get (f := encT) ht)
  have rt := hrd 0 _ rfl
  simp only [Nat.add_zero, Nat.mul_one] at rt
  have hiT : (i : Int) < (T.length : Int) := by omega
  simp (dsimp := false) (maxSteps := 4000000) only [hlt, hiT, rt, Nat.mul_one, go_sem, ↓reduceIte, Nat.reduceEqDiff, Nat.reduceLT, Nat.reduceLeDiff, Nat.reduceAdd, Nat.reduceMul, Nat.reduceSub, reduceCtorEq, Int.reduceToNat, Int.reduceLT, Int.reduceLE, Int.reduceEq, Int.reduceNe, Int.reduceBEq, Nat.reduceBEq, Int.reduceBNe, Nat.reduceBNe, Int.reduceAdd, Int.reduceSub, Int.reduceMul, Int.reduceNeg]
  refine (Clone_c hin htl).mono ?_; rintro _ C1 ⟨cb, cc, rfl, hO1, hK1⟩
  simp (dsimp := false) (maxSteps := 4000000) only [go_sem, ↓reduceIte, Nat.reduceEqDiff, Nat.reduceLT, Nat.reduceLeDiff, Nat.reduceAdd, Nat.reduceMul, Nat.reduceSub, reduceCtorEq, Int.reduceToNat, Int.reduceLT, Int.reduceLE, Int.reduceEq, Int.reduceNe, Int.reduceBEq, Nat.reduceBEq, Int.reduceBNe, Nat.reduceBNe, Int.reduceAdd, Int.reduceSub, Int.reduceMul, Int.reduceNeg]
  refine (DeleteFunc_c (p := kd) (fid := 15) hO1 rfl (by kernel_rfl) kind_c).mono ?_; rintro _ C2 ⟨rfl, hO2, hK2⟩
  have hK12 := hK1.ow hK2 fun b ⟨a, ha, e⟩ => e ▸ hO1.fresh a ha
  have hmC := hB.keep hK12 (fun h => h) (fun h => h)
  have hC5 := hK12.find (fun h => h) hB5
  have hCh := hK12.find (fun h => h) hBh
  have hKC : Keep (A.add b5 (.cells [.map (some bh)] 36 1)) C2 (· = ba) := hKB.trans (hK12.mono fun _ h => h.elim)
  rw [show (t.2.2.filter fun x => !kd x) = sendsOf t.2.2 from rfl] at hO2 ⊢
  by_cases hemp : sendsOf t.2.2 = []
  · have hl0 : (sendsOf t.2.2).length = 0 := by rw [hemp]; rfl
    have hst2 : nM ks T M (i + 1) = nM ks T M i := by
      rw [hst, stM, if_pos hemp]
      apply List.ext_getElem?
      intro j
      by_cases hj : j = i
      · subst hj; rw [List.getElem?_set_self (lt_of_get hxi), hxi]
      · rw [List.getElem?_set_ne (by omega)]
    rw [hl0]
    simp (dsimp := false) (maxSteps := 4000000) only [ee, go_sem, ↓reduceIte, Nat.reduceEqDiff, Nat.reduceLT, Nat.reduceLeDiff, Nat.reduceAdd, Nat.reduceMul, Nat.reduceSub, reduceCtorEq, Int.reduceToNat, Int.reduceLT, Int.reduceLE, Int.reduceEq, Int.reduceNe, Int.reduceBEq, Nat.reduceBEq, Int.reduceBNe, Nat.reduceBNe, Int.reduceAdd, Int.reduceSub, Int.reduceMul, Int.reduceNeg]
    exact again (i + 1) _ C2 _ ⟨by omega, by rw [hst2]; exact hmC, hKC⟩ (FrLe.of_lks (by simp (dsimp := false) (maxSteps := 4000000) only [go_sem, ↓reduceIte, Nat.reduceEqDiff, Nat.reduceLT, Nat.reduceLeDiff, Nat.reduceAdd, Nat.reduceMul, Nat.reduceSub, reduceCtorEq, Int.reduceToNat, Int.reduceLT, Int.reduceLE, Int.reduceEq, Int.reduceNe, Int.reduceBEq, Nat.reduceBEq, Int.reduceBNe, Nat.reduceBNe, Int.reduceAdd, Int.reduceSub, Int.reduceMul, Int.reduceNeg])) (AH.le_refl _) (by omega)
  have hl1 : ¬ ((sendsOf t.2.2).length : Int) = 0 := by
    intro e
    exact hemp (List.length_eq_zero_iff.1 (by omega))
  have hr5 : C2.rd ⟨b5, 0, none⟩ = some (.map (some bh)) := by rw [rd_find hC5]; rfl
  obtain ⟨sz, hrow, hsz⟩ := hmC.row
  have hne := hmC.ne
  have rne : ¬ ba = bm := fun e => hne e.symm
  have hii : i < M.length := by omega
  have hli : (i : Int) < (M.length : Int) := by omega
  have hnl := nM_len ks T M i
  have hgx : ((nM ks T M i).map (Value.int .i64))[i]? = some (.int .i64 x) := by rw [List.getElem?_map, hxi]; rfl
  have hstep : ∀ y, stM ks t.2.2 x = y → ∀ D : AH, D = (C2.del bm).del ba → MemAt ((D.add bm (.cells [.slice (some ⟨ba, 0, none⟩) M.length M.length] 48 1)).add ba (.cells (((nM ks T M i).map (Value.int .i64)).set i (.int .i64 y)) 3 sz)) bm ba (nM ks T M (i + 1)) ∧
      Keep (A.add b5 (.cells [.map (some bh)] 36 1)) ((D.add bm (.cells [.slice (some ⟨ba, 0, none⟩) M.length M.length] 48 1)).add ba (.cells (((nM ks T M i).map (Value.int .i64)).set i (.int .i64 y)) 3 sz)) (· = ba) := by
    rintro y hy D rfl
    have hl2 := nM_len ks T M (i + 1)
    refine ⟨⟨?_, ⟨sz, ?_, by rw [hl2]; omega⟩, hne⟩, ?_⟩
    · rw [find_add_ne _ rne, find_add_self, hl2]
    · rw [find_add_self, hst, hy, List.map_set]
    · have ht := hmC.top
      rw [hnl] at ht
      exact (hKC.trans ((Keep.top2 ht hrow rne).mono fun _ h => h.elim)).trans Keep.readd
  have hcl : ∀ e ∈ sendsOf t.2.2, ACalls Try.prog 16 ([] ++ [Value.agg (encE e).toArray] ++ [Value.pointer (some ⟨b5, 0, none⟩)]).toArray C2 (fun v H' => v = .bool (hd ks e) ∧ C2 = H') := fun e _ => is_c ks e b5 bh C2 hr5 hCh
  have htop := hmC.top
  rw [hnl] at htop
  simp (dsimp := false) (maxSteps := 4000000) only [hl1, go_sem, ↓reduceIte, Nat.reduceEqDiff, Nat.reduceLT, Nat.reduceLeDiff, Nat.reduceAdd, Nat.reduceMul, Nat.reduceSub, reduceCtorEq, Int.reduceToNat, Int.reduceLT, Int.reduceLE, Int.reduceEq, Int.reduceNe, Int.reduceBEq, Nat.reduceBEq, Int.reduceBNe, Nat.reduceBNe, Int.reduceAdd, Int.reduceSub, Int.reduceMul, Int.reduceNeg]
  refine (Contains_g (g := hd ks) (fid := 16) (caps := [.pointer (some ⟨b5, 0, none⟩)]) hO2.slc rfl (by kernel_rfl) hcl).monoW ?_; rintro _ _ ⟨rfl, rfl⟩
  refine ⟨_, top2 htop hrow, ?_⟩
  generalize hD : (C2.del bm).del ba = D at hstep ⊢
  have hi1 : i + 1 ≤ M.length := by omega
  have hsz2 : M.length ≤ sz := by rw [hnl] at hsz; exact hsz
  cases hany : (sendsOf t.2.2).any (hd ks) with
  | true =>
    obtain ⟨s1, s2⟩ := hstep 0 (by rw [stM, if_neg hemp, if_pos hany]) D rfl
    simp (dsimp := false) (maxSteps := 4000000) only [rne, hne, hli, hnl, hi1, hsz2, ee, Nat.mul_one, Nat.zero_add, go_sem, ↓reduceIte, Nat.reduceEqDiff, Nat.reduceLT, Nat.reduceLeDiff, Nat.reduceAdd, Nat.reduceMul, Nat.reduceSub, reduceCtorEq, Int.reduceToNat, Int.reduceLT, Int.reduceLE, Int.reduceEq, Int.reduceNe, Int.reduceBEq, Nat.reduceBEq, Int.reduceBNe, Nat.reduceBNe, Int.reduceAdd, Int.reduceSub, Int.reduceMul, Int.reduceNeg]
    exact again (i + 1) _ _ _ ⟨by omega, s1, s2⟩ (FrLe.of_lks (by simp (dsimp := false) (maxSteps := 4000000) only [go_sem, ↓reduceIte, Nat.reduceEqDiff, Nat.reduceLT, Nat.reduceLeDiff, Nat.reduceAdd, Nat.reduceMul, Nat.reduceSub, reduceCtorEq, Int.reduceToNat, Int.reduceLT, Int.reduceLE, Int.reduceEq, Int.reduceNe, Int.reduceBEq, Nat.reduceBEq, Int.reduceBNe, Nat.reduceBNe, Int.reduceAdd, Int.reduceSub, Int.reduceMul, Int.reduceNeg])) (AH.le_refl _) (by omega)
  | false =>
    obtain ⟨y, hy⟩ : ∃ y, (if x + 1 < 3 then x + 1 else 3) = y := ⟨_, rfl⟩
    have hmy : (if (3 : Int) < x + 1 then (3 : Int) else x + 1) = y := by rw [← hy]; split <;> split <;> omega
    have ex : IntKind.i64.wrap (x + 1) = x + 1 := i64_eq (by omega) (by omega)
    obtain ⟨s1, s2⟩ := hstep y (by rw [stM, if_neg hemp, hany, ← hy]; simp) D rfl
    simp (dsimp := false) (maxSteps := 4000000) only [go_sem, ↓reduceIte, Nat.reduceEqDiff, Nat.reduceLT, Nat.reduceLeDiff, Nat.reduceAdd, Nat.reduceMul, Nat.reduceSub, reduceCtorEq, Int.reduceToNat, Int.reduceLT, Int.reduceLE, Int.reduceEq, Int.reduceNe, Int.reduceBEq, Nat.reduceBEq, Int.reduceBNe, Nat.reduceBNe, Int.reduceAdd, Int.reduceSub, Int.reduceMul, Int.reduceNeg]
    refine AWp.gen [.pu, .pu, .pu, .rd, .pu, .pu, .pu, .pu, .rd, .pu, .pu, .rd, .pu, .pu, .pu, .ch] [0, 1, 3, 7, 0, 0, 32, 96, 224, 0, 992, 2016, 4064, 8160, 16383, 32767] 0 (_) mixed (by kernel_rfl) (AH.le_refl _) ?_
    simp (dsimp := false) (maxSteps := 4000000) only [rne, hne, hli, hnl, hi1, hsz2, hgx, ex, hmy, AH.le_refl, ee, Nat.mul_one, Nat.zero_add, go_sem, ↓reduceIte, Nat.reduceEqDiff, Nat.reduceLT, Nat.reduceLeDiff, Nat.reduceAdd, Nat.reduceMul, Nat.reduceSub, reduceCtorEq, Int.reduceToNat, Int.reduceLT, Int.reduceLE, Int.reduceEq, Int.reduceNe, Int.reduceBEq, Nat.reduceBEq, Int.reduceBNe, Nat.reduceBNe, Int.reduceAdd, Int.reduceSub, Int.reduceMul, Int.reduceNeg]
    exact again (i + 1) _ _ _ ⟨by omega, s1, s2⟩ (FrLe.of_lks (by simp (dsimp := false) (maxSteps := 4000000) only [go_sem, ↓reduceIte, Nat.reduceEqDiff, Nat.reduceLT, Nat.reduceLeDiff, Nat.reduceAdd, Nat.reduceMul, Nat.reduceSub, reduceCtorEq, Int.reduceToNat, Int.reduceLT, Int.reduceLE, Int.reduceEq, Int.reduceNe, Int.reduceBEq, Nat.reduceBEq, Int.reduceBNe, Nat.reduceBNe, Int.reduceAdd, Int.reduceSub, Int.reduceMul, Int.reduceNeg])) (AH.le_refl _) (by omega)
end Go.Proofs.Ytgleplakdghaiaa.Mem
