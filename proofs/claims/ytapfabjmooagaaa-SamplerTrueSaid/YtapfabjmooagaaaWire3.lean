/- wire.Join: what it comes to. -/
import Derived.Test.YtapfabjmooagaaaWire2
namespace Go.Proofs.Ytapfabjmooagaaa.Wire
set_option linter.unusedSimpArgs false
set_option linter.unusedVariables false
open Go Go.AX Go.Proofs Ty Go.Proofs.Ytapfabjmooagaaa.Srt Go.Proofs.Ytapfabjmooagaaa.CatP
set_option maxHeartbeats 4000000
set_option maxRecDepth 10000

theorem up_c (x : Sp) (H : AH) : ACalls Try.prog 41 ([] ++ [Value.agg (encP x).toArray] ++ ([] : List Value)).toArray H (fun v H' => v = .bool (up x) ∧ H = H') := by
  obtain ⟨a, b⟩ := x
  show ACalls _ _ #[.agg #[.int .i64 a, .int .i64 b]] _ _
  refine ACalls.enter2 Try.func41 rfl Try.ntmps41 Try.results41 (by simp) ?_; simp (dsimp := false) (maxSteps := 4000000) only [go_sem, ↓reduceIte, Nat.reduceEqDiff, Nat.reduceLT, Nat.reduceLeDiff, Nat.reduceAdd, Nat.reduceMul, Nat.reduceSub, reduceCtorEq, Int.reduceToNat, Int.reduceLT, Int.reduceLE, Int.reduceEq, Int.reduceNe, Int.reduceBEq, Nat.reduceBEq, Int.reduceBNe, Nat.reduceBNe, Int.reduceAdd, Int.reduceSub, Int.reduceMul, Int.reduceNeg]
  refine AllB.mk fun b1 h_b1 => ?_; have hn_b1 := h_b1; (try simp only [fresh_add, fresh_set, ne_eq] at hn_b1); have hr_b1 := hn_b1; (try simp only [@eq_comm Nat b1] at hr_b1); simp (dsimp := false) (maxSteps := 4000000) only [hn_b1, hr_b1, go_sem, ↓reduceIte, Nat.reduceEqDiff, Nat.reduceLT, Nat.reduceLeDiff, Nat.reduceAdd, Nat.reduceMul, Nat.reduceSub, reduceCtorEq, Int.reduceToNat, Int.reduceLT, Int.reduceLE, Int.reduceEq, Int.reduceNe, Int.reduceBEq, Nat.reduceBEq, Int.reduceBNe, Nat.reduceBNe, Int.reduceAdd, Int.reduceSub, Int.reduceMul, Int.reduceNeg]
  exact ⟨H, (AH.le_add (AH.le_refl _) ((by simp only [fresh_add, fresh_set, ne_eq, hn_b1, not_false_eq_true, and_self] : Fresh _ b1).2)), (by first | exact ⟨rfl, rfl⟩ | rfl)⟩
theorem _root_.Go.AX.Keep.readd {B : AH} {b : Nat} {k k' : ABlk} : Keep (B.add b k) (B.add b k') (· = b) := ⟨rfl, fun b' hb _ => by rw [find_add, find_add, if_neg hb, if_neg hb]⟩
theorem encP_mk (a b : Int) : encP (a, b) = [.int .i64 a, .int .i64 b] := rfl
theorem Join_c (T : List Ls) (base : Option Addr) (cap : Nat) (H : AH) (hT : CatIn H base cap T) (hb : (tot T T.length).length < 100000) :
    ACalls Try.prog 29 #[.slice base T.length cap] H (fun v H' => ∃ R b c, v = .slice b R.length c ∧ JoinOf (tot T T.length) R ∧ SlcIn H' 2 b c (R.map encP) ∧ Keep H H' fun _ => False) := by
  generalize hX : tot T T.length = X at hb
  refine ACalls.enter2 Try.func29 rfl Try.ntmps29 Try.results29 (by simp) ?_; simp (dsimp := false) (maxSteps := 4000000) only [encP_len, encP_scal, encP_z, encP_take, go_sem, ↓reduceIte, Nat.reduceEqDiff, Nat.reduceLT, Nat.reduceLeDiff, Nat.reduceAdd, Nat.reduceMul, Nat.reduceSub, reduceCtorEq, Int.reduceToNat, Int.reduceLT, Int.reduceLE, Int.reduceEq, Int.reduceNe, Int.reduceBEq, Nat.reduceBEq, Int.reduceBNe, Nat.reduceBNe, Int.reduceAdd, Int.reduceSub, Int.reduceMul, Int.reduceNeg]
  refine (Concat_c T base cap H hT (by rw [hX]; omega)).mono ?_; rintro _ A1 ⟨b1, c1, rfl, hO1, hK1⟩
  rw [hX] at hO1 ⊢
  simp (dsimp := false) (maxSteps := 4000000) only [encP_len, encP_scal, encP_z, encP_take, go_sem, ↓reduceIte, Nat.reduceEqDiff, Nat.reduceLT, Nat.reduceLeDiff, Nat.reduceAdd, Nat.reduceMul, Nat.reduceSub, reduceCtorEq, Int.reduceToNat, Int.reduceLT, Int.reduceLE, Int.reduceEq, Int.reduceNe, Int.reduceBEq, Nat.reduceBEq, Int.reduceBNe, Nat.reduceBNe, Int.reduceAdd, Int.reduceSub, Int.reduceMul, Int.reduceNeg]
  refine (DeleteFunc_c (p := up) (fid := 41) hO1 rfl (by kernel_rfl) up_c).mono ?_; rintro _ A2 ⟨rfl, hO2, hK2⟩
  have hK12 := hK1.ow hK2 fun b ⟨a, ha, e⟩ => e ▸ hO1.fresh a ha
  have hlf : (X.filter fun x => !up x).length ≤ X.length := List.length_filter_le _ _
  simp (dsimp := false) (maxSteps := 4000000) only [encP_len, encP_scal, encP_z, encP_take, go_sem, ↓reduceIte, Nat.reduceEqDiff, Nat.reduceLT, Nat.reduceLeDiff, Nat.reduceAdd, Nat.reduceMul, Nat.reduceSub, reduceCtorEq, Int.reduceToNat, Int.reduceLT, Int.reduceLE, Int.reduceEq, Int.reduceNe, Int.reduceBEq, Nat.reduceBEq, Int.reduceBNe, Nat.reduceBNe, Int.reduceAdd, Int.reduceSub, Int.reduceMul, Int.reduceNeg]
  refine (Sort_o hO2 rfl (by omega)).mono ?_; rintro _ A3 ⟨rfl, S, hp, hso, hO3, hK3⟩
  have hK := hK12.ow hK3 fun b ⟨a, ha, e⟩ => e ▸ hO2.fresh a ha
  have hJ := join_of hp hso
  have hSl := hp.length_eq
  rw [← hSl]
  have hS := hO3.slc
  clear hO1 hK1 hO2 hK2 hK12 hK3 hT hX hO3
  simp (dsimp := false) (maxSteps := 4000000) only [encP_len, encP_scal, encP_z, encP_take, go_sem, ↓reduceIte, Nat.reduceEqDiff, Nat.reduceLT, Nat.reduceLeDiff, Nat.reduceAdd, Nat.reduceMul, Nat.reduceSub, reduceCtorEq, Int.reduceToNat, Int.reduceLT, Int.reduceLE, Int.reduceEq, Int.reduceNe, Int.reduceBEq, Nat.reduceBEq, Int.reduceBNe, Nat.reduceBNe, Int.reduceAdd, Int.reduceSub, Int.reduceMul, Int.reduceNeg]
  refine AWp.loopr (ι := Nat × Option Addr × Nat) (fun x A => x.1 ≤ S.length ∧ OwnS A3 A 53 2 x.2.1 x.2.2 ((mrgF S x.1).map encP) ∧ (Keep A3 A fun _ => False) ∧ (mrgF S x.1 ≠ [] → ∃ (B : AH) (b bs : Nat), x.2.1 = some ⟨b, 0, none⟩ ∧ A = B.add b (.cells ((mrgF S x.1).map encP).flatten 53 bs) ∧ x.2.2 * 2 ≤ bs ∧ Fresh A3 b))
    (fun x => [(15, .int .i64 x.1), (14, .int .i64 S.length), (13, .slice b1 S.length c1), (4, .slice x.2.1 (mrgF S x.1).length x.2.2)]) (fun x => S.length - x.1) (0, none, 0) A3
    ⟨by simp, OwnS.nil, Keep.refl, fun h => (h rfl).elim⟩ (FrLe.of_lks ?_) (AH.le_refl _) fun x A hi Q again out => ?_
  · simp (dsimp := false) (maxSteps := 4000000) only [encP_len, encP_scal, encP_z, encP_take, go_sem, ↓reduceIte, Nat.reduceEqDiff, Nat.reduceLT, Nat.reduceLeDiff, Nat.reduceAdd, Nat.reduceMul, Nat.reduceSub, reduceCtorEq, Int.reduceToNat, Int.reduceLT, Int.reduceLE, Int.reduceEq, Int.reduceNe, Int.reduceBEq, Nat.reduceBEq, Int.reduceBNe, Nat.reduceBNe, Int.reduceAdd, Int.reduceSub, Int.reduceMul, Int.reduceNeg]
    rfl
  obtain ⟨i, bo, co⟩ := x
  obtain ⟨hi, hO, hKA, hex⟩ := hi
  dsimp only at hi hO hex again ⊢
  have hml := mrgF_len i hi
  by_cases h : (i : Int) < S.length
  · obtain ⟨s, hs⟩ := get_some (l := S) (i := i) (by omega)
    have hSA := hS.keep hKA fun _ _ h => h
    obtain ⟨b0, o0, rfl, hrow, _⟩ := hSA.get (map_get (f := encP) hs)
    have ee := i64_succ (i := i) (by omega)
    have hst := mrgF_succ hs
    have hfin : ∀ bo' co' A', OwnS A3 A' 53 2 bo' co' ((mrgF S (i + 1)).map encP) → (Keep A3 A' fun _ => False) → ∃ A'', A''.le A' ∧ (OwnS A3 A'' 53 2 bo' co' ((mrgF S (i + 1)).map encP) ∧ (Keep A3 A'' fun _ => False) ∧ (mrgF S (i + 1) ≠ [] → ∃ (B : AH) (b bs : Nat), bo' = some ⟨b, 0, none⟩ ∧ A'' = B.add b (.cells ((mrgF S (i + 1)).map encP).flatten 53 bs) ∧ co' * 2 ≤ bs ∧ Fresh A3 b)) := fun bo' co' A' hO' hK' => by
      rcases hO'.at_ with ⟨_, h0, _⟩ | ⟨b, bs, h1, h2, h3, h4⟩
      · exact ⟨A', AH.le_refl _, hO', hK', fun hne => absurd (List.map_eq_nil_iff.1 h0) hne⟩
      · subst h1
        exact ⟨_, le_at h2, hO'.keep (Keep.top1 h2) fun _ _ h => h, hK'.trans (Keep.top1 h2), fun _ => ⟨A'.del b, b, bs, rfl, rfl, h3, h4⟩⟩
    simp (dsimp := false) (maxSteps := 4000000) only [h, hrow, encP_len, encP_scal, encP_z, encP_take, go_sem, ↓reduceIte, Nat.reduceEqDiff, Nat.reduceLT, Nat.reduceLeDiff, Nat.reduceAdd, Nat.reduceMul, Nat.reduceSub, reduceCtorEq, Int.reduceToNat, Int.reduceLT, Int.reduceLE, Int.reduceEq, Int.reduceNe, Int.reduceBEq, Nat.reduceBEq, Int.reduceBNe, Nat.reduceBNe, Int.reduceAdd, Int.reduceSub, Int.reduceMul, Int.reduceNeg]
    refine AllB.mk fun b6 h_b6 => ?_
    obtain ⟨s1, s2⟩ := s
    by_cases hne : mrgF S i = []
    · have e0 : (mrgF S i).length = 0 := by rw [hne]; rfl
      have hn0 : ¬ (0 : Int) < ((mrgF S i).length : Int) := by omega
      simp (dsimp := false) (maxSteps := 4000000) only [encP_len, encP_scal, encP_z, encP_take, go_sem, ↓reduceIte, Nat.reduceEqDiff, Nat.reduceLT, Nat.reduceLeDiff, Nat.reduceAdd, Nat.reduceMul, Nat.reduceSub, reduceCtorEq, Int.reduceToNat, Int.reduceLT, Int.reduceLE, Int.reduceEq, Int.reduceNe, Int.reduceBEq, Nat.reduceBEq, Int.reduceBNe, Nat.reduceBNe, Int.reduceAdd, Int.reduceSub, Int.reduceMul, Int.reduceNeg]
      refine AWp.gen [.pu, .pu, .pu, .pu, .pu, .pu, .pu, .pu, .rd, .pu, .rd, .pu, .pu] [0, 1, 3, 7, 7, 23, 63, 127, 255, 7, 519, 2047, 4095] 0 (_) mixed (by kernel_rfl) (AH.le_refl _) ?_
      simp (dsimp := false) (maxSteps := 4000000) only [hn0, encP_mk, encP_len, encP_scal, encP_z, encP_take, go_sem, ↓reduceIte, Nat.reduceEqDiff, Nat.reduceLT, Nat.reduceLeDiff, Nat.reduceAdd, Nat.reduceMul, Nat.reduceSub, reduceCtorEq, Int.reduceToNat, Int.reduceLT, Int.reduceLE, Int.reduceEq, Int.reduceNe, Int.reduceBEq, Nat.reduceBEq, Int.reduceBNe, Nat.reduceBNe, Int.reduceAdd, Int.reduceSub, Int.reduceMul, Int.reduceNeg]
      refine AllB.mk fun b50 h_b50 => ?_
      simp (dsimp := false) (maxSteps := 4000000) only [encP_len, encP_scal, encP_z, encP_take, go_sem, ↓reduceIte, Nat.reduceEqDiff, Nat.reduceLT, Nat.reduceLeDiff, Nat.reduceAdd, Nat.reduceMul, Nat.reduceSub, reduceCtorEq, Int.reduceToNat, Int.reduceLT, Int.reduceLE, Int.reduceEq, Int.reduceNe, Int.reduceBEq, Nat.reduceBEq, Int.reduceBNe, Nat.reduceBNe, Int.reduceAdd, Int.reduceSub, Int.reduceMul, Int.reduceNeg]
      refine APD.growW (x := .slice (some ⟨b50, 0, none⟩) 1 1) (R' := [encP (s1, s2)]) (m := 1) ((hO.added h_b6).added h_b50) ((hKA.nw h_b6).nw h_b50).all se_22 rfl (by decide) (by rw [Try.underlying22]; rfl) (by simp) rfl rfl (by rw [srow_some, row_add_self]; rfl) (by simp [encP]) (by simp [encP, scal]) (by omega) fun base2 cap2 A' hO' hK' hN' => ?_
      refine ⟨_, AH.le_refl _, ?_⟩
      simp (dsimp := false) (maxSteps := 4000000) only [ee, encP_len, encP_scal, encP_z, encP_take, go_sem, ↓reduceIte, Nat.reduceEqDiff, Nat.reduceLT, Nat.reduceLeDiff, Nat.reduceAdd, Nat.reduceMul, Nat.reduceSub, reduceCtorEq, Int.reduceToNat, Int.reduceLT, Int.reduceLE, Int.reduceEq, Int.reduceNe, Int.reduceBEq, Nat.reduceBEq, Int.reduceBNe, Nat.reduceBNe, Int.reduceAdd, Int.reduceSub, Int.reduceMul, Int.reduceNeg]
      have hK2 := ((hKA.nw h_b6).nw h_b50).ow hK' fun b ⟨a, ha, e⟩ => e ▸ hO.fresh a ha
      have he : (mrgF S i).map encP ++ [encP (s1, s2)] = (mrgF S (i + 1)).map encP := by rw [hst, hne]; rfl
      rw [he] at hO'
      obtain ⟨A'', hle, hV1, hV2, hV3⟩ := hfin base2 cap2 A' hO' hK2
      refine again (i + 1, base2, cap2) _ _ _ ⟨by simp only; omega, hV1, hV2, hV3⟩ (FrLe.of_lks ?_) hle (by simp only; omega)
      have hl1 : (mrgF S (i + 1)).length = (mrgF S i).length + 1 := by rw [hst, hne]; rfl
      rw [hl1]
      simp (dsimp := false) (maxSteps := 4000000) only [encP_len, encP_scal, encP_z, encP_take, go_sem, ↓reduceIte, Nat.reduceEqDiff, Nat.reduceLT, Nat.reduceLeDiff, Nat.reduceAdd, Nat.reduceMul, Nat.reduceSub, reduceCtorEq, Int.reduceToNat, Int.reduceLT, Int.reduceLE, Int.reduceEq, Int.reduceNe, Int.reduceBEq, Nat.reduceBEq, Int.reduceBNe, Nat.reduceBNe, Int.reduceAdd, Int.reduceSub, Int.reduceMul, Int.reduceNeg]
    · obtain ⟨B, b, bs, rfl, rfl, hbs, hfr⟩ := hex hne
      obtain ⟨R, l, hRl⟩ : ∃ R l, mrgF S i = R ++ [l] := by
        rcases List.eq_nil_or_concat (mrgF S i) with h | ⟨R, l, h⟩
        · exact absurd h hne
        · exact ⟨R, l, by rw [h, List.concat_eq_append]⟩
      rw [hRl] at hO hml hne hst hrow ⊢
      obtain ⟨l1, l2⟩ := l
      have hn6 : ¬ b6 = b := by rw [hRl] at h_b6; exact h_b6.ne_find (find_add_self _ _ _)
      have hr6 : ¬ b = b6 := fun e => hn6 e.symm
      have hlen : (R ++ [(l1, l2)]).length = R.length + 1 := by simp
      have hle := hO.le
      rw [List.length_map, hlen] at hle
      have hn0 : (0 : Int) < ((R.length + 1 : Nat) : Int) := by omega
      have em : IntKind.i64.wrap (((R.length + 1 : Nat) : Int) - 1) = (R.length : Int) := by rw [i64_eq (by omega) (by omega)]; omega
      have h0 : (0 : Int) ≤ (R.length : Int) := by omega
      have h1 : (R.length : Int) < ((R.length + 1 : Nat) : Int) := by omega
      have hS2 : SlcIn (B.add b (.cells ((R ++ [(l1, l2)]).map encP).flatten 53 bs)) 2 (some ⟨b, 0, none⟩) co ((R ++ [(l1, l2)]).map encP) := SlcIn.own (rowsP _) (by rw [List.length_map, hlen]; omega) (by rw [List.length_map, hlen]; omega)
      have hlast : (R ++ [(l1, l2)])[R.length]? = some (l1, l2) := by simp
      have q1 := hS2.rd b 0 rfl R.length 1 _ _ (map_get (f := encP) hlast) rfl
      rw [Nat.zero_add, rd_add_self] at q1
      rw [hlen]
      simp (dsimp := false) (maxSteps := 4000000) only [encP_len, encP_scal, encP_z, encP_take, go_sem, ↓reduceIte, Nat.reduceEqDiff, Nat.reduceLT, Nat.reduceLeDiff, Nat.reduceAdd, Nat.reduceMul, Nat.reduceSub, reduceCtorEq, Int.reduceToNat, Int.reduceLT, Int.reduceLE, Int.reduceEq, Int.reduceNe, Int.reduceBEq, Nat.reduceBEq, Int.reduceBNe, Nat.reduceBNe, Int.reduceAdd, Int.reduceSub, Int.reduceMul, Int.reduceNeg]
      refine AWp.gen [.pu, .pu, .pu, .pu, .pu, .pu, .pu, .pu, .rd, .pu, .rd, .pu, .pu] [0, 1, 3, 7, 7, 23, 63, 127, 255, 7, 519, 2047, 4095] 0 (_) mixed (by kernel_rfl) (AH.le_refl _) ?_
      rw [stp_snoc] at hst
      by_cases hm : s1 ≤ l2
      · rw [if_pos hm] at hst
        generalize hmx : (if s2 > l2 then s2 else l2) = m at hst
        have hfl : ((R ++ [(l1, l2)]).map encP).flatten.length = (R.length + 1) * 2 := by rw [flatP_len, hlen]
        have hset : ((R ++ [(l1, l2)]).map encP).flatten.set (R.length * 2 + 1) (.int .i64 m) = ((R ++ [(l1, m)]).map encP).flatten := by
          rw [flat_set (rowsP _) R.length 1 (encP (l1, l2)) _ (map_get hlast) (by omega), ← show encP (l1, m) = (encP (l1, l2)).set 1 (.int .i64 m) from rfl, ← List.map_set]
          congr 2
          rw [List.set_append_right _ _ (by omega), Nat.sub_self]; rfl
        have k2 : R.length * 2 + 1 + 1 ≤ (R.length + 1) * 2 := by omega
        have k3 : (R.length + 1) * 2 ≤ bs := by omega
        simp (dsimp := false) (maxSteps := 4000000) only [hn0, em, h0, h1, q1, hn6, hr6, encP_mk, hm, encP_len, encP_scal, encP_z, encP_take, go_sem, ↓reduceIte, Nat.reduceEqDiff, Nat.reduceLT, Nat.reduceLeDiff, Nat.reduceAdd, Nat.reduceMul, Nat.reduceSub, reduceCtorEq, Int.reduceToNat, Int.reduceLT, Int.reduceLE, Int.reduceEq, Int.reduceNe, Int.reduceBEq, Nat.reduceBEq, Int.reduceBNe, Nat.reduceBNe, Int.reduceAdd, Int.reduceSub, Int.reduceMul, Int.reduceNeg]
        refine AWp.gen [.pu, .pu, .pu, .pu, .pu, .pu, .pu, .pu, .rd, .pu, .rd, .pu, .pu, .pu, .ch] [0, 0, 2, 0, 0, 16, 56, 120, 248, 0, 512, 2040, 4095, 8191, 16383] 0 (_) mixed (by kernel_rfl) (AH.le_refl _) ?_
        simp (dsimp := false) (maxSteps := 4000000) only [em, h0, h1, q1, hn6, hr6, encP_mk, hmx, AH.le_refl, hfl, k2, k3, hset, ee, encP_len, encP_scal, encP_z, encP_take, go_sem, ↓reduceIte, Nat.reduceEqDiff, Nat.reduceLT, Nat.reduceLeDiff, Nat.reduceAdd, Nat.reduceMul, Nat.reduceSub, reduceCtorEq, Int.reduceToNat, Int.reduceLT, Int.reduceLE, Int.reduceEq, Int.reduceNe, Int.reduceBEq, Nat.reduceBEq, Int.reduceBNe, Nat.reduceBNe, Int.reduceAdd, Int.reduceSub, Int.reduceMul, Int.reduceNeg]
        have hst' : (mrgF S (i + 1)) = R ++ [(l1, m)] := hst
        have hml2 := mrgF_len (i + 1) (show i + 1 ≤ S.length by omega)
        have hO' : OwnS A3 (B.add b (.cells ((R ++ [(l1, m)]).map encP).flatten 53 bs)) 53 2 (some ⟨b, 0, none⟩) co ((R ++ [(l1, m)]).map encP) :=
          ⟨rowsP _, by rw [List.length_map]; simp; omega, by rw [List.length_map]; simp; omega, .inr ⟨b, bs, rfl, find_add_self _ _ _, hbs, hfr⟩⟩
        refine again (i + 1, some ⟨b, 0, none⟩, co) _ (B.add b (.cells ((R ++ [(l1, m)]).map encP).flatten 53 bs)) _ ⟨by simp only; omega, by simp only [hst']; exact hO', hKA.ow Keep.readd fun b' e => e ▸ hfr, fun _ => ⟨B, b, bs, rfl, by simp only [hst'], hbs, hfr⟩⟩ (FrLe.of_lks ?_) (AH.le_add (AH.le_refl _) ?_) (by simp only; omega)
        · rw [hst']
          simp (dsimp := false) (maxSteps := 4000000) only [List.length_append, encP_len, encP_scal, encP_z, encP_take, go_sem, ↓reduceIte, Nat.reduceEqDiff, Nat.reduceLT, Nat.reduceLeDiff, Nat.reduceAdd, Nat.reduceMul, Nat.reduceSub, reduceCtorEq, Int.reduceToNat, Int.reduceLT, Int.reduceLE, Int.reduceEq, Int.reduceNe, Int.reduceBEq, Nat.reduceBEq, Int.reduceBNe, Nat.reduceBNe, Int.reduceAdd, Int.reduceSub, Int.reduceMul, Int.reduceNeg]
        · have h2 := h_b6.2
          rw [find_add_ne _ hr6] at h2 ⊢
          exact h2
      · rw [if_neg hm] at hst
        simp (dsimp := false) (maxSteps := 4000000) only [hn0, em, h0, h1, q1, hn6, hr6, encP_mk, hm, encP_len, encP_scal, encP_z, encP_take, go_sem, ↓reduceIte, Nat.reduceEqDiff, Nat.reduceLT, Nat.reduceLeDiff, Nat.reduceAdd, Nat.reduceMul, Nat.reduceSub, reduceCtorEq, Int.reduceToNat, Int.reduceLT, Int.reduceLE, Int.reduceEq, Int.reduceNe, Int.reduceBEq, Nat.reduceBEq, Int.reduceBNe, Nat.reduceBNe, Int.reduceAdd, Int.reduceSub, Int.reduceMul, Int.reduceNeg]
        refine AllB.mk fun b50 h_b50 => ?_
        simp (dsimp := false) (maxSteps := 4000000) only [encP_len, encP_scal, encP_z, encP_take, go_sem, ↓reduceIte, Nat.reduceEqDiff, Nat.reduceLT, Nat.reduceLeDiff, Nat.reduceAdd, Nat.reduceMul, Nat.reduceSub, reduceCtorEq, Int.reduceToNat, Int.reduceLT, Int.reduceLE, Int.reduceEq, Int.reduceNe, Int.reduceBEq, Nat.reduceBEq, Int.reduceBNe, Nat.reduceBNe, Int.reduceAdd, Int.reduceSub, Int.reduceMul, Int.reduceNeg]
        rw [hRl] at h_b6 hKA
        refine APD.growW (x := .slice (some ⟨b50, 0, none⟩) 1 1) (R' := [encP (s1, s2)]) (m := 1) ((hO.added h_b6).added h_b50) ((hKA.nw h_b6).nw h_b50).all se_22 rfl (by decide) (by rw [Try.underlying22]; rfl) (by simp) rfl rfl (by rw [srow_some, row_add_self]; rfl) (by simp [encP]) (by simp [encP, scal]) (by omega) fun base2 cap2 A' hO' hK' hN' => ?_
        refine ⟨_, AH.le_refl _, ?_⟩
        simp (dsimp := false) (maxSteps := 4000000) only [ee, encP_len, encP_scal, encP_z, encP_take, go_sem, ↓reduceIte, Nat.reduceEqDiff, Nat.reduceLT, Nat.reduceLeDiff, Nat.reduceAdd, Nat.reduceMul, Nat.reduceSub, reduceCtorEq, Int.reduceToNat, Int.reduceLT, Int.reduceLE, Int.reduceEq, Int.reduceNe, Int.reduceBEq, Nat.reduceBEq, Int.reduceBNe, Nat.reduceBNe, Int.reduceAdd, Int.reduceSub, Int.reduceMul, Int.reduceNeg]
        have hK2 := ((hKA.nw h_b6).nw h_b50).ow hK' fun b ⟨a, ha, e⟩ => e ▸ hO.fresh a ha
        have he : (R ++ [(l1, l2)]).map encP ++ [encP (s1, s2)] = (mrgF S (i + 1)).map encP := by rw [hst, List.map_append (l₁ := R ++ [(l1, l2)])]; rfl
        rw [he] at hO'
        obtain ⟨A'', hle2, hV1, hV2, hV3⟩ := hfin base2 cap2 A' hO' hK2
        refine again (i + 1, base2, cap2) _ _ _ ⟨by simp only; omega, hV1, hV2, hV3⟩ (FrLe.of_lks ?_) hle2 (by simp only; omega)
        have hl1 : (mrgF S (i + 1)).length = R.length + 1 + 1 := by rw [hst]; simp
        rw [hl1]
        simp (dsimp := false) (maxSteps := 4000000) only [encP_len, encP_scal, encP_z, encP_take, go_sem, ↓reduceIte, Nat.reduceEqDiff, Nat.reduceLT, Nat.reduceLeDiff, Nat.reduceAdd, Nat.reduceMul, Nat.reduceSub, reduceCtorEq, Int.reduceToNat, Int.reduceLT, Int.reduceLE, Int.reduceEq, Int.reduceNe, Int.reduceBEq, Nat.reduceBEq, Int.reduceBNe, Nat.reduceBNe, Int.reduceAdd, Int.reduceSub, Int.reduceMul, Int.reduceNeg]
  · obtain rfl : i = S.length := by omega
    simp (dsimp := false) (maxSteps := 4000000) only [h, encP_len, encP_scal, encP_z, encP_take, go_sem, ↓reduceIte, Nat.reduceEqDiff, Nat.reduceLT, Nat.reduceLeDiff, Nat.reduceAdd, Nat.reduceMul, Nat.reduceSub, reduceCtorEq, Int.reduceToNat, Int.reduceLT, Int.reduceLE, Int.reduceEq, Int.reduceNe, Int.reduceBEq, Nat.reduceBEq, Int.reduceBNe, Nat.reduceBNe, Int.reduceAdd, Int.reduceSub, Int.reduceMul, Int.reduceNeg]
    refine out _ _ _ (by simp) ?_
    simp (dsimp := false) (maxSteps := 4000000) only [encP_len, encP_scal, encP_z, encP_take, go_sem, ↓reduceIte, Nat.reduceEqDiff, Nat.reduceLT, Nat.reduceLeDiff, Nat.reduceAdd, Nat.reduceMul, Nat.reduceSub, reduceCtorEq, Int.reduceToNat, Int.reduceLT, Int.reduceLE, Int.reduceEq, Int.reduceNe, Int.reduceBEq, Nat.reduceBEq, Int.reduceBNe, Nat.reduceBNe, Int.reduceAdd, Int.reduceSub, Int.reduceMul, Int.reduceNeg]
    have hle := hO.le
    rw [List.length_map] at hle
    refine (Clip_c hle _).mono ?_; rintro _ _ ⟨rfl, rfl⟩
    simp (dsimp := false) (maxSteps := 4000000) only [encP_len, encP_scal, encP_z, encP_take, go_sem, ↓reduceIte, Nat.reduceEqDiff, Nat.reduceLT, Nat.reduceLeDiff, Nat.reduceAdd, Nat.reduceMul, Nat.reduceSub, reduceCtorEq, Int.reduceToNat, Int.reduceLT, Int.reduceLE, Int.reduceEq, Int.reduceNe, Int.reduceBEq, Nat.reduceBEq, Int.reduceBNe, Nat.reduceBNe, Int.reduceAdd, Int.reduceSub, Int.reduceMul, Int.reduceNeg]
    exact ⟨A, AH.le_refl _, mrgF S S.length, bo, (mrgF S S.length).length, rfl, hJ, hO.slc.recap (by rw [List.length_map]; exact Nat.le_refl _), hK.trans hKA⟩
end Go.Proofs.Ytapfabjmooagaaa.Wire
