/- ifs: what is done to a copy. -/
import Derived.Test.YtmkbpdlijfjgkaaDoorIfsD
namespace Go.Proofs.YtmkbpdlijfjgkaaDoor.Ifs
set_option linter.unusedSimpArgs false
set_option linter.unusedVariables false
open Go Go.AX Go.Proofs Ty Go.Proofs.YtmkbpdlijfjgkaaDoor.File Go.Proofs.YtmkbpdlijfjgkaaDoor.Err
set_option maxHeartbeats 4000000
set_option maxRecDepth 10000

theorem DdIn.keep {H H' : AH} {d : Dd} (h : DdIn H d) (hK : Keep H H' fun _ => False) : DdIn H' d := ⟨h.1.keep hK fun _ _ h => h, h.2⟩
structure DdAt (H : AH) (b o : Nat) (d : Dd) : Prop where
  k : H.rd ⟨b, o, none⟩ = some (.int .u8 d.k)
  fl : H.rd ⟨b, o + 1 + 1, none⟩ = some (.int .i64 d.fl)
  rc : H.rd ⟨b, o + 1 + 2, none⟩ = some (.int .i64 d.rc)
  a : H.row b (o + 1) 3 = some [.int .i64 d.op, .int .i64 d.fl, .int .i64 d.rc]
  v : H.row b (o + 4) 4 = some (enc d.v)
  f : H.row b (o + 8) 2 = some [.int .i64 d.p, .slice d.base d.R.length d.cap]
theorem deed_at {H : AH} {base : Option Addr} {cap i : Nat} {L : List Dd} {d : Dd} (hs : SlcIn H 10 base cap (L.map encD)) (hd : L[i]? = some d) : ∃ b o, base = some ⟨b, o, none⟩ ∧ DdAt H b (o + i * 10) d := by
  obtain ⟨b, o, hb, hrow, hrd⟩ := hs.get (Go.AX.map_get (f := encD) hd)
  refine ⟨b, o, hb, ?_, ?_, ?_, ?_, ?_, ?_⟩
  · exact hrd 0 _ rfl
  · rw [Nat.add_assoc _ 1 1]; exact hrd 2 _ rfl
  · rw [Nat.add_assoc _ 1 2]; exact hrd 3 _ rfl
  · exact row_of_rd rfl (by decide) fun j c hj => by
      rw [Nat.add_assoc _ 1 j, Nat.add_comm 1 j]
      exact hrd (j + 1) c (by rcases j with _ | _ | _ | j <;> first | exact hj | cases hj)
  · exact row_of_rd rfl (by decide) fun j c hj => by
      rw [Nat.add_assoc _ 4 j, Nat.add_comm 4 j]
      exact hrd (j + 4) c (by rcases j with _ | _ | _ | _ | j <;> first | exact hj | cases hj)
  · exact row_of_rd rfl (by decide) fun j c hj => by
      rw [Nat.add_assoc _ 8 j, Nat.add_comm 8 j]
      exact hrd (j + 8) c (by rcases j with _ | _ | j <;> first | exact hj | cases hj)
theorem setX_len (X : List Nf) (n rec : Int) (v : Rc) : (setX X n rec v).length = X.length := by
  unfold setX
  split
  · split
    · rfl
    · exact rp_len ..
  · rfl
theorem doX_len (X : List Nf) (op fl rec : Int) (v : Rc) : (doX X op fl rec v).length = X.length := by
  unfold doX
  split
  · split
    · rfl
    · exact rp_len ..
  · rfl
theorem IfsCopies_c (L1 L2 : List Dd) (b1 b2 : Option Addr) (c1 c2 : Nat) (H : AH) (h1 : SlcIn H 10 b1 c1 (L1.map encD)) (d1 : ∀ d ∈ L1, DdIn H d) (h2 : SlcIn H 10 b2 c2 (L2.map encD)) (d2 : ∀ d ∈ L2, DdIn H d) (hE : ErrT H.w0) :
    ACalls Tryd.prog 4 #[.slice b1 L1.length c1, .slice b2 L2.length c2] H (fun v H' => v = .bool true ∧ H = H') := by
  refine ACalls.enter2 Tryd.func4 rfl Tryd.ntmps4 Tryd.results4 (by simp) ?_; simp (dsimp := false) (maxSteps := 4000000) only [enc_len, enc_scal, lput_enc, take_enc, go_sem, ↓reduceIte, Nat.reduceEqDiff, Nat.reduceLT, Nat.reduceLeDiff, Nat.reduceAdd, Nat.reduceMul, Nat.reduceSub, reduceCtorEq, Int.reduceToNat, Int.reduceLT, Int.reduceLE, Int.reduceEq, Int.reduceNe, Int.reduceBEq, Nat.reduceBEq, Int.reduceBNe, Nat.reduceBNe, Int.reduceAdd, Int.reduceSub, Int.reduceMul, Int.reduceNeg]
  refine (New_c H).mono ?_
  rintro _ A0 ⟨b, ft0, rfl, hs0, hK0, hf0⟩
  simp (dsimp := false) (maxSteps := 4000000) only [enc_len, enc_scal, lput_enc, take_enc, go_sem, ↓reduceIte, Nat.reduceEqDiff, Nat.reduceLT, Nat.reduceLeDiff, Nat.reduceAdd, Nat.reduceMul, Nat.reduceSub, reduceCtorEq, Int.reduceToNat, Int.reduceLT, Int.reduceLE, Int.reduceEq, Int.reduceNe, Int.reduceBEq, Nat.reduceBEq, Int.reduceBNe, Nat.reduceBNe, Int.reduceAdd, Int.reduceSub, Int.reduceMul, Int.reduceNeg]
  refine AWp.loopr (ι := Nat × List Nf × Int × (Nat → Prop)) (fun s A => s.1 ≤ L1.length ∧ s.1 ≤ 20 ∧ StAt A b s.2.1 s.2.2.1 s.2.2.2 ∧ OkX s.2.1 ∧ (Keep H A fun _ => False) ∧ ∀ x, s.2.2.2 x → Fresh H x)
    (fun s => [(6, .int .i64 s.1), (5, .pointer (some ⟨b, 0, none⟩)), (0, .slice b1 L1.length c1), (1, .slice b2 L2.length c2), (4, .bool false)]) (fun s => 20 - s.1) (0, [], 0, ft0) A0
    ⟨by simp, by simp, hs0, OkX.nil, hK0, hf0⟩ (FrLe.of_lks ?_) (AH.le_refl _) fun s A hV Q again out => ?_
  · simp (dsimp := false) (maxSteps := 4000000) only [enc_len, enc_scal, lput_enc, take_enc, go_sem, ↓reduceIte, Nat.reduceEqDiff, Nat.reduceLT, Nat.reduceLeDiff, Nat.reduceAdd, Nat.reduceMul, Nat.reduceSub, reduceCtorEq, Int.reduceToNat, Int.reduceLT, Int.reduceLE, Int.reduceEq, Int.reduceNe, Int.reduceBEq, Nat.reduceBEq, Int.reduceBNe, Nat.reduceBNe, Int.reduceAdd, Int.reduceSub, Int.reduceMul, Int.reduceNeg]
  clear hs0 hK0 hf0
  obtain ⟨i, X, den, ft⟩ := s
  obtain ⟨hi, hi2, hst, hX, hK, hf⟩ := hV
  dsimp only at hi hi2 hst hX hK hf ⊢
  by_cases hlt : (i : Int) < L1.length ∧ (i : Int) < 20
  · obtain ⟨d, hd⟩ := get_some (l := L1) (i := i) (by omega)
    have hdd := (d1 d (List.mem_of_getElem? hd)).keep hK
    obtain ⟨q, o, rfl, hat⟩ := deed_at (h1.keep hK fun _ _ h => h) hd
    have ee := i64_succ (i := i) (by omega)
    have hi0 : (0 : Int) ≤ (i : Int) := by omega
    have hfew := fun H1 (h : SlcIn H1 4 d.base d.cap (d.R.map enc)) => few_c d.p d.R d.base d.cap H1 h
    unfold fv at hfew
    
    simp (dsimp := false) (maxSteps := 4000000) only [hlt.1, hlt.2, enc_len, enc_scal, lput_enc, take_enc, go_sem, ↓reduceIte, Nat.reduceEqDiff, Nat.reduceLT, Nat.reduceLeDiff, Nat.reduceAdd, Nat.reduceMul, Nat.reduceSub, reduceCtorEq, Int.reduceToNat, Int.reduceLT, Int.reduceLE, Int.reduceEq, Int.reduceNe, Int.reduceBEq, Nat.reduceBEq, Int.reduceBNe, Nat.reduceBNe, Int.reduceAdd, Int.reduceSub, Int.reduceMul, Int.reduceNeg]
    refine AWp.gen [.pu, .pu, .pu, .pu, .pu, .pu, .rd, .pu, .pu, .pu, .pu, .rd, .ch, .ch] [0, 0, 0, 6, 14, 30, 62, 0, 0, 384, 896, 1920, 3968, 8191] 13 (_) mixed (by kernel_rfl) (AH.le_refl _) ?_
    simp (dsimp := false) (maxSteps := 4000000) only [hlt.1, hlt.2, hi0, hat.fl, hat.f, enc_len, enc_scal, lput_enc, take_enc, go_sem, ↓reduceIte, Nat.reduceEqDiff, Nat.reduceLT, Nat.reduceLeDiff, Nat.reduceAdd, Nat.reduceMul, Nat.reduceSub, reduceCtorEq, Int.reduceToNat, Int.reduceLT, Int.reduceLE, Int.reduceEq, Int.reduceNe, Int.reduceBEq, Nat.reduceBEq, Int.reduceBNe, Nat.reduceBNe, Int.reduceAdd, Int.reduceSub, Int.reduceMul, Int.reduceNeg]
    refine (hfew _ hdd.1).mono ?_; rintro _ _ ⟨rfl, rfl⟩
    simp (dsimp := false) (maxSteps := 4000000) only [enc_len, enc_scal, lput_enc, take_enc, go_sem, ↓reduceIte, Nat.reduceEqDiff, Nat.reduceLT, Nat.reduceLeDiff, Nat.reduceAdd, Nat.reduceMul, Nat.reduceSub, reduceCtorEq, Int.reduceToNat, Int.reduceLT, Int.reduceLE, Int.reduceEq, Int.reduceNe, Int.reduceBEq, Nat.reduceBEq, Int.reduceBNe, Nat.reduceBNe, Int.reduceAdd, Int.reduceSub, Int.reduceMul, Int.reduceNeg]
    refine (Add_c hst d.fl d.p (d.R.take 260) d.base d.cap (few_in hdd.1)).mono ?_
    rintro _ B ⟨ft2, rfl, hst2, hK2, hf2⟩
    have hX2 := hX.add d.fl (d.p, d.R.take 260) fun r hr => hdd.2.2.2 r (List.mem_of_mem_take hr)
    have k2 : Keep H B fun _ => False := hK.ow hK2 hf
    have kAB : Keep A B ft := hK2
    have g2 : ∀ x, ft2 x → Fresh H x := fun x hx => (hf2 x hx).elim (hf x) fun h => hK.fr h
    obtain ⟨q', o', hqq, hat2⟩ := deed_at (h1.keep k2 fun _ _ h => h) hd
    cases hqq
    simp (dsimp := false) (maxSteps := 4000000) only [enc_len, enc_scal, lput_enc, take_enc, go_sem, ↓reduceIte, Nat.reduceEqDiff, Nat.reduceLT, Nat.reduceLeDiff, Nat.reduceAdd, Nat.reduceMul, Nat.reduceSub, reduceCtorEq, Int.reduceToNat, Int.reduceLT, Int.reduceLE, Int.reduceEq, Int.reduceNe, Int.reduceBEq, Nat.reduceBEq, Int.reduceBNe, Nat.reduceBNe, Int.reduceAdd, Int.reduceSub, Int.reduceMul, Int.reduceNeg]
    refine AWp.gen [.pu, .pu, .pu, .pu, .pu, .rd, .pu, .pu, .pu, .pu, .rd, .ch] [0, 0, 0, 6, 14, 30, 0, 0, 192, 448, 960, 2047] 0 (_) mixed (by kernel_rfl) (AH.le_refl _) ?_
    simp (dsimp := false) (maxSteps := 4000000) only [hlt.1, hlt.2, hi0, hat2.a, hat2.v, enc_len, enc_scal, lput_enc, take_enc, go_sem, ↓reduceIte, Nat.reduceEqDiff, Nat.reduceLT, Nat.reduceLeDiff, Nat.reduceAdd, Nat.reduceMul, Nat.reduceSub, reduceCtorEq, Int.reduceToNat, Int.reduceLT, Int.reduceLE, Int.reduceEq, Int.reduceNe, Int.reduceBEq, Nat.reduceBEq, Int.reduceBNe, Nat.reduceBNe, Int.reduceAdd, Int.reduceSub, Int.reduceMul, Int.reduceNeg]
    refine (Do_c (by rw [k2.w0]; exact hE) hst2 hX2 d.op d.fl d.rc d.v).mono ?_
    rintro _ C ⟨ft3, rfl, hst3, hK3, hf3⟩
    simp (dsimp := false) (maxSteps := 4000000) only [ee, enc_len, enc_scal, lput_enc, take_enc, go_sem, ↓reduceIte, Nat.reduceEqDiff, Nat.reduceLT, Nat.reduceLeDiff, Nat.reduceAdd, Nat.reduceMul, Nat.reduceSub, reduceCtorEq, Int.reduceToNat, Int.reduceLT, Int.reduceLE, Int.reduceEq, Int.reduceNe, Int.reduceBEq, Nat.reduceBEq, Int.reduceBNe, Nat.reduceBNe, Int.reduceAdd, Int.reduceSub, Int.reduceMul, Int.reduceNeg]
    exact again (i + 1, _, _, ft3) _ C _ ⟨by dsimp only; omega, by dsimp only; omega, hst3, hX2.do d.op d.fl d.rc hdd.2.2.1, k2.ow hK3 g2, fun x hx => (hf3 x hx).elim (g2 x) fun h => k2.fr h⟩ (FrLe.of_lks (by simp (dsimp := false) (maxSteps := 4000000) only [enc_len, enc_scal, lput_enc, take_enc, go_sem, ↓reduceIte, Nat.reduceEqDiff, Nat.reduceLT, Nat.reduceLeDiff, Nat.reduceAdd, Nat.reduceMul, Nat.reduceSub, reduceCtorEq, Int.reduceToNat, Int.reduceLT, Int.reduceLE, Int.reduceEq, Int.reduceNe, Int.reduceBEq, Nat.reduceBEq, Int.reduceBNe, Nat.reduceBNe, Int.reduceAdd, Int.reduceSub, Int.reduceMul, Int.reduceNeg])) (AH.le_refl _) (by dsimp only; omega)
    
  have hno : ¬ (i : Int) < L1.length ∨ ((i : Int) < L1.length ∧ ¬ (i : Int) < 20) := by omega
  clear hlt again
  rcases hno with a | ⟨a, a'⟩
  case' inl =>
    
    simp (dsimp := false) (maxSteps := 4000000) only [a, enc_len, enc_scal, lput_enc, take_enc, go_sem, ↓reduceIte, Nat.reduceEqDiff, Nat.reduceLT, Nat.reduceLeDiff, Nat.reduceAdd, Nat.reduceMul, Nat.reduceSub, reduceCtorEq, Int.reduceToNat, Int.reduceLT, Int.reduceLE, Int.reduceEq, Int.reduceNe, Int.reduceBEq, Nat.reduceBEq, Int.reduceBNe, Nat.reduceBNe, Int.reduceAdd, Int.reduceSub, Int.reduceMul, Int.reduceNeg]
    refine out _ _ _ (by simp) ?_
    
  case' inr =>
    simp (dsimp := false) (maxSteps := 4000000) only [a, a', enc_len, enc_scal, lput_enc, take_enc, go_sem, ↓reduceIte, Nat.reduceEqDiff, Nat.reduceLT, Nat.reduceLeDiff, Nat.reduceAdd, Nat.reduceMul, Nat.reduceSub, reduceCtorEq, Int.reduceToNat, Int.reduceLT, Int.reduceLE, Int.reduceEq, Int.reduceNe, Int.reduceBEq, Nat.reduceBEq, Int.reduceBNe, Nat.reduceBNe, Int.reduceAdd, Int.reduceSub, Int.reduceMul, Int.reduceNeg]
    refine out _ _ _ (by simp) ?_
  all_goals
    simp (dsimp := false) (maxSteps := 4000000) only [enc_len, enc_scal, lput_enc, take_enc, go_sem, ↓reduceIte, Nat.reduceEqDiff, Nat.reduceLT, Nat.reduceLeDiff, Nat.reduceAdd, Nat.reduceMul, Nat.reduceSub, reduceCtorEq, Int.reduceToNat, Int.reduceLT, Int.reduceLE, Int.reduceEq, Int.reduceNe, Int.reduceBEq, Nat.reduceBEq, Int.reduceBNe, Nat.reduceBNe, Int.reduceAdd, Int.reduceSub, Int.reduceMul, Int.reduceNeg]
    refine (Files_c hst hX).mono ?_
    rintro _ B ⟨zb, zc, Z, rd, rfl, hZp, hZs, hZ, kB, hrd⟩
    have kHB := hK.trans kB
    have hsB := hst.keep kB fun _ _ h => h
    simp (dsimp := false) (maxSteps := 4000000) only [enc_len, enc_scal, lput_enc, take_enc, go_sem, ↓reduceIte, Nat.reduceEqDiff, Nat.reduceLT, Nat.reduceLeDiff, Nat.reduceAdd, Nat.reduceMul, Nat.reduceSub, reduceCtorEq, Int.reduceToNat, Int.reduceLT, Int.reduceLE, Int.reduceEq, Int.reduceNe, Int.reduceBEq, Nat.reduceBEq, Int.reduceBNe, Nat.reduceBNe, Int.reduceAdd, Int.reduceSub, Int.reduceMul, Int.reduceNeg]
    refine (Copy_c hsB hX).mono ?_
    rintro _ C ⟨b', X', ft', rfl, hXp, hsC', kC, hf'⟩
    have hX' := hX.perm hXp.symm
    have hsC := hsB.keep kC fun _ _ h => h
    simp (dsimp := false) (maxSteps := 4000000) only [enc_len, enc_scal, lput_enc, take_enc, go_sem, ↓reduceIte, Nat.reduceEqDiff, Nat.reduceLT, Nat.reduceLeDiff, Nat.reduceAdd, Nat.reduceMul, Nat.reduceSub, reduceCtorEq, Int.reduceToNat, Int.reduceLT, Int.reduceLE, Int.reduceEq, Int.reduceNe, Int.reduceBEq, Nat.reduceBEq, Int.reduceBNe, Nat.reduceBNe, Int.reduceAdd, Int.reduceSub, Int.reduceMul, Int.reduceNeg]
    refine (Files_c hsC' hX').mono ?_
    rintro _ D ⟨yb, yc, Y, rd2, rfl, hYp, hYs, hY, kD, _⟩
    have hZD := hZ.keep (kC.trans kD) fun _ _ h => h
    have e1 : Y.map RF.nf = Z.map RF.nf := Srt.uniq (hYp.trans (hXp.trans hZp.symm)) hYs hZs
    have hsD := hsC.keep kD fun _ _ h => h
    have hsD' := hsC'.keep kD fun _ _ h => h
    have kBD := kC.trans kD
    simp (dsimp := false) (maxSteps := 4000000) only [enc_len, enc_scal, lput_enc, take_enc, go_sem, ↓reduceIte, Nat.reduceEqDiff, Nat.reduceLT, Nat.reduceLeDiff, Nat.reduceAdd, Nat.reduceMul, Nat.reduceSub, reduceCtorEq, Int.reduceToNat, Int.reduceLT, Int.reduceLE, Int.reduceEq, Int.reduceNe, Int.reduceBEq, Nat.reduceBEq, Int.reduceBNe, Nat.reduceBNe, Int.reduceAdd, Int.reduceSub, Int.reduceMul, Int.reduceNeg]
    refine (Same_c hY hZD).mono ?_
    rintro _ _ ⟨rfl, rfl⟩
    rw [decide_eq_true e1]
    simp (dsimp := false) (maxSteps := 4000000) only [enc_len, enc_scal, lput_enc, take_enc, go_sem, ↓reduceIte, Nat.reduceEqDiff, Nat.reduceLT, Nat.reduceLeDiff, Nat.reduceAdd, Nat.reduceMul, Nat.reduceSub, reduceCtorEq, Int.reduceToNat, Int.reduceLT, Int.reduceLE, Int.reduceEq, Int.reduceNe, Int.reduceBEq, Nat.reduceBEq, Int.reduceBNe, Nat.reduceBNe, Int.reduceAdd, Int.reduceSub, Int.reduceMul, Int.reduceNeg]
    refine (Denied_c hsD').mono ?_; rintro _ _ ⟨rfl, rfl⟩
    simp (dsimp := false) (maxSteps := 4000000) only [enc_len, enc_scal, lput_enc, take_enc, go_sem, ↓reduceIte, Nat.reduceEqDiff, Nat.reduceLT, Nat.reduceLeDiff, Nat.reduceAdd, Nat.reduceMul, Nat.reduceSub, reduceCtorEq, Int.reduceToNat, Int.reduceLT, Int.reduceLE, Int.reduceEq, Int.reduceNe, Int.reduceBEq, Nat.reduceBEq, Int.reduceBNe, Nat.reduceBNe, Int.reduceAdd, Int.reduceSub, Int.reduceMul, Int.reduceNeg]
    refine (Denied_c hsD).mono ?_; rintro _ _ ⟨rfl, rfl⟩
    simp (dsimp := false) (maxSteps := 4000000) only [enc_len, enc_scal, lput_enc, take_enc, go_sem, ↓reduceIte, Nat.reduceEqDiff, Nat.reduceLT, Nat.reduceLeDiff, Nat.reduceAdd, Nat.reduceMul, Nat.reduceSub, reduceCtorEq, Int.reduceToNat, Int.reduceLT, Int.reduceLE, Int.reduceEq, Int.reduceNe, Int.reduceBEq, Nat.reduceBEq, Int.reduceBNe, Nat.reduceBNe, Int.reduceAdd, Int.reduceSub, Int.reduceMul, Int.reduceNeg]
    clear hsC hsC' kC hsD hZD hY hYp hYs e1
    refine AWp.loopr (ι := Nat × List Nf × Int × (Nat → Prop)) (fun s A => s.1 ≤ L2.length ∧ s.1 ≤ 20 ∧ StAt A b' s.2.1 s.2.2.1 s.2.2.2 ∧ OkX s.2.1 ∧ s.2.1.length = Z.length ∧ (Keep B A fun _ => False) ∧ ∀ x, s.2.2.2 x → Fresh B x)
      (fun s => [(9, .int .i64 s.1), (5, .pointer (some ⟨b, 0, none⟩)), (8, .pointer (some ⟨b', 0, none⟩)), (7, .slice zb Z.length zc), (1, .slice b2 L2.length c2), (4, .bool false)]) (fun s => 20 - s.1) (0, X', den, ft') D
      ⟨by simp, by simp, hsD', hX', by have h1 := hXp.length_eq; have h2 := hZp.length_eq; rw [List.length_map] at h2; dsimp only; omega, kBD, hf'⟩ (FrLe.of_lks ?_) (AH.le_refl _) fun s E hV Q again out => ?_
    · simp (dsimp := false) (maxSteps := 4000000) only [enc_len, enc_scal, lput_enc, take_enc, go_sem, ↓reduceIte, Nat.reduceEqDiff, Nat.reduceLT, Nat.reduceLeDiff, Nat.reduceAdd, Nat.reduceMul, Nat.reduceSub, reduceCtorEq, Int.reduceToNat, Int.reduceLT, Int.reduceLE, Int.reduceEq, Int.reduceNe, Int.reduceBEq, Nat.reduceBEq, Int.reduceBNe, Nat.reduceBNe, Int.reduceAdd, Int.reduceSub, Int.reduceMul, Int.reduceNeg]
    clear hsD' hXp hX' kBD hf' kD
    obtain ⟨j, Xc, dc, fc⟩ := s
    obtain ⟨hj, hj2, hsc, hXc, hXl, kBE, hfc⟩ := hV
    dsimp only at hj hj2 hsc hXc hXl kBE hfc ⊢
    by_cases hlt : (j : Int) < L2.length ∧ (j : Int) < 20
    · obtain ⟨d, hd⟩ := get_some (l := L2) (i := j) (by omega)
      have kHE := kHB.trans kBE
      have hdd := (d2 d (List.mem_of_getElem? hd)).keep kHE
      obtain ⟨q, o, rfl, hat⟩ := deed_at (h2.keep kHE fun _ _ h => h) hd
      have ee := i64_succ (i := j) (by omega)
      have hj0 : (0 : Int) ≤ (j : Int) := by omega
      
      simp (dsimp := false) (maxSteps := 4000000) only [hlt.1, hlt.2, enc_len, enc_scal, lput_enc, take_enc, go_sem, ↓reduceIte, Nat.reduceEqDiff, Nat.reduceLT, Nat.reduceLeDiff, Nat.reduceAdd, Nat.reduceMul, Nat.reduceSub, reduceCtorEq, Int.reduceToNat, Int.reduceLT, Int.reduceLE, Int.reduceEq, Int.reduceNe, Int.reduceBEq, Nat.reduceBEq, Int.reduceBNe, Nat.reduceBNe, Int.reduceAdd, Int.reduceSub, Int.reduceMul, Int.reduceNeg]
      refine AWp.gen [.pu, .pu, .pu, .pu, .pu, .pu, .rd, .pu, .pu, .pu, .pu, .pu, .rd, .pu, .pu, .pu, .pu, .rd, .ch] [0, 0, 0, 6, 14, 30, 62, 0, 0, 384, 896, 1920, 3968, 0, 0, 24576, 57344, 122880, 262143] 0 (_) mixed (by kernel_rfl) (AH.le_refl _) ?_
      simp (dsimp := false) (maxSteps := 4000000) only [hlt.1, hlt.2, hj0, hat.fl, hat.rc, hat.v, enc_len, enc_scal, lput_enc, take_enc, go_sem, ↓reduceIte, Nat.reduceEqDiff, Nat.reduceLT, Nat.reduceLeDiff, Nat.reduceAdd, Nat.reduceMul, Nat.reduceSub, reduceCtorEq, Int.reduceToNat, Int.reduceLT, Int.reduceLE, Int.reduceEq, Int.reduceNe, Int.reduceBEq, Nat.reduceBEq, Int.reduceBNe, Nat.reduceBNe, Int.reduceAdd, Int.reduceSub, Int.reduceMul, Int.reduceNeg]
      refine (Set_c hsc hXc d.fl d.rc d.v).mono ?_
      rintro _ F ⟨rfl, hsF, hKF⟩
      have kBF : Keep B F fun _ => False := kBE.ow hKF hfc
      obtain ⟨q', o', hqq, hat2⟩ := deed_at (h2.keep (kHB.trans kBF) fun _ _ h => h) hd
      cases hqq
      simp (dsimp := false) (maxSteps := 4000000) only [enc_len, enc_scal, lput_enc, take_enc, go_sem, ↓reduceIte, Nat.reduceEqDiff, Nat.reduceLT, Nat.reduceLeDiff, Nat.reduceAdd, Nat.reduceMul, Nat.reduceSub, reduceCtorEq, Int.reduceToNat, Int.reduceLT, Int.reduceLE, Int.reduceEq, Int.reduceNe, Int.reduceBEq, Nat.reduceBEq, Int.reduceBNe, Nat.reduceBNe, Int.reduceAdd, Int.reduceSub, Int.reduceMul, Int.reduceNeg]
      refine AWp.gen [.pu, .pu, .pu, .pu, .pu, .rd, .pu, .pu, .pu, .pu, .rd, .ch] [0, 0, 0, 6, 14, 30, 0, 0, 192, 448, 960, 2047] 0 (_) mixed (by kernel_rfl) (AH.le_refl _) ?_
      simp (dsimp := false) (maxSteps := 4000000) only [hlt.1, hlt.2, hj0, hat2.a, hat2.v, enc_len, enc_scal, lput_enc, take_enc, go_sem, ↓reduceIte, Nat.reduceEqDiff, Nat.reduceLT, Nat.reduceLeDiff, Nat.reduceAdd, Nat.reduceMul, Nat.reduceSub, reduceCtorEq, Int.reduceToNat, Int.reduceLT, Int.reduceLE, Int.reduceEq, Int.reduceNe, Int.reduceBEq, Nat.reduceBEq, Int.reduceBNe, Nat.reduceBNe, Int.reduceAdd, Int.reduceSub, Int.reduceMul, Int.reduceNeg]
      refine (Do_c (by rw [kBF.w0, kHB.w0]; exact hE) hsF (hXc.set d.fl d.rc hdd.2.2.1) d.op d.fl d.rc d.v).mono ?_
      rintro _ G ⟨ft3, rfl, hsG, hKG, hfG⟩
      simp (dsimp := false) (maxSteps := 4000000) only [ee, enc_len, enc_scal, lput_enc, take_enc, go_sem, ↓reduceIte, Nat.reduceEqDiff, Nat.reduceLT, Nat.reduceLeDiff, Nat.reduceAdd, Nat.reduceMul, Nat.reduceSub, reduceCtorEq, Int.reduceToNat, Int.reduceLT, Int.reduceLE, Int.reduceEq, Int.reduceNe, Int.reduceBEq, Nat.reduceBEq, Int.reduceBNe, Nat.reduceBNe, Int.reduceAdd, Int.reduceSub, Int.reduceMul, Int.reduceNeg]
      exact again (j + 1, _, _, ft3) _ G _ ⟨by dsimp only; omega, by dsimp only; omega, hsG, (hXc.set d.fl d.rc hdd.2.2.1).do d.op d.fl d.rc hdd.2.2.1, (doX_len ..).trans ((setX_len ..).trans hXl), kBF.ow hKG hfc, fun x hx => (hfG x hx).elim (hfc x) fun h => kBF.fr h⟩ (FrLe.of_lks (by simp (dsimp := false) (maxSteps := 4000000) only [enc_len, enc_scal, lput_enc, take_enc, go_sem, ↓reduceIte, Nat.reduceEqDiff, Nat.reduceLT, Nat.reduceLeDiff, Nat.reduceAdd, Nat.reduceMul, Nat.reduceSub, reduceCtorEq, Int.reduceToNat, Int.reduceLT, Int.reduceLE, Int.reduceEq, Int.reduceNe, Int.reduceBEq, Nat.reduceBEq, Int.reduceBNe, Nat.reduceBNe, Int.reduceAdd, Int.reduceSub, Int.reduceMul, Int.reduceNeg])) (AH.le_refl _) (by dsimp only; omega)
      
    have hno : ¬ (j : Int) < L2.length ∨ ((j : Int) < L2.length ∧ ¬ (j : Int) < 20) := by omega
    clear hlt again
    rcases hno with a | ⟨a, a'⟩
    case' inl =>
      
      simp (dsimp := false) (maxSteps := 4000000) only [a, enc_len, enc_scal, lput_enc, take_enc, go_sem, ↓reduceIte, Nat.reduceEqDiff, Nat.reduceLT, Nat.reduceLeDiff, Nat.reduceAdd, Nat.reduceMul, Nat.reduceSub, reduceCtorEq, Int.reduceToNat, Int.reduceLT, Int.reduceLE, Int.reduceEq, Int.reduceNe, Int.reduceBEq, Nat.reduceBEq, Int.reduceBNe, Nat.reduceBNe, Int.reduceAdd, Int.reduceSub, Int.reduceMul, Int.reduceNeg]
      refine out _ _ _ (by simp) ?_
      
    case' inr =>
      simp (dsimp := false) (maxSteps := 4000000) only [a, a', enc_len, enc_scal, lput_enc, take_enc, go_sem, ↓reduceIte, Nat.reduceEqDiff, Nat.reduceLT, Nat.reduceLeDiff, Nat.reduceAdd, Nat.reduceMul, Nat.reduceSub, reduceCtorEq, Int.reduceToNat, Int.reduceLT, Int.reduceLE, Int.reduceEq, Int.reduceNe, Int.reduceBEq, Nat.reduceBEq, Int.reduceBNe, Nat.reduceBNe, Int.reduceAdd, Int.reduceSub, Int.reduceMul, Int.reduceNeg]
      refine out _ _ _ (by simp) ?_
    all_goals
      clear out
      simp (dsimp := false) (maxSteps := 4000000) only [enc_len, enc_scal, lput_enc, take_enc, go_sem, ↓reduceIte, Nat.reduceEqDiff, Nat.reduceLT, Nat.reduceLeDiff, Nat.reduceAdd, Nat.reduceMul, Nat.reduceSub, reduceCtorEq, Int.reduceToNat, Int.reduceLT, Int.reduceLE, Int.reduceEq, Int.reduceNe, Int.reduceBEq, Nat.reduceBEq, Int.reduceBNe, Nat.reduceBNe, Int.reduceAdd, Int.reduceSub, Int.reduceMul, Int.reduceNeg]
      refine (Files_c hsc hXc).mono ?_
      rintro _ F ⟨wb, wc, W, rd3, rfl, hWp, hWs, hW, kF, hrd3⟩
      have kBF := kBE.trans kF
      have hWl : W.length = Z.length := by have h1 := hWp.length_eq; rw [List.length_map] at h1; omega
      have hbig := hW.out.big
      simp only [List.length_map] at hbig
      simp (dsimp := false) (maxSteps := 4000000) only [enc_len, enc_scal, lput_enc, take_enc, go_sem, ↓reduceIte, Nat.reduceEqDiff, Nat.reduceLT, Nat.reduceLeDiff, Nat.reduceAdd, Nat.reduceMul, Nat.reduceSub, reduceCtorEq, Int.reduceToNat, Int.reduceLT, Int.reduceLE, Int.reduceEq, Int.reduceNe, Int.reduceBEq, Nat.reduceBEq, Int.reduceBNe, Nat.reduceBNe, Int.reduceAdd, Int.reduceSub, Int.reduceMul, Int.reduceNeg]
      refine AWp.loopo (ι := Nat) (fun m => m ≤ W.length) (fun m => [(11, .int .i64 m), (10, .slice wb W.length wc), (5, .pointer (some ⟨b, 0, none⟩)), (7, .slice zb Z.length zc), (4, .bool false)]) (fun _ => F) (fun m => W.length - m) 0 (by omega) (FrLe.of_lks ?_) (AH.le_refl _) fun m hm Q again out => ?_
      · simp (dsimp := false) (maxSteps := 4000000) only [enc_len, enc_scal, lput_enc, take_enc, go_sem, ↓reduceIte, Nat.reduceEqDiff, Nat.reduceLT, Nat.reduceLeDiff, Nat.reduceAdd, Nat.reduceMul, Nat.reduceSub, reduceCtorEq, Int.reduceToNat, Int.reduceLT, Int.reduceLE, Int.reduceEq, Int.reduceNe, Int.reduceBEq, Nat.reduceBEq, Int.reduceBNe, Nat.reduceBNe, Int.reduceAdd, Int.reduceSub, Int.reduceMul, Int.reduceNeg]
      by_cases hlt : (m : Int) < W.length
      · obtain ⟨x, hx⟩ := get_some (l := W) (i := m) (by omega)
        obtain ⟨p1, o1, rfl, hrow1, hrd1⟩ := hW.out.get (Go.AX.map_get (f := encN) hx)
        have hx1 : F.row p1 (o1 + m * 3 + 1) 2 = some [.int .i64 x.p, .slice x.base x.R.length x.cap] := row_of_rd rfl (by decide) fun j c hj => by
          rw [Nat.add_assoc _ 1 j, Nat.add_comm 1 j]
          exact hrd1 (j + 1) c hj
        have ee := i64_succ (i := m) (by omega)
        have hm0 : (0 : Int) ≤ (m : Int) := by omega
        have hxm := List.mem_of_getElem? hx
        have hgd : goodF x.p x.R = true := (hXc.ok x.nf (hWp.mem_iff.1 (List.mem_map_of_mem hxm))).2.1
        have hgc := fun H1 (h : SlcIn H1 4 x.base x.cap (x.R.map enc)) => File.RefGood_c x.p x.R x.base x.cap H1 h
        unfold fv at hgc
        rw [hgd] at hgc
        
        simp (dsimp := false) (maxSteps := 4000000) only [hlt, hm0, hx1, enc_len, enc_scal, lput_enc, take_enc, go_sem, ↓reduceIte, Nat.reduceEqDiff, Nat.reduceLT, Nat.reduceLeDiff, Nat.reduceAdd, Nat.reduceMul, Nat.reduceSub, reduceCtorEq, Int.reduceToNat, Int.reduceLT, Int.reduceLE, Int.reduceEq, Int.reduceNe, Int.reduceBEq, Nat.reduceBEq, Int.reduceBNe, Nat.reduceBNe, Int.reduceAdd, Int.reduceSub, Int.reduceMul, Int.reduceNeg]
        refine (hgc _ (hW.inn x hxm)).mono ?_; rintro _ _ ⟨rfl, rfl⟩
        simp (dsimp := false) (maxSteps := 4000000) only [ee, enc_len, enc_scal, lput_enc, take_enc, go_sem, ↓reduceIte, Nat.reduceEqDiff, Nat.reduceLT, Nat.reduceLeDiff, Nat.reduceAdd, Nat.reduceMul, Nat.reduceSub, reduceCtorEq, Int.reduceToNat, Int.reduceLT, Int.reduceLE, Int.reduceEq, Int.reduceNe, Int.reduceBEq, Nat.reduceBEq, Int.reduceBNe, Nat.reduceBNe, Int.reduceAdd, Int.reduceSub, Int.reduceMul, Int.reduceNeg]
        exact again (m + 1) _ _ (by omega) (FrLe.of_lks (by simp (dsimp := false) (maxSteps := 4000000) only [enc_len, enc_scal, lput_enc, take_enc, go_sem, ↓reduceIte, Nat.reduceEqDiff, Nat.reduceLT, Nat.reduceLeDiff, Nat.reduceAdd, Nat.reduceMul, Nat.reduceSub, reduceCtorEq, Int.reduceToNat, Int.reduceLT, Int.reduceLE, Int.reduceEq, Int.reduceNe, Int.reduceBEq, Nat.reduceBEq, Int.reduceBNe, Nat.reduceBNe, Int.reduceAdd, Int.reduceSub, Int.reduceMul, Int.reduceNeg])) (AH.le_refl _) (by omega)
        
      obtain rfl : m = W.length := by omega
      simp (dsimp := false) (maxSteps := 4000000) only [hlt, enc_len, enc_scal, lput_enc, take_enc, go_sem, ↓reduceIte, Nat.reduceEqDiff, Nat.reduceLT, Nat.reduceLeDiff, Nat.reduceAdd, Nat.reduceMul, Nat.reduceSub, reduceCtorEq, Int.reduceToNat, Int.reduceLT, Int.reduceLE, Int.reduceEq, Int.reduceNe, Int.reduceBEq, Nat.reduceBEq, Int.reduceBNe, Nat.reduceBNe, Int.reduceAdd, Int.reduceSub, Int.reduceMul, Int.reduceNeg]
      refine out _ _ _ (by simp) ?_
      simp (dsimp := false) (maxSteps := 4000000) only [enc_len, enc_scal, lput_enc, take_enc, go_sem, ↓reduceIte, Nat.reduceEqDiff, Nat.reduceLT, Nat.reduceLeDiff, Nat.reduceAdd, Nat.reduceMul, Nat.reduceSub, reduceCtorEq, Int.reduceToNat, Int.reduceLT, Int.reduceLE, Int.reduceEq, Int.reduceNe, Int.reduceBEq, Nat.reduceBEq, Int.reduceBNe, Nat.reduceBNe, Int.reduceAdd, Int.reduceSub, Int.reduceMul, Int.reduceNeg]
      refine (awake_c _ (by rw [kBF.w0, kHB.w0]; exact hE)).mono ?_; rintro _ _ ⟨rfl, rfl⟩
      simp (dsimp := false) (maxSteps := 4000000) only [enc_len, enc_scal, lput_enc, take_enc, go_sem, ↓reduceIte, Nat.reduceEqDiff, Nat.reduceLT, Nat.reduceLeDiff, Nat.reduceAdd, Nat.reduceMul, Nat.reduceSub, reduceCtorEq, Int.reduceToNat, Int.reduceLT, Int.reduceLE, Int.reduceEq, Int.reduceNe, Int.reduceBEq, Nat.reduceBEq, Int.reduceBNe, Nat.reduceBNe, Int.reduceAdd, Int.reduceSub, Int.reduceMul, Int.reduceNeg]
      refine (Files_c (hsB.keep kBF fun _ _ h => h) hX).mono ?_
      rintro _ G ⟨vb, vc, V, rd4, rfl, hVp, hVs, hV, kG, hrd4⟩
      have e2 : V.map RF.nf = Z.map RF.nf := Srt.uniq (hVp.trans hZp.symm) hVs hZs
      simp (dsimp := false) (maxSteps := 4000000) only [enc_len, enc_scal, lput_enc, take_enc, go_sem, ↓reduceIte, Nat.reduceEqDiff, Nat.reduceLT, Nat.reduceLeDiff, Nat.reduceAdd, Nat.reduceMul, Nat.reduceSub, reduceCtorEq, Int.reduceToNat, Int.reduceLT, Int.reduceLE, Int.reduceEq, Int.reduceNe, Int.reduceBEq, Nat.reduceBEq, Int.reduceBNe, Nat.reduceBNe, Int.reduceAdd, Int.reduceSub, Int.reduceMul, Int.reduceNeg]
      refine (Same_c hV (hZ.keep (kBF.trans kG) fun _ _ h => h)).mono ?_
      rintro _ _ ⟨rfl, rfl⟩
      rw [decide_eq_true e2]
      have hWl' : (W.length : Int) = Z.length := by omega
      simp (dsimp := false) (maxSteps := 4000000) only [hWl', enc_len, enc_scal, lput_enc, take_enc, go_sem, ↓reduceIte, Nat.reduceEqDiff, Nat.reduceLT, Nat.reduceLeDiff, Nat.reduceAdd, Nat.reduceMul, Nat.reduceSub, reduceCtorEq, Int.reduceToNat, Int.reduceLT, Int.reduceLE, Int.reduceEq, Int.reduceNe, Int.reduceBEq, Nat.reduceBEq, Int.reduceBNe, Nat.reduceBNe, Int.reduceAdd, Int.reduceSub, Int.reduceMul, Int.reduceNeg]
      exact ⟨H, ((kHB.trans kBF).trans kG).all, rfl⟩
end Go.Proofs.YtmkbpdlijfjgkaaDoor.Ifs
