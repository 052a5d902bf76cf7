/- the reference's store: Set. -/
import Derived.Test.YtmkbpdlijfjgkaaDoorIfs16
namespace Go.Proofs.YtmkbpdlijfjgkaaDoor.Ifs
set_option linter.unusedSimpArgs false
set_option linter.unusedVariables false
open Go Go.AX Go.Proofs Ty Go.Proofs.YtmkbpdlijfjgkaaDoor.File
set_option maxHeartbeats 4000000
set_option maxRecDepth 10000

theorem put_row {Z : List RF} {i : Nat} {z z' : RF} (hz : Z[i]? = some z) (hn : z'.n = z.n) : lput (Z.map encN).flatten (i * 3 + 1) [.int .i64 z'.p, .slice z'.base z'.R.length z'.cap] = ((Z.set i z').map encN).flatten := by
  have hilt := Go.AX.lt_of_get hz
  rw [List.map_set, ← flat_lput (rowsN Z) i (encN z') (by simpa using hilt) rfl]
  have e0 : (Z.map encN).flatten[i * 3 + 0]? = some (.int .i64 z.n) := flat_get (rowsN Z) i 0 (encN z) _ (Go.AX.map_get hz) rfl
  rw [Nat.add_zero] at e0
  have e1 : (Z.map encN).flatten.set (i * 3) (.int .i64 z.n) = (Z.map encN).flatten := by
    apply List.ext_getElem?
    intro j
    rw [List.getElem?_set]
    by_cases e : i * 3 = j
    · subst e; rw [if_pos rfl, if_pos (Go.AX.lt_of_get e0)]; exact e0.symm
    · rw [if_neg e]
  rw [encN, hn, show lput (Z.map encN).flatten (i * 3) [.int .i64 z.n, .int .i64 z'.p, .slice z'.base z'.R.length z'.cap] = lput ((Z.map encN).flatten.set (i * 3) (.int .i64 z.n)) (i * 3 + 1) [.int .i64 z'.p, .slice z'.base z'.R.length z'.cap] from rfl, e1]
theorem RefSet_c {H : AH} {b : Nat} {Z : List RF} {den : Int} {rd : Nat → Prop} (h : RefS H b Z den rd) (hX : OkX (Z.map RF.nf)) (n rec : Int) (v : Rc) :
    ACalls Tryd.prog 12 #[.pointer (some ⟨b, 0, none⟩), .int .i64 n, .int .i64 rec, .agg (enc v).toArray] H (fun u H' => ∃ Z' rd', u = .bool (setOk (Z.map RF.nf) n rec) ∧ Z'.map RF.nf = setX (Z.map RF.nf) n rec v ∧ RefS H' b Z' den rd' ∧ Keep H H' (· = b) ∧ ∀ x, rd' x → rd x ∨ Fresh H x) := by
  have hget := fun H1 (h1 : RefAt H1 b Z den rd) => RefGet_c h1 n rec
  have hat := fun H1 (h1 : RefAt H1 b Z den rd) => at_c h1 n
  have hZl : Z.length ≤ 64 := by have := hX.len; simpa using this
  have bad : ∀ {T : AH}, setOk (Z.map RF.nf) n rec = false → H.le T → ∃ H', H'.le T ∧ ∃ Z' rd', Value.bool false = .bool (setOk (Z.map RF.nf) n rec) ∧ Z'.map RF.nf = setX (Z.map RF.nf) n rec v ∧ RefS H' b Z' den rd' ∧ Keep H H' (· = b) ∧ ∀ x, rd' x → rd x ∨ Fresh H x := fun {T} h0 hl =>
    ⟨H, hl, Z, rd, by rw [h0], by rw [setX, h0]; rfl, h, Keep.refl, fun x h => .inl h⟩
  refine ACalls.enter2 Tryd.func12 rfl Tryd.ntmps12 Tryd.results12 (by simp) ?_; simp (dsimp := false) (maxSteps := 4000000) only [enc_len, enc_scal, lput_enc, take_enc, go_sem, ↓reduceIte, Nat.reduceEqDiff, Nat.reduceLT, Nat.reduceLeDiff, Nat.reduceAdd, Nat.reduceMul, Nat.reduceSub, reduceCtorEq, Int.reduceToNat, Int.reduceLT, Int.reduceLE, Int.reduceEq, Int.reduceNe, Int.reduceBEq, Nat.reduceBEq, Int.reduceBNe, Nat.reduceBNe, Int.reduceAdd, Int.reduceSub, Int.reduceMul, Int.reduceNeg]
  refine AllB.mk fun b7 h_b7 => ?_; have hn_b7 := h_b7; (try simp only [fresh_add, fresh_set, ne_eq] at hn_b7); have hr_b7 := hn_b7; (try simp only [@eq_comm Nat b7] at hr_b7); simp (dsimp := false) (maxSteps := 4000000) only [enc_len, enc_scal, lput_enc, take_enc, hn_b7, hr_b7, go_sem, ↓reduceIte, Nat.reduceEqDiff, Nat.reduceLT, Nat.reduceLeDiff, Nat.reduceAdd, Nat.reduceMul, Nat.reduceSub, reduceCtorEq, Int.reduceToNat, Int.reduceLT, Int.reduceLE, Int.reduceEq, Int.reduceNe, Int.reduceBEq, Nat.reduceBEq, Int.reduceBNe, Nat.reduceBNe, Int.reduceAdd, Int.reduceSub, Int.reduceMul, Int.reduceNeg]
  refine (hget _ (h.at.keep (Keep.refl.nw h_b7) (fun _ _ h => h) fun h => h)).mono ?_
  rintro _ _ ⟨rfl, rfl⟩
  cases hg : getW (Z.map RF.nf) n rec with
  | none =>
    
    simp only [getV]
    simp (dsimp := false) (maxSteps := 4000000) only [enc_len, enc_scal, lput_enc, take_enc, hn_b7, hr_b7, go_sem, ↓reduceIte, Nat.reduceEqDiff, Nat.reduceLT, Nat.reduceLeDiff, Nat.reduceAdd, Nat.reduceMul, Nat.reduceSub, reduceCtorEq, Int.reduceToNat, Int.reduceLT, Int.reduceLE, Int.reduceEq, Int.reduceNe, Int.reduceBEq, Nat.reduceBEq, Int.reduceBNe, Nat.reduceBNe, Int.reduceAdd, Int.reduceSub, Int.reduceMul, Int.reduceNeg]
    refine AllB.mk fun b9 h_b9 => ?_; have hn_b9 := h_b9; (try simp only [fresh_add, fresh_set, ne_eq] at hn_b9); have hr_b9 := hn_b9; (try simp only [@eq_comm Nat b9] at hr_b9); simp (dsimp := false) (maxSteps := 4000000) only [enc_len, enc_scal, lput_enc, take_enc, hn_b7, hr_b7, hn_b9, hr_b9, go_sem, ↓reduceIte, Nat.reduceEqDiff, Nat.reduceLT, Nat.reduceLeDiff, Nat.reduceAdd, Nat.reduceMul, Nat.reduceSub, reduceCtorEq, Int.reduceToNat, Int.reduceLT, Int.reduceLE, Int.reduceEq, Int.reduceNe, Int.reduceBEq, Nat.reduceBEq, Int.reduceBNe, Nat.reduceBNe, Int.reduceAdd, Int.reduceSub, Int.reduceMul, Int.reduceNeg]
    exact bad (by simp [setOk, hg]) (AH.le_add (AH.le_add (AH.le_refl _) ((by simp only [enc_len, enc_scal, lput_enc, take_enc, fresh_add, fresh_set, ne_eq, hn_b7, not_false_eq_true, and_self] : Fresh _ b7).2)) ((by simp only [enc_len, enc_scal, lput_enc, take_enc, fresh_add, fresh_set, ne_eq, hn_b9, not_false_eq_true, and_self] : Fresh _ b9).2))
    
  | some r =>
    by_cases h0 : rec = 0
    · subst h0
      
      simp only [getV]
      simp (dsimp := false) (maxSteps := 4000000) only [enc_len, enc_scal, lput_enc, take_enc, hn_b7, hr_b7, go_sem, ↓reduceIte, Nat.reduceEqDiff, Nat.reduceLT, Nat.reduceLeDiff, Nat.reduceAdd, Nat.reduceMul, Nat.reduceSub, reduceCtorEq, Int.reduceToNat, Int.reduceLT, Int.reduceLE, Int.reduceEq, Int.reduceNe, Int.reduceBEq, Nat.reduceBEq, Int.reduceBNe, Nat.reduceBNe, Int.reduceAdd, Int.reduceSub, Int.reduceMul, Int.reduceNeg]
      refine AllB.mk fun b9 h_b9 => ?_; have hn_b9 := h_b9; (try simp only [fresh_add, fresh_set, ne_eq] at hn_b9); have hr_b9 := hn_b9; (try simp only [@eq_comm Nat b9] at hr_b9); simp (dsimp := false) (maxSteps := 4000000) only [enc_len, enc_scal, lput_enc, take_enc, hn_b7, hr_b7, hn_b9, hr_b9, go_sem, ↓reduceIte, Nat.reduceEqDiff, Nat.reduceLT, Nat.reduceLeDiff, Nat.reduceAdd, Nat.reduceMul, Nat.reduceSub, reduceCtorEq, Int.reduceToNat, Int.reduceLT, Int.reduceLE, Int.reduceEq, Int.reduceNe, Int.reduceBEq, Nat.reduceBEq, Int.reduceBNe, Nat.reduceBNe, Int.reduceAdd, Int.reduceSub, Int.reduceMul, Int.reduceNeg]
      exact bad (by simp [setOk]) (AH.le_add (AH.le_add (AH.le_refl _) ((by simp only [enc_len, enc_scal, lput_enc, take_enc, fresh_add, fresh_set, ne_eq, hn_b7, not_false_eq_true, and_self] : Fresh _ b7).2)) ((by simp only [enc_len, enc_scal, lput_enc, take_enc, fresh_add, fresh_set, ne_eq, hn_b9, not_false_eq_true, and_self] : Fresh _ b9).2))
      
    have hok : setOk (Z.map RF.nf) n rec = true := by simp [setOk, hg, h0]
    simp only [getV]
    simp (dsimp := false) (maxSteps := 4000000) only [enc_len, enc_scal, lput_enc, take_enc, hn_b7, hr_b7, go_sem, ↓reduceIte, Nat.reduceEqDiff, Nat.reduceLT, Nat.reduceLeDiff, Nat.reduceAdd, Nat.reduceMul, Nat.reduceSub, reduceCtorEq, Int.reduceToNat, Int.reduceLT, Int.reduceLE, Int.reduceEq, Int.reduceNe, Int.reduceBEq, Nat.reduceBEq, Int.reduceBNe, Nat.reduceBNe, Int.reduceAdd, Int.reduceSub, Int.reduceMul, Int.reduceNeg]
    refine AllB.mk fun b9 h_b9 => ?_; have hn_b9 := h_b9; (try simp only [fresh_add, fresh_set, ne_eq] at hn_b9); have hr_b9 := hn_b9; (try simp only [@eq_comm Nat b9] at hr_b9); simp (dsimp := false) (maxSteps := 4000000) only [enc_len, enc_scal, lput_enc, take_enc, hn_b7, hr_b7, hn_b9, hr_b9, go_sem, ↓reduceIte, Nat.reduceEqDiff, Nat.reduceLT, Nat.reduceLeDiff, Nat.reduceAdd, Nat.reduceMul, Nat.reduceSub, reduceCtorEq, Int.reduceToNat, Int.reduceLT, Int.reduceLE, Int.reduceEq, Int.reduceNe, Int.reduceBEq, Nat.reduceBEq, Int.reduceBNe, Nat.reduceBNe, Int.reduceAdd, Int.reduceSub, Int.reduceMul, Int.reduceNeg]
    simp (dsimp := false) (maxSteps := 4000000) only [h0, enc_len, enc_scal, lput_enc, take_enc, hn_b7, hr_b7, hn_b9, hr_b9, go_sem, ↓reduceIte, Nat.reduceEqDiff, Nat.reduceLT, Nat.reduceLeDiff, Nat.reduceAdd, Nat.reduceMul, Nat.reduceSub, reduceCtorEq, Int.reduceToNat, Int.reduceLT, Int.reduceLE, Int.reduceEq, Int.reduceNe, Int.reduceBEq, Nat.reduceBEq, Int.reduceBNe, Nat.reduceBNe, Int.reduceAdd, Int.reduceSub, Int.reduceMul, Int.reduceNeg]
    refine (hat _ (h.at.keep ((Keep.refl.nw h_b7).nw h_b9) (fun _ _ h => h) fun h => h)).mono ?_
    rintro _ _ ⟨q, rfl, ho, rfl⟩
    rcases ho with ⟨rfl, hl⟩ | ⟨i, z, rfl, hz, hn, hl⟩
    · rw [getW, hl] at hg; cases hg
    obtain ⟨zb, zc, ht, hZ, hnb, hzb, hk⟩ := id h
    have hi0 : (0 : Int) ≤ (i : Int) := by omega
    have hilt := Go.AX.lt_of_get hz
    have hlt : (i : Int) < (Z.length : Int) := by omega
    rw [getW_eq hl] at hg
    have hr0 : ¬ rec < 0 := fun h => by rw [if_pos h] at hg; cases hg
    rw [if_neg hr0] at hg
    obtain ⟨rc, rfl⟩ : ∃ rc : Nat, rec = rc := ⟨rec.toNat, by omega⟩
    have hrc := Go.AX.lt_of_get hg
    simp only [Int.toNat_natCast] at hrc
    have hrc' : (rc : Int) < (z.R.length : Int) := by omega
    have hrc0 : (0 : Int) ≤ (rc : Int) := by omega
    have hgd := hX.ok z.nf (List.mem_map_of_mem (List.mem_of_getElem? hz))
    have h256 : z.R.length ≤ 256 := (goodF_len hgd.2.1).2
    obtain ⟨T, hT⟩ : ∃ T, ((H.add b7 (.cells (enc v) 32 4)).add b9 (.cells (enc r) 32 4)) = T := ⟨_, rfl⟩
    have kT : Keep H T fun _ => False := hT ▸ (Keep.refl.nw h_b7).nw h_b9
    have t7 : T.find b7 = some (.cells (enc v) 32 4) := by rw [← hT]; (show AH.find _ _ = _; simp only [find_add_self, find_add_ne, find_fresh, fresh_add, fresh_set, ne_eq, not_false_eq_true, true_and, and_true, and_self, enc_len, enc_scal, lput_enc, take_enc, hn_b7, hr_b7, hn_b9, hr_b9])
    have tb := kT.find (fun h => h) ht
    have hZT := hZ.keep kT fun _ _ h => h
    have p7 : ¬ b7 = b := h_b7.ne_find ht
    rw [hT]
    clear hT h_b7 h_b9 hn_b7 hn_b9 hr_b7 hr_b9
    
    simp (dsimp := false) (maxSteps := 4000000) only [enc_len, enc_scal, lput_enc, take_enc, go_sem, ↓reduceIte, Nat.reduceEqDiff, Nat.reduceLT, Nat.reduceLeDiff, Nat.reduceAdd, Nat.reduceMul, Nat.reduceSub, reduceCtorEq, Int.reduceToNat, Int.reduceLT, Int.reduceLE, Int.reduceEq, Int.reduceNe, Int.reduceBEq, Nat.reduceBEq, Int.reduceBNe, Nat.reduceBNe, Int.reduceAdd, Int.reduceSub, Int.reduceMul, Int.reduceNeg]
    refine AllB.mk fun bl h_bl => ?_
    have kl : Keep T (T.add bl (.cells [] 56 0)) fun _ => False := Keep.add h_bl
    have rT : (T.add bl (.cells [] 56 0)).rd ⟨b, 0, none⟩ = some (.slice zb Z.length zc) := by rw [rd_find (kl.find (fun h => h) tb)]; rfl
    simp (dsimp := false) (maxSteps := 4000000) only [rT, enc_len, enc_scal, lput_enc, take_enc, go_sem, ↓reduceIte, Nat.reduceEqDiff, Nat.reduceLT, Nat.reduceLeDiff, Nat.reduceAdd, Nat.reduceMul, Nat.reduceSub, reduceCtorEq, Int.reduceToNat, Int.reduceLT, Int.reduceLE, Int.reduceEq, Int.reduceNe, Int.reduceBEq, Nat.reduceBEq, Int.reduceBNe, Nat.reduceBNe, Int.reduceAdd, Int.reduceSub, Int.reduceMul, Int.reduceNeg]
    refine APD.growS (H0 := T) (m := Z.length) (R := []) (R' := Z.map encN) (OwnS.new h_bl (AH.le_refl _) rfl rfl rfl (by simp) (by simp)) kl.all se_26 rfl (by decide) (by decide) (by rw [Tryd.underlying26]; rfl) rfl (by simp) (hZT.keep kl fun _ _ h => h).out (rowsN Z) (scalN Z) (by omega) fun base' cap' A hO' hK' hN' => ?_
    refine ⟨A, AH.le_refl _, ?_⟩
    rw [List.nil_append] at hO'
    rw [Nat.zero_add]
    have kA : Keep T A fun _ => False := kl.ow hK' fun b ⟨a, ha, e⟩ => by cases ha; exact e ▸ h_bl
    obtain ⟨bb, bs', rfl, hbb, hbs', hfb⟩ : ∃ bb bs', base' = some ⟨bb, 0, none⟩ ∧ A.find bb = some (.cells (Z.map encN).flatten 56 bs') ∧ cap' * 3 ≤ bs' ∧ Fresh T bb := by
      rcases hO'.at_ with ⟨_, h, _⟩ | ⟨b', bs, h, hfd, h2, h3⟩
      · rw [List.map_eq_nil_iff] at h; subst h; simp at hilt
      · exact ⟨b', bs, h, hfd, h2, h3⟩
    have hcl : Z.length ≤ cap' := by have := hO'.le; simpa using this
    have ab := kA.find (fun h => h) tb
    have q0 : bb ≠ b := hfb.ne_find tb
    have q7 : bb ≠ b7 := hfb.ne_find t7
    obtain ⟨A2, hA2⟩ : ∃ A2, A.set b (.cells [.slice (some ⟨bb, 0, none⟩) Z.length cap', .int .i64 den] 28 2) = A2 := ⟨_, rfl⟩
    have k2 : Keep A A2 (· = b) := hA2 ▸ Keep.set
    have hw1 : A.wrs b 0 [.slice (some ⟨bb, 0, none⟩) Z.length cap'] = some A2 := by rw [← hA2]; simp [AH.wrs, ab, lput, scal]
    have ab2 : A2.find b = some (.cells [.slice (some ⟨bb, 0, none⟩) Z.length cap', .int .i64 den] 28 2) := by rw [← hA2, find_set, if_pos rfl]
    have hbb2 := k2.find q0 hbb
    have r2 : A2.rd ⟨b, 0, none⟩ = some (.slice (some ⟨bb, 0, none⟩) Z.length cap') := by rw [rd_find ab2]; rfl
    have hS2 : SlcIn A2 3 (some ⟨bb, 0, none⟩) cap' (Z.map encN) := SlcIn.of_find hbb2 (rowsN Z) (by simpa using hcl) (by simp; omega)
    have hx2 : A2.row bb (i * 3 + 1) 2 = some [.int .i64 z.p, .slice z.base z.R.length z.cap] := by
      obtain ⟨b_, o, he, hrow, hrd⟩ := hS2.get (Go.AX.map_get (f := encN) hz)
      cases he
      rw [Nat.zero_add] at hrd
      exact row_of_rd rfl (by decide) fun j c hj => by
        rw [Nat.add_assoc _ 1 j, Nat.add_comm 1 j]
        exact hrd (j + 1) c hj
    have c2 : A2.find b7 = some (.cells (enc v) 32 4) := k2.find p7 (kA.find (fun h => h) t7)
    have hin2 := ((hZT.keep kA fun _ _ h => h).keep k2 fun x hx e => hnb (e ▸ hx)).inn z (List.mem_of_getElem? hz)
    simp (dsimp := false) (maxSteps := 4000000) only [hw1, enc_len, enc_scal, lput_enc, take_enc, go_sem, ↓reduceIte, Nat.reduceEqDiff, Nat.reduceLT, Nat.reduceLeDiff, Nat.reduceAdd, Nat.reduceMul, Nat.reduceSub, reduceCtorEq, Int.reduceToNat, Int.reduceLT, Int.reduceLE, Int.reduceEq, Int.reduceNe, Int.reduceBEq, Nat.reduceBEq, Int.reduceBNe, Nat.reduceBNe, Int.reduceAdd, Int.reduceSub, Int.reduceMul, Int.reduceNeg]
    simp (dsimp := false) (maxSteps := 4000000) only [r2, hlt, hi0, hx2, enc_len, enc_scal, lput_enc, take_enc, go_sem, ↓reduceIte, Nat.reduceEqDiff, Nat.reduceLT, Nat.reduceLeDiff, Nat.reduceAdd, Nat.reduceMul, Nat.reduceSub, reduceCtorEq, Int.reduceToNat, Int.reduceLT, Int.reduceLE, Int.reduceEq, Int.reduceNe, Int.reduceBEq, Nat.reduceBEq, Int.reduceBNe, Nat.reduceBNe, Int.reduceAdd, Int.reduceSub, Int.reduceMul, Int.reduceNeg]
    refine AllB.mk fun b12 h_b12 => ?_; have hn_b12 := h_b12; (try simp only [fresh_add, fresh_set, ne_eq] at hn_b12); have hr_b12 := hn_b12; (try simp only [@eq_comm Nat b12] at hr_b12); simp (dsimp := false) (maxSteps := 4000000) only [enc_len, enc_scal, lput_enc, take_enc, hn_b12, hr_b12, go_sem, ↓reduceIte, Nat.reduceEqDiff, Nat.reduceLT, Nat.reduceLeDiff, Nat.reduceAdd, Nat.reduceMul, Nat.reduceSub, reduceCtorEq, Int.reduceToNat, Int.reduceLT, Int.reduceLE, Int.reduceEq, Int.reduceNe, Int.reduceBEq, Nat.reduceBEq, Int.reduceBNe, Nat.reduceBNe, Int.reduceAdd, Int.reduceSub, Int.reduceMul, Int.reduceNeg]
    obtain ⟨T2, hT2⟩ : ∃ T2, A2.add b12 (.cells [.int .i64 z.p, .slice z.base z.R.length z.cap] 35 2) = T2 := ⟨_, rfl⟩
    have k2T : Keep A2 T2 fun _ => False := hT2 ▸ Keep.add h_b12
    have t12 : T2.find b12 = some (.cells [.int .i64 z.p, .slice z.base z.R.length z.cap] 35 2) := by rw [← hT2, find_add_self]
    have n12 : b12 ≠ b := h_b12.ne_find ab2
    have n12b : b12 ≠ bb := h_b12.ne_find hbb2
    have n12c : b12 ≠ b7 := h_b12.ne_find c2
    have f12 : Fresh A2 b12 := h_b12
    rw [hT2]
    clear hT2 h_b12 hn_b12 hr_b12
    
    refine AllB.mk fun bm h_bm => ?_
    have km : Keep T2 (T2.add bm (.cells [] 32 0)) fun _ => False := Keep.add h_bm
    have r12 : (T2.add bm (.cells [] 32 0)).rd ⟨b12, 1, none⟩ = some (.slice z.base z.R.length z.cap) := by rw [rd_find (km.find (fun h => h) t12)]; rfl
    simp (dsimp := false) (maxSteps := 4000000) only [r12, enc_len, enc_scal, lput_enc, take_enc, go_sem, ↓reduceIte, Nat.reduceEqDiff, Nat.reduceLT, Nat.reduceLeDiff, Nat.reduceAdd, Nat.reduceMul, Nat.reduceSub, reduceCtorEq, Int.reduceToNat, Int.reduceLT, Int.reduceLE, Int.reduceEq, Int.reduceNe, Int.reduceBEq, Nat.reduceBEq, Int.reduceBNe, Nat.reduceBNe, Int.reduceAdd, Int.reduceSub, Int.reduceMul, Int.reduceNeg]
    refine APD.growS (H0 := T2) (m := z.R.length) (R := []) (R' := z.R.map enc) (OwnS.new h_bm (AH.le_refl _) rfl rfl rfl (by simp) (by simp)) km.all se_33 rfl (by decide) (by decide) (by rw [Tryd.underlying33]; rfl) rfl (by simp) ((hin2.keep k2T fun _ _ h => h).keep km fun _ _ h => h) (rows4 z.R) (scal4 z.R) (by omega) fun base3 cap3 B hOB hKB hNB => ?_
    refine ⟨B, AH.le_refl _, ?_⟩
    rw [List.nil_append] at hOB
    rw [Nat.zero_add]
    have kB : Keep T2 B fun _ => False := km.ow hKB fun b ⟨a, ha, e⟩ => by cases ha; exact e ▸ h_bm
    obtain ⟨bq, bs3, rfl, hbq, hbs3, hfq⟩ : ∃ bq bs3, base3 = some ⟨bq, 0, none⟩ ∧ B.find bq = some (.cells (z.R.map enc).flatten 32 bs3) ∧ cap3 * 4 ≤ bs3 ∧ Fresh T2 bq := by
      rcases hOB.at_ with ⟨_, h, _⟩ | ⟨b', bs, h, hfd, h2, h3⟩
      · rw [List.map_eq_nil_iff] at h; rw [h] at hrc; simp at hrc
      · exact ⟨b', bs, h, hfd, h2, h3⟩
    have hcq : z.R.length ≤ cap3 := by have := hOB.le; simpa using this
    have m0 : bq ≠ b := hfq.ne_find (k2T.find (fun h => h) ab2)
    have m7 : bq ≠ b7 := hfq.ne_find (k2T.find (fun h => h) c2)
    have mb : bq ≠ bb := hfq.ne_find (k2T.find (fun h => h) hbb2)
    have m12 : bq ≠ b12 := hfq.ne_find t12
    obtain ⟨B2, hB2⟩ : ∃ B2, B.set b12 (.cells [.int .i64 z.p, .slice (some ⟨bq, 0, none⟩) z.R.length cap3] 35 2) = B2 := ⟨_, rfl⟩
    have kB2 : Keep B B2 (· = b12) := hB2 ▸ Keep.set
    have hw2 : B.wrs b12 1 [.slice (some ⟨bq, 0, none⟩) z.R.length cap3] = some B2 := by rw [← hB2]; simp [AH.wrs, kB.find (fun h => h) t12, lput, scal]
    have e12 : B2.find b12 = some (.cells [.int .i64 z.p, .slice (some ⟨bq, 0, none⟩) z.R.length cap3] 35 2) := by rw [← hB2, find_set, if_pos rfl]
    have r13 : B2.rd ⟨b12, 1, none⟩ = some (.slice (some ⟨bq, 0, none⟩) z.R.length cap3) := by rw [rd_find e12]; rfl
    have w7 : B2.row b7 0 4 = some (enc v) := row_find (kB2.find (Ne.symm n12c) (kB.find (fun h => h) (k2T.find (fun h => h) c2))) (by simp [enc])
    obtain ⟨B3, hB3⟩ : ∃ B3, B2.set bq (.cells ((z.R.set rc v).map enc).flatten 32 bs3) = B3 := ⟨_, rfl⟩
    have kB3 : Keep B2 B3 (· = bq) := hB3 ▸ Keep.set
    have hq2 := kB2.find m12 hbq
    have hl4 := flat4 z.R
    have hw3 : B2.wrs bq (rc * 4) (enc v) = some B3 := by
      unfold AH.wrs
      rw [hq2]
      simp only
      rw [if_pos ⟨by rw [enc_len, hl4]; omega, by rw [hl4]; omega, enc_scal v⟩, flat_lput (rows4 z.R) rc (enc v) (by simpa using hrc) (enc_len v), ← List.map_set, hB3]
    have ab3 := kB3.find (Ne.symm m0) (kB2.find (Ne.symm n12) (kB.find (fun h => h) (k2T.find (fun h => h) ab2)))
    have r3 : B3.rd ⟨b, 0, none⟩ = some (.slice (some ⟨bb, 0, none⟩) Z.length cap') := by rw [rd_find ab3]; rfl
    have w12 : B3.row b12 0 2 = some [.int .i64 z.p, .slice (some ⟨bq, 0, none⟩) z.R.length cap3] := row_find (kB3.find (Ne.symm m12) e12) (by simp)
    have hbb3 := kB3.find (Ne.symm mb) (kB2.find (Ne.symm n12b) (kB.find (fun h => h) (k2T.find (fun h => h) hbb2)))
    obtain ⟨z', hz'⟩ : ∃ z' : RF, z' = ⟨z.n, z.p, some ⟨bq, 0, none⟩, cap3, z.R.set rc v⟩ := ⟨_, rfl⟩
    have hput := put_row (z' := z') hz (by rw [hz'])
    rw [show ([.int .i64 z'.p, .slice z'.base z'.R.length z'.cap] : List Value) = [.int .i64 z.p, .slice (some ⟨bq, 0, none⟩) z.R.length cap3] from by rw [hz']; simp] at hput
    have hfl : (Z.map encN).flatten.length = Z.length * 3 := by rw [flat_len (rowsN Z), List.length_map]
    obtain ⟨B4, hB4⟩ : ∃ B4, B3.set bb (.cells ((Z.set i z').map encN).flatten 56 bs') = B4 := ⟨_, rfl⟩
    have kB4 : Keep B3 B4 (· = bb) := hB4 ▸ Keep.set
    have hw4 : B3.wrs bb (i * 3 + 1) [.int .i64 z.p, .slice (some ⟨bq, 0, none⟩) z.R.length cap3] = some B4 := by
      unfold AH.wrs
      rw [hbb3]
      simp only
      rw [if_pos ⟨by rw [hfl]; simp only [List.length_cons, List.length_nil]; omega, by rw [hfl]; omega, rfl⟩, hput, hB4]
    simp (dsimp := false) (maxSteps := 4000000) only [hw2, enc_len, enc_scal, lput_enc, take_enc, go_sem, ↓reduceIte, Nat.reduceEqDiff, Nat.reduceLT, Nat.reduceLeDiff, Nat.reduceAdd, Nat.reduceMul, Nat.reduceSub, reduceCtorEq, Int.reduceToNat, Int.reduceLT, Int.reduceLE, Int.reduceEq, Int.reduceNe, Int.reduceBEq, Nat.reduceBEq, Int.reduceBNe, Nat.reduceBNe, Int.reduceAdd, Int.reduceSub, Int.reduceMul, Int.reduceNeg]
    simp (dsimp := false) (maxSteps := 4000000) only [r13, w7, hrc', hrc0, hw3, enc_len, enc_scal, lput_enc, take_enc, go_sem, ↓reduceIte, Nat.reduceEqDiff, Nat.reduceLT, Nat.reduceLeDiff, Nat.reduceAdd, Nat.reduceMul, Nat.reduceSub, reduceCtorEq, Int.reduceToNat, Int.reduceLT, Int.reduceLE, Int.reduceEq, Int.reduceNe, Int.reduceBEq, Nat.reduceBEq, Int.reduceBNe, Nat.reduceBNe, Int.reduceAdd, Int.reduceSub, Int.reduceMul, Int.reduceNeg]
    refine AWp.gen [.pu, .pu, .pu, .rd, .pu, .rd, .pu, .pu, .ch] [0, 1, 3, 7, 0, 0, 63, 127, 255] 0 (_) mixed (by kernel_rfl) (AH.le_refl _) ?_
    simp (dsimp := false) (maxSteps := 4000000) only [r3, w12, hlt, hi0, hw4, enc_len, enc_scal, lput_enc, take_enc, go_sem, ↓reduceIte, Nat.reduceEqDiff, Nat.reduceLT, Nat.reduceLeDiff, Nat.reduceAdd, Nat.reduceMul, Nat.reduceSub, reduceCtorEq, Int.reduceToNat, Int.reduceLT, Int.reduceLE, Int.reduceEq, Int.reduceNe, Int.reduceBEq, Nat.reduceBEq, Int.reduceBNe, Nat.reduceBNe, Int.reduceAdd, Int.reduceSub, Int.reduceMul, Int.reduceNeg]
    have hK1 : Keep A2 B4 fun x => x = b12 ∨ x = bq ∨ x = bb := ((((k2T.trans kB).mono fun _ h => h.elim).trans (kB2.mono fun _ h => .inl h)).trans (kB3.mono fun _ h => .inr (.inl h))).trans (kB4.mono fun _ h => .inr (.inr h))
    have kHA : Keep H A fun _ => False := kT.trans kA
    have hKall : Keep H B4 (· = b) := ((kHA.mono fun _ h => h.elim).trans k2).then hK1 fun x hx => .inr (by
      rcases hx with rfl | rfl | rfl
      · exact kHA.fr (k2.fresh f12 n12)
      · exact kHA.fr (k2.fresh (k2T.fr hfq) m0)
      · exact kT.fr hfb)
    have hfr1 : Fresh H b12 := kHA.fr (k2.fresh f12 n12)
    have hfr2 : Fresh H bq := kHA.fr (k2.fresh (k2T.fr hfq) m0)
    have hfr3 : Fresh H bb := kT.fr hfb
    have a4b := kB4.find (Ne.symm q0) ab3
    have a4bb : B4.find bb = some (.cells ((Z.set i z').map encN).flatten 56 bs') := by rw [← hB4, find_set, if_pos rfl]
    have a4q : B4.find bq = some (.cells ((z.R.set rc v).map enc).flatten 32 bs3) := kB4.find mb (by rw [← hB3, find_set, if_pos rfl])
    have hN := ((hZT.keep kA fun _ _ h => h).keep k2 fun x hx e => hnb (e ▸ hx)).keep hK1 fun x hx e => by
      rcases e with rfl | rfl | rfl
      · exact hk _ hx hfr1
      · exact hk _ hx hfr2
      · exact hk _ hx hfr3
    refine ⟨B4, AH.le_refl _, Z.set i z', fun x => rd x ∨ x = bb ∨ x = bq, by rw [hok], ?_, ⟨some ⟨bb, 0, none⟩, cap', ?_, ⟨?_, fun x hx => ?_, ?_, fun x hx => ?_⟩, ?_, .inr ⟨bb, 0, rfl⟩, ?_⟩, hKall, ?_⟩
    · rw [setX, if_pos hok, hl, List.map_set]
      have := set_rp (X := Z.map RF.nf) (k := i) (x := z.nf) (f := (z.p, z.R.set rc v)) (by rw [List.getElem?_map, hz]; rfl) hX.kd
      rw [← hn, hz']
      exact this
    · rw [List.length_set]; exact a4b
    · exact SlcIn.of_find a4bb (rowsN _) (by rw [List.length_map, List.length_set]; exact hcl) (by rw [List.length_map, List.length_set]; omega)
    · rcases List.mem_or_eq_of_mem_set hx with hx | rfl
      · exact hN.inn x hx
      · rw [hz']
        refine SlcIn.of_find a4q (rows4 _) ?_ ?_
        · rw [List.length_map, List.length_set]; exact hcq
        · rw [List.length_map, List.length_set]; omega
    · exact .inr fun a ha => by cases ha; exact .inr (.inl rfl)
    · rcases List.mem_or_eq_of_mem_set hx with hx | rfl
      · exact (hN.r2 x hx).imp id fun h a ha => .inl (h a ha)
      · exact .inr fun a ha => by rw [hz'] at ha; cases ha; exact .inr (.inr rfl)
    · rintro (h | h | h)
      · exact hnb h
      · exact q0 h.symm
      · exact m0 h.symm
    · rintro x (h | h | h) hf
      · exact hk x h (hKall.fresh hf fun e => hnb (e ▸ h))
      · subst h; exact hf.ne_find a4bb rfl
      · subst h; exact hf.ne_find a4q rfl
    · rintro x (h | h | h)
      · exact .inl h
      · subst h; exact .inr hfr3
      · subst h; exact .inr hfr2
end Go.Proofs.YtmkbpdlijfjgkaaDoor.Ifs
