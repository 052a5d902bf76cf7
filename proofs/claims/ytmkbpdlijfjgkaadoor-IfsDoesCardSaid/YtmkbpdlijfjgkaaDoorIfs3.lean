/- ifs: own, Set. -/
import Derived.Test.YtmkbpdlijfjgkaaDoorIfs2
namespace Go.Proofs.YtmkbpdlijfjgkaaDoor.Ifs
set_option linter.unusedSimpArgs false
set_option linter.unusedVariables false
open Go Go.AX Go.Proofs Ty Go.Proofs.YtmkbpdlijfjgkaaDoor.File Go.Proofs.YtmkbpdlijfjgkaaDoor.Err
set_option maxHeartbeats 4000000
set_option maxRecDepth 10000

theorem Keep.set {H : AH} {b : Nat} {k : ABlk} : Keep H (H.set b k) (· = b) := ⟨rfl, fun b' hb _ => by rw [find_set, if_neg hb]⟩
theorem own_c (p : Int) (R : List Rc) (base : Option Addr) (cap : Nat) (H : AH) (hs : SlcIn H 4 base cap (R.map enc)) (h0 : R.length ≠ 0) (hR : R.length ≤ 4096) :
    ACalls Tryd.prog 27 #[fv p base R.length cap] H (fun v H' => ∃ b bs, Fresh H b ∧ v = fv p (some ⟨b, 0, none⟩) R.length R.length ∧ R.length * 4 ≤ bs ∧ H' = H.add b (.cells (R.map enc).flatten 32 bs)) := by
  unfold fv
  refine ACalls.enter2 Tryd.func27 rfl Tryd.ntmps27 Tryd.results27 (by simp) ?_; simp (dsimp := false) (maxSteps := 4000000) only [go_sem, ↓reduceIte, Nat.reduceEqDiff, Nat.reduceLT, Nat.reduceLeDiff, Nat.reduceAdd, Nat.reduceMul, Nat.reduceSub, reduceCtorEq, Int.reduceToNat, Int.reduceLT, Int.reduceLE, Int.reduceEq, Int.reduceNe, Int.reduceBEq, Nat.reduceBEq, Int.reduceBNe, Nat.reduceBNe, Int.reduceAdd, Int.reduceSub, Int.reduceMul, Int.reduceNeg]
  refine AllB.mk fun b1 h_b1 => ?_; have hn_b1 := h_b1; (try simp only [fresh_add, fresh_set, ne_eq] at hn_b1); have hr_b1 := hn_b1; (try simp only [@eq_comm Nat b1] at hr_b1); simp (dsimp := false) (maxSteps := 4000000) only [hn_b1, hr_b1, go_sem, ↓reduceIte, Nat.reduceEqDiff, Nat.reduceLT, Nat.reduceLeDiff, Nat.reduceAdd, Nat.reduceMul, Nat.reduceSub, reduceCtorEq, Int.reduceToNat, Int.reduceLT, Int.reduceLE, Int.reduceEq, Int.reduceNe, Int.reduceBEq, Nat.reduceBEq, Int.reduceBNe, Nat.reduceBNe, Int.reduceAdd, Int.reduceSub, Int.reduceMul, Int.reduceNeg]
  refine AllB.mk fun b2 h_b2 => ?_; have hn_b2 := h_b2; (try simp only [fresh_add, fresh_set, ne_eq] at hn_b2); have hr_b2 := hn_b2; (try simp only [@eq_comm Nat b2] at hr_b2); simp (dsimp := false) (maxSteps := 4000000) only [hn_b1, hr_b1, hn_b2, hr_b2, go_sem, ↓reduceIte, Nat.reduceEqDiff, Nat.reduceLT, Nat.reduceLeDiff, Nat.reduceAdd, Nat.reduceMul, Nat.reduceSub, reduceCtorEq, Int.reduceToNat, Int.reduceLT, Int.reduceLE, Int.reduceEq, Int.reduceNe, Int.reduceBEq, Nat.reduceBEq, Int.reduceBNe, Nat.reduceBNe, Int.reduceAdd, Int.reduceSub, Int.reduceMul, Int.reduceNeg]
  refine (Clone_at R base cap _ ((hs.add (by simp only [fresh_add, ne_eq, hn_b1, not_false_eq_true, and_self] : Fresh _ b1)).add (by simp only [fresh_add, ne_eq, hn_b2, not_false_eq_true, and_self] : Fresh _ b2)) hR h0).mono ?_; rintro _ _ ⟨b3, c, bs, h_b3, rfl, hc, hbs, rfl⟩
  have hn_b3 := h_b3; (try simp only [fresh_add, fresh_set, ne_eq] at hn_b3); have hr_b3 := hn_b3; (try simp only [@eq_comm Nat b3] at hr_b3)
  simp (dsimp := false) (maxSteps := 4000000) only [hn_b1, hr_b1, hn_b2, hr_b2, hn_b3, hr_b3, go_sem, ↓reduceIte, Nat.reduceEqDiff, Nat.reduceLT, Nat.reduceLeDiff, Nat.reduceAdd, Nat.reduceMul, Nat.reduceSub, reduceCtorEq, Int.reduceToNat, Int.reduceLT, Int.reduceLE, Int.reduceEq, Int.reduceNe, Int.reduceBEq, Nat.reduceBEq, Int.reduceBNe, Nat.reduceBNe, Int.reduceAdd, Int.reduceSub, Int.reduceMul, Int.reduceNeg]
  refine (Clip_c _ _ _ _ hc).mono ?_; rintro _ _ ⟨rfl, rfl⟩
  simp (dsimp := false) (maxSteps := 4000000) only [hn_b1, hr_b1, hn_b2, hr_b2, hn_b3, hr_b3, go_sem, ↓reduceIte, Nat.reduceEqDiff, Nat.reduceLT, Nat.reduceLeDiff, Nat.reduceAdd, Nat.reduceMul, Nat.reduceSub, reduceCtorEq, Int.reduceToNat, Int.reduceLT, Int.reduceLE, Int.reduceEq, Int.reduceNe, Int.reduceBEq, Nat.reduceBEq, Int.reduceBNe, Nat.reduceBNe, Int.reduceAdd, Int.reduceSub, Int.reduceMul, Int.reduceNeg]
  exact ⟨H.add b3 (.cells (R.map enc).flatten 32 bs), (by refine AH.le_cons ?_ ?_; (show AH.find _ _ = _; simp only [find_add_self, find_add_ne, find_fresh, fresh_add, fresh_set, ne_eq, not_false_eq_true, true_and, and_true, and_self, hn_b1, hr_b1, hn_b2, hr_b2, hn_b3, hr_b3]); (repeat (first | exact AH.le_refl _ | refine AH.le_add ?_ ?_)); all_goals (first | exact AH.le_refl _ | (show AH.find _ _ = _; simp only [find_add_self, find_add_ne, find_fresh, fresh_add, fresh_set, ne_eq, not_false_eq_true, true_and, and_true, and_self, hn_b1, hr_b1, hn_b2, hr_b2, hn_b3, hr_b3]))), b3, bs, hn_b3.2.2, rfl, hbs, rfl⟩
theorem setMs {ms : List MF} {k : Nat} {m m' : MF} (hk : ms[k]? = some m) (hn : m'.n = m.n) (hd : Kd (ms.map MF.nf)) : (ms.set k m').map MF.nf = rp m.n (m'.p, m'.R) (ms.map MF.nf) := by
  apply List.ext_getElem?
  intro j
  rw [List.getElem?_map, List.getElem?_set]
  simp only [rp, List.getElem?_map, List.map_map]
  have hlt := Go.AX.lt_of_get hk
  by_cases e : k = j
  · subst e
    rw [if_pos rfl, if_pos hlt, hk]
    simp [MF.nf, hn]
  · rw [if_neg e]
    cases hj : ms[j]? with
    | none => rfl
    | some x =>
      have : x.n ≠ m.n := fun he => by
        have h1 : ((ms.map MF.nf).map (·.1))[j]? = some m.n := by simp [hj, MF.nf, he]
        have h2 : ((ms.map MF.nf).map (·.1))[k]? = some m.n := by simp [hk, MF.nf]
        exact e ((List.getElem?_inj (by simpa using hlt) hd).1 (h2.trans h1.symm))
      simp [MF.nf, this]
theorem map_set_same {α β : Type} {f : α → β} {l : List α} {k : Nat} {a a' : α} (hk : l[k]? = some a) (h : f a' = f a) : (l.set k a').map f = l.map f := by
  apply List.ext_getElem?
  intro j
  rw [List.getElem?_map, List.getElem?_set, List.getElem?_map]
  by_cases e : k = j
  · subst e
    rw [if_pos rfl, if_pos (Go.AX.lt_of_get hk), hk]
    simp [h]
  · rw [if_neg e]
theorem blk_ne {ms : List MF} (hd : (ms.map (·.blk)).Nodup) {k j : Nat} {m x : MF} (hk : ms[k]? = some m) (hj : ms[j]? = some x) (e : k ≠ j) : x.blk ≠ m.blk := fun he => by
  have h1 : (ms.map (·.blk))[j]? = some m.blk := by simp [hj, he]
  have h2 : (ms.map (·.blk))[k]? = some m.blk := by simp [hk]
  exact e ((List.getElem?_inj (by simpa using Go.AX.lt_of_get hk) hd).1 (h2.trans h1.symm))
theorem StIn.set1 {H : AH} {b bm k : Nat} {ms : List MF} {den : Int} {m : MF} {R' : List Rc} (h : StIn H b bm ms den) (hk : ms[k]? = some m) (hl : R'.length = m.R.length) :
    StIn (H.set m.blk (.cells (R'.map enc).flatten 32 m.bs)) b bm (ms.set k { m with R := R' }) den := by
  have hmem := List.mem_of_getElem? hk
  refine ⟨?_, ?_, fun x hx => ?_, ?_, ?_⟩
  · rw [find_set, if_neg (fun e => h.ne2 hmem e.symm)]; exact h.top
  · rw [find_set, if_neg (fun e => h.ne3 hmem e.symm), map_set_same hk (by simp [MF.ent, MF.val, hl])]; exact h.map
  · obtain ⟨j, hj⟩ := List.mem_iff_getElem?.1 hx
    rw [List.getElem?_set] at hj
    by_cases e : k = j
    · rw [if_pos e] at hj
      split at hj
      · cases hj
        refine ⟨by rw [find_set, if_pos rfl], ?_⟩
        have := (h.rows m hmem).2
        dsimp only; omega
      · cases hj
    · rw [if_neg e] at hj
      have := h.rows x (List.mem_of_getElem? hj)
      exact ⟨by rw [find_set, if_neg (blk_ne h.nd hk hj e)]; exact this.1, this.2⟩
  · exact (congrArg List.Nodup (map_set_same (f := MF.blk) (a' := { m with R := R' }) hk rfl)).mpr h.nd
  · rw [setMs (m' := { m with R := R' }) hk rfl h.kd]; exact rp_kd h.kd
theorem StIn.ft1 {b bm k : Nat} {ms : List MF} {m m' : MF} (hk : ms[k]? = some m) (hb : m'.blk = m.blk) {x : Nat} (hx : ftOf b bm (ms.set k m') x) : ftOf b bm ms x := by
  rcases hx with hx | hx | ⟨y, hy, rfl⟩
  · exact .inl hx
  · exact .inr (.inl hx)
  · rcases List.mem_or_eq_of_mem_set hy with hy | rfl
    · exact .inr (.inr ⟨y, hy, rfl⟩)
    · exact .inr (.inr ⟨m, List.mem_of_getElem? hk, hb⟩)
theorem StIn.ft2 {b bm k : Nat} {ms : List MF} {m m' : MF} (hk : ms[k]? = some m) (hb : m'.blk = m.blk) {x : Nat} (hx : ftOf b bm ms x) : ftOf b bm (ms.set k m') x := by
  rcases hx with hx | hx | ⟨y, hy, rfl⟩
  · exact .inl hx
  · exact .inr (.inl hx)
  · obtain ⟨j, hj⟩ := List.mem_iff_getElem?.1 hy
    by_cases e : k = j
    · subst e
      rw [hk] at hj; cases hj
      exact .inr (.inr ⟨m', List.mem_iff_getElem?.2 ⟨k, by rw [List.getElem?_set_self (Go.AX.lt_of_get hk)]⟩, hb.symm⟩)
    · exact .inr (.inr ⟨y, List.mem_iff_getElem?.2 ⟨j, by rw [List.getElem?_set_ne e]; exact hj⟩, rfl⟩)
theorem Set_c {H : AH} {b : Nat} {X : List Nf} {den : Int} {ft : Nat → Prop} (h : StAt H b X den ft) (hX : OkX X) (n rec : Int) (v : Rc) :
    ACalls Tryd.prog 11 #[.pointer (some ⟨b, 0, none⟩), .int .i64 n, .int .i64 rec, .agg (enc v).toArray] H (fun u H' => u = .bool (setOk X n rec) ∧ StAt H' b (setX X n rec v) den ft ∧ Keep H H' ft) := by
  have hget := fun H1 (h1 : StAt H1 b X den ft) => Get_c h1 hX n rec
  refine ACalls.enter2 Tryd.func11 rfl Tryd.ntmps11 Tryd.results11 (by simp) ?_; simp (dsimp := false) (maxSteps := 4000000) only [enc_len, enc_scal, lput_enc, take_enc, go_sem, ↓reduceIte, Nat.reduceEqDiff, Nat.reduceLT, Nat.reduceLeDiff, Nat.reduceAdd, Nat.reduceMul, Nat.reduceSub, reduceCtorEq, Int.reduceToNat, Int.reduceLT, Int.reduceLE, Int.reduceEq, Int.reduceNe, Int.reduceBEq, Nat.reduceBEq, Int.reduceBNe, Nat.reduceBNe, Int.reduceAdd, Int.reduceSub, Int.reduceMul, Int.reduceNeg]
  refine AllB.mk fun b7 h_b7 => ?_; have hn_b7 := h_b7; (try simp only [fresh_add, fresh_set, ne_eq] at hn_b7); have hr_b7 := hn_b7; (try simp only [@eq_comm Nat b7] at hr_b7); simp (dsimp := false) (maxSteps := 4000000) only [enc_len, enc_scal, lput_enc, take_enc, hn_b7, hr_b7, go_sem, ↓reduceIte, Nat.reduceEqDiff, Nat.reduceLT, Nat.reduceLeDiff, Nat.reduceAdd, Nat.reduceMul, Nat.reduceSub, reduceCtorEq, Int.reduceToNat, Int.reduceLT, Int.reduceLE, Int.reduceEq, Int.reduceNe, Int.reduceBEq, Nat.reduceBEq, Int.reduceBNe, Nat.reduceBNe, Int.reduceAdd, Int.reduceSub, Int.reduceMul, Int.reduceNeg]
  have k1 : StAt (H.add b7 (.cells (enc v) 32 4)) b X den ft := h.keep (Keep.add h_b7) (ex := fun _ => False) fun _ _ h => h
  refine (hget _ k1).mono ?_
  rintro _ _ ⟨rfl, rfl⟩
  cases hg : getW X n rec with
  | none =>
    have ho : setOk X n rec = false := by simp [setOk, hg]
    have hx : setX X n rec v = X := by simp [setX, ho]
    rw [ho, hx]
    
    simp only [getV]
    simp (dsimp := false) (maxSteps := 4000000) only [enc_len, enc_scal, lput_enc, take_enc, hn_b7, hr_b7, go_sem, ↓reduceIte, Nat.reduceEqDiff, Nat.reduceLT, Nat.reduceLeDiff, Nat.reduceAdd, Nat.reduceMul, Nat.reduceSub, reduceCtorEq, Int.reduceToNat, Int.reduceLT, Int.reduceLE, Int.reduceEq, Int.reduceNe, Int.reduceBEq, Nat.reduceBEq, Int.reduceBNe, Nat.reduceBNe, Int.reduceAdd, Int.reduceSub, Int.reduceMul, Int.reduceNeg]
    refine AllB.mk fun b9 h_b9 => ?_; have hn_b9 := h_b9; (try simp only [fresh_add, fresh_set, ne_eq] at hn_b9); have hr_b9 := hn_b9; (try simp only [@eq_comm Nat b9] at hr_b9); simp (dsimp := false) (maxSteps := 4000000) only [enc_len, enc_scal, lput_enc, take_enc, hn_b7, hr_b7, hn_b9, hr_b9, go_sem, ↓reduceIte, Nat.reduceEqDiff, Nat.reduceLT, Nat.reduceLeDiff, Nat.reduceAdd, Nat.reduceMul, Nat.reduceSub, reduceCtorEq, Int.reduceToNat, Int.reduceLT, Int.reduceLE, Int.reduceEq, Int.reduceNe, Int.reduceBEq, Nat.reduceBEq, Int.reduceBNe, Nat.reduceBNe, Int.reduceAdd, Int.reduceSub, Int.reduceMul, Int.reduceNeg]
    exact ⟨H, (AH.le_add (AH.le_add (AH.le_refl _) ((by simp only [enc_len, enc_scal, lput_enc, take_enc, fresh_add, fresh_set, ne_eq, hn_b7, not_false_eq_true, and_self] : Fresh _ b7).2)) ((by simp only [enc_len, enc_scal, lput_enc, take_enc, fresh_add, fresh_set, ne_eq, hn_b9, not_false_eq_true, and_self] : Fresh _ b9).2)), h, Keep.refl⟩
    
  | some r =>
    by_cases h0 : rec = 0
    · subst h0
      have ho : setOk X n 0 = false := by simp [setOk]
      have hx : setX X n 0 v = X := by simp [setX, ho]
      rw [ho, hx]
      
      simp only [getV]
      simp (dsimp := false) (maxSteps := 4000000) only [enc_len, enc_scal, lput_enc, take_enc, hn_b7, hr_b7, go_sem, ↓reduceIte, Nat.reduceEqDiff, Nat.reduceLT, Nat.reduceLeDiff, Nat.reduceAdd, Nat.reduceMul, Nat.reduceSub, reduceCtorEq, Int.reduceToNat, Int.reduceLT, Int.reduceLE, Int.reduceEq, Int.reduceNe, Int.reduceBEq, Nat.reduceBEq, Int.reduceBNe, Nat.reduceBNe, Int.reduceAdd, Int.reduceSub, Int.reduceMul, Int.reduceNeg]
      refine AllB.mk fun b9 h_b9 => ?_; have hn_b9 := h_b9; (try simp only [fresh_add, fresh_set, ne_eq] at hn_b9); have hr_b9 := hn_b9; (try simp only [@eq_comm Nat b9] at hr_b9); simp (dsimp := false) (maxSteps := 4000000) only [enc_len, enc_scal, lput_enc, take_enc, hn_b7, hr_b7, hn_b9, hr_b9, go_sem, ↓reduceIte, Nat.reduceEqDiff, Nat.reduceLT, Nat.reduceLeDiff, Nat.reduceAdd, Nat.reduceMul, Nat.reduceSub, reduceCtorEq, Int.reduceToNat, Int.reduceLT, Int.reduceLE, Int.reduceEq, Int.reduceNe, Int.reduceBEq, Nat.reduceBEq, Int.reduceBNe, Nat.reduceBNe, Int.reduceAdd, Int.reduceSub, Int.reduceMul, Int.reduceNeg]
      exact ⟨H, (AH.le_add (AH.le_add (AH.le_refl _) ((by simp only [enc_len, enc_scal, lput_enc, take_enc, fresh_add, fresh_set, ne_eq, hn_b7, not_false_eq_true, and_self] : Fresh _ b7).2)) ((by simp only [enc_len, enc_scal, lput_enc, take_enc, fresh_add, fresh_set, ne_eq, hn_b9, not_false_eq_true, and_self] : Fresh _ b9).2)), h, Keep.refl⟩
      
    have ho : setOk X n rec = true := by simp [setOk, hg, h0]
    obtain ⟨bm, ms, h1, rfl, hft⟩ := h
    obtain ⟨f, hf⟩ : ∃ f, lk n (ms.map MF.nf) = some f := by
      cases hl : lk n (ms.map MF.nf) with
      | none => rw [getW, hl] at hg; cases hg
      | some f => exact ⟨f, rfl⟩
    have hx : setX (ms.map MF.nf) n rec v = rp n (f.1, f.2.set rec.toNat v) (ms.map MF.nf) := by simp [setX, ho, hf]
    rw [getW_eq hf] at hg
    have hr0 : ¬ rec < 0 := fun h => by rw [if_pos h] at hg; cases hg
    rw [if_neg hr0] at hg
    obtain ⟨i, rfl⟩ : ∃ i : Nat, rec = i := ⟨rec.toNat, by omega⟩
    have hi := Go.AX.lt_of_get hg
    simp only [Int.toNat_natCast] at hi
    rcases h1.at_ n with ⟨hm, hl⟩ | ⟨k, m, hm, hk, hn, hl⟩
    · rw [hl] at hf; cases hf
    rw [hl] at hf; cases hf
    dsimp only at hi hg hx
    have hmem := List.mem_of_getElem? hk
    have r0 : H.rd ⟨b, 0, none⟩ = some (.map (some bm)) := by rw [rd_find h1.top]; rfl
    have hmp : H.mp bm = some (ms.map MF.ent) := by rw [AH.mp, h1.map]
    obtain ⟨hrow, hbs⟩ := h1.rows m hmem
    have hw : H.wrs m.blk (i * 4) (enc v) = some (H.set m.blk (.cells ((m.R.set i v).map enc).flatten 32 m.bs)) := by
      have hl4 := flat4 m.R
      unfold AH.wrs
      rw [hrow]
      simp only
      rw [if_pos ⟨by rw [enc_len, hl4]; omega, by rw [hl4]; exact hbs, enc_scal v⟩, flat_lput (rows4 m.R) i (enc v) (by simpa using hi) (enc_len v), List.map_set]
    have n1 : ¬ b7 = b := h_b7.ne_find h1.top
    have n2 : ¬ b7 = bm := h_b7.ne_find h1.map
    have n3 : ¬ b7 = m.blk := h_b7.ne_find hrow
    have hlt : (i : Int) < (m.R.length : Int) := by omega
    have hi0 : (0 : Int) ≤ (i : Int) := by omega
    rw [ho, hx]
    unfold MF.val fv at hm
    
    simp only [getV]
    simp (dsimp := false) (maxSteps := 4000000) only [enc_len, enc_scal, lput_enc, take_enc, hn_b7, hr_b7, go_sem, ↓reduceIte, Nat.reduceEqDiff, Nat.reduceLT, Nat.reduceLeDiff, Nat.reduceAdd, Nat.reduceMul, Nat.reduceSub, reduceCtorEq, Int.reduceToNat, Int.reduceLT, Int.reduceLE, Int.reduceEq, Int.reduceNe, Int.reduceBEq, Nat.reduceBEq, Int.reduceBNe, Nat.reduceBNe, Int.reduceAdd, Int.reduceSub, Int.reduceMul, Int.reduceNeg]
    refine AllB.mk fun b9 h_b9 => ?_; have hn_b9 := h_b9; (try simp only [fresh_add, fresh_set, ne_eq] at hn_b9); have hr_b9 := hn_b9; (try simp only [@eq_comm Nat b9] at hr_b9); simp (dsimp := false) (maxSteps := 4000000) only [enc_len, enc_scal, lput_enc, take_enc, hn_b7, hr_b7, hn_b9, hr_b9, go_sem, ↓reduceIte, Nat.reduceEqDiff, Nat.reduceLT, Nat.reduceLeDiff, Nat.reduceAdd, Nat.reduceMul, Nat.reduceSub, reduceCtorEq, Int.reduceToNat, Int.reduceLT, Int.reduceLE, Int.reduceEq, Int.reduceNe, Int.reduceBEq, Nat.reduceBEq, Int.reduceBNe, Nat.reduceBNe, Int.reduceAdd, Int.reduceSub, Int.reduceMul, Int.reduceNeg]
    have n4 : ¬ b9 = b := hn_b9.2.ne_find h1.top
    have n5 : ¬ b9 = bm := hn_b9.2.ne_find h1.map
    have n6 : ¬ b9 = m.blk := hn_b9.2.ne_find hrow
    simp (dsimp := false) (maxSteps := 4000000) only [h0, enc_len, enc_scal, lput_enc, take_enc, hn_b7, hr_b7, hn_b9, hr_b9, go_sem, ↓reduceIte, Nat.reduceEqDiff, Nat.reduceLT, Nat.reduceLeDiff, Nat.reduceAdd, Nat.reduceMul, Nat.reduceSub, reduceCtorEq, Int.reduceToNat, Int.reduceLT, Int.reduceLE, Int.reduceEq, Int.reduceNe, Int.reduceBEq, Nat.reduceBEq, Int.reduceBNe, Nat.reduceBNe, Int.reduceAdd, Int.reduceSub, Int.reduceMul, Int.reduceNeg]
    refine AWp.gen [.pu, .pu, .pu, .rd, .pu, .ch, .pu, .pu, .rd, .pu, .ch] [0, 1, 3, 7, 0, 31, 63, 0, 0, 511, 1023] 6 (_) mixed (by kernel_rfl) (AH.le_refl _) ?_
    simp (dsimp := false) (maxSteps := 4000000) only [r0, n1, n2, n3, n4, n5, n6, hmp, hm, hlt, hi0, hw, enc_len, enc_scal, lput_enc, take_enc, hn_b7, hr_b7, hn_b9, hr_b9, go_sem, ↓reduceIte, Nat.reduceEqDiff, Nat.reduceLT, Nat.reduceLeDiff, Nat.reduceAdd, Nat.reduceMul, Nat.reduceSub, reduceCtorEq, Int.reduceToNat, Int.reduceLT, Int.reduceLE, Int.reduceEq, Int.reduceNe, Int.reduceBEq, Nat.reduceBEq, Int.reduceBNe, Nat.reduceBNe, Int.reduceAdd, Int.reduceSub, Int.reduceMul, Int.reduceNeg]
    refine ⟨_, AH.le_add (AH.le_add (AH.le_refl _) (by rw [find_set, if_neg n3]; exact h_b7.2)) (by rw [find_add, if_neg hn_b9.1, find_set, if_neg n6]; exact hn_b9.2.2), ⟨bm, _, h1.set1 hk (by simp), ?_, fun x => (hft x).trans ⟨StIn.ft2 (m' := { m with R := m.R.set i v }) hk rfl, StIn.ft1 (m' := { m with R := m.R.set i v }) hk rfl⟩⟩, Keep.set.mono fun x hx => (hft x).2 (.inr (.inr ⟨m, hmem, hx⟩))⟩
    rw [setMs (m' := { m with R := m.R.set i v }) hk rfl h1.kd, hn]
    
end Go.Proofs.YtmkbpdlijfjgkaaDoor.Ifs
