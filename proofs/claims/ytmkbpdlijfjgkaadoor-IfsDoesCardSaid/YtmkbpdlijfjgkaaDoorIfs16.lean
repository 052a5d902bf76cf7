/- the reference's store: Do. -/
import Derived.Test.YtmkbpdlijfjgkaaDoorIfs15
namespace Go.Proofs.YtmkbpdlijfjgkaaDoor.Ifs
set_option linter.unusedSimpArgs false
set_option linter.unusedVariables false
open Go Go.AX Go.Proofs Ty Go.Proofs.YtmkbpdlijfjgkaaDoor.File
set_option maxHeartbeats 4000000
set_option maxRecDepth 10000

theorem set_rp {X : List Nf} {k : Nat} {x : Nf} {f : Fl} (hk : X[k]? = some x) (hd : Kd X) : X.set k (x.1, f) = rp x.1 f X := by
  apply List.ext_getElem?
  intro j
  rw [List.getElem?_set]
  simp only [rp, List.getElem?_map]
  have hlt := Go.AX.lt_of_get hk
  by_cases e : k = j
  · subst e
    rw [if_pos rfl, if_pos hlt, hk]
    simp
  · rw [if_neg e]
    cases hj : X[j]? with
    | none => rfl
    | some y =>
      have : y.1 ≠ x.1 := fun he => by
        have h1 : (X.map (·.1))[j]? = some x.1 := by simp [hj, he]
        have h2 : (X.map (·.1))[k]? = some x.1 := by simp [hk]
        exact e ((List.getElem?_inj (by simpa using hlt) hd).1 (h2.trans h1.symm))
      simp [this]
theorem RefDo_c {H : AH} {b : Nat} {Z : List RF} {den : Int} {rd : Nat → Prop} (h : RefS H b Z den rd) (hX : OkX (Z.map RF.nf)) (op fl rec : Int) (v : Rc) :
    ACalls Tryd.prog 14 #[.pointer (some ⟨b, 0, none⟩), .agg #[.int .i64 op, .int .i64 fl, .int .i64 rec], .agg (enc v).toArray] H (fun u H' => ∃ Z' rd', u = doV (Z.map RF.nf) op fl rec v ∧ Z'.map RF.nf = doX (Z.map RF.nf) op fl rec v ∧ RefS H' b Z' (doD (Z.map RF.nf) op fl rec den) rd' ∧ Keep H H' (· = b) ∧ ∀ x, rd' x → rd x ∨ Fresh H x) := by
  have hat := fun H1 (h1 : RefAt H1 b Z den rd) => at_c h1 fl
  have hZl : Z.length ≤ 64 := by have := hX.len; simpa using this
  have bad : ∀ {e den' : Int} {H' T : AH}, doE (Z.map RF.nf) op fl rec = e → e ≠ 0 → doD (Z.map RF.nf) op fl rec den = den' → RefS H' b Z den' rd → Keep H H' (· = b) → H'.le T → ∃ H', H'.le T ∧ ∃ Z' rd', Value.tuple #[.agg (enc zr).toArray, .int .i64 e] = doV (Z.map RF.nf) op fl rec v ∧ Z'.map RF.nf = doX (Z.map RF.nf) op fl rec v ∧ RefS H' b Z' (doD (Z.map RF.nf) op fl rec den) rd' ∧ Keep H H' (· = b) ∧ ∀ x, rd' x → rd x ∨ Fresh H x := fun {e den' H' T} he h0 hd hS hK hl =>
    ⟨H', hl, Z, rd, by rw [doV, doW, he, if_neg h0], by rw [doX, he, if_neg h0], hd ▸ hS, hK, fun x h => .inl h⟩
  refine ACalls.enter2 Tryd.func14 rfl Tryd.ntmps14 Tryd.results14 (by simp) ?_; simp (dsimp := false) (maxSteps := 4000000) only [enc_len, enc_scal, lput_enc, take_enc, go_sem, ↓reduceIte, Nat.reduceEqDiff, Nat.reduceLT, Nat.reduceLeDiff, Nat.reduceAdd, Nat.reduceMul, Nat.reduceSub, reduceCtorEq, Int.reduceToNat, Int.reduceLT, Int.reduceLE, Int.reduceEq, Int.reduceNe, Int.reduceBEq, Nat.reduceBEq, Int.reduceBNe, Nat.reduceBNe, Int.reduceAdd, Int.reduceSub, Int.reduceMul, Int.reduceNeg]
  refine AllB.mk fun b4 h_b4 => ?_; have hn_b4 := h_b4; (try simp only [fresh_add, fresh_set, ne_eq] at hn_b4); have hr_b4 := hn_b4; (try simp only [@eq_comm Nat b4] at hr_b4); simp (dsimp := false) (maxSteps := 4000000) only [enc_len, enc_scal, lput_enc, take_enc, hn_b4, hr_b4, go_sem, ↓reduceIte, Nat.reduceEqDiff, Nat.reduceLT, Nat.reduceLeDiff, Nat.reduceAdd, Nat.reduceMul, Nat.reduceSub, reduceCtorEq, Int.reduceToNat, Int.reduceLT, Int.reduceLE, Int.reduceEq, Int.reduceNe, Int.reduceBEq, Nat.reduceBEq, Int.reduceBNe, Nat.reduceBNe, Int.reduceAdd, Int.reduceSub, Int.reduceMul, Int.reduceNeg]
  refine AllB.mk fun b5 h_b5 => ?_; have hn_b5 := h_b5; (try simp only [fresh_add, fresh_set, ne_eq] at hn_b5); have hr_b5 := hn_b5; (try simp only [@eq_comm Nat b5] at hr_b5); simp (dsimp := false) (maxSteps := 4000000) only [enc_len, enc_scal, lput_enc, take_enc, hn_b4, hr_b4, hn_b5, hr_b5, go_sem, ↓reduceIte, Nat.reduceEqDiff, Nat.reduceLT, Nat.reduceLeDiff, Nat.reduceAdd, Nat.reduceMul, Nat.reduceSub, reduceCtorEq, Int.reduceToNat, Int.reduceLT, Int.reduceLE, Int.reduceEq, Int.reduceNe, Int.reduceBEq, Nat.reduceBEq, Int.reduceBNe, Nat.reduceBNe, Int.reduceAdd, Int.reduceSub, Int.reduceMul, Int.reduceNeg]
  refine AllB.mk fun b6 h_b6 => ?_; have hn_b6 := h_b6; (try simp only [fresh_add, fresh_set, ne_eq] at hn_b6); have hr_b6 := hn_b6; (try simp only [@eq_comm Nat b6] at hr_b6); simp (dsimp := false) (maxSteps := 4000000) only [enc_len, enc_scal, lput_enc, take_enc, hn_b4, hr_b4, hn_b5, hr_b5, hn_b6, hr_b6, go_sem, ↓reduceIte, Nat.reduceEqDiff, Nat.reduceLT, Nat.reduceLeDiff, Nat.reduceAdd, Nat.reduceMul, Nat.reduceSub, reduceCtorEq, Int.reduceToNat, Int.reduceLT, Int.reduceLE, Int.reduceEq, Int.reduceNe, Int.reduceBEq, Nat.reduceBEq, Int.reduceBNe, Nat.reduceBNe, Int.reduceAdd, Int.reduceSub, Int.reduceMul, Int.reduceNeg]
  refine (Go.Proofs.YtmkbpdlijfjgkaaDoor.RefGood_c op fl rec _).mono ?_; rintro _ _ ⟨rfl, rfl⟩
  cases hg : agood op fl rec with
  | false =>
    simp (dsimp := false) (maxSteps := 4000000) only [enc_len, enc_scal, lput_enc, take_enc, hn_b4, hr_b4, hn_b5, hr_b5, hn_b6, hr_b6, go_sem, ↓reduceIte, Nat.reduceEqDiff, Nat.reduceLT, Nat.reduceLeDiff, Nat.reduceAdd, Nat.reduceMul, Nat.reduceSub, reduceCtorEq, Int.reduceToNat, Int.reduceLT, Int.reduceLE, Int.reduceEq, Int.reduceNe, Int.reduceBEq, Nat.reduceBEq, Int.reduceBNe, Nat.reduceBNe, Int.reduceAdd, Int.reduceSub, Int.reduceMul, Int.reduceNeg]
    exact bad (H' := H) (by simp [doE, hg]) (by decide) (by simp [doD, doE, hg]) h Keep.refl (AH.le_add (AH.le_add (AH.le_add (AH.le_refl _) ((by simp only [enc_len, enc_scal, lput_enc, take_enc, fresh_add, fresh_set, ne_eq, hn_b4, not_false_eq_true, and_self] : Fresh _ b4).2)) ((by simp only [enc_len, enc_scal, lput_enc, take_enc, fresh_add, fresh_set, ne_eq, hn_b5, not_false_eq_true, and_self] : Fresh _ b5).2)) ((by simp only [enc_len, enc_scal, lput_enc, take_enc, fresh_add, fresh_set, ne_eq, hn_b6, not_false_eq_true, and_self] : Fresh _ b6).2))
  | true =>
    
    simp (dsimp := false) (maxSteps := 4000000) only [enc_len, enc_scal, lput_enc, take_enc, hn_b4, hr_b4, hn_b5, hr_b5, hn_b6, hr_b6, go_sem, ↓reduceIte, Nat.reduceEqDiff, Nat.reduceLT, Nat.reduceLeDiff, Nat.reduceAdd, Nat.reduceMul, Nat.reduceSub, reduceCtorEq, Int.reduceToNat, Int.reduceLT, Int.reduceLE, Int.reduceEq, Int.reduceNe, Int.reduceBEq, Nat.reduceBEq, Int.reduceBNe, Nat.reduceBNe, Int.reduceAdd, Int.reduceSub, Int.reduceMul, Int.reduceNeg]
    refine (hat _ (h.at.keep (((Keep.refl.nw h_b4).nw h_b5).nw h_b6) (fun _ _ h => h) fun h => h)).mono ?_
    rintro _ _ ⟨r, rfl, ho, rfl⟩
    rcases ho with ⟨rfl, hl⟩ | ⟨i, z, rfl, hz, hn, hl⟩
    · simp (dsimp := false) (maxSteps := 4000000) only [enc_len, enc_scal, lput_enc, take_enc, hn_b4, hr_b4, hn_b5, hr_b5, hn_b6, hr_b6, go_sem, ↓reduceIte, Nat.reduceEqDiff, Nat.reduceLT, Nat.reduceLeDiff, Nat.reduceAdd, Nat.reduceMul, Nat.reduceSub, reduceCtorEq, Int.reduceToNat, Int.reduceLT, Int.reduceLE, Int.reduceEq, Int.reduceNe, Int.reduceBEq, Nat.reduceBEq, Int.reduceBNe, Nat.reduceBNe, Int.reduceAdd, Int.reduceSub, Int.reduceMul, Int.reduceNeg]
      exact bad (H' := H) (by simp [doE, hg, hl]) (by decide) (by simp [doD, doE, hg, hl]) h Keep.refl (AH.le_add (AH.le_add (AH.le_add (AH.le_refl _) ((by simp only [enc_len, enc_scal, lput_enc, take_enc, fresh_add, fresh_set, ne_eq, hn_b4, not_false_eq_true, and_self] : Fresh _ b4).2)) ((by simp only [enc_len, enc_scal, lput_enc, take_enc, fresh_add, fresh_set, ne_eq, hn_b5, not_false_eq_true, and_self] : Fresh _ b5).2)) ((by simp only [enc_len, enc_scal, lput_enc, take_enc, fresh_add, fresh_set, ne_eq, hn_b6, not_false_eq_true, and_self] : Fresh _ b6).2))
    obtain ⟨zb, zc, ht, hZ, hnb, hzb, hk⟩ := id h
    have hi0 : (0 : Int) ≤ (i : Int) := by omega
    have hi1 : ¬ (i : Int) < 0 := by omega
    have hilt := Go.AX.lt_of_get hz
    have hlt : (i : Int) < (Z.length : Int) := by omega
    have he : doE (Z.map RF.nf) op fl rec = mayF z.p z.R op rec := by simp [doE, hg, hl]
    obtain ⟨b_, o, rfl, hrow, hrd⟩ := hZ.out.get (Go.AX.map_get (f := encN) hz)
    have hx1 : H.row b_ (o + i * 3 + 1) 2 = some [.int .i64 z.p, .slice z.base z.R.length z.cap] := row_of_rd rfl (by decide) fun j c hj => by
      rw [Nat.add_assoc _ 1 j, Nat.add_comm 1 j]
      exact hrd (j + 1) c hj
    have r0 : H.rd ⟨b, 0, none⟩ = some (.slice (some ⟨b_, o, none⟩) Z.length zc) := by rw [rd_find ht]; rfl
    have r1 : H.rd ⟨b, 1, none⟩ = some (.int .i64 den) := by rw [rd_find ht]; rfl
    have n4 : ¬ b4 = b := h_b4.ne_find ht
    have n5 : ¬ b5 = b := hn_b5.2.ne_find ht
    have n6 : ¬ b6 = b := hn_b6.2.2.ne_find ht
    have m4 : ¬ b4 = b_ := h_b4.ne_row hx1
    have m5 : ¬ b5 = b_ := hn_b5.2.ne_row hx1
    have m6 : ¬ b6 = b_ := hn_b6.2.2.ne_row hx1
    have hin := hZ.inn z (List.mem_of_getElem? hz)
    have hrok := (hX.ok z.nf (List.mem_map_of_mem (List.mem_of_getElem? hz))).2.2
    simp (dsimp := false) (maxSteps := 4000000) only [hi1, enc_len, enc_scal, lput_enc, take_enc, hn_b4, hr_b4, hn_b5, hr_b5, hn_b6, hr_b6, go_sem, ↓reduceIte, Nat.reduceEqDiff, Nat.reduceLT, Nat.reduceLeDiff, Nat.reduceAdd, Nat.reduceMul, Nat.reduceSub, reduceCtorEq, Int.reduceToNat, Int.reduceLT, Int.reduceLE, Int.reduceEq, Int.reduceNe, Int.reduceBEq, Nat.reduceBEq, Int.reduceBNe, Nat.reduceBNe, Int.reduceAdd, Int.reduceSub, Int.reduceMul, Int.reduceNeg]
    refine AWp.genp [.pu, .pu, .pu, .rd, .pu, .pu, .pu, .rd, .pu, .rd, .pu, .rd, .rd, .ch, .pu, .pu, .pu, .pu, .al, .al, .ch, .ch, .pu] [0, 1, 3, 7, 0, 31, 63, 127, 0, 256, 0, 1024, 0, 8191, 16383, 32767, 32767, 32767, 0, 0, 851967, 1966079, 4194303] [0, 1, 2, 3, 4, 5, 6, 7, 8, 9, 10, 11, 12, 13, 14, 15, 16, 17, 18, 19, 20, 21, 22] 24 (_) mixed (by kernel_rfl) (AH.le_refl _) ?_; rw [nd_eq]; simp (dsimp := false) only [prm_nil, prm_eq, pm_some, List.getElem?_cons_zero, List.getElem?_cons_succ, ↓reduceIte, Nat.reduceEqDiff, Nat.reduceLT, Nat.reduceLeDiff, Nat.reduceAdd, Nat.reduceMul, Nat.reduceSub, reduceCtorEq, Int.reduceToNat, Int.reduceLT, Int.reduceLE, Int.reduceEq, Int.reduceNe, Int.reduceBEq, Nat.reduceBEq, Int.reduceBNe, Nat.reduceBNe, Int.reduceAdd, Int.reduceSub, Int.reduceMul, Int.reduceNeg]
    obtain ⟨_, _, _, _, hrec0, _⟩ := agood_in hg
    obtain ⟨rc, rfl⟩ : ∃ rc : Nat, rec = rc := ⟨rec.toNat, by omega⟩
    simp (dsimp := false) (maxSteps := 4000000) only [r0, hlt, hi0, hx1, n4, n5, n6, m4, m5, m6, enc_len, enc_scal, lput_enc, take_enc, hn_b4, hr_b4, hn_b5, hr_b5, hn_b6, hr_b6, go_sem, ↓reduceIte, Nat.reduceEqDiff, Nat.reduceLT, Nat.reduceLeDiff, Nat.reduceAdd, Nat.reduceMul, Nat.reduceSub, reduceCtorEq, Int.reduceToNat, Int.reduceLT, Int.reduceLE, Int.reduceEq, Int.reduceNe, Int.reduceBEq, Nat.reduceBEq, Int.reduceBNe, Nat.reduceBNe, Int.reduceAdd, Int.reduceSub, Int.reduceMul, Int.reduceNeg]
    by_cases hmay : mayF z.p z.R op rc = 0
    · have hc := fun H1 (h1 : SlcIn H1 4 z.base z.cap (z.R.map enc)) => RefDo_ok z.p op rc z.R v z.base z.cap H1 h1 hrok hmay
      unfold fv at hc
      
      refine (hc _ (((hin.add (by simp only [fresh_add, ne_eq, hn_b4, not_false_eq_true, and_self] : Fresh _ b4)).add (by simp only [fresh_add, ne_eq, hn_b5, not_false_eq_true, and_self] : Fresh _ b5)).add (by simp only [fresh_add, ne_eq, hn_b6, not_false_eq_true, and_self] : Fresh _ b6))).mono ?_; rintro _ _ ⟨b8, c8, bs, h_b8, rfl, hc8, hbs, rfl⟩
      have hn_b8 := h_b8; (try simp only [fresh_add, fresh_set, ne_eq] at hn_b8); have hr_b8 := hn_b8; (try simp only [@eq_comm Nat b8] at hr_b8)
      simp (dsimp := false) (maxSteps := 4000000) only [enc_len, enc_scal, lput_enc, take_enc, hn_b4, hr_b4, hn_b5, hr_b5, hn_b6, hr_b6, hn_b8, hr_b8, go_sem, ↓reduceIte, Nat.reduceEqDiff, Nat.reduceLT, Nat.reduceLeDiff, Nat.reduceAdd, Nat.reduceMul, Nat.reduceSub, reduceCtorEq, Int.reduceToNat, Int.reduceLT, Int.reduceLE, Int.reduceEq, Int.reduceNe, Int.reduceBEq, Nat.reduceBEq, Int.reduceBNe, Nat.reduceBNe, Int.reduceAdd, Int.reduceSub, Int.reduceMul, Int.reduceNeg]
      refine ⟨AH.le_add (AH.le_refl _) h_b8.2, ?_⟩
      refine AllB.mk fun b9 h_b9 => ?_; have hn_b9 := h_b9; (try simp only [fresh_add, fresh_set, ne_eq] at hn_b9); have hr_b9 := hn_b9; (try simp only [@eq_comm Nat b9] at hr_b9); simp (dsimp := false) (maxSteps := 4000000) only [enc_len, enc_scal, lput_enc, take_enc, hn_b4, hr_b4, hn_b5, hr_b5, hn_b6, hr_b6, hn_b8, hr_b8, hn_b9, hr_b9, go_sem, ↓reduceIte, Nat.reduceEqDiff, Nat.reduceLT, Nat.reduceLeDiff, Nat.reduceAdd, Nat.reduceMul, Nat.reduceSub, reduceCtorEq, Int.reduceToNat, Int.reduceLT, Int.reduceLE, Int.reduceEq, Int.reduceNe, Int.reduceBEq, Nat.reduceBEq, Int.reduceBNe, Nat.reduceBNe, Int.reduceAdd, Int.reduceSub, Int.reduceMul, Int.reduceNeg]
      refine AllB.mk fun b10 h_b10 => ?_; have hn_b10 := h_b10; (try simp only [fresh_add, fresh_set, ne_eq] at hn_b10); have hr_b10 := hn_b10; (try simp only [@eq_comm Nat b10] at hr_b10); simp (dsimp := false) (maxSteps := 4000000) only [enc_len, enc_scal, lput_enc, take_enc, hn_b4, hr_b4, hn_b5, hr_b5, hn_b6, hr_b6, hn_b8, hr_b8, hn_b9, hr_b9, hn_b10, hr_b10, go_sem, ↓reduceIte, Nat.reduceEqDiff, Nat.reduceLT, Nat.reduceLeDiff, Nat.reduceAdd, Nat.reduceMul, Nat.reduceSub, reduceCtorEq, Int.reduceToNat, Int.reduceLT, Int.reduceLE, Int.reduceEq, Int.reduceNe, Int.reduceBEq, Nat.reduceBEq, Int.reduceBNe, Nat.reduceBNe, Int.reduceAdd, Int.reduceSub, Int.reduceMul, Int.reduceNeg]
      (repeat (refine And.intro (by (repeat (first | exact AH.le_refl _ | refine AH.le_add ?_ ?_)); all_goals (first | exact AH.le_refl _ | (show AH.find _ _ = _; simp only [find_add_self, find_add_ne, find_fresh, fresh_add, fresh_set, ne_eq, not_false_eq_true, true_and, and_true, and_self, enc_len, enc_scal, lput_enc, take_enc, hn_b4, hr_b4, hn_b5, hr_b5, hn_b6, hr_b6, hn_b8, hr_b8, hn_b9, hr_b9, hn_b10, hr_b10]))) ?_; (try simp (dsimp := false) (maxSteps := 4000000) only [enc_len, enc_scal, lput_enc, take_enc, hn_b4, hr_b4, hn_b5, hr_b5, hn_b6, hr_b6, hn_b8, hr_b8, hn_b9, hr_b9, hn_b10, hr_b10, go_sem, ↓reduceIte, Nat.reduceEqDiff, Nat.reduceLT, Nat.reduceLeDiff, Nat.reduceAdd, Nat.reduceMul, Nat.reduceSub, reduceCtorEq, Int.reduceToNat, Int.reduceLT, Int.reduceLE, Int.reduceEq, Int.reduceNe, Int.reduceBEq, Nat.reduceBEq, Int.reduceBNe, Nat.reduceBNe, Int.reduceAdd, Int.reduceSub, Int.reduceMul, Int.reduceNeg])))
      have hd8 := hn_b8.2.2.2
      obtain ⟨w, hwv⟩ : ∃ w, (doR z.R op rc v).getD rc zr = w := ⟨_, rfl⟩
      obtain ⟨T, hT⟩ : ∃ T, ((((((H.add b4 (.cells [.int .i64 op, .int .i64 fl, .int .i64 rc] 30 3)).add b5 (.cells (enc v) 32 4)).add b6 (.cells [.int .u8 0, .int .u8 0, .int .u8 0, .int .u8 0] 32 4)).add b8 (.cells ((doR z.R op rc v).map enc).flatten 32 bs)).add b9 (.cells [.int .i64 z.p, .slice (some ⟨b8, 0, none⟩) z.R.length c8] 35 2)).add b10 (.cells (enc w) 32 4)) = T := ⟨_, rfl⟩
      have kT : Keep H T fun _ => False := hT ▸ (((((Keep.refl.nw h_b4).nw h_b5).nw h_b6).nw (by simp only [fresh_add, ne_eq, hn_b8, not_false_eq_true, and_self])).nw (by simp only [fresh_add, ne_eq, hn_b9, not_false_eq_true, and_self])).nw (by simp only [fresh_add, ne_eq, hn_b10, not_false_eq_true, and_self])
      have t6 : T.find b6 = some (.cells [.int .u8 0, .int .u8 0, .int .u8 0, .int .u8 0] 32 4) := by rw [← hT]; (show AH.find _ _ = _; simp only [find_add_self, find_add_ne, find_fresh, fresh_add, fresh_set, ne_eq, not_false_eq_true, true_and, and_true, and_self, enc_len, enc_scal, lput_enc, take_enc, hn_b4, hr_b4, hn_b5, hr_b5, hn_b6, hr_b6, hn_b8, hr_b8, hn_b9, hr_b9, hn_b10, hr_b10])
      have t8 : T.find b8 = some (.cells ((doR z.R op rc v).map enc).flatten 32 bs) := by rw [← hT]; (show AH.find _ _ = _; simp only [find_add_self, find_add_ne, find_fresh, fresh_add, fresh_set, ne_eq, not_false_eq_true, true_and, and_true, and_self, enc_len, enc_scal, lput_enc, take_enc, hn_b4, hr_b4, hn_b5, hr_b5, hn_b6, hr_b6, hn_b8, hr_b8, hn_b9, hr_b9, hn_b10, hr_b10])
      have t9 : T.find b9 = some (.cells [.int .i64 z.p, .slice (some ⟨b8, 0, none⟩) z.R.length c8] 35 2) := by rw [← hT]; (show AH.find _ _ = _; simp only [find_add_self, find_add_ne, find_fresh, fresh_add, fresh_set, ne_eq, not_false_eq_true, true_and, and_true, and_self, enc_len, enc_scal, lput_enc, take_enc, hn_b4, hr_b4, hn_b5, hr_b5, hn_b6, hr_b6, hn_b8, hr_b8, hn_b9, hr_b9, hn_b10, hr_b10])
      have t10 : T.find b10 = some (.cells (enc w) 32 4) := by rw [← hT]; (show AH.find _ _ = _; simp only [find_add_self, find_add_ne, find_fresh, fresh_add, fresh_set, ne_eq, not_false_eq_true, true_and, and_true, and_self, enc_len, enc_scal, lput_enc, take_enc, hn_b4, hr_b4, hn_b5, hr_b5, hn_b6, hr_b6, hn_b8, hr_b8, hn_b9, hr_b9, hn_b10, hr_b10])
      have tb := kT.find (fun h => h) ht
      have hZT := hZ.keep kT fun _ _ h => h
      have p6 : ¬ b6 = b := n6
      have p8 : ¬ b8 = b := hd8.ne_find ht
      have p9 : ¬ b9 = b := hn_b9.2.2.2.2.ne_find ht
      have p10 : ¬ b10 = b := hn_b10.2.2.2.2.2.ne_find ht
      have hf6 : Fresh H b6 := hn_b6.2.2
      have p68 : b6 ≠ b8 := fun e => hn_b8.1 e.symm
      rw [hwv, hT]
      clear hT h_b4 h_b5 h_b6 h_b8 h_b9 h_b10 hn_b4 hn_b5 hn_b6 hn_b8 hn_b9 hn_b10 hr_b4 hr_b5 hr_b6 hr_b8 hr_b9 hr_b10 m4 m5 m6 n4 n5 n6
      
      refine AllB.mk fun bl h_bl => ?_
      have kl : Keep T (T.add bl (.cells [] 56 0)) fun _ => False := Keep.add h_bl
      have rT : (T.add bl (.cells [] 56 0)).rd ⟨b, 0, none⟩ = some (.slice (some ⟨b_, o, none⟩) Z.length zc) := by rw [rd_find (kl.find (fun h => h) tb)]; rfl
      simp (dsimp := false) (maxSteps := 4000000) only [rT, enc_len, enc_scal, lput_enc, take_enc, go_sem, ↓reduceIte, Nat.reduceEqDiff, Nat.reduceLT, Nat.reduceLeDiff, Nat.reduceAdd, Nat.reduceMul, Nat.reduceSub, reduceCtorEq, Int.reduceToNat, Int.reduceLT, Int.reduceLE, Int.reduceEq, Int.reduceNe, Int.reduceBEq, Nat.reduceBEq, Int.reduceBNe, Nat.reduceBNe, Int.reduceAdd, Int.reduceSub, Int.reduceMul, Int.reduceNeg]
      refine APD.growS (H0 := T) (m := Z.length) (R := []) (R' := Z.map encN) (OwnS.new h_bl (AH.le_refl _) rfl rfl rfl (by simp) (by simp)) kl.all se_26 rfl (by decide) (by decide) (by rw [Tryd.underlying26]; rfl) rfl (by simp) (hZT.keep kl fun _ _ h => h).out (rowsN Z) (scalN Z) (by omega) fun base' cap' A hO' hK' hN' => ?_
      refine ⟨A, AH.le_refl _, ?_⟩
      rw [List.nil_append] at hO'
      rw [Nat.zero_add]
      have kA : Keep T A fun _ => False := kl.ow hK' fun b ⟨a, ha, e⟩ => by cases ha; exact e ▸ h_bl
      obtain ⟨bb, bs', rfl, hbb, hbs', hfb⟩ : ∃ bb bs', base' = some ⟨bb, 0, none⟩ ∧ A.find bb = some (.cells (Z.map encN).flatten 56 bs') ∧ cap' * 3 ≤ bs' ∧ Fresh T bb := by
        rcases hO'.at_ with ⟨_, h, _⟩ | ⟨b', bs, h, hfd, h2, h3⟩
        · rw [List.map_eq_nil_iff] at h; subst h; simp at hilt
        · exact ⟨b', bs, h, hfd, h2, h3⟩
      have hcl : Z.length ≤ cap' := by have := hO'.le; simpa using this
      have ab := kA.find (fun h => h) tb
      have q0 : bb ≠ b := hfb.ne_find tb
      have q6 : bb ≠ b6 := hfb.ne_find t6
      have q8 : bb ≠ b8 := hfb.ne_find t8
      have q9 : bb ≠ b9 := hfb.ne_find t9
      have q10 : bb ≠ b10 := hfb.ne_find t10
      obtain ⟨A2, hA2⟩ : ∃ A2, A.set b (.cells [.slice (some ⟨bb, 0, none⟩) Z.length cap', .int .i64 den] 28 2) = A2 := ⟨_, rfl⟩
      have k2 : Keep A A2 (· = b) := hA2 ▸ Keep.set
      have hw1 : A.wrs b 0 [.slice (some ⟨bb, 0, none⟩) Z.length cap'] = some A2 := by rw [← hA2]; simp [AH.wrs, ab, lput, scal]
      have ab2 : A2.find b = some (.cells [.slice (some ⟨bb, 0, none⟩) Z.length cap', .int .i64 den] 28 2) := by rw [← hA2, find_set, if_pos rfl]
      have hbb2 := k2.find q0 hbb
      obtain ⟨z', hz'⟩ : ∃ z' : RF, z' = ⟨z.n, z.p, some ⟨b8, 0, none⟩, c8, doR z.R op rc v⟩ := ⟨_, rfl⟩
      have hdl : z'.R.length = z.R.length := by rw [hz']; exact doR_len ..
      obtain ⟨A3, hA3⟩ : ∃ A3, A2.set bb (.cells ((Z.set i z').map encN).flatten 56 bs') = A3 := ⟨_, rfl⟩
      have k3 : Keep A2 A3 (· = bb) := hA3 ▸ Keep.set
      have hfl : (Z.map encN).flatten.length = Z.length * 3 := by rw [flat_len (rowsN Z), List.length_map]
      have hput : lput (Z.map encN).flatten (i * 3 + 1) [.int .i64 z.p, .slice (some ⟨b8, 0, none⟩) z.R.length c8] = ((Z.set i z').map encN).flatten := by
        rw [List.map_set, ← flat_lput (rowsN Z) i (encN z') (by simpa using hilt) rfl]
        have e0 : (Z.map encN).flatten[i * 3 + 0]? = some (.int .i64 z.n) := flat_get (rowsN Z) i 0 (encN z) _ (Go.AX.map_get hz) rfl
        rw [Nat.add_zero] at e0
        have e1 : (Z.map encN).flatten.set (i * 3) (.int .i64 z.n) = (Z.map encN).flatten := by
          apply List.ext_getElem?
          intro j
          rw [List.getElem?_set]
          by_cases e : i * 3 = j
          · subst e; rw [if_pos rfl, if_pos (Go.AX.lt_of_get e0)]; exact e0.symm
          · rw [if_neg e]
        have e2 : encN z' = [.int .i64 z.n, .int .i64 z.p, .slice (some ⟨b8, 0, none⟩) z.R.length c8] := by
          rw [encN, hdl, hz']
        rw [e2, show lput (Z.map encN).flatten (i * 3) [.int .i64 z.n, .int .i64 z.p, .slice (some ⟨b8, 0, none⟩) z.R.length c8] = lput ((Z.map encN).flatten.set (i * 3) (.int .i64 z.n)) (i * 3 + 1) [.int .i64 z.p, .slice (some ⟨b8, 0, none⟩) z.R.length c8] from rfl, e1]
      have hw2 : A2.wrs bb (i * 3 + 1) [.int .i64 z.p, .slice (some ⟨b8, 0, none⟩) z.R.length c8] = some A3 := by
        unfold AH.wrs
        rw [hbb2]
        simp only
        rw [if_pos ⟨by rw [hfl]; simp only [List.length_cons, List.length_nil]; omega, by rw [hfl]; omega, rfl⟩, hput, hA3]
      obtain ⟨A4, hA4⟩ : ∃ A4, A3.set b6 (.cells (enc w) 32 4) = A4 := ⟨_, rfl⟩
      have k4 : Keep A3 A4 (· = b6) := hA4 ▸ Keep.set
      have g6 := k3.find (Ne.symm q6) (k2.find p6 (kA.find (fun h => h) t6))
      have g10 := k3.find (Ne.symm q10) (k2.find p10 (kA.find (fun h => h) t10))
      have hw3 : A3.wrs b6 0 (enc w) = some A4 := by rw [← hA4]; simp [AH.wrs, g6, enc, lput, scal]
      have r2 : A2.rd ⟨b, 0, none⟩ = some (.slice (some ⟨bb, 0, none⟩) Z.length cap') := by rw [rd_find ab2]; rfl
      have w9 : A2.row b9 0 2 = some [.int .i64 z.p, .slice (some ⟨b8, 0, none⟩) z.R.length c8] := row_find (k2.find p9 (kA.find (fun h => h) t9)) (by simp)
      have w10 : A3.row b10 0 4 = some (enc w) := row_find g10 (by simp [enc])
      have g6' : A4.find b6 = some (.cells (enc w) 32 4) := by rw [← hA4, find_set, if_pos rfl]
      have w6 : A4.row b6 0 4 = some (enc w) := row_find g6' (by simp [enc])
      simp (dsimp := false) (maxSteps := 4000000) only [hw1, enc_len, enc_scal, lput_enc, take_enc, go_sem, ↓reduceIte, Nat.reduceEqDiff, Nat.reduceLT, Nat.reduceLeDiff, Nat.reduceAdd, Nat.reduceMul, Nat.reduceSub, reduceCtorEq, Int.reduceToNat, Int.reduceLT, Int.reduceLE, Int.reduceEq, Int.reduceNe, Int.reduceBEq, Nat.reduceBEq, Int.reduceBNe, Nat.reduceBNe, Int.reduceAdd, Int.reduceSub, Int.reduceMul, Int.reduceNeg]
      refine AWp.gen [.pu, .pu, .pu, .rd, .pu, .rd, .pu, .pu, .ch] [0, 1, 3, 7, 0, 0, 63, 127, 255] 0 (_) mixed (by kernel_rfl) (AH.le_refl _) ?_
      simp (dsimp := false) (maxSteps := 4000000) only [r2, w9, hlt, hi0, hw2, w10, hw3, w6, enc_len, enc_scal, lput_enc, take_enc, go_sem, ↓reduceIte, Nat.reduceEqDiff, Nat.reduceLT, Nat.reduceLeDiff, Nat.reduceAdd, Nat.reduceMul, Nat.reduceSub, reduceCtorEq, Int.reduceToNat, Int.reduceLT, Int.reduceLE, Int.reduceEq, Int.reduceNe, Int.reduceBEq, Nat.reduceBEq, Int.reduceBNe, Nat.reduceBNe, Int.reduceAdd, Int.reduceSub, Int.reduceMul, Int.reduceNeg]
      have hKall : Keep H A4 (· = b) := ((((kT.trans kA).mono fun _ h => h.elim).trans k2).then k3 fun x e => .inr (e ▸ kT.fr hfb)).then k4 fun x e => .inr (e ▸ hf6)
      have h256 : z.R.length ≤ 256 := (goodF_len (hX.ok z.nf (List.mem_map_of_mem (List.mem_of_getElem? hz))).2.1).2
      have a4b : A4.find b = some (.cells [.slice (some ⟨bb, 0, none⟩) Z.length cap', .int .i64 den] 28 2) := k4.find (Ne.symm p6) (k3.find (Ne.symm q0) ab2)
      have a4bb : A4.find bb = some (.cells ((Z.set i z').map encN).flatten 56 bs') := k4.find q6 (by rw [← hA3, find_set, if_pos rfl])
      have a4b8 : A4.find b8 = some (.cells ((doR z.R op rc v).map enc).flatten 32 bs) := k4.find (Ne.symm p68) (k3.find (Ne.symm q8) (k2.find p8 (kA.find (fun h => h) t8)))
      have hN := (((hZT.keep kA fun _ _ h => h).keep k2 fun x hx e => hnb (e ▸ hx)).keep k3 fun x hx e => hk x hx (e ▸ kT.fr hfb)).keep k4 fun x hx e => hk x hx (e ▸ hf6)
      have h0 : doE (Z.map RF.nf) op fl rc = 0 := he.trans hmay
      refine ⟨A4, AH.le_refl _, Z.set i z', fun x => rd x ∨ x = bb ∨ x = b8, ?_, ?_, ⟨some ⟨bb, 0, none⟩, cap', ?_, ⟨?_, fun x hx => ?_, ?_, fun x hx => ?_⟩, ?_, .inr ⟨bb, 0, rfl⟩, ?_⟩, hKall, ?_⟩
      · rw [doV, doW, if_pos h0, hl, h0, ← hwv]; rfl
      · rw [doX, if_pos h0, hl, List.map_set]
        have := set_rp (X := Z.map RF.nf) (k := i) (x := z.nf) (f := doF (z.p, z.R) op rc v) (by rw [List.getElem?_map, hz]; rfl) hX.kd
        rw [← hn]
        rw [hz']
        exact this
      · rw [List.length_set, doD, if_neg (by rw [h0]; decide)]; exact a4b
      · exact SlcIn.of_find a4bb (rowsN _) (by rw [List.length_map, List.length_set]; exact hcl) (by rw [List.length_map, List.length_set]; omega)
      · rcases List.mem_or_eq_of_mem_set hx with hx | rfl
        · exact hN.inn x hx
        · rw [hz']
          refine SlcIn.of_find a4b8 (rows4 _) ?_ ?_
          · rw [List.length_map, doR_len]; exact hc8
          · rw [List.length_map, doR_len]; omega
      · exact .inr fun a ha => by cases ha; exact .inr (.inl rfl)
      · rcases List.mem_or_eq_of_mem_set hx with hx | rfl
        · exact (hN.r2 x hx).imp id fun h a ha => .inl (h a ha)
        · exact .inr fun a ha => by rw [hz'] at ha; cases ha; exact .inr (.inr rfl)
      · rintro (h | h | h)
        · exact hnb h
        · exact q0 h.symm
        · exact p8 h.symm
      · rintro x (h | h | h) hf
        · exact hk x h (hKall.fresh hf fun e => hnb (e ▸ h))
        · subst h; exact hf.ne_find a4bb rfl
        · subst h; exact hf.ne_find a4b8 rfl
      · rintro x (h | h | h)
        · exact .inl h
        · subst h; exact .inr (kT.fr hfb)
        · subst h; exact .inr hd8
      
    · have hc := fun H1 (h1 : SlcIn H1 4 z.base z.cap (z.R.map enc)) => RefDo_bad z.p op rc z.R v z.base z.cap H1 h1 hmay
      unfold fv at hc
      
      refine (hc _ (((hin.add (by simp only [fresh_add, ne_eq, hn_b4, not_false_eq_true, and_self] : Fresh _ b4)).add (by simp only [fresh_add, ne_eq, hn_b5, not_false_eq_true, and_self] : Fresh _ b5)).add (by simp only [fresh_add, ne_eq, hn_b6, not_false_eq_true, and_self] : Fresh _ b6))).mono ?_; rintro _ _ ⟨rfl, rfl⟩
      simp (dsimp := false) (maxSteps := 4000000) only [dbad, enc_len, enc_scal, lput_enc, take_enc, hn_b4, hr_b4, hn_b5, hr_b5, hn_b6, hr_b6, go_sem, ↓reduceIte, Nat.reduceEqDiff, Nat.reduceLT, Nat.reduceLeDiff, Nat.reduceAdd, Nat.reduceMul, Nat.reduceSub, reduceCtorEq, Int.reduceToNat, Int.reduceLT, Int.reduceLE, Int.reduceEq, Int.reduceNe, Int.reduceBEq, Nat.reduceBEq, Int.reduceBNe, Nat.reduceBNe, Int.reduceAdd, Int.reduceSub, Int.reduceMul, Int.reduceNeg]
      refine AllB.mk fun b9 h_b9 => ?_; have hn_b9 := h_b9; (try simp only [fresh_add, fresh_set, ne_eq] at hn_b9); have hr_b9 := hn_b9; (try simp only [@eq_comm Nat b9] at hr_b9); simp (dsimp := false) (maxSteps := 4000000) only [enc_len, enc_scal, lput_enc, take_enc, hn_b4, hr_b4, hn_b5, hr_b5, hn_b6, hr_b6, hn_b9, hr_b9, go_sem, ↓reduceIte, Nat.reduceEqDiff, Nat.reduceLT, Nat.reduceLeDiff, Nat.reduceAdd, Nat.reduceMul, Nat.reduceSub, reduceCtorEq, Int.reduceToNat, Int.reduceLT, Int.reduceLE, Int.reduceEq, Int.reduceNe, Int.reduceBEq, Nat.reduceBEq, Int.reduceBNe, Nat.reduceBNe, Int.reduceAdd, Int.reduceSub, Int.reduceMul, Int.reduceNeg]
      refine AllB.mk fun b10 h_b10 => ?_; have hn_b10 := h_b10; (try simp only [fresh_add, fresh_set, ne_eq] at hn_b10); have hr_b10 := hn_b10; (try simp only [@eq_comm Nat b10] at hr_b10); simp (dsimp := false) (maxSteps := 4000000) only [enc_len, enc_scal, lput_enc, take_enc, hn_b4, hr_b4, hn_b5, hr_b5, hn_b6, hr_b6, hn_b9, hr_b9, hn_b10, hr_b10, go_sem, ↓reduceIte, Nat.reduceEqDiff, Nat.reduceLT, Nat.reduceLeDiff, Nat.reduceAdd, Nat.reduceMul, Nat.reduceSub, reduceCtorEq, Int.reduceToNat, Int.reduceLT, Int.reduceLE, Int.reduceEq, Int.reduceNe, Int.reduceBEq, Nat.reduceBEq, Int.reduceBNe, Nat.reduceBNe, Int.reduceAdd, Int.reduceSub, Int.reduceMul, Int.reduceNeg]
      have n9 : ¬ b9 = b := hn_b9.2.2.2.ne_find ht
      have n10 : ¬ b10 = b := hn_b10.2.2.2.2.ne_find ht
      by_cases e5 : mayF z.p z.R op rc = 5
      · have hw : H.wrs b 1 [.int .i64 (IntKind.i64.wrap (den + 1))] = some (H.set b (.cells [.slice (some ⟨b_, o, none⟩) Z.length zc, .int .i64 (IntKind.i64.wrap (den + 1))] 28 2)) := by
          simp [AH.wrs, ht, lput, scal]
        have hset : Keep H (H.set b (.cells [.slice (some ⟨b_, o, none⟩) Z.length zc, .int .i64 (IntKind.i64.wrap (den + 1))] 28 2)) (· = b) := Keep.set
        have hdr : ∀ x, rd x → ¬ x = b := fun x hx e => hnb (e ▸ hx)
        (repeat (refine And.intro (by (repeat (first | exact AH.le_refl _ | refine AH.le_add ?_ ?_)); all_goals (first | exact AH.le_refl _ | (show AH.find _ _ = _; simp only [find_add_self, find_add_ne, find_fresh, fresh_add, fresh_set, ne_eq, not_false_eq_true, true_and, and_true, and_self, enc_len, enc_scal, lput_enc, take_enc, hn_b4, hr_b4, hn_b5, hr_b5, hn_b6, hr_b6, hn_b9, hr_b9, hn_b10, hr_b10]))) ?_; (try simp (dsimp := false) (maxSteps := 4000000) only [hmay, e5, r1, n4, n5, n6, n9, n10, hw, enc_len, enc_scal, lput_enc, take_enc, hn_b4, hr_b4, hn_b5, hr_b5, hn_b6, hr_b6, hn_b9, hr_b9, hn_b10, hr_b10, go_sem, ↓reduceIte, Nat.reduceEqDiff, Nat.reduceLT, Nat.reduceLeDiff, Nat.reduceAdd, Nat.reduceMul, Nat.reduceSub, reduceCtorEq, Int.reduceToNat, Int.reduceLT, Int.reduceLE, Int.reduceEq, Int.reduceNe, Int.reduceBEq, Nat.reduceBEq, Int.reduceBNe, Nat.reduceBNe, Int.reduceAdd, Int.reduceSub, Int.reduceMul, Int.reduceNeg])))
        
        exact bad (e := 5) (den' := IntKind.i64.wrap (den + 1)) (H' := H.set b (.cells [.slice (some ⟨b_, o, none⟩) Z.length zc, .int .i64 (IntKind.i64.wrap (den + 1))] 28 2)) (he.trans e5) (by decide) (by rw [doD, if_pos (he.trans e5)]) ⟨some ⟨b_, o, none⟩, zc, by rw [find_set, if_pos rfl], hZ.keep hset hdr, hnb, .inr ⟨b_, o, rfl⟩, hk.keep hset hdr⟩ hset (by (repeat (first | exact AH.le_refl _ | refine AH.le_add ?_ ?_)); all_goals (first | exact AH.le_refl _ | (show AH.find _ _ = _; simp only [find_add_self, find_add_ne, find_fresh, fresh_add, fresh_set, ne_eq, not_false_eq_true, true_and, and_true, and_self, enc_len, n4, n5, n6, n9, n10, hn_b4, hr_b4, hn_b5, hr_b5, hn_b6, hr_b6, hn_b9, hr_b9, hn_b10, hr_b10])))
        
      · (repeat (refine And.intro (by (repeat (first | exact AH.le_refl _ | refine AH.le_add ?_ ?_)); all_goals (first | exact AH.le_refl _ | (show AH.find _ _ = _; simp only [find_add_self, find_add_ne, find_fresh, fresh_add, fresh_set, ne_eq, not_false_eq_true, true_and, and_true, and_self, enc_len, enc_scal, lput_enc, take_enc, hn_b4, hr_b4, hn_b5, hr_b5, hn_b6, hr_b6, hn_b9, hr_b9, hn_b10, hr_b10]))) ?_; (try simp (dsimp := false) (maxSteps := 4000000) only [hmay, e5, enc_len, enc_scal, lput_enc, take_enc, hn_b4, hr_b4, hn_b5, hr_b5, hn_b6, hr_b6, hn_b9, hr_b9, hn_b10, hr_b10, go_sem, ↓reduceIte, Nat.reduceEqDiff, Nat.reduceLT, Nat.reduceLeDiff, Nat.reduceAdd, Nat.reduceMul, Nat.reduceSub, reduceCtorEq, Int.reduceToNat, Int.reduceLT, Int.reduceLE, Int.reduceEq, Int.reduceNe, Int.reduceBEq, Nat.reduceBEq, Int.reduceBNe, Nat.reduceBNe, Int.reduceAdd, Int.reduceSub, Int.reduceMul, Int.reduceNeg])))
        exact bad (H' := H) he hmay (by rw [doD, he, if_neg e5]) h Keep.refl (AH.le_add (AH.le_add (AH.le_add (AH.le_add (AH.le_add (AH.le_refl _) ((by simp only [enc_len, enc_scal, lput_enc, take_enc, fresh_add, fresh_set, ne_eq, hn_b4, not_false_eq_true, and_self] : Fresh _ b4).2)) ((by simp only [enc_len, enc_scal, lput_enc, take_enc, fresh_add, fresh_set, ne_eq, hn_b5, not_false_eq_true, and_self] : Fresh _ b5).2)) ((by simp only [enc_len, enc_scal, lput_enc, take_enc, fresh_add, fresh_set, ne_eq, hn_b6, not_false_eq_true, and_self] : Fresh _ b6).2)) ((by simp only [enc_len, enc_scal, lput_enc, take_enc, fresh_add, fresh_set, ne_eq, hn_b9, not_false_eq_true, and_self] : Fresh _ b9).2)) ((by simp only [enc_len, enc_scal, lput_enc, take_enc, fresh_add, fresh_set, ne_eq, hn_b10, not_false_eq_true, and_self] : Fresh _ b10).2))
      
    
end Go.Proofs.YtmkbpdlijfjgkaaDoor.Ifs
