/- ifs: Do. -/
import Derived.Test.YtmkbpdlijfjgkaaDoorIfs5
namespace Go.Proofs.YtmkbpdlijfjgkaaDoor.Ifs
set_option linter.unusedSimpArgs false
set_option linter.unusedVariables false
open Go Go.AX Go.Proofs Ty Go.Proofs.YtmkbpdlijfjgkaaDoor.File Go.Proofs.YtmkbpdlijfjgkaaDoor.Err
set_option maxHeartbeats 4000000
set_option maxRecDepth 10000

theorem _root_.Go.AX.Keep.of_find {A T : AH} {ex : Nat → Prop} (h0 : T.w0 = A.w0) (h : ∀ x, ¬ ex x → T.find x = A.find x) : Keep A T ex := ⟨h0, fun x hx _ => h x hx⟩
theorem _root_.Go.AX.Keep.rd {A T : AH} (h : Keep A T fun _ => False) {a : Addr} {v : Value} (hr : A.rd a = some v) : T.rd a = some v := by
  unfold AH.rd at hr ⊢
  have hk : (A.find a.block).isSome ∨ a.block < A.w0.heap.size := by
    cases hf : A.find a.block with
    | some k => exact .inl rfl
    | none =>
      rw [hf] at hr
      simp only at hr
      split at hr
      · rename_i h; exact .inr h
      · cases hr
  rw [h.at_ _ (fun h => h) hk, h.w0]; exact hr
theorem ErrV.keep {A T : AH} {v : Value} {e : Int} (h : ErrV A v e) (hk : Keep A T fun _ => False) : ErrV T v e := by
  rcases h with h | h | ⟨b, o, h, hr⟩
  · exact .inl h
  · exact .inr (.inl h)
  · exact .inr (.inr ⟨b, o, h, hk.rd hr⟩)
theorem ErrV.over {S : AH} {b bm t : Nat} {den den' e : Int} {v : Value} (h : ErrV (S.add b (.cells [.map (some bm), .int .i64 den] t 2)) v e) : ErrV (S.add b (.cells [.map (some bm), .int .i64 den'] t 2)) v e := by
  rcases h with h | h | ⟨c, o, h, hr⟩
  · exact .inl h
  · exact .inr (.inl h)
  · refine .inr (.inr ⟨c, o, h, ?_⟩)
    by_cases e : c = b
    · subst e
      rw [rd_add_self] at hr
      match o, hr with
      | 0, hr => cases hr
      | o + 1, hr => cases hr
    · rw [rd_add_ne _ (fun h => e h.symm)] at hr ⊢
      exact hr
theorem StAt.den {A T : AH} {b bm c : Nat} {X : List Nf} {den den' : Int} {ft : Nat → Prop} (h : StAt A b X den ft) (hb : A.find b = some (.cells [.map (some bm), .int .i64 den] 66 2)) (hc : ¬ ft c)
    (h0 : T.find b = some (.cells [.map (some bm), .int .i64 den'] 66 2)) (hT : ∀ x, x ≠ b → x ≠ c → T.find x = A.find x) : StAt T b X den' ft := by
  obtain ⟨bm', ms, h1, h2, h3⟩ := h
  have e := h1.top
  rw [hb] at e
  obtain rfl : bm = bm' := by simpa using e
  have hne : ∀ x, ftOf b bm ms x → x ≠ c := fun x hx e => hc (e ▸ (h3 x).2 hx)
  refine ⟨bm, ms, ⟨h0, ?_, fun m hm => ?_, h1.nd, h1.kd⟩, h2, h3⟩
  · rw [hT bm (fun e => h1.ne1 e.symm) (hne _ (.inr (.inl rfl)))]; exact h1.map
  · have := h1.rows m hm
    exact ⟨by rw [hT _ (h1.ne2 hm) (hne _ (.inr (.inr ⟨m, hm, rfl⟩)))]; exact this.1, this.2⟩
def doV (X : List Nf) (op fl rec : Int) (v : Rc) : Value := .tuple #[.agg (enc (doW X op fl rec v)).toArray, .int .i64 (doE X op fl rec)]
theorem Do_nil (op fl rec : Int) (v : Rc) (H : AH) : ACalls Tryd.prog 13 #[.pointer none, .agg #[.int .i64 op, .int .i64 fl, .int .i64 rec], .agg (enc v).toArray] H (fun u H' => u = .tuple #[.agg (enc zr).toArray, .int .i64 1] ∧ H = H') := by
  refine ACalls.enter2 Tryd.func13 rfl Tryd.ntmps13 Tryd.results13 (by simp) ?_; simp (dsimp := false) (maxSteps := 4000000) only [enc_len, enc_scal, lput_enc, take_enc, go_sem, ↓reduceIte, Nat.reduceEqDiff, Nat.reduceLT, Nat.reduceLeDiff, Nat.reduceAdd, Nat.reduceMul, Nat.reduceSub, reduceCtorEq, Int.reduceToNat, Int.reduceLT, Int.reduceLE, Int.reduceEq, Int.reduceNe, Int.reduceBEq, Nat.reduceBEq, Int.reduceBNe, Nat.reduceBNe, Int.reduceAdd, Int.reduceSub, Int.reduceMul, Int.reduceNeg]
  refine AllB.mk fun b4 h_b4 => ?_; have hn_b4 := h_b4; (try simp only [fresh_add, fresh_set, ne_eq] at hn_b4); have hr_b4 := hn_b4; (try simp only [@eq_comm Nat b4] at hr_b4); simp (dsimp := false) (maxSteps := 4000000) only [enc_len, enc_scal, lput_enc, take_enc, hn_b4, hr_b4, go_sem, ↓reduceIte, Nat.reduceEqDiff, Nat.reduceLT, Nat.reduceLeDiff, Nat.reduceAdd, Nat.reduceMul, Nat.reduceSub, reduceCtorEq, Int.reduceToNat, Int.reduceLT, Int.reduceLE, Int.reduceEq, Int.reduceNe, Int.reduceBEq, Nat.reduceBEq, Int.reduceBNe, Nat.reduceBNe, Int.reduceAdd, Int.reduceSub, Int.reduceMul, Int.reduceNeg]
  refine AllB.mk fun b5 h_b5 => ?_; have hn_b5 := h_b5; (try simp only [fresh_add, fresh_set, ne_eq] at hn_b5); have hr_b5 := hn_b5; (try simp only [@eq_comm Nat b5] at hr_b5); simp (dsimp := false) (maxSteps := 4000000) only [enc_len, enc_scal, lput_enc, take_enc, hn_b4, hr_b4, hn_b5, hr_b5, go_sem, ↓reduceIte, Nat.reduceEqDiff, Nat.reduceLT, Nat.reduceLeDiff, Nat.reduceAdd, Nat.reduceMul, Nat.reduceSub, reduceCtorEq, Int.reduceToNat, Int.reduceLT, Int.reduceLE, Int.reduceEq, Int.reduceNe, Int.reduceBEq, Nat.reduceBEq, Int.reduceBNe, Nat.reduceBNe, Int.reduceAdd, Int.reduceSub, Int.reduceMul, Int.reduceNeg]
  refine AllB.mk fun b6 h_b6 => ?_; have hn_b6 := h_b6; (try simp only [fresh_add, fresh_set, ne_eq] at hn_b6); have hr_b6 := hn_b6; (try simp only [@eq_comm Nat b6] at hr_b6); simp (dsimp := false) (maxSteps := 4000000) only [enc_len, enc_scal, lput_enc, take_enc, hn_b4, hr_b4, hn_b5, hr_b5, hn_b6, hr_b6, go_sem, ↓reduceIte, Nat.reduceEqDiff, Nat.reduceLT, Nat.reduceLeDiff, Nat.reduceAdd, Nat.reduceMul, Nat.reduceSub, reduceCtorEq, Int.reduceToNat, Int.reduceLT, Int.reduceLE, Int.reduceEq, Int.reduceNe, Int.reduceBEq, Nat.reduceBEq, Int.reduceBNe, Nat.reduceBNe, Int.reduceAdd, Int.reduceSub, Int.reduceMul, Int.reduceNeg]
  exact ⟨H, (AH.le_add (AH.le_add (AH.le_add (AH.le_refl _) ((by simp only [enc_len, enc_scal, lput_enc, take_enc, fresh_add, fresh_set, ne_eq, hn_b4, not_false_eq_true, and_self] : Fresh _ b4).2)) ((by simp only [enc_len, enc_scal, lput_enc, take_enc, fresh_add, fresh_set, ne_eq, hn_b5, not_false_eq_true, and_self] : Fresh _ b5).2)) ((by simp only [enc_len, enc_scal, lput_enc, take_enc, fresh_add, fresh_set, ne_eq, hn_b6, not_false_eq_true, and_self] : Fresh _ b6).2)), (by first | exact ⟨rfl, rfl⟩ | rfl)⟩
theorem Do_c {H : AH} {b : Nat} {X : List Nf} {den : Int} {ft : Nat → Prop} (hE : ErrT H.w0) (h : StAt H b X den ft) (hX : OkX X) (op fl rec : Int) (v : Rc) :
    ACalls Tryd.prog 13 #[.pointer (some ⟨b, 0, none⟩), .agg #[.int .i64 op, .int .i64 fl, .int .i64 rec], .agg (enc v).toArray] H
      (fun u H' => ∃ ft', u = doV X op fl rec v ∧ StAt H' b (doX X op fl rec v) (doD X op fl rec den) ft' ∧ Keep H H' ft ∧ ∀ x, ft' x → ft x ∨ Fresh H x) := by
  have hd := fun H1 (h1 : StAt H1 b X den ft) => do_c h1 hX op fl rec v
  refine ACalls.enter2 Tryd.func13 rfl Tryd.ntmps13 Tryd.results13 (by simp) ?_; simp (dsimp := false) (maxSteps := 4000000) only [enc_len, enc_scal, lput_enc, take_enc, go_sem, ↓reduceIte, Nat.reduceEqDiff, Nat.reduceLT, Nat.reduceLeDiff, Nat.reduceAdd, Nat.reduceMul, Nat.reduceSub, reduceCtorEq, Int.reduceToNat, Int.reduceLT, Int.reduceLE, Int.reduceEq, Int.reduceNe, Int.reduceBEq, Nat.reduceBEq, Int.reduceBNe, Nat.reduceBNe, Int.reduceAdd, Int.reduceSub, Int.reduceMul, Int.reduceNeg]
  refine AllB.mk fun b4 h_b4 => ?_; have hn_b4 := h_b4; (try simp only [fresh_add, fresh_set, ne_eq] at hn_b4); have hr_b4 := hn_b4; (try simp only [@eq_comm Nat b4] at hr_b4); simp (dsimp := false) (maxSteps := 4000000) only [enc_len, enc_scal, lput_enc, take_enc, hn_b4, hr_b4, go_sem, ↓reduceIte, Nat.reduceEqDiff, Nat.reduceLT, Nat.reduceLeDiff, Nat.reduceAdd, Nat.reduceMul, Nat.reduceSub, reduceCtorEq, Int.reduceToNat, Int.reduceLT, Int.reduceLE, Int.reduceEq, Int.reduceNe, Int.reduceBEq, Nat.reduceBEq, Int.reduceBNe, Nat.reduceBNe, Int.reduceAdd, Int.reduceSub, Int.reduceMul, Int.reduceNeg]
  refine AllB.mk fun b5 h_b5 => ?_; have hn_b5 := h_b5; (try simp only [fresh_add, fresh_set, ne_eq] at hn_b5); have hr_b5 := hn_b5; (try simp only [@eq_comm Nat b5] at hr_b5); simp (dsimp := false) (maxSteps := 4000000) only [enc_len, enc_scal, lput_enc, take_enc, hn_b4, hr_b4, hn_b5, hr_b5, go_sem, ↓reduceIte, Nat.reduceEqDiff, Nat.reduceLT, Nat.reduceLeDiff, Nat.reduceAdd, Nat.reduceMul, Nat.reduceSub, reduceCtorEq, Int.reduceToNat, Int.reduceLT, Int.reduceLE, Int.reduceEq, Int.reduceNe, Int.reduceBEq, Nat.reduceBEq, Int.reduceBNe, Nat.reduceBNe, Int.reduceAdd, Int.reduceSub, Int.reduceMul, Int.reduceNeg]
  refine AllB.mk fun b6 h_b6 => ?_; have hn_b6 := h_b6; (try simp only [fresh_add, fresh_set, ne_eq] at hn_b6); have hr_b6 := hn_b6; (try simp only [@eq_comm Nat b6] at hr_b6); simp (dsimp := false) (maxSteps := 4000000) only [enc_len, enc_scal, lput_enc, take_enc, hn_b4, hr_b4, hn_b5, hr_b5, hn_b6, hr_b6, go_sem, ↓reduceIte, Nat.reduceEqDiff, Nat.reduceLT, Nat.reduceLeDiff, Nat.reduceAdd, Nat.reduceMul, Nat.reduceSub, reduceCtorEq, Int.reduceToNat, Int.reduceLT, Int.reduceLE, Int.reduceEq, Int.reduceNe, Int.reduceBEq, Nat.reduceBEq, Int.reduceBNe, Nat.reduceBNe, Int.reduceAdd, Int.reduceSub, Int.reduceMul, Int.reduceNeg]
  have hK0 : Keep H (((H.add b4 (.cells [.int .i64 op, .int .i64 fl, .int .i64 rec] 30 3)).add b5 (.cells (enc v) 32 4)).add b6 (.cells [.int .u8 0, .int .u8 0, .int .u8 0, .int .u8 0] 32 4)) fun _ => False := ((Keep.refl.nw h_b4).nw h_b5).nw h_b6
  refine (hd _ (h.keep hK0 fun _ _ h => h)).monoW ?_
  rintro _ A ⟨ev, ft', rfl, hev, hst, hK, hft'⟩
  obtain ⟨bm, ht⟩ := hst.find
  have hnft : ∀ {x}, Fresh H x → ¬ ft x := fun hf => h.fresh hf
  have h6 := hK.find (hnft hn_b6.2.2) (find_add_self _ _ _)
  have n6 : b6 ≠ b := fun e => by rw [e, ht] at h6; simp at h6
  have f6 : ¬ ft' b6 := fun hx => by
    rcases hft' _ hx with hx | hx
    · exact hnft hn_b6.2.2 hx
    · have := hx.2
      rw [find_add, if_pos rfl] at this; cases this
  have hKA := (hK0.mono fun _ h => h.elim).trans hK
  have hKT : Keep A ((((A.del b6).del b).add b6 (.cells [.int .u8 0, .int .u8 0, .int .u8 0, .int .u8 0] 32 4)).add b (.cells [.map (some bm), .int .i64 den] 66 2)) fun _ => False := Keep.top2 h6 ht n6.symm
  have hwA : A.w0 = H.w0 := hKA.w0
  have fin : ∀ {D T : AH} {w : List Value} {den' : Int}, D = (A.del b6).del b → T = (D.add b6 (.cells w 32 4)).add b (.cells [.map (some bm), .int .i64 den'] 66 2) → StAt T b (doX X op fl rec v) den' ft' ∧ Keep H T ft ∧ ∀ x, ft' x → ft x ∨ Fresh H x := fun {D T w den'} hD hT => by
    have hx : ∀ x, x ≠ b → x ≠ b6 → T.find x = A.find x := fun x h1 h2 => by rw [hT, find_add, if_neg h1, find_add, if_neg h2, hD, find_del, if_neg h1, find_del, if_neg h2]
    refine ⟨hst.den ht f6 (by rw [hT, find_add_self]) hx, hKA.then (Keep.of_find (ex := fun x => x = b ∨ x = b6) (by rw [hT, hD]; rfl) fun x hx' => hx x (fun e => hx' (.inl e)) fun e => hx' (.inr e)) ?_, fun x hx => (hft' x hx).imp id fun h => hK0.fr h⟩
    rintro x (rfl | rfl)
    · exact .inl h.self
    · exact .inr hn_b6.2.2
  refine ⟨_, top2 h6 ht, ?_⟩
  generalize hD : (A.del b6).del b = D at hKT fin ⊢
  have hDw : D.w0 = H.w0 := by rw [← hD]; exact hwA
  
  simp (dsimp := false) (maxSteps := 4000000) only [enc_len, enc_scal, lput_enc, take_enc, n6, n6.symm, hn_b4, hr_b4, hn_b5, hr_b5, hn_b6, hr_b6, go_sem, ↓reduceIte, Nat.reduceEqDiff, Nat.reduceLT, Nat.reduceLeDiff, Nat.reduceAdd, Nat.reduceMul, Nat.reduceSub, reduceCtorEq, Int.reduceToNat, Int.reduceLT, Int.reduceLE, Int.reduceEq, Int.reduceNe, Int.reduceBEq, Nat.reduceBEq, Int.reduceBNe, Nat.reduceBNe, Int.reduceAdd, Int.reduceSub, Int.reduceMul, Int.reduceNeg]
  refine AllB.mk fun b8 h_b8 => ?_
  have hn_b8 : ¬ b8 = b ∧ ¬ b8 = b6 ∧ Fresh D b8 := by simpa only [fresh_add, ne_eq] using h_b8
  simp (dsimp := false) (maxSteps := 4000000) only [hn_b8.1, hn_b8.2.1, Ne.symm hn_b8.1, Ne.symm hn_b8.2.1, enc_len, enc_scal, lput_enc, take_enc, n6, n6.symm, hn_b4, hr_b4, hn_b5, hr_b5, hn_b6, hr_b6, go_sem, ↓reduceIte, Nat.reduceEqDiff, Nat.reduceLT, Nat.reduceLeDiff, Nat.reduceAdd, Nat.reduceMul, Nat.reduceSub, reduceCtorEq, Int.reduceToNat, Int.reduceLT, Int.reduceLE, Int.reduceEq, Int.reduceNe, Int.reduceBEq, Nat.reduceBEq, Int.reduceBNe, Nat.reduceBNe, Int.reduceAdd, Int.reduceSub, Int.reduceMul, Int.reduceNeg]
  have hev8 := ErrV.keep (ErrV.keep hev hKT) (Keep.add (k := .cells (enc (doW X op fl rec v)) 32 4) h_b8)
  refine (Is_c hev8 (by decide)).mono ?_; rintro _ _ ⟨rfl, rfl⟩
  by_cases e5 : doE X op fl rec = 5
  · have hd5 : doD X op fl rec den = IntKind.i64.wrap (den + 1) := by rw [doD, if_pos e5]
    rw [hd5]
    simp (dsimp := false) (maxSteps := 4000000) only [e5, hn_b8.1, hn_b8.2.1, Ne.symm hn_b8.1, Ne.symm hn_b8.2.1, enc_len, enc_scal, lput_enc, take_enc, n6, n6.symm, hn_b4, hr_b4, hn_b5, hr_b5, hn_b6, hr_b6, go_sem, ↓reduceIte, Nat.reduceEqDiff, Nat.reduceLT, Nat.reduceLeDiff, Nat.reduceAdd, Nat.reduceMul, Nat.reduceSub, reduceCtorEq, Int.reduceToNat, Int.reduceLT, Int.reduceLE, Int.reduceEq, Int.reduceNe, Int.reduceBEq, Nat.reduceBEq, Int.reduceBNe, Nat.reduceBNe, Int.reduceAdd, Int.reduceSub, Int.reduceMul, Int.reduceNeg]
    refine AWp.gen [.rd, .pu, .ch, .ch, .pu] [0, 0, 2, 7, 15] 3 (_) mixed (by kernel_rfl) (AH.le_refl _) ?_
    simp (dsimp := false) (maxSteps := 4000000) only [hn_b8.1, hn_b8.2.1, Ne.symm hn_b8.1, Ne.symm hn_b8.2.1, enc_len, enc_scal, lput_enc, take_enc, n6, n6.symm, hn_b4, hr_b4, hn_b5, hr_b5, hn_b6, hr_b6, go_sem, ↓reduceIte, Nat.reduceEqDiff, Nat.reduceLT, Nat.reduceLeDiff, Nat.reduceAdd, Nat.reduceMul, Nat.reduceSub, reduceCtorEq, Int.reduceToNat, Int.reduceLT, Int.reduceLE, Int.reduceEq, Int.reduceNe, Int.reduceBEq, Nat.reduceBEq, Int.reduceBNe, Nat.reduceBNe, Int.reduceAdd, Int.reduceSub, Int.reduceMul, Int.reduceNeg]
    have h_b8' : Fresh ((D.add b6 (.cells [.int .u8 0, .int .u8 0, .int .u8 0, .int .u8 0] 32 4)).add b (.cells [.map (some bm), .int .i64 (IntKind.i64.wrap (den + 1))] 66 2)) b8 := by simp only [fresh_add, ne_eq, hn_b8.1, hn_b8.2.1, hn_b8.2.2, not_false_eq_true, and_self]
    refine (number_c (by simp only [w0_add, hDw]; exact hE) (ErrV.keep (ErrV.over (ErrV.keep hev hKT)) (Keep.add h_b8'))).mono ?_; rintro _ _ ⟨rfl, rfl⟩
    simp (dsimp := false) (maxSteps := 4000000) only [hn_b8.1, hn_b8.2.1, Ne.symm hn_b8.1, Ne.symm hn_b8.2.1, enc_len, enc_scal, lput_enc, take_enc, n6, n6.symm, hn_b4, hr_b4, hn_b5, hr_b5, hn_b6, hr_b6, go_sem, ↓reduceIte, Nat.reduceEqDiff, Nat.reduceLT, Nat.reduceLeDiff, Nat.reduceAdd, Nat.reduceMul, Nat.reduceSub, reduceCtorEq, Int.reduceToNat, Int.reduceLT, Int.reduceLE, Int.reduceEq, Int.reduceNe, Int.reduceBEq, Nat.reduceBEq, Int.reduceBNe, Nat.reduceBNe, Int.reduceAdd, Int.reduceSub, Int.reduceMul, Int.reduceNeg]
    obtain ⟨f1, f2, f3⟩ := fin (D := D) (T := (D.add b6 (.cells (enc (doW X op fl rec v)) 32 4)).add b (.cells [.map (some bm), .int .i64 (IntKind.i64.wrap (den + 1))] 66 2)) rfl rfl
    exact ⟨_, AH.le_add (AH.le_refl _) (by rw [find_add, if_neg hn_b8.1, find_add, if_neg hn_b8.2.1]; exact hn_b8.2.2.2), ft', rfl, f1, f2, f3⟩
  · have hd5 : doD X op fl rec den = den := by rw [doD, if_neg e5]
    rw [hd5]
    simp (dsimp := false) (maxSteps := 4000000) only [e5, hn_b8.1, hn_b8.2.1, Ne.symm hn_b8.1, Ne.symm hn_b8.2.1, enc_len, enc_scal, lput_enc, take_enc, n6, n6.symm, hn_b4, hr_b4, hn_b5, hr_b5, hn_b6, hr_b6, go_sem, ↓reduceIte, Nat.reduceEqDiff, Nat.reduceLT, Nat.reduceLeDiff, Nat.reduceAdd, Nat.reduceMul, Nat.reduceSub, reduceCtorEq, Int.reduceToNat, Int.reduceLT, Int.reduceLE, Int.reduceEq, Int.reduceNe, Int.reduceBEq, Nat.reduceBEq, Int.reduceBNe, Nat.reduceBNe, Int.reduceAdd, Int.reduceSub, Int.reduceMul, Int.reduceNeg]
    refine AWp.gen [.rd, .pu, .ch, .ch, .pu] [0, 0, 2, 7, 15] 3 (_) mixed (by kernel_rfl) (AH.le_refl _) ?_
    simp (dsimp := false) (maxSteps := 4000000) only [hn_b8.1, hn_b8.2.1, Ne.symm hn_b8.1, Ne.symm hn_b8.2.1, enc_len, enc_scal, lput_enc, take_enc, n6, n6.symm, hn_b4, hr_b4, hn_b5, hr_b5, hn_b6, hr_b6, go_sem, ↓reduceIte, Nat.reduceEqDiff, Nat.reduceLT, Nat.reduceLeDiff, Nat.reduceAdd, Nat.reduceMul, Nat.reduceSub, reduceCtorEq, Int.reduceToNat, Int.reduceLT, Int.reduceLE, Int.reduceEq, Int.reduceNe, Int.reduceBEq, Nat.reduceBEq, Int.reduceBNe, Nat.reduceBNe, Int.reduceAdd, Int.reduceSub, Int.reduceMul, Int.reduceNeg]
    refine (number_c (by simp only [w0_add, hDw]; exact hE) hev8).mono ?_; rintro _ _ ⟨rfl, rfl⟩
    simp (dsimp := false) (maxSteps := 4000000) only [hn_b8.1, hn_b8.2.1, Ne.symm hn_b8.1, Ne.symm hn_b8.2.1, enc_len, enc_scal, lput_enc, take_enc, n6, n6.symm, hn_b4, hr_b4, hn_b5, hr_b5, hn_b6, hr_b6, go_sem, ↓reduceIte, Nat.reduceEqDiff, Nat.reduceLT, Nat.reduceLeDiff, Nat.reduceAdd, Nat.reduceMul, Nat.reduceSub, reduceCtorEq, Int.reduceToNat, Int.reduceLT, Int.reduceLE, Int.reduceEq, Int.reduceNe, Int.reduceBEq, Nat.reduceBEq, Int.reduceBNe, Nat.reduceBNe, Int.reduceAdd, Int.reduceSub, Int.reduceMul, Int.reduceNeg]
    obtain ⟨f1, f2, f3⟩ := fin (D := D) (T := (D.add b6 (.cells (enc (doW X op fl rec v)) 32 4)).add b (.cells [.map (some bm), .int .i64 den] 66 2)) rfl rfl
    exact ⟨_, AH.le_add (AH.le_refl _) (by rw [find_add, if_neg hn_b8.1, find_add, if_neg hn_b8.2.1]; exact hn_b8.2.2.2), ft', rfl, f1, f2, f3⟩
end Go.Proofs.YtmkbpdlijfjgkaaDoor.Ifs
