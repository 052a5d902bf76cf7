/- file's law FileKeeps. -/
import Derived.Test.YtadbmmdmibiikaaFile8
namespace Go.Proofs.Ytadbmmdmibiikaa.File
set_option linter.unusedSimpArgs false
set_option linter.unusedVariables false
open Go Go.AX Go.Proofs Ty
set_option maxHeartbeats 4000000
set_option maxRecDepth 10000

theorem zr_enc : enc zr = [.int .u8 0, .int .u8 0, .int .u8 0, .int .u8 0] := rfl
theorem doR_other {R : List Rc} {op : Int} {rec i : Nat} {v : Rc} (h : i ≠ rec) : (doR R op rec v)[i]? = R[i]? := by
  unfold doR
  split
  · rw [List.getElem?_set_ne (Ne.symm h)]
  · split
    · rw [List.getElem?_set_ne (Ne.symm h)]
    · rfl
theorem mayF_head0 {p op : Int} {R : List Rc} (h : mayF p R op 0 = 0) : op = 0 := by
  obtain ⟨g, h0, h1, _, _, _, _, _⟩ := mayF_ok h
  rw [mayF_head g (by omega) (by omega) (by have := goodF_p g; omega)] at h
  by_cases e : op = 0
  · exact e
  · rw [if_neg e] at h; cases h
theorem doR_zero {p op : Int} {R : List Rc} {rec : Nat} {v : Rc} (h : mayF p R op rec = 0) : (doR R op rec v)[0]? = R[0]? := by
  by_cases e : rec = 0
  · subst e
    have := mayF_head0 h
    subst this; rfl
  · exact doR_other (Ne.symm e)
theorem goodF_do {p op : Int} {R : List Rc} {rec : Nat} {v : Rc} (h : mayF p R op rec = 0) : goodF p (doR R op rec v) = true := by
  have g := (mayF_ok h).1
  have hz := doR_zero (v := v) h
  have hl := doR_len R op rec v
  cases hR : R with
  | nil => rw [hR] at g; cases g
  | cons r l =>
    cases hD : doR R op rec v with
    | nil => rw [hD, hR] at hl; simp at hl
    | cons r' l' =>
      rw [hD, hR] at hz hl
      simp only [List.getElem?_cons_zero, Option.some.injEq] at hz
      simp only [List.length_cons, Nat.add_right_cancel_iff] at hl
      subst hz
      rw [hR] at g
      simp only [goodF, hl] at g ⊢
      rw [← hR, hD]
      simp only [hl]
      exact g
theorem mayF_read {p op : Int} {R : List Rc} {rec : Nat} {v : Rc} (h : mayF p R op rec = 0) : mayF p (doR R op rec v) 0 rec = if rec = 0 then 0 else if p % 2 = 0 then 5 else 0 := by
  obtain ⟨_, _, _, h3, h4, h5, h6, h7⟩ := mayF_ok h
  have g := goodF_do (v := v) h
  have hl := doR_len R op rec v
  by_cases e : rec = 0
  · subst e
    rw [if_pos rfl]
    show mayF p _ 0 0 = 0
    rw [mayF_head g (by omega) (by omega) (by omega)]; rfl
  · rw [if_neg e, mayF_perm g (by omega) (by omega) (by omega) (by omega) (by omega)]
    show (if p / 1 % 2 = 0 then 5 else 0) = _
    rw [Int.ediv_one]
theorem Good_x {p : Int} {n : Nat} {R : List Rc} {base : Option Addr} {cap : Nat} {H : AH} (hs : SlcIn H 4 base cap (R.map enc)) (hn : n = R.length) :
    ACalls Try.prog 48 #[.agg #[.int .i64 p, .slice base n cap]] H (fun v H' => v = .bool (goodF p R) ∧ H = H') := by
  subst hn; exact Good_c p R base cap H hs
theorem Same_x {p q : Int} {n m : Nat} {R S : List Rc} {b1 b2 : Option Addr} {c1 c2 : Nat} {H : AH} (hs : SlcIn H 4 b1 c1 (R.map enc)) (ht : SlcIn H 4 b2 c2 (S.map enc)) (hn : n = R.length) (hm : m = S.length) :
    ACalls Try.prog 66 #[.agg #[.int .i64 p, .slice b1 n c1], .agg #[.int .i64 q, .slice b2 m c2]] H (fun v H' => v = .bool (sameF p q R S) ∧ H = H') := by
  subst hn; subst hm; exact Same_c p q R S b1 b2 c1 c2 H hs ht
theorem FileKeeps_c (p : Int) (R : List Rc) (base : Option Addr) (cap : Nat) (op rec x0 x1 x2 x3 : Int) (w0 : 0 ≤ x0 ∧ x0 < 256) (w1 : 0 ≤ x1 ∧ x1 < 256) (w2 : 0 ≤ x2 ∧ x2 < 256) (w3 : 0 ≤ x3 ∧ x3 < 256) (H : AH) (hs : SlcIn H 4 base cap (R.map enc)) :
    ACalls Try.prog 14 #[fv p base R.length cap, .int .i64 op, .int .i64 rec, .agg #[.int .u8 x0, .int .u8 x1, .int .u8 x2, .int .u8 x3]] H (fun v H' => v = .bool true ∧ H = H') := by
  unfold fv
  have ht := fun H1 (h : SlcIn H1 4 base cap (R.map enc)) => few_c p R base cap H1 h
  unfold fv at ht
  have hs2 : SlcIn H 4 base cap ((R.take 260).map enc) := by rw [List.map_take]; exact hs.take
  generalize hS : R.take 260 = S at ht hs2
  obtain ⟨v, hv⟩ : ∃ v : Rc, v = (x0, x1, x2, x3) := ⟨_, rfl⟩
  have hv' : #[.int .u8 x0, .int .u8 x1, .int .u8 x2, .int .u8 x3] = (enc v).toArray := by rw [hv]; rfl
  rw [hv']
  refine ACalls.enter2 Try.func14 rfl Try.ntmps14 Try.results14 (by simp) ?_; simp (dsimp := false) (maxSteps := 4000000) only [AH.le_refl, enc_len, enc_take, enc_scal, enc_z4, eqlRc, neqRc, go_sem, ↓reduceIte, Nat.reduceEqDiff, Nat.reduceLT, Nat.reduceLeDiff, Nat.reduceAdd, Nat.reduceMul, Nat.reduceSub, reduceCtorEq, Int.reduceToNat, Int.reduceLT, Int.reduceLE, Int.reduceEq, Int.reduceNe, Int.reduceBEq, Nat.reduceBEq, Int.reduceBNe, Nat.reduceBNe, Int.reduceAdd, Int.reduceSub, Int.reduceMul, Int.reduceNeg]
  refine AllB.mk fun b4 h_b4 => ?_; have hn_b4 := h_b4; (try simp only [fresh_add, fresh_set, ne_eq] at hn_b4); have hr_b4 := hn_b4; (try simp only [@eq_comm Nat b4] at hr_b4); simp (dsimp := false) (maxSteps := 4000000) only [AH.le_refl, enc_len, enc_take, enc_scal, enc_z4, eqlRc, neqRc, hn_b4, hr_b4, go_sem, ↓reduceIte, Nat.reduceEqDiff, Nat.reduceLT, Nat.reduceLeDiff, Nat.reduceAdd, Nat.reduceMul, Nat.reduceSub, reduceCtorEq, Int.reduceToNat, Int.reduceLT, Int.reduceLE, Int.reduceEq, Int.reduceNe, Int.reduceBEq, Nat.reduceBEq, Int.reduceBNe, Nat.reduceBNe, Int.reduceAdd, Int.reduceSub, Int.reduceMul, Int.reduceNeg]
  refine AllB.mk fun b7 h_b7 => ?_; have hn_b7 := h_b7; (try simp only [fresh_add, fresh_set, ne_eq] at hn_b7); have hr_b7 := hn_b7; (try simp only [@eq_comm Nat b7] at hr_b7); simp (dsimp := false) (maxSteps := 4000000) only [AH.le_refl, enc_len, enc_take, enc_scal, enc_z4, eqlRc, neqRc, hn_b4, hr_b4, hn_b7, hr_b7, go_sem, ↓reduceIte, Nat.reduceEqDiff, Nat.reduceLT, Nat.reduceLeDiff, Nat.reduceAdd, Nat.reduceMul, Nat.reduceSub, reduceCtorEq, Int.reduceToNat, Int.reduceLT, Int.reduceLE, Int.reduceEq, Int.reduceNe, Int.reduceBEq, Nat.reduceBEq, Int.reduceBNe, Nat.reduceBNe, Int.reduceAdd, Int.reduceSub, Int.reduceMul, Int.reduceNeg]
  refine (ht _ ((hs.add (by simp only [fresh_add, ne_eq, hn_b4, not_false_eq_true, and_self] : Fresh _ b4)).add (by simp only [fresh_add, ne_eq, hn_b7, not_false_eq_true, and_self] : Fresh _ b7))).mono ?_; rintro _ _ ⟨rfl, rfl⟩
  simp (dsimp := false) (maxSteps := 4000000) only [AH.le_refl, enc_len, enc_take, enc_scal, enc_z4, eqlRc, neqRc, hn_b4, hr_b4, hn_b7, hr_b7, go_sem, ↓reduceIte, Nat.reduceEqDiff, Nat.reduceLT, Nat.reduceLeDiff, Nat.reduceAdd, Nat.reduceMul, Nat.reduceSub, reduceCtorEq, Int.reduceToNat, Int.reduceLT, Int.reduceLE, Int.reduceEq, Int.reduceNe, Int.reduceBEq, Nat.reduceBEq, Int.reduceBNe, Nat.reduceBNe, Int.reduceAdd, Int.reduceSub, Int.reduceMul, Int.reduceNeg]
  refine AllB.mk fun b9 h_b9 => ?_; have hn_b9 := h_b9; (try simp only [fresh_add, fresh_set, ne_eq] at hn_b9); have hr_b9 := hn_b9; (try simp only [@eq_comm Nat b9] at hr_b9); simp (dsimp := false) (maxSteps := 4000000) only [AH.le_refl, enc_len, enc_take, enc_scal, enc_z4, eqlRc, neqRc, hn_b4, hr_b4, hn_b7, hr_b7, hn_b9, hr_b9, go_sem, ↓reduceIte, Nat.reduceEqDiff, Nat.reduceLT, Nat.reduceLeDiff, Nat.reduceAdd, Nat.reduceMul, Nat.reduceSub, reduceCtorEq, Int.reduceToNat, Int.reduceLT, Int.reduceLE, Int.reduceEq, Int.reduceNe, Int.reduceBEq, Nat.reduceBEq, Int.reduceBNe, Nat.reduceBNe, Int.reduceAdd, Int.reduceSub, Int.reduceMul, Int.reduceNeg]
  by_cases hm : mayF p S op rec = 0
  · obtain ⟨hgd_, ho0, ho1, hr0, hr1, hR, hp0, hp1⟩ := mayF_ok hm
    obtain ⟨k, rfl⟩ : ∃ k : Nat, rec = k := ⟨rec.toNat, by omega⟩
    
    refine (Do_x (((hs2.add (by simp only [fresh_add, ne_eq, hn_b4, not_false_eq_true, and_self] : Fresh _ b4)).add (by simp only [fresh_add, ne_eq, hn_b7, not_false_eq_true, and_self] : Fresh _ b7)).add (by simp only [fresh_add, ne_eq, hn_b9, not_false_eq_true, and_self] : Fresh _ b9)) rfl rfl rfl hm).mono ?_; rintro _ _ ⟨bg, ng, h_bg, rfl, hng, rfl⟩
    have hn_bg := h_bg; (try simp only [fresh_add, fresh_set, ne_eq] at hn_bg); have hr_bg := hn_bg; (try simp only [@eq_comm Nat bg] at hr_bg)
    simp (dsimp := false) (maxSteps := 4000000) only [AH.le_refl, enc_len, enc_take, enc_scal, enc_z4, eqlRc, neqRc, hn_b4, hr_b4, hn_b7, hr_b7, hn_b9, hr_b9, hn_bg, hr_bg, go_sem, ↓reduceIte, Nat.reduceEqDiff, Nat.reduceLT, Nat.reduceLeDiff, Nat.reduceAdd, Nat.reduceMul, Nat.reduceSub, reduceCtorEq, Int.reduceToNat, Int.reduceLT, Int.reduceLE, Int.reduceEq, Int.reduceNe, Int.reduceBEq, Nat.reduceBEq, Int.reduceBNe, Nat.reduceBNe, Int.reduceAdd, Int.reduceSub, Int.reduceMul, Int.reduceNeg]
    refine AllB.mk fun b10 h_b10 => ?_; have hn_b10 := h_b10; (try simp only [fresh_add, fresh_set, ne_eq] at hn_b10); have hr_b10 := hn_b10; (try simp only [@eq_comm Nat b10] at hr_b10); simp (dsimp := false) (maxSteps := 4000000) only [AH.le_refl, enc_len, enc_take, enc_scal, enc_z4, eqlRc, neqRc, hn_b4, hr_b4, hn_b7, hr_b7, hn_b9, hr_b9, hn_bg, hr_bg, hn_b10, hr_b10, go_sem, ↓reduceIte, Nat.reduceEqDiff, Nat.reduceLT, Nat.reduceLeDiff, Nat.reduceAdd, Nat.reduceMul, Nat.reduceSub, reduceCtorEq, Int.reduceToNat, Int.reduceLT, Int.reduceLE, Int.reduceEq, Int.reduceNe, Int.reduceBEq, Nat.reduceBEq, Int.reduceBNe, Nat.reduceBNe, Int.reduceAdd, Int.reduceSub, Int.reduceMul, Int.reduceNeg]
    refine AllB.mk fun b11 h_b11 => ?_; have hn_b11 := h_b11; (try simp only [fresh_add, fresh_set, ne_eq] at hn_b11); have hr_b11 := hn_b11; (try simp only [@eq_comm Nat b11] at hr_b11); simp (dsimp := false) (maxSteps := 4000000) only [AH.le_refl, enc_len, enc_take, enc_scal, enc_z4, eqlRc, neqRc, hn_b4, hr_b4, hn_b7, hr_b7, hn_b9, hr_b9, hn_bg, hr_bg, hn_b10, hr_b10, hn_b11, hr_b11, go_sem, ↓reduceIte, Nat.reduceEqDiff, Nat.reduceLT, Nat.reduceLeDiff, Nat.reduceAdd, Nat.reduceMul, Nat.reduceSub, reduceCtorEq, Int.reduceToNat, Int.reduceLT, Int.reduceLE, Int.reduceEq, Int.reduceNe, Int.reduceBEq, Nat.reduceBEq, Int.reduceBNe, Nat.reduceBNe, Int.reduceAdd, Int.reduceSub, Int.reduceMul, Int.reduceNeg]
    have gL := goodF_do (v := v) hm
    have mr := mayF_read (v := v) hm
    have z0 := doR_zero (v := v) hm
    have oth := fun i (h : i ≠ k) => doR_other (R := S) (op := op) (v := v) h
    have hlen := doR_len S op k v
    have hw1 : op = 1 → (doR S op k v).getD k zr = v := fun h => by rw [doR, if_pos h]; exact getD4 (by rw [List.getElem?_set_self (by omega)])
    have hw0 : op = 0 → doR S op k v = S := fun h => by rw [doR, if_neg (by omega), if_neg (by omega)]
    have hk : (doR S op k v)[k]? = some ((doR S op k v).getD k zr) := by
      obtain ⟨y, hy⟩ := get_some (l := doR S op k v) (i := k) (by omega)
      rw [hy, getD4 hy]
    generalize hL : doR S op k v = L at gL mr z0 oth hlen hw1 hw0 hk ⊢
    generalize hw_ : L.getD k zr = w at hw1 hk ⊢
    have hl4 := flat4 L
    rw [hlen] at hl4
    have c4 : k * 4 + 4 ≤ S.length * 4 := by omega
    have hrow := row4 hk
    have sg : ∀ {H' : AH} {n}, AH.find H' bg = some (.cells (L.map enc).flatten 64 n) → SlcIn H' 4 (some ⟨bg, 0, none⟩) S.length (L.map enc) := fun hf => SlcIn.of_find hf (rows4 _) (by rw [List.length_map]; omega) (by rw [List.length_map]; omega)
    refine AWp.gen [.rd, .ch, .pu, .pu, .pu, .rd, .pu, .pu, .rd, .pu, .pu, .pu, .pu, .pu, .rd, .pu, .rd, .pu, .pu, .pu, .pu, .pu, .pu, .pu, .pu, .pu, .rd, .pu, .pu, .pu, .pu, .pu, .rd, .pu, .pu, .rd, .rd, .pu, .pu] [0, 1, 3, 7, 15, 31, 63, 15, 143, 399, 1023, 2047, 4095, 8191, 16383, 8191, 40959, 131071, 262143, 524287, 1048575, 2097151, 4194303, 8388607, 16777215, 16777215, 50331647, 117440511, 268435455, 536870911, 1073741823, 2147483647, 4294967295, 2147483647, 17179869183, 34359738367, 2147483647, 137438953471, 274877906943] 2 (_) mixed (by kernel_rfl) (AH.le_refl _) ?_
    simp (dsimp := false) (maxSteps := 4000000) only [AH.le_refl, enc_len, enc_take, enc_scal, enc_z4, eqlRc, neqRc, hn_b4, hr_b4, hn_b7, hr_b7, hn_b9, hr_b9, hn_bg, hr_bg, hn_b10, hr_b10, hn_b11, hr_b11, go_sem, ↓reduceIte, Nat.reduceEqDiff, Nat.reduceLT, Nat.reduceLeDiff, Nat.reduceAdd, Nat.reduceMul, Nat.reduceSub, reduceCtorEq, Int.reduceToNat, Int.reduceLT, Int.reduceLE, Int.reduceEq, Int.reduceNe, Int.reduceBEq, Nat.reduceBEq, Int.reduceBNe, Nat.reduceBNe, Int.reduceAdd, Int.reduceSub, Int.reduceMul, Int.reduceNeg]
    refine ACalls.mono (Good_x (p := p) (sg (n := ng) ?_) hlen.symm) ?_
    · (show AH.find _ _ = _; simp only [find_add_self, find_add_ne, find_fresh, fresh_add, ne_eq, not_false_eq_true, true_and, and_true, and_self, AH.le_refl, enc_len, enc_take, enc_scal, enc_z4, eqlRc, neqRc, hn_b4, hr_b4, hn_b7, hr_b7, hn_b9, hr_b9, hn_bg, hr_bg, hn_b10, hr_b10, hn_b11, hr_b11])
    rintro _ _ ⟨rfl, rfl⟩
    have hkn : ¬ (k : Int) < 0 := by omega
    have hkn2 : ¬ (S.length : Int) ≤ k := by omega
    have hkl : (k : Int) < S.length := by omega
    simp (dsimp := false) (maxSteps := 4000000) only [gL, hkn, hkn2, hkl, hl4, c4, hrow, AH.le_refl, enc_len, enc_take, enc_scal, enc_z4, eqlRc, neqRc, hn_b4, hr_b4, hn_b7, hr_b7, hn_b9, hr_b9, hn_bg, hr_bg, hn_b10, hr_b10, hn_b11, hr_b11, go_sem, ↓reduceIte, Nat.reduceEqDiff, Nat.reduceLT, Nat.reduceLeDiff, Nat.reduceAdd, Nat.reduceMul, Nat.reduceSub, reduceCtorEq, Int.reduceToNat, Int.reduceLT, Int.reduceLE, Int.reduceEq, Int.reduceNe, Int.reduceBEq, Nat.reduceBEq, Int.reduceBNe, Nat.reduceBNe, Int.reduceAdd, Int.reduceSub, Int.reduceMul, Int.reduceNeg]
    refine AWp.loopo (ι := Nat) (fun i => i ≤ S.length) (fun i => [(13, .int .i64 i), (1, .int .i64 op), (2, .int .i64 k), (4, .pointer (some ⟨b4, 0, none⟩)), (7, .pointer (some ⟨b7, 0, none⟩)), (9, .pointer (some ⟨b9, 0, none⟩)), (10, .pointer (some ⟨b10, 0, none⟩)), (11, .pointer (some ⟨b11, 0, none⟩))])
      (fun _ => ((((((H.add b4 (.cells [.int .i64 p, .slice base R.length cap] 25 2)).add b7 (.cells (enc v) 64 4)).add b9 (.cells [.int .i64 p, .slice base S.length cap] 25 2)).add bg (.cells (L.map enc).flatten 64 ng)).add b10 (.cells [.int .i64 p, .slice (some ⟨bg, 0, none⟩) S.length S.length] 25 2)).add b11 (.cells (enc w) 64 4))) (fun i => S.length - i) 0 (by omega) (FrLe.of_lks ?_) (AH.le_refl _) fun i hi Q again out => ?_
    · simp (dsimp := false) (maxSteps := 4000000) only [AH.le_refl, enc_len, enc_take, enc_scal, enc_z4, eqlRc, neqRc, hn_b4, hr_b4, hn_b7, hr_b7, hn_b9, hr_b9, hn_bg, hr_bg, hn_b10, hr_b10, hn_b11, hr_b11, go_sem, ↓reduceIte, Nat.reduceEqDiff, Nat.reduceLT, Nat.reduceLeDiff, Nat.reduceAdd, Nat.reduceMul, Nat.reduceSub, reduceCtorEq, Int.reduceToNat, Int.reduceLT, Int.reduceLE, Int.reduceEq, Int.reduceNe, Int.reduceBEq, Nat.reduceBEq, Int.reduceBNe, Nat.reduceBNe, Int.reduceAdd, Int.reduceSub, Int.reduceMul, Int.reduceNeg]
    · by_cases h : (i : Int) < S.length
      · obtain ⟨s_, hs_⟩ := get_some (l := S) (i := i) (by omega)
        obtain ⟨l_, hl_⟩ := get_some (l := L) (i := i) (by omega)
        obtain ⟨b, o, rfl, hrS, _⟩ := hs2.get (map_get (f := enc) hs_)
        have hrL := row4 hl_
        have e1 := i64_succ (i := i) (by omega)
        have c4i : i * 4 + 4 ≤ S.length * 4 := by omega
        simp (dsimp := false) (maxSteps := 4000000) only [h, AH.le_refl, enc_len, enc_take, enc_scal, enc_z4, eqlRc, neqRc, hn_b4, hr_b4, hn_b7, hr_b7, hn_b9, hr_b9, hn_bg, hr_bg, hn_b10, hr_b10, hn_b11, hr_b11, go_sem, ↓reduceIte, Nat.reduceEqDiff, Nat.reduceLT, Nat.reduceLeDiff, Nat.reduceAdd, Nat.reduceMul, Nat.reduceSub, reduceCtorEq, Int.reduceToNat, Int.reduceLT, Int.reduceLE, Int.reduceEq, Int.reduceNe, Int.reduceBEq, Nat.reduceBEq, Int.reduceBNe, Nat.reduceBNe, Int.reduceAdd, Int.reduceSub, Int.reduceMul, Int.reduceNeg]
        refine AWp.quiet mixed (by kernel_rfl) ?_
        have hne : i ≠ k → l_ = s_ := fun e => by
          have := oth i e
          rw [hs_, hl_] at this
          exact Option.some.inj this
        have hz : i = 0 → l_ = s_ := fun e => by
          subst e
          rw [hs_, hl_] at z0
          exact Option.some.inj z0
        have nr_hrS := (And.intro (Fresh.ne_row (by simp only [hn_b4] : Fresh H b4) hrS) (And.intro (Fresh.ne_row (by simp only [hn_b7] : Fresh H b7) hrS) (And.intro (Fresh.ne_row (by simp only [hn_b9] : Fresh H b9) hrS) (And.intro (Fresh.ne_row (by simp only [hn_bg] : Fresh H bg) hrS) (And.intro (Fresh.ne_row (by simp only [hn_b10] : Fresh H b10) hrS) (Fresh.ne_row (by simp only [hn_b11] : Fresh H b11) hrS))))))
        by_cases ek : i = k
        · have ek' : ((i : Int) = k) = True := eq_true (by omega)
          by_cases e0 : i = 0
          · have e0' : ((i : Int) = 0) = True := eq_true (by omega)
            have hh := hz e0
            simp (dsimp := false) (maxSteps := 4000000) only [h, hl4, hrL, hrS, nr_hrS, c4i, ek', e0', hh, e1, AH.le_refl, enc_len, enc_take, enc_scal, enc_z4, eqlRc, neqRc, hn_b4, hr_b4, hn_b7, hr_b7, hn_b9, hr_b9, hn_bg, hr_bg, hn_b10, hr_b10, hn_b11, hr_b11, go_sem, ↓reduceIte, Nat.reduceEqDiff, Nat.reduceLT, Nat.reduceLeDiff, Nat.reduceAdd, Nat.reduceMul, Nat.reduceSub, reduceCtorEq, Int.reduceToNat, Int.reduceLT, Int.reduceLE, Int.reduceEq, Int.reduceNe, Int.reduceBEq, Nat.reduceBEq, Int.reduceBNe, Nat.reduceBNe, Int.reduceAdd, Int.reduceSub, Int.reduceMul, Int.reduceNeg]
            refine again (i + 1) _ _ (by omega) (FrLe.of_lks (by simp (dsimp := false) (maxSteps := 4000000) only [AH.le_refl, enc_len, enc_take, enc_scal, enc_z4, eqlRc, neqRc, hn_b4, hr_b4, hn_b7, hr_b7, hn_b9, hr_b9, hn_bg, hr_bg, hn_b10, hr_b10, hn_b11, hr_b11, go_sem, ↓reduceIte, Nat.reduceEqDiff, Nat.reduceLT, Nat.reduceLeDiff, Nat.reduceAdd, Nat.reduceMul, Nat.reduceSub, reduceCtorEq, Int.reduceToNat, Int.reduceLT, Int.reduceLE, Int.reduceEq, Int.reduceNe, Int.reduceBEq, Nat.reduceBEq, Int.reduceBNe, Nat.reduceBNe, Int.reduceAdd, Int.reduceSub, Int.reduceMul, Int.reduceNeg])) (AH.le_refl _) (by omega)
          · have e0' : ¬ (i : Int) = 0 := by omega
            simp (dsimp := false) (maxSteps := 4000000) only [h, hl4, hrL, hrS, nr_hrS, c4i, ek', e0', e1, AH.le_refl, enc_len, enc_take, enc_scal, enc_z4, eqlRc, neqRc, hn_b4, hr_b4, hn_b7, hr_b7, hn_b9, hr_b9, hn_bg, hr_bg, hn_b10, hr_b10, hn_b11, hr_b11, go_sem, ↓reduceIte, Nat.reduceEqDiff, Nat.reduceLT, Nat.reduceLeDiff, Nat.reduceAdd, Nat.reduceMul, Nat.reduceSub, reduceCtorEq, Int.reduceToNat, Int.reduceLT, Int.reduceLE, Int.reduceEq, Int.reduceNe, Int.reduceBEq, Nat.reduceBEq, Int.reduceBNe, Nat.reduceBNe, Int.reduceAdd, Int.reduceSub, Int.reduceMul, Int.reduceNeg]
            refine again (i + 1) _ _ (by omega) (FrLe.of_lks (by simp (dsimp := false) (maxSteps := 4000000) only [AH.le_refl, enc_len, enc_take, enc_scal, enc_z4, eqlRc, neqRc, hn_b4, hr_b4, hn_b7, hr_b7, hn_b9, hr_b9, hn_bg, hr_bg, hn_b10, hr_b10, hn_b11, hr_b11, go_sem, ↓reduceIte, Nat.reduceEqDiff, Nat.reduceLT, Nat.reduceLeDiff, Nat.reduceAdd, Nat.reduceMul, Nat.reduceSub, reduceCtorEq, Int.reduceToNat, Int.reduceLT, Int.reduceLE, Int.reduceEq, Int.reduceNe, Int.reduceBEq, Nat.reduceBEq, Int.reduceBNe, Nat.reduceBNe, Int.reduceAdd, Int.reduceSub, Int.reduceMul, Int.reduceNeg])) (AH.le_refl _) (by omega)
        · have ek' : ¬ (i : Int) = k := by omega
          have hh := hne ek
          by_cases e0 : i = 0
          · have e0' : ((i : Int) = 0) = True := eq_true (by omega)
            simp (dsimp := false) (maxSteps := 4000000) only [h, hl4, hrL, hrS, nr_hrS, c4i, ek', e0', hh, e1, AH.le_refl, enc_len, enc_take, enc_scal, enc_z4, eqlRc, neqRc, hn_b4, hr_b4, hn_b7, hr_b7, hn_b9, hr_b9, hn_bg, hr_bg, hn_b10, hr_b10, hn_b11, hr_b11, go_sem, ↓reduceIte, Nat.reduceEqDiff, Nat.reduceLT, Nat.reduceLeDiff, Nat.reduceAdd, Nat.reduceMul, Nat.reduceSub, reduceCtorEq, Int.reduceToNat, Int.reduceLT, Int.reduceLE, Int.reduceEq, Int.reduceNe, Int.reduceBEq, Nat.reduceBEq, Int.reduceBNe, Nat.reduceBNe, Int.reduceAdd, Int.reduceSub, Int.reduceMul, Int.reduceNeg]
            refine again (i + 1) _ _ (by omega) (FrLe.of_lks (by simp (dsimp := false) (maxSteps := 4000000) only [AH.le_refl, enc_len, enc_take, enc_scal, enc_z4, eqlRc, neqRc, hn_b4, hr_b4, hn_b7, hr_b7, hn_b9, hr_b9, hn_bg, hr_bg, hn_b10, hr_b10, hn_b11, hr_b11, go_sem, ↓reduceIte, Nat.reduceEqDiff, Nat.reduceLT, Nat.reduceLeDiff, Nat.reduceAdd, Nat.reduceMul, Nat.reduceSub, reduceCtorEq, Int.reduceToNat, Int.reduceLT, Int.reduceLE, Int.reduceEq, Int.reduceNe, Int.reduceBEq, Nat.reduceBEq, Int.reduceBNe, Nat.reduceBNe, Int.reduceAdd, Int.reduceSub, Int.reduceMul, Int.reduceNeg])) (AH.le_refl _) (by omega)
          · have e0' : ¬ (i : Int) = 0 := by omega
            simp (dsimp := false) (maxSteps := 4000000) only [h, hl4, hrL, hrS, nr_hrS, c4i, ek', e0', hh, e1, AH.le_refl, enc_len, enc_take, enc_scal, enc_z4, eqlRc, neqRc, hn_b4, hr_b4, hn_b7, hr_b7, hn_b9, hr_b9, hn_bg, hr_bg, hn_b10, hr_b10, hn_b11, hr_b11, go_sem, ↓reduceIte, Nat.reduceEqDiff, Nat.reduceLT, Nat.reduceLeDiff, Nat.reduceAdd, Nat.reduceMul, Nat.reduceSub, reduceCtorEq, Int.reduceToNat, Int.reduceLT, Int.reduceLE, Int.reduceEq, Int.reduceNe, Int.reduceBEq, Nat.reduceBEq, Int.reduceBNe, Nat.reduceBNe, Int.reduceAdd, Int.reduceSub, Int.reduceMul, Int.reduceNeg]
            refine again (i + 1) _ _ (by omega) (FrLe.of_lks (by simp (dsimp := false) (maxSteps := 4000000) only [AH.le_refl, enc_len, enc_take, enc_scal, enc_z4, eqlRc, neqRc, hn_b4, hr_b4, hn_b7, hr_b7, hn_b9, hr_b9, hn_bg, hr_bg, hn_b10, hr_b10, hn_b11, hr_b11, go_sem, ↓reduceIte, Nat.reduceEqDiff, Nat.reduceLT, Nat.reduceLeDiff, Nat.reduceAdd, Nat.reduceMul, Nat.reduceSub, reduceCtorEq, Int.reduceToNat, Int.reduceLT, Int.reduceLE, Int.reduceEq, Int.reduceNe, Int.reduceBEq, Nat.reduceBEq, Int.reduceBNe, Nat.reduceBNe, Int.reduceAdd, Int.reduceSub, Int.reduceMul, Int.reduceNeg])) (AH.le_refl _) (by omega)
      · simp (dsimp := false) (maxSteps := 4000000) only [h, AH.le_refl, enc_len, enc_take, enc_scal, enc_z4, eqlRc, neqRc, hn_b4, hr_b4, hn_b7, hr_b7, hn_b9, hr_b9, hn_bg, hr_bg, hn_b10, hr_b10, hn_b11, hr_b11, go_sem, ↓reduceIte, Nat.reduceEqDiff, Nat.reduceLT, Nat.reduceLeDiff, Nat.reduceAdd, Nat.reduceMul, Nat.reduceSub, reduceCtorEq, Int.reduceToNat, Int.reduceLT, Int.reduceLE, Int.reduceEq, Int.reduceNe, Int.reduceBEq, Nat.reduceBEq, Int.reduceBNe, Nat.reduceBNe, Int.reduceAdd, Int.reduceSub, Int.reduceMul, Int.reduceNeg]
        refine out _ _ _ (by simp) ?_
        simp (dsimp := false) (maxSteps := 4000000) only [AH.le_refl, enc_len, enc_take, enc_scal, enc_z4, eqlRc, neqRc, hn_b4, hr_b4, hn_b7, hr_b7, hn_b9, hr_b9, hn_bg, hr_bg, hn_b10, hr_b10, hn_b11, hr_b11, go_sem, ↓reduceIte, Nat.reduceEqDiff, Nat.reduceLT, Nat.reduceLeDiff, Nat.reduceAdd, Nat.reduceMul, Nat.reduceSub, reduceCtorEq, Int.reduceToNat, Int.reduceLT, Int.reduceLE, Int.reduceEq, Int.reduceNe, Int.reduceBEq, Nat.reduceBEq, Int.reduceBNe, Nat.reduceBNe, Int.reduceAdd, Int.reduceSub, Int.reduceMul, Int.reduceNeg]
        by_cases hro : mayF p L 0 k = 0
        · 
          refine ACalls.mono (Do_x (p := p) (op := 0) (rec := k) (R := L) (R' := L) (v := zr) (w := w) (sg (n := ng) ?_) hlen.symm rfl hw_ hro) ?_
          · (show AH.find _ _ = _; simp only [find_add_self, find_add_ne, find_fresh, fresh_add, ne_eq, not_false_eq_true, true_and, and_true, and_self, AH.le_refl, enc_len, enc_take, enc_scal, enc_z4, eqlRc, neqRc, hn_b4, hr_b4, hn_b7, hr_b7, hn_b9, hr_b9, hn_bg, hr_bg, hn_b10, hr_b10, hn_b11, hr_b11])
          rintro _ _ ⟨bm, nm, h_bm, rfl, hnm, rfl⟩
          have hn_bm := h_bm; (try simp only [fresh_add, fresh_set, ne_eq] at hn_bm); have hr_bm := hn_bm; (try simp only [@eq_comm Nat bm] at hr_bm)
          simp (dsimp := false) (maxSteps := 4000000) only [AH.le_refl, enc_len, enc_take, enc_scal, enc_z4, eqlRc, neqRc, hn_b4, hr_b4, hn_b7, hr_b7, hn_b9, hr_b9, hn_bg, hr_bg, hn_b10, hr_b10, hn_b11, hr_b11, hn_bm, hr_bm, go_sem, ↓reduceIte, Nat.reduceEqDiff, Nat.reduceLT, Nat.reduceLeDiff, Nat.reduceAdd, Nat.reduceMul, Nat.reduceSub, reduceCtorEq, Int.reduceToNat, Int.reduceLT, Int.reduceLE, Int.reduceEq, Int.reduceNe, Int.reduceBEq, Nat.reduceBEq, Int.reduceBNe, Nat.reduceBNe, Int.reduceAdd, Int.reduceSub, Int.reduceMul, Int.reduceNeg]
          refine AllB.mk fun b14 h_b14 => ?_; have hn_b14 := h_b14; (try simp only [fresh_add, fresh_set, ne_eq] at hn_b14); have hr_b14 := hn_b14; (try simp only [@eq_comm Nat b14] at hr_b14); simp (dsimp := false) (maxSteps := 4000000) only [AH.le_refl, enc_len, enc_take, enc_scal, enc_z4, eqlRc, neqRc, hn_b4, hr_b4, hn_b7, hr_b7, hn_b9, hr_b9, hn_bg, hr_bg, hn_b10, hr_b10, hn_b11, hr_b11, hn_bm, hr_bm, hn_b14, hr_b14, go_sem, ↓reduceIte, Nat.reduceEqDiff, Nat.reduceLT, Nat.reduceLeDiff, Nat.reduceAdd, Nat.reduceMul, Nat.reduceSub, reduceCtorEq, Int.reduceToNat, Int.reduceLT, Int.reduceLE, Int.reduceEq, Int.reduceNe, Int.reduceBEq, Nat.reduceBEq, Int.reduceBNe, Nat.reduceBNe, Int.reduceAdd, Int.reduceSub, Int.reduceMul, Int.reduceNeg]
          refine AllB.mk fun b15 h_b15 => ?_; have hn_b15 := h_b15; (try simp only [fresh_add, fresh_set, ne_eq] at hn_b15); have hr_b15 := hn_b15; (try simp only [@eq_comm Nat b15] at hr_b15); simp (dsimp := false) (maxSteps := 4000000) only [AH.le_refl, enc_len, enc_take, enc_scal, enc_z4, eqlRc, neqRc, hn_b4, hr_b4, hn_b7, hr_b7, hn_b9, hr_b9, hn_bg, hr_bg, hn_b10, hr_b10, hn_b11, hr_b11, hn_bm, hr_bm, hn_b14, hr_b14, hn_b15, hr_b15, go_sem, ↓reduceIte, Nat.reduceEqDiff, Nat.reduceLT, Nat.reduceLeDiff, Nat.reduceAdd, Nat.reduceMul, Nat.reduceSub, reduceCtorEq, Int.reduceToNat, Int.reduceLT, Int.reduceLE, Int.reduceEq, Int.reduceNe, Int.reduceBEq, Nat.reduceBEq, Int.reduceBNe, Nat.reduceBNe, Int.reduceAdd, Int.reduceSub, Int.reduceMul, Int.reduceNeg]
          have hvw := hw1
          rcases (by omega : op = 0 ∨ op = 1 ∨ op = 2) with rfl | rfl | rfl
          · have hs0 : sameF p p L S = true := by rw [hw0 rfl]; exact sameF_self p S
            refine (awake_c _).mono ?_; rintro _ _ ⟨rfl, rfl⟩
            simp (dsimp := false) (maxSteps := 4000000) only [hro, AH.le_refl, enc_len, enc_take, enc_scal, enc_z4, eqlRc, neqRc, hn_b4, hr_b4, hn_b7, hr_b7, hn_b9, hr_b9, hn_bg, hr_bg, hn_b10, hr_b10, hn_b11, hr_b11, hn_bm, hr_bm, hn_b14, hr_b14, hn_b15, hr_b15, go_sem, ↓reduceIte, Nat.reduceEqDiff, Nat.reduceLT, Nat.reduceLeDiff, Nat.reduceAdd, Nat.reduceMul, Nat.reduceSub, reduceCtorEq, Int.reduceToNat, Int.reduceLT, Int.reduceLE, Int.reduceEq, Int.reduceNe, Int.reduceBEq, Nat.reduceBEq, Int.reduceBNe, Nat.reduceBNe, Int.reduceAdd, Int.reduceSub, Int.reduceMul, Int.reduceNeg]
            refine ACalls.mono (Same_x (p := p) (q := p) (sg (n := ng) ?_) (((((((((hs2.add (by simp only [fresh_add, ne_eq, hn_b4, not_false_eq_true, and_self] : Fresh _ b4)).add (by simp only [fresh_add, ne_eq, hn_b7, not_false_eq_true, and_self] : Fresh _ b7)).add (by simp only [fresh_add, ne_eq, hn_b9, not_false_eq_true, and_self] : Fresh _ b9)).add (by simp only [fresh_add, ne_eq, hn_bg, not_false_eq_true, and_self] : Fresh _ bg)).add (by simp only [fresh_add, ne_eq, hn_b10, not_false_eq_true, and_self] : Fresh _ b10)).add (by simp only [fresh_add, ne_eq, hn_b11, not_false_eq_true, and_self] : Fresh _ b11)).add (by simp only [fresh_add, ne_eq, hn_bm, not_false_eq_true, and_self] : Fresh _ bm)).add (by simp only [fresh_add, ne_eq, hn_b14, not_false_eq_true, and_self] : Fresh _ b14)).add (by simp only [fresh_add, ne_eq, hn_b15, not_false_eq_true, and_self] : Fresh _ b15)) hlen.symm rfl) ?_
            · (show AH.find _ _ = _; simp only [find_add_self, find_add_ne, find_fresh, fresh_add, ne_eq, not_false_eq_true, true_and, and_true, and_self, AH.le_refl, enc_len, enc_take, enc_scal, enc_z4, eqlRc, neqRc, hn_b4, hr_b4, hn_b7, hr_b7, hn_b9, hr_b9, hn_bg, hr_bg, hn_b10, hr_b10, hn_b11, hr_b11, hn_bm, hr_bm, hn_b14, hr_b14, hn_b15, hr_b15])
            rintro _ _ ⟨rfl, rfl⟩
            simp (dsimp := false) (maxSteps := 4000000) only [hs0, hro, AH.le_refl, enc_len, enc_take, enc_scal, enc_z4, eqlRc, neqRc, hn_b4, hr_b4, hn_b7, hr_b7, hn_b9, hr_b9, hn_bg, hr_bg, hn_b10, hr_b10, hn_b11, hr_b11, hn_bm, hr_bm, hn_b14, hr_b14, hn_b15, hr_b15, go_sem, ↓reduceIte, Nat.reduceEqDiff, Nat.reduceLT, Nat.reduceLeDiff, Nat.reduceAdd, Nat.reduceMul, Nat.reduceSub, reduceCtorEq, Int.reduceToNat, Int.reduceLT, Int.reduceLE, Int.reduceEq, Int.reduceNe, Int.reduceBEq, Nat.reduceBEq, Int.reduceBNe, Nat.reduceBNe, Int.reduceAdd, Int.reduceSub, Int.reduceMul, Int.reduceNeg]
            exact ⟨H, (AH.le_add (AH.le_add (AH.le_add (AH.le_add (AH.le_add (AH.le_add (AH.le_add (AH.le_add (AH.le_add (AH.le_refl _) ((by simp only [fresh_add, fresh_set, ne_eq, hn_b4, not_false_eq_true, and_self] : Fresh _ b4).2)) ((by simp only [fresh_add, fresh_set, ne_eq, hn_b7, not_false_eq_true, and_self] : Fresh _ b7).2)) ((by simp only [fresh_add, fresh_set, ne_eq, hn_b9, not_false_eq_true, and_self] : Fresh _ b9).2)) ((by simp only [fresh_add, fresh_set, ne_eq, hn_bg, not_false_eq_true, and_self] : Fresh _ bg).2)) ((by simp only [fresh_add, fresh_set, ne_eq, hn_b10, not_false_eq_true, and_self] : Fresh _ b10).2)) ((by simp only [fresh_add, fresh_set, ne_eq, hn_b11, not_false_eq_true, and_self] : Fresh _ b11).2)) ((by simp only [fresh_add, fresh_set, ne_eq, hn_bm, not_false_eq_true, and_self] : Fresh _ bm).2)) ((by simp only [fresh_add, fresh_set, ne_eq, hn_b14, not_false_eq_true, and_self] : Fresh _ b14).2)) ((by simp only [fresh_add, fresh_set, ne_eq, hn_b15, not_false_eq_true, and_self] : Fresh _ b15).2)), (by first | exact ⟨rfl, rfl⟩ | rfl)⟩
          · have hs1 := hw1 rfl
            refine (awake_c _).mono ?_; rintro _ _ ⟨rfl, rfl⟩
            simp (dsimp := false) (maxSteps := 4000000) only [hs1, hro, AH.le_refl, enc_len, enc_take, enc_scal, enc_z4, eqlRc, neqRc, hn_b4, hr_b4, hn_b7, hr_b7, hn_b9, hr_b9, hn_bg, hr_bg, hn_b10, hr_b10, hn_b11, hr_b11, hn_bm, hr_bm, hn_b14, hr_b14, hn_b15, hr_b15, go_sem, ↓reduceIte, Nat.reduceEqDiff, Nat.reduceLT, Nat.reduceLeDiff, Nat.reduceAdd, Nat.reduceMul, Nat.reduceSub, reduceCtorEq, Int.reduceToNat, Int.reduceLT, Int.reduceLE, Int.reduceEq, Int.reduceNe, Int.reduceBEq, Nat.reduceBEq, Int.reduceBNe, Nat.reduceBNe, Int.reduceAdd, Int.reduceSub, Int.reduceMul, Int.reduceNeg]
            exact ⟨H, (AH.le_add (AH.le_add (AH.le_add (AH.le_add (AH.le_add (AH.le_add (AH.le_add (AH.le_add (AH.le_add (AH.le_refl _) ((by simp only [fresh_add, fresh_set, ne_eq, hn_b4, not_false_eq_true, and_self] : Fresh _ b4).2)) ((by simp only [fresh_add, fresh_set, ne_eq, hn_b7, not_false_eq_true, and_self] : Fresh _ b7).2)) ((by simp only [fresh_add, fresh_set, ne_eq, hn_b9, not_false_eq_true, and_self] : Fresh _ b9).2)) ((by simp only [fresh_add, fresh_set, ne_eq, hn_bg, not_false_eq_true, and_self] : Fresh _ bg).2)) ((by simp only [fresh_add, fresh_set, ne_eq, hn_b10, not_false_eq_true, and_self] : Fresh _ b10).2)) ((by simp only [fresh_add, fresh_set, ne_eq, hn_b11, not_false_eq_true, and_self] : Fresh _ b11).2)) ((by simp only [fresh_add, fresh_set, ne_eq, hn_bm, not_false_eq_true, and_self] : Fresh _ bm).2)) ((by simp only [fresh_add, fresh_set, ne_eq, hn_b14, not_false_eq_true, and_self] : Fresh _ b14).2)) ((by simp only [fresh_add, fresh_set, ne_eq, hn_b15, not_false_eq_true, and_self] : Fresh _ b15).2)), (by first | exact ⟨rfl, rfl⟩ | rfl)⟩
          · refine (awake_c _).mono ?_; rintro _ _ ⟨rfl, rfl⟩
            simp (dsimp := false) (maxSteps := 4000000) only [hro, AH.le_refl, enc_len, enc_take, enc_scal, enc_z4, eqlRc, neqRc, hn_b4, hr_b4, hn_b7, hr_b7, hn_b9, hr_b9, hn_bg, hr_bg, hn_b10, hr_b10, hn_b11, hr_b11, hn_bm, hr_bm, hn_b14, hr_b14, hn_b15, hr_b15, go_sem, ↓reduceIte, Nat.reduceEqDiff, Nat.reduceLT, Nat.reduceLeDiff, Nat.reduceAdd, Nat.reduceMul, Nat.reduceSub, reduceCtorEq, Int.reduceToNat, Int.reduceLT, Int.reduceLE, Int.reduceEq, Int.reduceNe, Int.reduceBEq, Nat.reduceBEq, Int.reduceBNe, Nat.reduceBNe, Int.reduceAdd, Int.reduceSub, Int.reduceMul, Int.reduceNeg]
            exact ⟨H, (AH.le_add (AH.le_add (AH.le_add (AH.le_add (AH.le_add (AH.le_add (AH.le_add (AH.le_add (AH.le_add (AH.le_refl _) ((by simp only [fresh_add, fresh_set, ne_eq, hn_b4, not_false_eq_true, and_self] : Fresh _ b4).2)) ((by simp only [fresh_add, fresh_set, ne_eq, hn_b7, not_false_eq_true, and_self] : Fresh _ b7).2)) ((by simp only [fresh_add, fresh_set, ne_eq, hn_b9, not_false_eq_true, and_self] : Fresh _ b9).2)) ((by simp only [fresh_add, fresh_set, ne_eq, hn_bg, not_false_eq_true, and_self] : Fresh _ bg).2)) ((by simp only [fresh_add, fresh_set, ne_eq, hn_b10, not_false_eq_true, and_self] : Fresh _ b10).2)) ((by simp only [fresh_add, fresh_set, ne_eq, hn_b11, not_false_eq_true, and_self] : Fresh _ b11).2)) ((by simp only [fresh_add, fresh_set, ne_eq, hn_bm, not_false_eq_true, and_self] : Fresh _ bm).2)) ((by simp only [fresh_add, fresh_set, ne_eq, hn_b14, not_false_eq_true, and_self] : Fresh _ b14).2)) ((by simp only [fresh_add, fresh_set, ne_eq, hn_b15, not_false_eq_true, and_self] : Fresh _ b15).2)), (by first | exact ⟨rfl, rfl⟩ | rfl)⟩

        · 
          have he : mayF p L 0 k = 5 ∧ p % 2 = 0 := by
            rw [mr] at hro ⊢
            by_cases e0 : k = 0
            · rw [if_pos e0] at hro; exact absurd rfl hro
            · rw [if_neg e0] at hro ⊢
              by_cases e1 : p % 2 = 0
              · rw [if_pos e1]; exact ⟨rfl, e1⟩
              · rw [if_neg e1] at hro; exact absurd rfl hro
          obtain ⟨he, hp2⟩ := he
          refine ACalls.mono (Do_n (p := p) (op := 0) (rec := k) (e := 5) (R := L) (v := zr) (sg (n := ng) ?_) hlen.symm he (by decide)) ?_
          · (show AH.find _ _ = _; simp only [find_add_self, find_add_ne, find_fresh, fresh_add, ne_eq, not_false_eq_true, true_and, and_true, and_self, AH.le_refl, enc_len, enc_take, enc_scal, enc_z4, eqlRc, neqRc, hn_b4, hr_b4, hn_b7, hr_b7, hn_b9, hr_b9, hn_bg, hr_bg, hn_b10, hr_b10, hn_b11, hr_b11])
          rintro _ _ ⟨rfl, rfl⟩
          unfold dbad
          simp (dsimp := false) (maxSteps := 4000000) only [AH.le_refl, enc_len, enc_take, enc_scal, enc_z4, eqlRc, neqRc, hn_b4, hr_b4, hn_b7, hr_b7, hn_b9, hr_b9, hn_bg, hr_bg, hn_b10, hr_b10, hn_b11, hr_b11, go_sem, ↓reduceIte, Nat.reduceEqDiff, Nat.reduceLT, Nat.reduceLeDiff, Nat.reduceAdd, Nat.reduceMul, Nat.reduceSub, reduceCtorEq, Int.reduceToNat, Int.reduceLT, Int.reduceLE, Int.reduceEq, Int.reduceNe, Int.reduceBEq, Nat.reduceBEq, Int.reduceBNe, Nat.reduceBNe, Int.reduceAdd, Int.reduceSub, Int.reduceMul, Int.reduceNeg]
          refine AllB.mk fun b14 h_b14 => ?_; have hn_b14 := h_b14; (try simp only [fresh_add, fresh_set, ne_eq] at hn_b14); have hr_b14 := hn_b14; (try simp only [@eq_comm Nat b14] at hr_b14); simp (dsimp := false) (maxSteps := 4000000) only [AH.le_refl, enc_len, enc_take, enc_scal, enc_z4, eqlRc, neqRc, hn_b4, hr_b4, hn_b7, hr_b7, hn_b9, hr_b9, hn_bg, hr_bg, hn_b10, hr_b10, hn_b11, hr_b11, hn_b14, hr_b14, go_sem, ↓reduceIte, Nat.reduceEqDiff, Nat.reduceLT, Nat.reduceLeDiff, Nat.reduceAdd, Nat.reduceMul, Nat.reduceSub, reduceCtorEq, Int.reduceToNat, Int.reduceLT, Int.reduceLE, Int.reduceEq, Int.reduceNe, Int.reduceBEq, Nat.reduceBEq, Int.reduceBNe, Nat.reduceBNe, Int.reduceAdd, Int.reduceSub, Int.reduceMul, Int.reduceNeg]
          refine AllB.mk fun b15 h_b15 => ?_; have hn_b15 := h_b15; (try simp only [fresh_add, fresh_set, ne_eq] at hn_b15); have hr_b15 := hn_b15; (try simp only [@eq_comm Nat b15] at hr_b15); simp (dsimp := false) (maxSteps := 4000000) only [AH.le_refl, enc_len, enc_take, enc_scal, enc_z4, eqlRc, neqRc, hn_b4, hr_b4, hn_b7, hr_b7, hn_b9, hr_b9, hn_bg, hr_bg, hn_b10, hr_b10, hn_b11, hr_b11, hn_b14, hr_b14, hn_b15, hr_b15, go_sem, ↓reduceIte, Nat.reduceEqDiff, Nat.reduceLT, Nat.reduceLeDiff, Nat.reduceAdd, Nat.reduceMul, Nat.reduceSub, reduceCtorEq, Int.reduceToNat, Int.reduceLT, Int.reduceLE, Int.reduceEq, Int.reduceNe, Int.reduceBEq, Nat.reduceBEq, Int.reduceBNe, Nat.reduceBNe, Int.reduceAdd, Int.reduceSub, Int.reduceMul, Int.reduceNeg]
          have hvw := hw1
          rcases (by omega : op = 0 ∨ op = 1 ∨ op = 2) with rfl | rfl | rfl
          · have hs0 : sameF p p L S = true := by rw [hw0 rfl]; exact sameF_self p S
            refine (awake_c _).mono ?_; rintro _ _ ⟨rfl, rfl⟩
            simp (dsimp := false) (maxSteps := 4000000) only [and1_i64, hp2, AH.le_refl, enc_len, enc_take, enc_scal, enc_z4, eqlRc, neqRc, hn_b4, hr_b4, hn_b7, hr_b7, hn_b9, hr_b9, hn_bg, hr_bg, hn_b10, hr_b10, hn_b11, hr_b11, hn_b14, hr_b14, hn_b15, hr_b15, go_sem, ↓reduceIte, Nat.reduceEqDiff, Nat.reduceLT, Nat.reduceLeDiff, Nat.reduceAdd, Nat.reduceMul, Nat.reduceSub, reduceCtorEq, Int.reduceToNat, Int.reduceLT, Int.reduceLE, Int.reduceEq, Int.reduceNe, Int.reduceBEq, Nat.reduceBEq, Int.reduceBNe, Nat.reduceBNe, Int.reduceAdd, Int.reduceSub, Int.reduceMul, Int.reduceNeg]
            refine ACalls.mono (Same_x (p := p) (q := p) (sg (n := ng) ?_) ((((((((hs2.add (by simp only [fresh_add, ne_eq, hn_b4, not_false_eq_true, and_self] : Fresh _ b4)).add (by simp only [fresh_add, ne_eq, hn_b7, not_false_eq_true, and_self] : Fresh _ b7)).add (by simp only [fresh_add, ne_eq, hn_b9, not_false_eq_true, and_self] : Fresh _ b9)).add (by simp only [fresh_add, ne_eq, hn_bg, not_false_eq_true, and_self] : Fresh _ bg)).add (by simp only [fresh_add, ne_eq, hn_b10, not_false_eq_true, and_self] : Fresh _ b10)).add (by simp only [fresh_add, ne_eq, hn_b11, not_false_eq_true, and_self] : Fresh _ b11)).add (by simp only [fresh_add, ne_eq, hn_b14, not_false_eq_true, and_self] : Fresh _ b14)).add (by simp only [fresh_add, ne_eq, hn_b15, not_false_eq_true, and_self] : Fresh _ b15)) hlen.symm rfl) ?_
            · (show AH.find _ _ = _; simp only [find_add_self, find_add_ne, find_fresh, fresh_add, ne_eq, not_false_eq_true, true_and, and_true, and_self, AH.le_refl, enc_len, enc_take, enc_scal, enc_z4, eqlRc, neqRc, hn_b4, hr_b4, hn_b7, hr_b7, hn_b9, hr_b9, hn_bg, hr_bg, hn_b10, hr_b10, hn_b11, hr_b11, hn_b14, hr_b14, hn_b15, hr_b15])
            rintro _ _ ⟨rfl, rfl⟩
            simp (dsimp := false) (maxSteps := 4000000) only [hs0, and1_i64, hp2, AH.le_refl, enc_len, enc_take, enc_scal, enc_z4, eqlRc, neqRc, hn_b4, hr_b4, hn_b7, hr_b7, hn_b9, hr_b9, hn_bg, hr_bg, hn_b10, hr_b10, hn_b11, hr_b11, hn_b14, hr_b14, hn_b15, hr_b15, go_sem, ↓reduceIte, Nat.reduceEqDiff, Nat.reduceLT, Nat.reduceLeDiff, Nat.reduceAdd, Nat.reduceMul, Nat.reduceSub, reduceCtorEq, Int.reduceToNat, Int.reduceLT, Int.reduceLE, Int.reduceEq, Int.reduceNe, Int.reduceBEq, Nat.reduceBEq, Int.reduceBNe, Nat.reduceBNe, Int.reduceAdd, Int.reduceSub, Int.reduceMul, Int.reduceNeg]
            exact ⟨H, (AH.le_add (AH.le_add (AH.le_add (AH.le_add (AH.le_add (AH.le_add (AH.le_add (AH.le_add (AH.le_refl _) ((by simp only [fresh_add, fresh_set, ne_eq, hn_b4, not_false_eq_true, and_self] : Fresh _ b4).2)) ((by simp only [fresh_add, fresh_set, ne_eq, hn_b7, not_false_eq_true, and_self] : Fresh _ b7).2)) ((by simp only [fresh_add, fresh_set, ne_eq, hn_b9, not_false_eq_true, and_self] : Fresh _ b9).2)) ((by simp only [fresh_add, fresh_set, ne_eq, hn_bg, not_false_eq_true, and_self] : Fresh _ bg).2)) ((by simp only [fresh_add, fresh_set, ne_eq, hn_b10, not_false_eq_true, and_self] : Fresh _ b10).2)) ((by simp only [fresh_add, fresh_set, ne_eq, hn_b11, not_false_eq_true, and_self] : Fresh _ b11).2)) ((by simp only [fresh_add, fresh_set, ne_eq, hn_b14, not_false_eq_true, and_self] : Fresh _ b14).2)) ((by simp only [fresh_add, fresh_set, ne_eq, hn_b15, not_false_eq_true, and_self] : Fresh _ b15).2)), (by first | exact ⟨rfl, rfl⟩ | rfl)⟩
          · have hs1 := hw1 rfl
            refine (awake_c _).mono ?_; rintro _ _ ⟨rfl, rfl⟩
            simp (dsimp := false) (maxSteps := 4000000) only [hs1, and1_i64, hp2, AH.le_refl, enc_len, enc_take, enc_scal, enc_z4, eqlRc, neqRc, hn_b4, hr_b4, hn_b7, hr_b7, hn_b9, hr_b9, hn_bg, hr_bg, hn_b10, hr_b10, hn_b11, hr_b11, hn_b14, hr_b14, hn_b15, hr_b15, go_sem, ↓reduceIte, Nat.reduceEqDiff, Nat.reduceLT, Nat.reduceLeDiff, Nat.reduceAdd, Nat.reduceMul, Nat.reduceSub, reduceCtorEq, Int.reduceToNat, Int.reduceLT, Int.reduceLE, Int.reduceEq, Int.reduceNe, Int.reduceBEq, Nat.reduceBEq, Int.reduceBNe, Nat.reduceBNe, Int.reduceAdd, Int.reduceSub, Int.reduceMul, Int.reduceNeg]
            exact ⟨H, (AH.le_add (AH.le_add (AH.le_add (AH.le_add (AH.le_add (AH.le_add (AH.le_add (AH.le_add (AH.le_refl _) ((by simp only [fresh_add, fresh_set, ne_eq, hn_b4, not_false_eq_true, and_self] : Fresh _ b4).2)) ((by simp only [fresh_add, fresh_set, ne_eq, hn_b7, not_false_eq_true, and_self] : Fresh _ b7).2)) ((by simp only [fresh_add, fresh_set, ne_eq, hn_b9, not_false_eq_true, and_self] : Fresh _ b9).2)) ((by simp only [fresh_add, fresh_set, ne_eq, hn_bg, not_false_eq_true, and_self] : Fresh _ bg).2)) ((by simp only [fresh_add, fresh_set, ne_eq, hn_b10, not_false_eq_true, and_self] : Fresh _ b10).2)) ((by simp only [fresh_add, fresh_set, ne_eq, hn_b11, not_false_eq_true, and_self] : Fresh _ b11).2)) ((by simp only [fresh_add, fresh_set, ne_eq, hn_b14, not_false_eq_true, and_self] : Fresh _ b14).2)) ((by simp only [fresh_add, fresh_set, ne_eq, hn_b15, not_false_eq_true, and_self] : Fresh _ b15).2)), (by first | exact ⟨rfl, rfl⟩ | rfl)⟩
          · refine (awake_c _).mono ?_; rintro _ _ ⟨rfl, rfl⟩
            simp (dsimp := false) (maxSteps := 4000000) only [and1_i64, hp2, AH.le_refl, enc_len, enc_take, enc_scal, enc_z4, eqlRc, neqRc, hn_b4, hr_b4, hn_b7, hr_b7, hn_b9, hr_b9, hn_bg, hr_bg, hn_b10, hr_b10, hn_b11, hr_b11, hn_b14, hr_b14, hn_b15, hr_b15, go_sem, ↓reduceIte, Nat.reduceEqDiff, Nat.reduceLT, Nat.reduceLeDiff, Nat.reduceAdd, Nat.reduceMul, Nat.reduceSub, reduceCtorEq, Int.reduceToNat, Int.reduceLT, Int.reduceLE, Int.reduceEq, Int.reduceNe, Int.reduceBEq, Nat.reduceBEq, Int.reduceBNe, Nat.reduceBNe, Int.reduceAdd, Int.reduceSub, Int.reduceMul, Int.reduceNeg]
            exact ⟨H, (AH.le_add (AH.le_add (AH.le_add (AH.le_add (AH.le_add (AH.le_add (AH.le_add (AH.le_add (AH.le_refl _) ((by simp only [fresh_add, fresh_set, ne_eq, hn_b4, not_false_eq_true, and_self] : Fresh _ b4).2)) ((by simp only [fresh_add, fresh_set, ne_eq, hn_b7, not_false_eq_true, and_self] : Fresh _ b7).2)) ((by simp only [fresh_add, fresh_set, ne_eq, hn_b9, not_false_eq_true, and_self] : Fresh _ b9).2)) ((by simp only [fresh_add, fresh_set, ne_eq, hn_bg, not_false_eq_true, and_self] : Fresh _ bg).2)) ((by simp only [fresh_add, fresh_set, ne_eq, hn_b10, not_false_eq_true, and_self] : Fresh _ b10).2)) ((by simp only [fresh_add, fresh_set, ne_eq, hn_b11, not_false_eq_true, and_self] : Fresh _ b11).2)) ((by simp only [fresh_add, fresh_set, ne_eq, hn_b14, not_false_eq_true, and_self] : Fresh _ b14).2)) ((by simp only [fresh_add, fresh_set, ne_eq, hn_b15, not_false_eq_true, and_self] : Fresh _ b15).2)), (by first | exact ⟨rfl, rfl⟩ | rfl)⟩

    
  · 
    refine (Do_n (((hs2.add (by simp only [fresh_add, ne_eq, hn_b4, not_false_eq_true, and_self] : Fresh _ b4)).add (by simp only [fresh_add, ne_eq, hn_b7, not_false_eq_true, and_self] : Fresh _ b7)).add (by simp only [fresh_add, ne_eq, hn_b9, not_false_eq_true, and_self] : Fresh _ b9)) rfl rfl hm).mono ?_; rintro _ _ ⟨rfl, rfl⟩
    unfold dbad
    simp (dsimp := false) (maxSteps := 4000000) only [AH.le_refl, enc_len, enc_take, enc_scal, enc_z4, eqlRc, neqRc, hn_b4, hr_b4, hn_b7, hr_b7, hn_b9, hr_b9, go_sem, ↓reduceIte, Nat.reduceEqDiff, Nat.reduceLT, Nat.reduceLeDiff, Nat.reduceAdd, Nat.reduceMul, Nat.reduceSub, reduceCtorEq, Int.reduceToNat, Int.reduceLT, Int.reduceLE, Int.reduceEq, Int.reduceNe, Int.reduceBEq, Nat.reduceBEq, Int.reduceBNe, Nat.reduceBNe, Int.reduceAdd, Int.reduceSub, Int.reduceMul, Int.reduceNeg]
    refine AllB.mk fun b10 h_b10 => ?_; have hn_b10 := h_b10; (try simp only [fresh_add, fresh_set, ne_eq] at hn_b10); have hr_b10 := hn_b10; (try simp only [@eq_comm Nat b10] at hr_b10); simp (dsimp := false) (maxSteps := 4000000) only [AH.le_refl, enc_len, enc_take, enc_scal, enc_z4, eqlRc, neqRc, hn_b4, hr_b4, hn_b7, hr_b7, hn_b9, hr_b9, hn_b10, hr_b10, go_sem, ↓reduceIte, Nat.reduceEqDiff, Nat.reduceLT, Nat.reduceLeDiff, Nat.reduceAdd, Nat.reduceMul, Nat.reduceSub, reduceCtorEq, Int.reduceToNat, Int.reduceLT, Int.reduceLE, Int.reduceEq, Int.reduceNe, Int.reduceBEq, Nat.reduceBEq, Int.reduceBNe, Nat.reduceBNe, Int.reduceAdd, Int.reduceSub, Int.reduceMul, Int.reduceNeg]
    refine AllB.mk fun b11 h_b11 => ?_; have hn_b11 := h_b11; (try simp only [fresh_add, fresh_set, ne_eq] at hn_b11); have hr_b11 := hn_b11; (try simp only [@eq_comm Nat b11] at hr_b11); simp (dsimp := false) (maxSteps := 4000000) only [AH.le_refl, enc_len, enc_take, enc_scal, enc_z4, eqlRc, neqRc, hn_b4, hr_b4, hn_b7, hr_b7, hn_b9, hr_b9, hn_b10, hr_b10, hn_b11, hr_b11, go_sem, ↓reduceIte, Nat.reduceEqDiff, Nat.reduceLT, Nat.reduceLeDiff, Nat.reduceAdd, Nat.reduceMul, Nat.reduceSub, reduceCtorEq, Int.reduceToNat, Int.reduceLT, Int.reduceLE, Int.reduceEq, Int.reduceNe, Int.reduceBEq, Nat.reduceBEq, Int.reduceBNe, Nat.reduceBNe, Int.reduceAdd, Int.reduceSub, Int.reduceMul, Int.reduceNeg]
    simp (dsimp := false) (maxSteps := 4000000) only [hm, AH.le_refl, enc_len, enc_take, enc_scal, enc_z4, eqlRc, neqRc, hn_b4, hr_b4, hn_b7, hr_b7, hn_b9, hr_b9, hn_b10, hr_b10, hn_b11, hr_b11, go_sem, ↓reduceIte, Nat.reduceEqDiff, Nat.reduceLT, Nat.reduceLeDiff, Nat.reduceAdd, Nat.reduceMul, Nat.reduceSub, reduceCtorEq, Int.reduceToNat, Int.reduceLT, Int.reduceLE, Int.reduceEq, Int.reduceNe, Int.reduceBEq, Nat.reduceBEq, Int.reduceBNe, Nat.reduceBNe, Int.reduceAdd, Int.reduceSub, Int.reduceMul, Int.reduceNeg]
    refine (awake_c _).mono ?_; rintro _ _ ⟨rfl, rfl⟩
    simp (dsimp := false) (maxSteps := 4000000) only [zr_enc, AH.le_refl, enc_len, enc_take, enc_scal, enc_z4, eqlRc, neqRc, hn_b4, hr_b4, hn_b7, hr_b7, hn_b9, hr_b9, hn_b10, hr_b10, hn_b11, hr_b11, go_sem, ↓reduceIte, Nat.reduceEqDiff, Nat.reduceLT, Nat.reduceLeDiff, Nat.reduceAdd, Nat.reduceMul, Nat.reduceSub, reduceCtorEq, Int.reduceToNat, Int.reduceLT, Int.reduceLE, Int.reduceEq, Int.reduceNe, Int.reduceBEq, Nat.reduceBEq, Int.reduceBNe, Nat.reduceBNe, Int.reduceAdd, Int.reduceSub, Int.reduceMul, Int.reduceNeg]
    exact ⟨H, (AH.le_add (AH.le_add (AH.le_add (AH.le_add (AH.le_add (AH.le_refl _) ((by simp only [fresh_add, fresh_set, ne_eq, hn_b4, not_false_eq_true, and_self] : Fresh _ b4).2)) ((by simp only [fresh_add, fresh_set, ne_eq, hn_b7, not_false_eq_true, and_self] : Fresh _ b7).2)) ((by simp only [fresh_add, fresh_set, ne_eq, hn_b9, not_false_eq_true, and_self] : Fresh _ b9).2)) ((by simp only [fresh_add, fresh_set, ne_eq, hn_b10, not_false_eq_true, and_self] : Fresh _ b10).2)) ((by simp only [fresh_add, fresh_set, ne_eq, hn_b11, not_false_eq_true, and_self] : Fresh _ b11).2)), (by first | exact ⟨rfl, rfl⟩ | rfl)⟩
    
end Go.Proofs.Ytadbmmdmibiikaa.File
