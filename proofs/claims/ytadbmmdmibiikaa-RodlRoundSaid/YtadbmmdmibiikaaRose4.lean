/- rose: Sequence. -/
import Derived.Test.YtadbmmdmibiikaaRose3
namespace Go.Proofs.Ytadbmmdmibiikaa.Rose
set_option linter.unusedSimpArgs false
set_option linter.unusedVariables false
open Go Go.AX Go.Proofs Ty Go.Proofs.Ytadbmmdmibiikaa.File
set_option maxHeartbeats 4000000
set_option maxRecDepth 10000

theorem Clip_i (base : Option Addr) (n cap : Nat) (H : AH) (h : n ≤ cap) :
    ACalls Try.prog 70 #[.slice base n cap] H (fun v H' => v = .slice base n n ∧ H = H') := by
  refine ACalls.enter2 Try.func70 rfl Try.ntmps70 Try.results70 (by simp) ?_; simp (dsimp := false) (maxSteps := 4000000) only [go_sem, ↓reduceIte, Nat.reduceEqDiff, Nat.reduceLT, Nat.reduceLeDiff, Nat.reduceAdd, Nat.reduceMul, Nat.reduceSub, reduceCtorEq, Int.reduceToNat, Int.reduceLT, Int.reduceLE, Int.reduceEq, Int.reduceNe, Int.reduceBEq, Nat.reduceBEq, Int.reduceBNe, Nat.reduceBNe, Int.reduceAdd, Int.reduceSub, Int.reduceMul, Int.reduceNeg]
  have h' : (n : Int) ≤ cap := by omega
  simp (dsimp := false) (maxSteps := 4000000) only [h', Int.le_refl, go_sem, ↓reduceIte, Nat.reduceEqDiff, Nat.reduceLT, Nat.reduceLeDiff, Nat.reduceAdd, Nat.reduceMul, Nat.reduceSub, reduceCtorEq, Int.reduceToNat, Int.reduceLT, Int.reduceLE, Int.reduceEq, Int.reduceNe, Int.reduceBEq, Nat.reduceBEq, Int.reduceBNe, Nat.reduceBNe, Int.reduceAdd, Int.reduceSub, Int.reduceMul, Int.reduceNeg]
  exact ⟨H, (AH.le_refl _), (by first | exact ⟨rfl, rfl⟩ | rfl)⟩
def outF (T : List Rc) : List Int := T.map (fun r => r.1)
def sq (p : Int) (R : List Rc) : Bool := goodF p R && seqB (outF R.tail) && sameF p 3 R (fileR (outF R.tail))
def sbad : Value := .tuple #[.slice none 0 0, .int .i64 2]
theorem out_succ {T : List Rc} {i : Nat} {r : Rc} (h : T[i]? = some r) : (outF (T.take i)).map e1 ++ [e1 r.1] = (outF (T.take (i + 1))).map e1 := by
  simp [outF, List.take_add_one, h]
theorem File_x {L : List Int} {n : Nat} {base : Option Addr} {cap : Nat} {H : AH} (hs : SlcIn H 1 base cap (L.map e1)) (g : seqB L = false) (hn : n = L.length) :
    ACalls Try.prog 15 #[.slice base n cap] H (fun v H' => v = fbad 1 ∧ H = H') := by
  subst hn; exact File_bad L base cap H hs g
theorem File_y {L : List Int} {n : Nat} {base : Option Addr} {cap : Nat} {H : AH} (hs : SlcIn H 1 base cap (L.map e1)) (g : seqB L = true) (hn : n = L.length) :
    ACalls Try.prog 15 #[.slice base n cap] H (fun v H' => ∃ b, Fresh H b ∧ v = .tuple #[.agg #[.int .i64 3, .slice (some ⟨b, 0, none⟩) (n + 1) (n + 1)], .int .i64 0] ∧ H' = H.add b (.cells ((fileR L).map enc).flatten 64 ((n + 1) * 4))) := by
  subst hn; exact File_ok L base cap H hs g
theorem Same_x {p q : Int} {n m : Nat} {R S : List Rc} {b1 b2 : Option Addr} {c1 c2 : Nat} {H : AH} (hs : SlcIn H 4 b1 c1 (R.map enc)) (ht : SlcIn H 4 b2 c2 (S.map enc)) (hn : n = R.length) (hm : m = S.length) :
    ACalls Try.prog 66 #[.agg #[.int .i64 p, .slice b1 n c1], .agg #[.int .i64 q, .slice b2 m c2]] H (fun v H' => v = .bool (sameF p q R S) ∧ H = H') := by
  subst hn; subst hm; exact Same_c p q R S b1 b2 c1 c2 H hs ht
theorem Sequence_nogood (p : Int) (R : List Rc) (base : Option Addr) (cap : Nat) (H : AH) (hs : SlcIn H 4 base cap (R.map enc)) (g : goodF p R = false) :
    ACalls Try.prog 18 #[fv p base R.length cap] H (fun v H' => v = sbad ∧ H = H') := by
  have hg := fun H1 (h1 : SlcIn H1 4 base cap (R.map enc)) => Good_c p R base cap H1 h1
  unfold fv at hg ⊢
  refine ACalls.enter2 Try.func18 rfl Try.ntmps18 Try.results18 (by simp) ?_; simp (dsimp := false) (maxSteps := 4000000) only [go_sem, ↓reduceIte, Nat.reduceEqDiff, Nat.reduceLT, Nat.reduceLeDiff, Nat.reduceAdd, Nat.reduceMul, Nat.reduceSub, reduceCtorEq, Int.reduceToNat, Int.reduceLT, Int.reduceLE, Int.reduceEq, Int.reduceNe, Int.reduceBEq, Nat.reduceBEq, Int.reduceBNe, Nat.reduceBNe, Int.reduceAdd, Int.reduceSub, Int.reduceMul, Int.reduceNeg]
  refine AllB.mk fun b1 h_b1 => ?_; have hn_b1 := h_b1; (try simp only [fresh_add, fresh_set, ne_eq] at hn_b1); have hr_b1 := hn_b1; (try simp only [@eq_comm Nat b1] at hr_b1); simp (dsimp := false) (maxSteps := 4000000) only [hn_b1, hr_b1, go_sem, ↓reduceIte, Nat.reduceEqDiff, Nat.reduceLT, Nat.reduceLeDiff, Nat.reduceAdd, Nat.reduceMul, Nat.reduceSub, reduceCtorEq, Int.reduceToNat, Int.reduceLT, Int.reduceLE, Int.reduceEq, Int.reduceNe, Int.reduceBEq, Nat.reduceBEq, Int.reduceBNe, Nat.reduceBNe, Int.reduceAdd, Int.reduceSub, Int.reduceMul, Int.reduceNeg]
  refine (hg _ (hs.add (by simp only [fresh_add, ne_eq, hn_b1, not_false_eq_true, and_self] : Fresh _ b1))).mono ?_; rintro _ _ ⟨rfl, rfl⟩
  simp (dsimp := false) (maxSteps := 4000000) only [g, hn_b1, hr_b1, go_sem, ↓reduceIte, Nat.reduceEqDiff, Nat.reduceLT, Nat.reduceLeDiff, Nat.reduceAdd, Nat.reduceMul, Nat.reduceSub, reduceCtorEq, Int.reduceToNat, Int.reduceLT, Int.reduceLE, Int.reduceEq, Int.reduceNe, Int.reduceBEq, Nat.reduceBEq, Int.reduceBNe, Nat.reduceBNe, Int.reduceAdd, Int.reduceSub, Int.reduceMul, Int.reduceNeg]
  exact ⟨H, (AH.le_add (AH.le_refl _) ((by simp only [fresh_add, fresh_set, ne_eq, hn_b1, not_false_eq_true, and_self] : Fresh _ b1).2)), (by first | exact ⟨rfl, rfl⟩ | rfl)⟩
theorem Sequence_good (p : Int) (R : List Rc) (base : Option Addr) (cap : Nat) (H : AH) (hs : SlcIn H 4 base cap (R.map enc)) (hw : ∀ r ∈ R, RcOk r) (g : goodF p R = true) :
    ACalls Try.prog 18 #[fv p base R.length cap] H (fun v H' => (sq p R = false ∧ v = sbad ∧ H = H') ∨ (sq p R = true ∧ ∃ b' c', v = .tuple #[.slice b' R.tail.length R.tail.length, .int .i64 0] ∧ OwnS H H' 3 1 b' c' ((outF R.tail).map e1) ∧ Keep H H' fun _ => False)) := by
  obtain ⟨hp0, hp1, hr0, hr1⟩ := goodF_p g
  have hg := fun H1 (h1 : SlcIn H1 4 base cap (R.map enc)) => Good_c p R base cap H1 h1
  unfold fv at hg ⊢
  cases R with
  | nil => exact absurd rfl hr0
  | cons r0 T =>
  obtain ⟨b, o, rfl, _, _⟩ := hs.get (r := enc r0) (i := 0) rfl
  have hle := hs.le
  have hst := SlcIn.tail (by simpa only [List.map_cons] using hs)
  generalize hbt : (some ⟨b, if cap = 1 then o else o + 1 * 4, none⟩ : Option Addr) = bt at hst
  simp only [List.length_map, List.length_cons] at hle hr1
  refine ACalls.enter2 Try.func18 rfl Try.ntmps18 Try.results18 (by simp) ?_; simp (dsimp := false) (maxSteps := 4000000) only [hbt, List.length_cons, go_sem, ↓reduceIte, Nat.reduceEqDiff, Nat.reduceLT, Nat.reduceLeDiff, Nat.reduceAdd, Nat.reduceMul, Nat.reduceSub, reduceCtorEq, Int.reduceToNat, Int.reduceLT, Int.reduceLE, Int.reduceEq, Int.reduceNe, Int.reduceBEq, Nat.reduceBEq, Int.reduceBNe, Nat.reduceBNe, Int.reduceAdd, Int.reduceSub, Int.reduceMul, Int.reduceNeg]
  refine AllB.mk fun b1 h_b1 => ?_; have hn_b1 := h_b1; (try simp only [fresh_add, fresh_set, ne_eq] at hn_b1); have hr_b1 := hn_b1; (try simp only [@eq_comm Nat b1] at hr_b1); simp (dsimp := false) (maxSteps := 4000000) only [hbt, List.length_cons, hn_b1, hr_b1, go_sem, ↓reduceIte, Nat.reduceEqDiff, Nat.reduceLT, Nat.reduceLeDiff, Nat.reduceAdd, Nat.reduceMul, Nat.reduceSub, reduceCtorEq, Int.reduceToNat, Int.reduceLT, Int.reduceLE, Int.reduceEq, Int.reduceNe, Int.reduceBEq, Nat.reduceBEq, Int.reduceBNe, Nat.reduceBNe, Int.reduceAdd, Int.reduceSub, Int.reduceMul, Int.reduceNeg]
  refine (hg _ (hs.add (by simp only [fresh_add, ne_eq, hn_b1, not_false_eq_true, and_self] : Fresh _ b1))).mono ?_; rintro _ _ ⟨rfl, rfl⟩
  have c1 : (1 : Int) ≤ ((T.length + 1 : Nat) : Int) := by omega
  have c2 : T.length + 1 ≤ cap := hle
  have c3 : T.length + 1 - 1 = T.length := by omega
  have n1 : Fresh H b1 := h_b1
  simp (dsimp := false) (maxSteps := 4000000) only [g, c1, c2, c3, hbt, List.length_cons, hn_b1, hr_b1, go_sem, ↓reduceIte, Nat.reduceEqDiff, Nat.reduceLT, Nat.reduceLeDiff, Nat.reduceAdd, Nat.reduceMul, Nat.reduceSub, reduceCtorEq, Int.reduceToNat, Int.reduceLT, Int.reduceLE, Int.reduceEq, Int.reduceNe, Int.reduceBEq, Nat.reduceBEq, Int.reduceBNe, Nat.reduceBNe, Int.reduceAdd, Int.reduceSub, Int.reduceMul, Int.reduceNeg]
  refine AWp.loopr (ι := Nat × Option Addr × Nat) (fun x A => x.1 ≤ T.length ∧ ∃ B, A = (B.add b1 (.cells [.int .i64 p, .slice (some ⟨b, o, none⟩) (T.length + 1) cap] 25 2)) ∧ OwnS H B 3 1 x.2.1 x.2.2 ((outF (T.take x.1)).map e1) ∧ (Keep H B fun _ => False) ∧ Fresh B b1)
    (fun x => [(16, .int .i64 x.1), (15, .int .i64 T.length), (14, .slice bt T.length (cap - 1)), (1, .pointer (some ⟨b1, 0, none⟩)), (2, .slice none 0 0), (3, .int .i64 0), (4, .slice x.2.1 x.1 x.2.2)]) (fun x => T.length - x.1) (0, none, 0) (H.add b1 (.cells [.int .i64 p, .slice (some ⟨b, o, none⟩) (T.length + 1) cap] 25 2))
    ⟨by simp, H, rfl, OwnS.nil, Keep.refl, h_b1⟩ (FrLe.of_lks ?_) (AH.le_refl _) fun x A hi Q again out => ?_
  · simp (dsimp := false) (maxSteps := 4000000) only [hbt, List.length_cons, hn_b1, hr_b1, go_sem, ↓reduceIte, Nat.reduceEqDiff, Nat.reduceLT, Nat.reduceLeDiff, Nat.reduceAdd, Nat.reduceMul, Nat.reduceSub, reduceCtorEq, Int.reduceToNat, Int.reduceLT, Int.reduceLE, Int.reduceEq, Int.reduceNe, Int.reduceBEq, Nat.reduceBEq, Int.reduceBNe, Nat.reduceBNe, Int.reduceAdd, Int.reduceSub, Int.reduceMul, Int.reduceNeg]
  · clear hn_b1 hr_b1 h_b1
    
    obtain ⟨i, base', cap'⟩ := x
    obtain ⟨hi, B, rfl, hO, hK, g1⟩ := hi
    dsimp only at hi hO again ⊢
    
    by_cases hlt : (i : Int) < T.length
    · obtain ⟨r, hr⟩ := get_some (l := T) (i := i) (by omega)
      have hsB : SlcIn B 4 bt (cap - 1) (T.map enc) := hst.keep hK fun _ _ h => h
      obtain ⟨q, o2, hbt2, hrow, _⟩ := hsB.get (map_get (f := enc) hr)
      subst hbt2
      have e1_ := i64_succ (i := i) (by omega)
      have nb1 : ¬ b1 = q := g1.ne_row hrow
      have hx1 : IntKind.i64.wrap r.1 = r.1 := by
        have := (hw r (List.mem_cons_of_mem _ (List.mem_of_getElem? hr))).1
        exact i64_eq (by omega) (by omega)
      have hrow' : B.row q (o2 + i * 4) 4 = some (enc r) := hrow
      
      simp (dsimp := false) (maxSteps := 4000000) only [hlt, hrow, nb1, g1, enc_len, enc_scal, enc_z4, hbt, List.length_cons, go_sem, ↓reduceIte, Nat.reduceEqDiff, Nat.reduceLT, Nat.reduceLeDiff, Nat.reduceAdd, Nat.reduceMul, Nat.reduceSub, reduceCtorEq, Int.reduceToNat, Int.reduceLT, Int.reduceLE, Int.reduceEq, Int.reduceNe, Int.reduceBEq, Nat.reduceBEq, Int.reduceBNe, Nat.reduceBNe, Int.reduceAdd, Int.reduceSub, Int.reduceMul, Int.reduceNeg]
      refine AllB.mk fun b6 h_b6 => ?_; have hn_b6 := h_b6; (try simp only [fresh_add, fresh_set, ne_eq] at hn_b6); have hr_b6 := hn_b6; (try simp only [@eq_comm Nat b6] at hr_b6); simp (dsimp := false) (maxSteps := 4000000) only [g1, enc_len, enc_scal, enc_z4, hbt, List.length_cons, hn_b6, hr_b6, go_sem, ↓reduceIte, Nat.reduceEqDiff, Nat.reduceLT, Nat.reduceLeDiff, Nat.reduceAdd, Nat.reduceMul, Nat.reduceSub, reduceCtorEq, Int.reduceToNat, Int.reduceLT, Int.reduceLE, Int.reduceEq, Int.reduceNe, Int.reduceBEq, Nat.reduceBEq, Int.reduceBNe, Nat.reduceBNe, Int.reduceAdd, Int.reduceSub, Int.reduceMul, Int.reduceNeg]
      simp (dsimp := false) (maxSteps := 4000000) only [hx1, enc_0, g1, enc_len, enc_scal, enc_z4, hbt, List.length_cons, hn_b6, hr_b6, go_sem, ↓reduceIte, Nat.reduceEqDiff, Nat.reduceLT, Nat.reduceLeDiff, Nat.reduceAdd, Nat.reduceMul, Nat.reduceSub, reduceCtorEq, Int.reduceToNat, Int.reduceLT, Int.reduceLE, Int.reduceEq, Int.reduceNe, Int.reduceBEq, Nat.reduceBEq, Int.reduceBNe, Nat.reduceBNe, Int.reduceAdd, Int.reduceSub, Int.reduceMul, Int.reduceNeg]
      refine AllB.mk fun bx h_bx => ?_; have hn_bx := h_bx; (try simp only [fresh_add, fresh_set, ne_eq] at hn_bx); have hr_bx := hn_bx; (try simp only [@eq_comm Nat bx] at hr_bx); simp (dsimp := false) (maxSteps := 4000000) only [g1, enc_len, enc_scal, enc_z4, hbt, List.length_cons, hn_b6, hr_b6, hn_bx, hr_bx, go_sem, ↓reduceIte, Nat.reduceEqDiff, Nat.reduceLT, Nat.reduceLeDiff, Nat.reduceAdd, Nat.reduceMul, Nat.reduceSub, reduceCtorEq, Int.reduceToNat, Int.reduceLT, Int.reduceLE, Int.reduceEq, Int.reduceNe, Int.reduceBEq, Nat.reduceBEq, Int.reduceBNe, Nat.reduceBNe, Int.reduceAdd, Int.reduceSub, Int.reduceMul, Int.reduceNeg]
      have p1 : AH.find (((B.add b1 (.cells [.int .i64 p, .slice (some ⟨b, o, none⟩) (T.length + 1) cap] 25 2)).add b6 (.cells (enc r) 64 4)).add bx (.cells [.int .i64 r.1] 3 1)) b1 = some (.cells [.int .i64 p, .slice (some ⟨b, o, none⟩) (T.length + 1) cap] 25 2) := by (show AH.find _ _ = _; simp only [find_add_self, find_add_ne, find_fresh, fresh_add, ne_eq, not_false_eq_true, true_and, and_true, and_self, g1, enc_len, enc_scal, enc_z4, hbt, List.length_cons, hn_b6, hr_b6, hn_bx, hr_bx])
      have hOx : OwnS H (((B.add b1 (.cells [.int .i64 p, .slice (some ⟨b, o, none⟩) (T.length + 1) cap] 25 2)).add b6 (.cells (enc r) 64 4)).add bx (.cells [.int .i64 r.1] 3 1)) 3 1 base' cap' ((outF (T.take i)).map e1) := ((hO.added g1).added h_b6).added h_bx
      have hKx : Keep H (((B.add b1 (.cells [.int .i64 p, .slice (some ⟨b, o, none⟩) (T.length + 1) cap] 25 2)).add b6 (.cells (enc r) 64 4)).add bx (.cells [.int .i64 r.1] 3 1)) fun _ => False := ((hK.nw g1).nw h_b6).nw h_bx
      refine APD.growW (x := .slice (some ⟨bx, 0, none⟩) 1 1) (R' := [e1 r.1]) (m := 1) hOx hKx.all se_22 rfl (by decide) (by rw [Try.underlying22]; rfl) (by simp [outF]; omega) rfl rfl (by rw [srow_some, row_add_self]; rfl) (by simp [e1]) (by simp [e1, scal]) (by omega) fun base2 cap2 A' hO' hK' hN' => ?_
      have q1 : A'.find b1 = some (.cells [.int .i64 p, .slice (some ⟨b, o, none⟩) (T.length + 1) cap] 25 2) := hK'.find (fun hx => by obtain ⟨a, ha, e⟩ := hx; exact hO.ne g1 a ha e.symm) p1
      refine ⟨_, top1 q1, ?_⟩
      
      
      simp (dsimp := false) (maxSteps := 4000000) only [e1_, g1, enc_len, enc_scal, enc_z4, hbt, List.length_cons, go_sem, ↓reduceIte, Nat.reduceEqDiff, Nat.reduceLT, Nat.reduceLeDiff, Nat.reduceAdd, Nat.reduceMul, Nat.reduceSub, reduceCtorEq, Int.reduceToNat, Int.reduceLT, Int.reduceLE, Int.reduceEq, Int.reduceNe, Int.reduceBEq, Nat.reduceBEq, Int.reduceBNe, Nat.reduceBNe, Int.reduceAdd, Int.reduceSub, Int.reduceMul, Int.reduceNeg]
      have hK2 := (hKx.ow hK' fun b ⟨a, ha, e⟩ => e ▸ hO.fresh a ha)
      obtain ⟨hK3, g13⟩ := hK2.dels n1
      have ne1 : ∀ a, base2 = some a → a.block ≠ b1 := fun a ha e => by
        rcases hN' a ha with ⟨a', h1, h2⟩ | h1
        · exact hO.ne g1 a' h1 (h2 ▸ e)
        · exact h1.ne_find p1 e
      have hO2 := hO'.del ne1
      rw [out_succ hr] at hO2
      exact again (i + 1, base2, cap2) _ _ _ ⟨by simp only; omega, _, rfl, hO2, hK3, g13⟩ (FrLe.of_lks (by simp (dsimp := false) (maxSteps := 4000000) only [g1, enc_len, enc_scal, enc_z4, hbt, List.length_cons, go_sem, ↓reduceIte, Nat.reduceEqDiff, Nat.reduceLT, Nat.reduceLeDiff, Nat.reduceAdd, Nat.reduceMul, Nat.reduceSub, reduceCtorEq, Int.reduceToNat, Int.reduceLT, Int.reduceLE, Int.reduceEq, Int.reduceNe, Int.reduceBEq, Nat.reduceBEq, Int.reduceBNe, Nat.reduceBNe, Int.reduceAdd, Int.reduceSub, Int.reduceMul, Int.reduceNeg])) (AH.le_refl _) (by simp only; omega)
      
    · obtain rfl : i = T.length := by simp at hi hlt; omega
      simp (dsimp := false) (maxSteps := 4000000) only [hlt, g1, enc_len, enc_scal, enc_z4, hbt, List.length_cons, go_sem, ↓reduceIte, Nat.reduceEqDiff, Nat.reduceLT, Nat.reduceLeDiff, Nat.reduceAdd, Nat.reduceMul, Nat.reduceSub, reduceCtorEq, Int.reduceToNat, Int.reduceLT, Int.reduceLE, Int.reduceEq, Int.reduceNe, Int.reduceBEq, Nat.reduceBEq, Int.reduceBNe, Nat.reduceBNe, Int.reduceAdd, Int.reduceSub, Int.reduceMul, Int.reduceNeg]
      refine out _ _ _ (by simp) ?_
      simp (dsimp := false) (maxSteps := 4000000) only [g1, enc_len, enc_scal, enc_z4, hbt, List.length_cons, go_sem, ↓reduceIte, Nat.reduceEqDiff, Nat.reduceLT, Nat.reduceLeDiff, Nat.reduceAdd, Nat.reduceMul, Nat.reduceSub, reduceCtorEq, Int.reduceToNat, Int.reduceLT, Int.reduceLE, Int.reduceEq, Int.reduceNe, Int.reduceBEq, Nat.reduceBEq, Int.reduceBNe, Nat.reduceBNe, Int.reduceAdd, Int.reduceSub, Int.reduceMul, Int.reduceNeg]
      rw [List.take_length] at hO
      have hsO : SlcIn B 1 base' cap' ((outF T).map e1) := hO.slc
      have hol : T.length = (outF T).length := by simp [outF]
      have hsB : SlcIn B 4 (some ⟨b, o, none⟩) cap ((r0 :: T).map enc) := hs.keep hK fun _ _ h => h
      cases gs : seqB (outF T) with
      | false =>
        refine (File_x (hsO.add g1) gs hol).mono ?_; rintro _ _ ⟨rfl, rfl⟩
        unfold fbad
        
        simp (dsimp := false) (maxSteps := 4000000) only [g1, enc_len, enc_scal, enc_z4, hbt, List.length_cons, go_sem, ↓reduceIte, Nat.reduceEqDiff, Nat.reduceLT, Nat.reduceLeDiff, Nat.reduceAdd, Nat.reduceMul, Nat.reduceSub, reduceCtorEq, Int.reduceToNat, Int.reduceLT, Int.reduceLE, Int.reduceEq, Int.reduceNe, Int.reduceBEq, Nat.reduceBEq, Int.reduceBNe, Nat.reduceBNe, Int.reduceAdd, Int.reduceSub, Int.reduceMul, Int.reduceNeg]
        refine AllB.mk fun b7 h_b7 => ?_; have hn_b7 := h_b7; (try simp only [fresh_add, fresh_set, ne_eq] at hn_b7); have hr_b7 := hn_b7; (try simp only [@eq_comm Nat b7] at hr_b7); simp (dsimp := false) (maxSteps := 4000000) only [g1, enc_len, enc_scal, enc_z4, hbt, List.length_cons, hn_b7, hr_b7, go_sem, ↓reduceIte, Nat.reduceEqDiff, Nat.reduceLT, Nat.reduceLeDiff, Nat.reduceAdd, Nat.reduceMul, Nat.reduceSub, reduceCtorEq, Int.reduceToNat, Int.reduceLT, Int.reduceLE, Int.reduceEq, Int.reduceNe, Int.reduceBEq, Nat.reduceBEq, Int.reduceBNe, Nat.reduceBNe, Int.reduceAdd, Int.reduceSub, Int.reduceMul, Int.reduceNeg]
        exact ⟨H, AH.le_trans hK.all (by (repeat (first | exact AH.le_refl _ | refine AH.le_add ?_ ?_)); all_goals (first | exact AH.le_refl _ | (show AH.find _ _ = _; simp only [find_add_self, find_add_ne, find_fresh, fresh_add, ne_eq, not_false_eq_true, true_and, and_true, and_self, g1, enc_len, enc_scal, enc_z4, hbt, List.length_cons, hn_b7, hr_b7]))), .inl ⟨by simp [sq, gs], rfl, rfl⟩⟩
        
      | true =>
        refine (File_y (hsO.add g1) gs hol).mono ?_; rintro _ _ ⟨bf, h_bf, rfl, rfl⟩
        have hn_bf := h_bf; (try simp only [fresh_add, fresh_set, ne_eq] at hn_bf); have hr_bf := hn_bf; (try simp only [@eq_comm Nat bf] at hr_bf)
        simp (dsimp := false) (maxSteps := 4000000) only [g1, enc_len, enc_scal, enc_z4, hbt, List.length_cons, hn_bf, hr_bf, go_sem, ↓reduceIte, Nat.reduceEqDiff, Nat.reduceLT, Nat.reduceLeDiff, Nat.reduceAdd, Nat.reduceMul, Nat.reduceSub, reduceCtorEq, Int.reduceToNat, Int.reduceLT, Int.reduceLE, Int.reduceEq, Int.reduceNe, Int.reduceBEq, Nat.reduceBEq, Int.reduceBNe, Nat.reduceBNe, Int.reduceAdd, Int.reduceSub, Int.reduceMul, Int.reduceNeg]
        refine AllB.mk fun b7 h_b7 => ?_; have hn_b7 := h_b7; (try simp only [fresh_add, fresh_set, ne_eq] at hn_b7); have hr_b7 := hn_b7; (try simp only [@eq_comm Nat b7] at hr_b7); simp (dsimp := false) (maxSteps := 4000000) only [g1, enc_len, enc_scal, enc_z4, hbt, List.length_cons, hn_bf, hr_bf, hn_b7, hr_b7, go_sem, ↓reduceIte, Nat.reduceEqDiff, Nat.reduceLT, Nat.reduceLeDiff, Nat.reduceAdd, Nat.reduceMul, Nat.reduceSub, reduceCtorEq, Int.reduceToNat, Int.reduceLT, Int.reduceLE, Int.reduceEq, Int.reduceNe, Int.reduceBEq, Nat.reduceBEq, Int.reduceBNe, Nat.reduceBNe, Int.reduceAdd, Int.reduceSub, Int.reduceMul, Int.reduceNeg]
        have sf : ∀ {H' : AH} {n}, AH.find H' bf = some (.cells ((fileR (outF T)).map enc).flatten 64 n) → SlcIn H' 4 (some ⟨bf, 0, none⟩) (T.length + 1) ((fileR (outF T)).map enc) := fun hf => SlcIn.of_find hf (rows4 _) (by simp [fileR, outF]) (by simp [fileR, outF]; omega)
        have hsC := ((hsB.add (k := .cells [.int .i64 p, .slice (some ⟨b, o, none⟩) (T.length + 1) cap] 25 2) g1).add (k := .cells ((fileR (outF T)).map enc).flatten 64 ((T.length + 1) * 4)) h_bf).add (k := .cells [.int .i64 3, .slice (some ⟨bf, 0, none⟩) (T.length + 1) (T.length + 1)] 25 2) h_b7
        refine ACalls.mono (Same_x (p := p) (q := 3) hsC (sf (n := (T.length + 1) * 4) ?_) (by simp) (by simp [fileR, outF])) ?_
        · (show AH.find _ _ = _; simp only [find_add_self, find_add_ne, find_fresh, fresh_add, ne_eq, not_false_eq_true, true_and, and_true, and_self, g1, enc_len, enc_scal, enc_z4, hbt, List.length_cons, hn_bf, hr_bf, hn_b7, hr_b7])
        rintro _ _ ⟨rfl, rfl⟩
        cases gm : sameF p 3 (r0 :: T) (fileR (outF T)) with
        | false =>
          simp (dsimp := false) (maxSteps := 4000000) only [gm, g1, enc_len, enc_scal, enc_z4, hbt, List.length_cons, hn_bf, hr_bf, hn_b7, hr_b7, go_sem, ↓reduceIte, Nat.reduceEqDiff, Nat.reduceLT, Nat.reduceLeDiff, Nat.reduceAdd, Nat.reduceMul, Nat.reduceSub, reduceCtorEq, Int.reduceToNat, Int.reduceLT, Int.reduceLE, Int.reduceEq, Int.reduceNe, Int.reduceBEq, Nat.reduceBEq, Int.reduceBNe, Nat.reduceBNe, Int.reduceAdd, Int.reduceSub, Int.reduceMul, Int.reduceNeg]
          exact ⟨H, AH.le_trans hK.all (by (repeat (first | exact AH.le_refl _ | refine AH.le_add ?_ ?_)); all_goals (first | exact AH.le_refl _ | (show AH.find _ _ = _; simp only [find_add_self, find_add_ne, find_fresh, fresh_add, ne_eq, not_false_eq_true, true_and, and_true, and_self, g1, enc_len, enc_scal, enc_z4, hbt, List.length_cons, hn_bf, hr_bf, hn_b7, hr_b7]))), .inl ⟨by simp [sq, gm], rfl, rfl⟩⟩
        | true =>
          have hcp : T.length ≤ cap' := by have := hO.le; rw [List.length_map] at this; omega
          simp (dsimp := false) (maxSteps := 4000000) only [gm, g1, enc_len, enc_scal, enc_z4, hbt, List.length_cons, hn_bf, hr_bf, hn_b7, hr_b7, go_sem, ↓reduceIte, Nat.reduceEqDiff, Nat.reduceLT, Nat.reduceLeDiff, Nat.reduceAdd, Nat.reduceMul, Nat.reduceSub, reduceCtorEq, Int.reduceToNat, Int.reduceLT, Int.reduceLE, Int.reduceEq, Int.reduceNe, Int.reduceBEq, Nat.reduceBEq, Int.reduceBNe, Nat.reduceBNe, Int.reduceAdd, Int.reduceSub, Int.reduceMul, Int.reduceNeg]
          refine (Clip_i base' T.length cap' _ hcp).mono ?_; rintro _ _ ⟨rfl, rfl⟩
          simp (dsimp := false) (maxSteps := 4000000) only [g1, enc_len, enc_scal, enc_z4, hbt, List.length_cons, hn_bf, hr_bf, hn_b7, hr_b7, go_sem, ↓reduceIte, Nat.reduceEqDiff, Nat.reduceLT, Nat.reduceLeDiff, Nat.reduceAdd, Nat.reduceMul, Nat.reduceSub, reduceCtorEq, Int.reduceToNat, Int.reduceLT, Int.reduceLE, Int.reduceEq, Int.reduceNe, Int.reduceBEq, Nat.reduceBEq, Int.reduceBNe, Nat.reduceBNe, Int.reduceAdd, Int.reduceSub, Int.reduceMul, Int.reduceNeg]
          exact ⟨B, (by (repeat (first | exact AH.le_refl _ | refine AH.le_add ?_ ?_)); all_goals (first | exact AH.le_refl _ | (show AH.find _ _ = _; simp only [find_add_self, find_add_ne, find_fresh, fresh_add, ne_eq, not_false_eq_true, true_and, and_true, and_self, g1, enc_len, enc_scal, enc_z4, hbt, List.length_cons, hn_bf, hr_bf, hn_b7, hr_b7]))), .inr ⟨by simp [sq, g, gs, gm], base', cap', rfl, hO, hK⟩⟩
end Go.Proofs.Ytadbmmdmibiikaa.Rose
