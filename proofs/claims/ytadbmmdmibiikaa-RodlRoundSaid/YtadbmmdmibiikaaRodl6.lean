/- rodl's reference: Table. -/
import Derived.Test.YtadbmmdmibiikaaRodl5
namespace Go.Proofs.Ytadbmmdmibiikaa.Rodl
set_option linter.unusedSimpArgs false
set_option linter.unusedVariables false
open Go Go.AX Go.Proofs Ty Go.Proofs.Ytadbmmdmibiikaa.File Go.Proofs.Ytadbmmdmibiikaa.Rose
set_option maxHeartbeats 4000000
set_option maxRecDepth 10000

theorem RefTable_u {p : Int} {R : List Rc} {n : Nat} {base : Option Addr} {cap : Nat} {H : AH} (hs : SlcIn H 4 base cap (R.map enc)) (hw : ∀ r ∈ R, RcOk r) (hn : n = R.length) :
    ACalls Try.prog 59 #[.agg #[.int .i64 p, .slice base n cap]] H (fun v H' => ∃ b c, v = .tuple #[.slice b (tO p R).length c, .int .i64 (tN p R)] ∧ Got H H' 5 b c ((tO p R).map encE)) := by
  subst hn
  have hg := fun H1 (h1 : SlcIn H1 4 base cap (R.map enc)) => File.RefGood_c p R base cap H1 h1
  unfold fv at hg
  cases g : goodF p R with
  | false =>
    have h1 : tO p R = [] := by simp [tO, g]
    have h2 : tN p R = 2 := by simp [tN, g]
    rw [h1, h2]
    refine ACalls.enter2 Try.func59 rfl Try.ntmps59 Try.results59 (by simp) ?_; simp (dsimp := false) (maxSteps := 4000000) only [go_sem, ↓reduceIte, Nat.reduceEqDiff, Nat.reduceLT, Nat.reduceLeDiff, Nat.reduceAdd, Nat.reduceMul, Nat.reduceSub, reduceCtorEq, Int.reduceToNat, Int.reduceLT, Int.reduceLE, Int.reduceEq, Int.reduceNe, Int.reduceBEq, Nat.reduceBEq, Int.reduceBNe, Nat.reduceBNe, Int.reduceAdd, Int.reduceSub, Int.reduceMul, Int.reduceNeg]
    refine AllB.mk fun b1 h_b1 => ?_; have hn_b1 := h_b1; (try simp only [fresh_add, fresh_set, ne_eq] at hn_b1); have hr_b1 := hn_b1; (try simp only [@eq_comm Nat b1] at hr_b1); simp (dsimp := false) (maxSteps := 4000000) only [hn_b1, hr_b1, go_sem, ↓reduceIte, Nat.reduceEqDiff, Nat.reduceLT, Nat.reduceLeDiff, Nat.reduceAdd, Nat.reduceMul, Nat.reduceSub, reduceCtorEq, Int.reduceToNat, Int.reduceLT, Int.reduceLE, Int.reduceEq, Int.reduceNe, Int.reduceBEq, Nat.reduceBEq, Int.reduceBNe, Nat.reduceBNe, Int.reduceAdd, Int.reduceSub, Int.reduceMul, Int.reduceNeg]
    refine (hg _ (hs.add (by simp only [fresh_add, ne_eq, hn_b1, not_false_eq_true, and_self] : Fresh _ b1))).mono ?_; rintro _ _ ⟨rfl, rfl⟩
    simp (dsimp := false) (maxSteps := 4000000) only [g, hn_b1, hr_b1, go_sem, ↓reduceIte, Nat.reduceEqDiff, Nat.reduceLT, Nat.reduceLeDiff, Nat.reduceAdd, Nat.reduceMul, Nat.reduceSub, reduceCtorEq, Int.reduceToNat, Int.reduceLT, Int.reduceLE, Int.reduceEq, Int.reduceNe, Int.reduceBEq, Nat.reduceBEq, Int.reduceBNe, Nat.reduceBNe, Int.reduceAdd, Int.reduceSub, Int.reduceMul, Int.reduceNeg]
    exact ⟨H, (AH.le_add (AH.le_refl _) ((by simp only [fresh_add, fresh_set, ne_eq, hn_b1, not_false_eq_true, and_self] : Fresh _ b1).2)), none, 0, rfl, Got.nil⟩
  | true =>
  obtain ⟨hp0, hp1, hr0, hr1⟩ := goodF_p g
  cases R with
  | nil => exact absurd rfl hr0
  | cons r0 T =>
  obtain ⟨b, o, rfl, _, _⟩ := hs.get (r := enc r0) (i := 0) rfl
  have hle := hs.le
  simp only [List.length_map, List.length_cons] at hle hr1
  have nil_ : ∀ (A' : AH), H.le A' → tO p (r0 :: T) = [] → tN p (r0 :: T) = 2 → ∃ H', H'.le A' ∧ ∃ b c, Value.tuple #[.slice none 0 0, .int .i64 2] = .tuple #[.slice b (tO p (r0 :: T)).length c, .int .i64 (tN p (r0 :: T))] ∧ Got H H' 5 b c ((tO p (r0 :: T)).map encE) := fun A' hA h1 h2 => ⟨H, hA, none, 0, by rw [h1, h2]; rfl, by rw [h1]; exact Got.nil⟩
  refine ACalls.enter2 Try.func59 rfl Try.ntmps59 Try.results59 (by simp) ?_; simp (dsimp := false) (maxSteps := 4000000) only [List.length_cons, go_sem, ↓reduceIte, Nat.reduceEqDiff, Nat.reduceLT, Nat.reduceLeDiff, Nat.reduceAdd, Nat.reduceMul, Nat.reduceSub, reduceCtorEq, Int.reduceToNat, Int.reduceLT, Int.reduceLE, Int.reduceEq, Int.reduceNe, Int.reduceBEq, Nat.reduceBEq, Int.reduceBNe, Nat.reduceBNe, Int.reduceAdd, Int.reduceSub, Int.reduceMul, Int.reduceNeg]
  refine AllB.mk fun b1 h_b1 => ?_; have hn_b1 := h_b1; (try simp only [fresh_add, fresh_set, ne_eq] at hn_b1); have hr_b1 := hn_b1; (try simp only [@eq_comm Nat b1] at hr_b1); simp (dsimp := false) (maxSteps := 4000000) only [List.length_cons, hn_b1, hr_b1, go_sem, ↓reduceIte, Nat.reduceEqDiff, Nat.reduceLT, Nat.reduceLeDiff, Nat.reduceAdd, Nat.reduceMul, Nat.reduceSub, reduceCtorEq, Int.reduceToNat, Int.reduceLT, Int.reduceLE, Int.reduceEq, Int.reduceNe, Int.reduceBEq, Nat.reduceBEq, Int.reduceBNe, Nat.reduceBNe, Int.reduceAdd, Int.reduceSub, Int.reduceMul, Int.reduceNeg]
  refine (hg _ (hs.add (by simp only [fresh_add, ne_eq, hn_b1, not_false_eq_true, and_self] : Fresh _ b1))).mono ?_; rintro _ _ ⟨rfl, rfl⟩
  simp (dsimp := false) (maxSteps := 4000000) only [g, List.length_cons, hn_b1, hr_b1, go_sem, ↓reduceIte, Nat.reduceEqDiff, Nat.reduceLT, Nat.reduceLeDiff, Nat.reduceAdd, Nat.reduceMul, Nat.reduceSub, reduceCtorEq, Int.reduceToNat, Int.reduceLT, Int.reduceLE, Int.reduceEq, Int.reduceNe, Int.reduceBEq, Nat.reduceBEq, Int.reduceBNe, Nat.reduceBNe, Int.reduceAdd, Int.reduceSub, Int.reduceMul, Int.reduceNeg]
  refine AllB.mk fun bl h_bl => ?_; have hn_bl := h_bl; (try simp only [fresh_add, fresh_set, ne_eq] at hn_bl); have hr_bl := hn_bl; (try simp only [@eq_comm Nat bl] at hr_bl); simp (dsimp := false) (maxSteps := 4000000) only [List.length_cons, hn_b1, hr_b1, hn_bl, hr_bl, go_sem, ↓reduceIte, Nat.reduceEqDiff, Nat.reduceLT, Nat.reduceLeDiff, Nat.reduceAdd, Nat.reduceMul, Nat.reduceSub, reduceCtorEq, Int.reduceToNat, Int.reduceLT, Int.reduceLE, Int.reduceEq, Int.reduceNe, Int.reduceBEq, Nat.reduceBEq, Int.reduceBNe, Nat.reduceBNe, Int.reduceAdd, Int.reduceSub, Int.reduceMul, Int.reduceNeg]
  have n1 : Fresh H b1 := h_b1
  have nl : Fresh H bl := hn_bl.2
  refine AWp.loopr (ι := Nat × Option Addr × Nat) (fun x A => x.1 ≤ T.length ∧ (∀ j, j < x.1 → ∀ r, T[j]? = some r → fine r) ∧ ∃ B, A = (B.add b1 (.cells [.int .i64 p, .slice (some ⟨b, o, none⟩) (T.length + 1) cap] 25 2)) ∧ OwnS H B 90 5 x.2.1 x.2.2 (((T.take x.1).map takeE).map encE) ∧ (Keep H B fun _ => False) ∧ Fresh B b1)
    (fun x => [(5, .int .i64 ((x.1 + 1 : Nat) : Int)), (1, .pointer (some ⟨b1, 0, none⟩)), (2, .slice none 0 0), (3, .int .i64 0), (4, .slice x.2.1 x.1 x.2.2)]) (fun x => T.length - x.1) (0, some ⟨bl, 0, none⟩, 0) ((H.add bl (.cells [] 90 0)).add b1 (.cells [.int .i64 p, .slice (some ⟨b, o, none⟩) (T.length + 1) cap] 25 2))
    ⟨by simp, fun j hj => by simp at hj, _, rfl, OwnS.new nl (AH.le_refl _) rfl rfl rfl (by simp) (by simp), Keep.add nl, by rw [fresh_add]; exact ⟨hr_bl.1, n1⟩⟩ (FrLe.of_lks ?_) ?_ fun x A hi Q again out => ?_
  · simp (dsimp := false) (maxSteps := 4000000) only [List.length_cons, hn_b1, hr_b1, hn_bl, hr_bl, go_sem, ↓reduceIte, Nat.reduceEqDiff, Nat.reduceLT, Nat.reduceLeDiff, Nat.reduceAdd, Nat.reduceMul, Nat.reduceSub, reduceCtorEq, Int.reduceToNat, Int.reduceLT, Int.reduceLE, Int.reduceEq, Int.reduceNe, Int.reduceBEq, Nat.reduceBEq, Int.reduceBNe, Nat.reduceBNe, Int.reduceAdd, Int.reduceSub, Int.reduceMul, Int.reduceNeg]
  · exact (by refine AH.le_cons ?_ ?_; (show AH.find _ _ = _; simp only [find_add_self, find_add_ne, find_fresh, fresh_add, ne_eq, not_false_eq_true, true_and, and_true, and_self, List.length_cons, hn_b1, hr_b1, hn_bl, hr_bl]); refine AH.le_cons ?_ ?_; (show AH.find _ _ = _; simp only [find_add_self, find_add_ne, find_fresh, fresh_add, ne_eq, not_false_eq_true, true_and, and_true, and_self, List.length_cons, hn_b1, hr_b1, hn_bl, hr_bl]); (repeat (first | exact AH.le_refl _ | refine AH.le_add ?_ ?_)); all_goals (first | exact AH.le_refl _ | (show AH.find _ _ = _; simp only [find_add_self, find_add_ne, find_fresh, fresh_add, ne_eq, not_false_eq_true, true_and, and_true, and_self, List.length_cons, hn_b1, hr_b1, hn_bl, hr_bl])))
  · clear hn_b1 hr_b1 h_b1 hn_bl hr_bl h_bl
    
    obtain ⟨i, base', cap'⟩ := x
    obtain ⟨hi, hz, B, rfl, hO, hK, g1⟩ := hi
    dsimp only at hi hO hz again ⊢
    
    have hil : i = ((T.take i).map takeE).length := by simp; omega
    have hsO := hO.slc
    by_cases hlt : i < T.length
    · have hlt' : ((i + 1 : Nat) : Int) < ((T.length + 1 : Nat) : Int) := by omega
      obtain ⟨r, hr⟩ := get_some (l := T) (i := i) hlt
      have hsB : SlcIn B 4 (some ⟨b, o, none⟩) cap ((r0 :: T).map enc) := hs.keep hK fun _ _ h => h
      obtain ⟨q, o2, hbt2, hrow, _⟩ := hsB.get (i := i + 1) (r := enc r) (by rw [List.map_cons, List.getElem?_cons_succ]; exact map_get hr)
      cases hbt2
      have e1_ := i64_succ (i := i + 1) (by omega)
      have nb1 : ¬ b1 = b := g1.ne_row hrow
      have hrk := hw r (List.mem_cons_of_mem _ (List.mem_of_getElem? hr))
      
      simp (dsimp := false) (maxSteps := 4000000) only [hlt', hrow, nb1, g1, enc_len, enc_scal, enc_z4, enc_take, encE_len, encE_scal, encE_z5, encE_take, List.length_cons, go_sem, ↓reduceIte, Nat.reduceEqDiff, Nat.reduceLT, Nat.reduceLeDiff, Nat.reduceAdd, Nat.reduceMul, Nat.reduceSub, reduceCtorEq, Int.reduceToNat, Int.reduceLT, Int.reduceLE, Int.reduceEq, Int.reduceNe, Int.reduceBEq, Nat.reduceBEq, Int.reduceBNe, Nat.reduceBNe, Int.reduceAdd, Int.reduceSub, Int.reduceMul, Int.reduceNeg]
      refine (RefTake_v hrk _).mono ?_; rintro _ _ ⟨rfl, rfl⟩
      cases ge : goodE (takeE r) with
      | false =>
        have hwk := walk_bad hr hz ge
        have t1 : tX r = ze := by simp [tX, ge]
        have t2 : tE r = 2 := by simp [tE, ge]
        
        simp (dsimp := false) (maxSteps := 4000000) only [t2, g1, enc_len, enc_scal, enc_z4, enc_take, encE_len, encE_scal, encE_z5, encE_take, List.length_cons, go_sem, ↓reduceIte, Nat.reduceEqDiff, Nat.reduceLT, Nat.reduceLeDiff, Nat.reduceAdd, Nat.reduceMul, Nat.reduceSub, reduceCtorEq, Int.reduceToNat, Int.reduceLT, Int.reduceLE, Int.reduceEq, Int.reduceNe, Int.reduceBEq, Nat.reduceBEq, Int.reduceBNe, Nat.reduceBNe, Int.reduceAdd, Int.reduceSub, Int.reduceMul, Int.reduceNeg]
        refine AllB.mk fun b7 h_b7 => ?_; have hn_b7 := h_b7; (try simp only [fresh_add, fresh_set, ne_eq] at hn_b7); have hr_b7 := hn_b7; (try simp only [@eq_comm Nat b7] at hr_b7); simp (dsimp := false) (maxSteps := 4000000) only [g1, enc_len, enc_scal, enc_z4, enc_take, encE_len, encE_scal, encE_z5, encE_take, List.length_cons, hn_b7, hr_b7, go_sem, ↓reduceIte, Nat.reduceEqDiff, Nat.reduceLT, Nat.reduceLeDiff, Nat.reduceAdd, Nat.reduceMul, Nat.reduceSub, reduceCtorEq, Int.reduceToNat, Int.reduceLT, Int.reduceLE, Int.reduceEq, Int.reduceNe, Int.reduceBEq, Nat.reduceBEq, Int.reduceBNe, Nat.reduceBNe, Int.reduceAdd, Int.reduceSub, Int.reduceMul, Int.reduceNeg]
        refine out _ _ _ (by simp) ?_
        simp (dsimp := false) (maxSteps := 4000000) only [g1, enc_len, enc_scal, enc_z4, enc_take, encE_len, encE_scal, encE_z5, encE_take, List.length_cons, hn_b7, hr_b7, go_sem, ↓reduceIte, Nat.reduceEqDiff, Nat.reduceLT, Nat.reduceLeDiff, Nat.reduceAdd, Nat.reduceMul, Nat.reduceSub, reduceCtorEq, Int.reduceToNat, Int.reduceLT, Int.reduceLE, Int.reduceEq, Int.reduceNe, Int.reduceBEq, Nat.reduceBEq, Int.reduceBNe, Nat.reduceBNe, Int.reduceAdd, Int.reduceSub, Int.reduceMul, Int.reduceNeg]
        exact nil_ _ (AH.le_trans hK.all (by (repeat (first | exact AH.le_refl _ | refine AH.le_add ?_ ?_)); all_goals (first | exact AH.le_refl _ | (show AH.find _ _ = _; simp only [find_add_self, find_add_ne, find_fresh, fresh_add, ne_eq, not_false_eq_true, true_and, and_true, and_self, g1, enc_len, enc_scal, enc_z4, enc_take, encE_len, encE_scal, encE_z5, encE_take, List.length_cons, hn_b7, hr_b7])))) (by simp [tO, g, hwk]) (by simp [tN, g, hwk])
        
      | true =>
        have t1 : tX r = takeE r := by simp [tX, ge]
        have t2 : tE r = 0 := by simp [tE, ge]
        rw [t1, t2]
        simp (dsimp := false) (maxSteps := 4000000) only [g1, enc_len, enc_scal, enc_z4, enc_take, encE_len, encE_scal, encE_z5, encE_take, List.length_cons, go_sem, ↓reduceIte, Nat.reduceEqDiff, Nat.reduceLT, Nat.reduceLeDiff, Nat.reduceAdd, Nat.reduceMul, Nat.reduceSub, reduceCtorEq, Int.reduceToNat, Int.reduceLT, Int.reduceLE, Int.reduceEq, Int.reduceNe, Int.reduceBEq, Nat.reduceBEq, Int.reduceBNe, Nat.reduceBNe, Int.reduceAdd, Int.reduceSub, Int.reduceMul, Int.reduceNeg]
        refine AllB.mk fun b7 h_b7 => ?_; have hn_b7 := h_b7; (try simp only [fresh_add, fresh_set, ne_eq] at hn_b7); have hr_b7 := hn_b7; (try simp only [@eq_comm Nat b7] at hr_b7); simp (dsimp := false) (maxSteps := 4000000) only [g1, enc_len, enc_scal, enc_z4, enc_take, encE_len, encE_scal, encE_z5, encE_take, List.length_cons, hn_b7, hr_b7, go_sem, ↓reduceIte, Nat.reduceEqDiff, Nat.reduceLT, Nat.reduceLeDiff, Nat.reduceAdd, Nat.reduceMul, Nat.reduceSub, reduceCtorEq, Int.reduceToNat, Int.reduceLT, Int.reduceLE, Int.reduceEq, Int.reduceNe, Int.reduceBEq, Nat.reduceBEq, Int.reduceBNe, Nat.reduceBNe, Int.reduceAdd, Int.reduceSub, Int.reduceMul, Int.reduceNeg]
        by_cases k4 : (takeE r).1 = 4
        · 
          simp (dsimp := false) (maxSteps := 4000000) only [encE_0, k4, g1, enc_len, enc_scal, enc_z4, enc_take, encE_len, encE_scal, encE_z5, encE_take, List.length_cons, hn_b7, hr_b7, go_sem, ↓reduceIte, Nat.reduceEqDiff, Nat.reduceLT, Nat.reduceLeDiff, Nat.reduceAdd, Nat.reduceMul, Nat.reduceSub, reduceCtorEq, Int.reduceToNat, Int.reduceLT, Int.reduceLE, Int.reduceEq, Int.reduceNe, Int.reduceBEq, Nat.reduceBEq, Int.reduceBNe, Nat.reduceBNe, Int.reduceAdd, Int.reduceSub, Int.reduceMul, Int.reduceNeg]
          refine out _ _ _ (by simp) ?_
          simp (dsimp := false) (maxSteps := 4000000) only [g1, enc_len, enc_scal, enc_z4, enc_take, encE_len, encE_scal, encE_z5, encE_take, List.length_cons, hn_b7, hr_b7, go_sem, ↓reduceIte, Nat.reduceEqDiff, Nat.reduceLT, Nat.reduceLeDiff, Nat.reduceAdd, Nat.reduceMul, Nat.reduceSub, reduceCtorEq, Int.reduceToNat, Int.reduceLT, Int.reduceLE, Int.reduceEq, Int.reduceNe, Int.reduceBEq, Nat.reduceBEq, Int.reduceBNe, Nat.reduceBNe, Int.reduceAdd, Int.reduceSub, Int.reduceMul, Int.reduceNeg]
          have hwk : walk T = some ((T.take i).map takeE) := walk_stop hr hz ge k4
          refine (May_x (L := (T.take i).map takeE) ((hsO.add g1).add h_b7) hil).mono ?_; rintro _ _ ⟨rfl, rfl⟩
          cases gm : mayB ((T.take i).map takeE) with
          | false =>
            simp (dsimp := false) (maxSteps := 4000000) only [gm, g1, enc_len, enc_scal, enc_z4, enc_take, encE_len, encE_scal, encE_z5, encE_take, List.length_cons, hn_b7, hr_b7, go_sem, ↓reduceIte, Nat.reduceEqDiff, Nat.reduceLT, Nat.reduceLeDiff, Nat.reduceAdd, Nat.reduceMul, Nat.reduceSub, reduceCtorEq, Int.reduceToNat, Int.reduceLT, Int.reduceLE, Int.reduceEq, Int.reduceNe, Int.reduceBEq, Nat.reduceBEq, Int.reduceBNe, Nat.reduceBNe, Int.reduceAdd, Int.reduceSub, Int.reduceMul, Int.reduceNeg]
            exact nil_ _ (AH.le_trans hK.all (by (repeat (first | exact AH.le_refl _ | refine AH.le_add ?_ ?_)); all_goals (first | exact AH.le_refl _ | (show AH.find _ _ = _; simp only [find_add_self, find_add_ne, find_fresh, fresh_add, ne_eq, not_false_eq_true, true_and, and_true, and_self, g1, enc_len, enc_scal, enc_z4, enc_take, encE_len, encE_scal, encE_z5, encE_take, List.length_cons, hn_b7, hr_b7])))) (by rw [tO_of g hwk, if_neg (by rw [gm]; decide)]) (by rw [tN_of g hwk, if_neg (by rw [gm]; decide)])
          | true =>
            have h1 : tO p (r0 :: T) = (T.take i).map takeE := by rw [tO_of g hwk, if_pos gm]
            have h2 : tN p (r0 :: T) = 0 := by rw [tN_of g hwk, if_pos gm]
            simp (dsimp := false) (maxSteps := 4000000) only [gm, g1, enc_len, enc_scal, enc_z4, enc_take, encE_len, encE_scal, encE_z5, encE_take, List.length_cons, hn_b7, hr_b7, go_sem, ↓reduceIte, Nat.reduceEqDiff, Nat.reduceLT, Nat.reduceLeDiff, Nat.reduceAdd, Nat.reduceMul, Nat.reduceSub, reduceCtorEq, Int.reduceToNat, Int.reduceLT, Int.reduceLE, Int.reduceEq, Int.reduceNe, Int.reduceBEq, Nat.reduceBEq, Int.reduceBNe, Nat.reduceBNe, Int.reduceAdd, Int.reduceSub, Int.reduceMul, Int.reduceNeg]
            refine ⟨B, (by (repeat (first | exact AH.le_refl _ | refine AH.le_add ?_ ?_)); all_goals (first | exact AH.le_refl _ | (show AH.find _ _ = _; simp only [find_add_self, find_add_ne, find_fresh, fresh_add, ne_eq, not_false_eq_true, true_and, and_true, and_self, g1, enc_len, enc_scal, enc_z4, enc_take, encE_len, encE_scal, encE_z5, encE_take, List.length_cons, hn_b7, hr_b7]))), base', cap', ?_, ?_⟩
            · rw [h1, h2, ← hil]
            · rw [h1]; exact Got.own hO hK
          
        simp (dsimp := false) (maxSteps := 4000000) only [encE_0, k4, g1, enc_len, enc_scal, enc_z4, enc_take, encE_len, encE_scal, encE_z5, encE_take, List.length_cons, hn_b7, hr_b7, go_sem, ↓reduceIte, Nat.reduceEqDiff, Nat.reduceLT, Nat.reduceLeDiff, Nat.reduceAdd, Nat.reduceMul, Nat.reduceSub, reduceCtorEq, Int.reduceToNat, Int.reduceLT, Int.reduceLE, Int.reduceEq, Int.reduceNe, Int.reduceBEq, Nat.reduceBEq, Int.reduceBNe, Nat.reduceBNe, Int.reduceAdd, Int.reduceSub, Int.reduceMul, Int.reduceNeg]
        refine AllB.mk fun bx h_bx => ?_; have hn_bx := h_bx; (try simp only [fresh_add, fresh_set, ne_eq] at hn_bx); have hr_bx := hn_bx; (try simp only [@eq_comm Nat bx] at hr_bx); simp (dsimp := false) (maxSteps := 4000000) only [g1, enc_len, enc_scal, enc_z4, enc_take, encE_len, encE_scal, encE_z5, encE_take, List.length_cons, hn_b7, hr_b7, hn_bx, hr_bx, go_sem, ↓reduceIte, Nat.reduceEqDiff, Nat.reduceLT, Nat.reduceLeDiff, Nat.reduceAdd, Nat.reduceMul, Nat.reduceSub, reduceCtorEq, Int.reduceToNat, Int.reduceLT, Int.reduceLE, Int.reduceEq, Int.reduceNe, Int.reduceBEq, Nat.reduceBEq, Int.reduceBNe, Nat.reduceBNe, Int.reduceAdd, Int.reduceSub, Int.reduceMul, Int.reduceNeg]
        have p1 : AH.find (((B.add b1 (.cells [.int .i64 p, .slice (some ⟨b, o, none⟩) (T.length + 1) cap] 25 2)).add b7 (.cells (encE (takeE r)) 90 5)).add bx (.cells (encE (takeE r)) 90 5)) b1 = some (.cells [.int .i64 p, .slice (some ⟨b, o, none⟩) (T.length + 1) cap] 25 2) := by (show AH.find _ _ = _; simp only [find_add_self, find_add_ne, find_fresh, fresh_add, ne_eq, not_false_eq_true, true_and, and_true, and_self, g1, enc_len, enc_scal, enc_z4, enc_take, encE_len, encE_scal, encE_z5, encE_take, List.length_cons, hn_b7, hr_b7, hn_bx, hr_bx])
        have hOx : OwnS H (((B.add b1 (.cells [.int .i64 p, .slice (some ⟨b, o, none⟩) (T.length + 1) cap] 25 2)).add b7 (.cells (encE (takeE r)) 90 5)).add bx (.cells (encE (takeE r)) 90 5)) 90 5 base' cap' (((T.take i).map takeE).map encE) := ((hO.added g1).added h_b7).added h_bx
        have hKx : Keep H (((B.add b1 (.cells [.int .i64 p, .slice (some ⟨b, o, none⟩) (T.length + 1) cap] 25 2)).add b7 (.cells (encE (takeE r)) 90 5)).add bx (.cells (encE (takeE r)) 90 5)) fun _ => False := ((hK.nw g1).nw h_b7).nw h_bx
        refine APD.growW (x := .slice (some ⟨bx, 0, none⟩) 1 1) (R' := [encE (takeE r)]) (m := 1) hOx hKx.all se_101 rfl (by decide) (by rw [Try.underlying101]; rfl) (by simp; omega) rfl rfl (by rw [srow_some, row_add_self]; rfl) (by simp [encE]) (by simp [encE, scal]) (by omega) fun base2 cap2 A' hO' hK' hN' => ?_
        have q1 : A'.find b1 = some (.cells [.int .i64 p, .slice (some ⟨b, o, none⟩) (T.length + 1) cap] 25 2) := hK'.find (fun hx => by obtain ⟨a, ha, e⟩ := hx; exact hO.ne g1 a ha e.symm) p1
        refine ⟨_, top1 q1, ?_⟩
        
        
        simp (dsimp := false) (maxSteps := 4000000) only [e1_, g1, enc_len, enc_scal, enc_z4, enc_take, encE_len, encE_scal, encE_z5, encE_take, List.length_cons, go_sem, ↓reduceIte, Nat.reduceEqDiff, Nat.reduceLT, Nat.reduceLeDiff, Nat.reduceAdd, Nat.reduceMul, Nat.reduceSub, reduceCtorEq, Int.reduceToNat, Int.reduceLT, Int.reduceLE, Int.reduceEq, Int.reduceNe, Int.reduceBEq, Nat.reduceBEq, Int.reduceBNe, Nat.reduceBNe, Int.reduceAdd, Int.reduceSub, Int.reduceMul, Int.reduceNeg]
        have hK2 := (hKx.ow hK' fun b ⟨a, ha, e⟩ => e ▸ hO.fresh a ha)
        obtain ⟨hK3, g13⟩ := hK2.dels n1
        have ne1 : ∀ a, base2 = some a → a.block ≠ b1 := fun a ha e => by
          rcases hN' a ha with ⟨a', h1, h2⟩ | h1
          · exact hO.ne g1 a' h1 (h2 ▸ e)
          · exact h1.ne_find p1 e
        have hO2 := hO'.del ne1
        rw [take_succ hr] at hO2
        have hz2 : ∀ j, j < i + 1 → ∀ r, T[j]? = some r → fine r := fun j hj m hm => by
          by_cases hji : j = i
          · subst hji; rw [hr] at hm; cases hm; exact ⟨ge, k4⟩
          · exact hz j (by omega) m hm
        exact again (i + 1, base2, cap2) _ _ _ ⟨by simp only; omega, hz2, _, rfl, hO2, hK3, g13⟩ (FrLe.of_lks (by simp (dsimp := false) (maxSteps := 4000000) only [g1, enc_len, enc_scal, enc_z4, enc_take, encE_len, encE_scal, encE_z5, encE_take, List.length_cons, go_sem, ↓reduceIte, Nat.reduceEqDiff, Nat.reduceLT, Nat.reduceLeDiff, Nat.reduceAdd, Nat.reduceMul, Nat.reduceSub, reduceCtorEq, Int.reduceToNat, Int.reduceLT, Int.reduceLE, Int.reduceEq, Int.reduceNe, Int.reduceBEq, Nat.reduceBEq, Int.reduceBNe, Nat.reduceBNe, Int.reduceAdd, Int.reduceSub, Int.reduceMul, Int.reduceNeg])) (AH.le_refl _) (by simp only; omega)
        
    · have hlt' : ¬ ((i + 1 : Nat) : Int) < ((T.length + 1 : Nat) : Int) := by omega
      simp (dsimp := false) (maxSteps := 4000000) only [hlt', g1, enc_len, enc_scal, enc_z4, enc_take, encE_len, encE_scal, encE_z5, encE_take, List.length_cons, go_sem, ↓reduceIte, Nat.reduceEqDiff, Nat.reduceLT, Nat.reduceLeDiff, Nat.reduceAdd, Nat.reduceMul, Nat.reduceSub, reduceCtorEq, Int.reduceToNat, Int.reduceLT, Int.reduceLE, Int.reduceEq, Int.reduceNe, Int.reduceBEq, Nat.reduceBEq, Int.reduceBNe, Nat.reduceBNe, Int.reduceAdd, Int.reduceSub, Int.reduceMul, Int.reduceNeg]
      refine out _ _ _ (by simp) ?_
      simp (dsimp := false) (maxSteps := 4000000) only [g1, enc_len, enc_scal, enc_z4, enc_take, encE_len, encE_scal, encE_z5, encE_take, List.length_cons, go_sem, ↓reduceIte, Nat.reduceEqDiff, Nat.reduceLT, Nat.reduceLeDiff, Nat.reduceAdd, Nat.reduceMul, Nat.reduceSub, reduceCtorEq, Int.reduceToNat, Int.reduceLT, Int.reduceLE, Int.reduceEq, Int.reduceNe, Int.reduceBEq, Nat.reduceBEq, Int.reduceBNe, Nat.reduceBNe, Int.reduceAdd, Int.reduceSub, Int.reduceMul, Int.reduceNeg]
      have hwk : walk T = some ((T.take i).map takeE) := walk_end (by omega) hz
      refine (May_x (L := (T.take i).map takeE) (hsO.add g1) hil).mono ?_; rintro _ _ ⟨rfl, rfl⟩
      cases gm : mayB ((T.take i).map takeE) with
      | false =>
        simp (dsimp := false) (maxSteps := 4000000) only [gm, g1, enc_len, enc_scal, enc_z4, enc_take, encE_len, encE_scal, encE_z5, encE_take, List.length_cons, go_sem, ↓reduceIte, Nat.reduceEqDiff, Nat.reduceLT, Nat.reduceLeDiff, Nat.reduceAdd, Nat.reduceMul, Nat.reduceSub, reduceCtorEq, Int.reduceToNat, Int.reduceLT, Int.reduceLE, Int.reduceEq, Int.reduceNe, Int.reduceBEq, Nat.reduceBEq, Int.reduceBNe, Nat.reduceBNe, Int.reduceAdd, Int.reduceSub, Int.reduceMul, Int.reduceNeg]
        exact nil_ _ (AH.le_trans hK.all (by (repeat (first | exact AH.le_refl _ | refine AH.le_add ?_ ?_)); all_goals (first | exact AH.le_refl _ | (show AH.find _ _ = _; simp only [find_add_self, find_add_ne, find_fresh, fresh_add, ne_eq, not_false_eq_true, true_and, and_true, and_self, g1, enc_len, enc_scal, enc_z4, enc_take, encE_len, encE_scal, encE_z5, encE_take, List.length_cons])))) (by rw [tO_of g hwk, if_neg (by rw [gm]; decide)]) (by rw [tN_of g hwk, if_neg (by rw [gm]; decide)])
      | true =>
        have h1 : tO p (r0 :: T) = (T.take i).map takeE := by rw [tO_of g hwk, if_pos gm]
        have h2 : tN p (r0 :: T) = 0 := by rw [tN_of g hwk, if_pos gm]
        simp (dsimp := false) (maxSteps := 4000000) only [gm, g1, enc_len, enc_scal, enc_z4, enc_take, encE_len, encE_scal, encE_z5, encE_take, List.length_cons, go_sem, ↓reduceIte, Nat.reduceEqDiff, Nat.reduceLT, Nat.reduceLeDiff, Nat.reduceAdd, Nat.reduceMul, Nat.reduceSub, reduceCtorEq, Int.reduceToNat, Int.reduceLT, Int.reduceLE, Int.reduceEq, Int.reduceNe, Int.reduceBEq, Nat.reduceBEq, Int.reduceBNe, Nat.reduceBNe, Int.reduceAdd, Int.reduceSub, Int.reduceMul, Int.reduceNeg]
        refine ⟨B, (by (repeat (first | exact AH.le_refl _ | refine AH.le_add ?_ ?_)); all_goals (first | exact AH.le_refl _ | (show AH.find _ _ = _; simp only [find_add_self, find_add_ne, find_fresh, fresh_add, ne_eq, not_false_eq_true, true_and, and_true, and_self, g1, enc_len, enc_scal, enc_z4, enc_take, encE_len, encE_scal, encE_z5, encE_take, List.length_cons]))), base', cap', ?_, ?_⟩
        · rw [h1, h2, ← hil]
        · rw [h1]; exact Got.own hO hK
end Go.Proofs.Ytadbmmdmibiikaa.Rodl
