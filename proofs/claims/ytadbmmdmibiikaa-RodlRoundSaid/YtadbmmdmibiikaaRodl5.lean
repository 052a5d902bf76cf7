/- rodl: Table of both sides. -/
import Derived.Test.YtadbmmdmibiikaaRodl4
namespace Go.Proofs.Ytadbmmdmibiikaa.Rodl
set_option linter.unusedSimpArgs false
set_option linter.unusedVariables false
open Go Go.AX Go.Proofs Ty Go.Proofs.Ytadbmmdmibiikaa.File Go.Proofs.Ytadbmmdmibiikaa.Rose
set_option maxHeartbeats 4000000
set_option maxRecDepth 10000

theorem Take_v {r : Rc} (hw : RcOk r) (H : AH) : ACalls Try.prog 52 #[.agg (enc r).toArray] H (fun v H' => v = .tuple #[.agg (encE (tX r)).toArray, .int .i64 (tE r)] ∧ H = H') := Take_u r.1 r.2.1 r.2.2.1 r.2.2.2 hw H
theorem RefTake_v {r : Rc} (hw : RcOk r) (H : AH) : ACalls Try.prog 53 #[.agg (enc r).toArray] H (fun v H' => v = .tuple #[.agg (encE (tX r)).toArray, .int .i64 (tE r)] ∧ H = H') := RefTake_u r.1 r.2.1 r.2.2.1 r.2.2.2 hw H
theorem table_x {L : List En} {n : Nat} {base : Option Addr} {cap : Nat} {H : AH} (hs : SlcIn H 5 base cap (L.map encE)) (hn : n = L.length) :
    ACalls Try.prog 86 #[.slice base n cap] H (fun v H' => v = .bool (mayB L) ∧ H = H') := by
  subst hn; exact table_c L base cap H hs
theorem May_x {L : List En} {n : Nat} {base : Option Addr} {cap : Nat} {H : AH} (hs : SlcIn H 5 base cap (L.map encE)) (hn : n = L.length) :
    ACalls Try.prog 88 #[.slice base n cap] H (fun v H' => v = .bool (mayB L) ∧ H = H') := by
  subst hn; exact May_c L base cap H hs
/-- Record by record, up to the end's. -/
def walk : List Rc → Option (List En)
  | [] => some []
  | r :: l => if goodE (takeE r) = false then none else if (takeE r).1 = 4 then some [] else (walk l).map (takeE r :: ·)
def fine (r : Rc) : Prop := goodE (takeE r) = true ∧ ¬ (takeE r).1 = 4
theorem walk_pre : ∀ (i : Nat) (T : List Rc), (∀ j, j < i → ∀ r, T[j]? = some r → fine r) → walk T = (walk (T.drop i)).map ((T.take i).map takeE ++ ·)
  | 0, T, _ => by simp
  | i + 1, [], _ => by simp [walk]
  | i + 1, r :: T, h => by
    have h0 := h 0 (by omega) r rfl
    rw [walk, if_neg (by rw [h0.1]; decide), if_neg h0.2, walk_pre i T (fun j hj r hr => h (j + 1) (by omega) r hr)]
    simp [Option.map_map, Function.comp_def]
theorem walk_end {T : List Rc} {i : Nat} (hi : T.length ≤ i) (h : ∀ j, j < i → ∀ r, T[j]? = some r → fine r) : walk T = some ((T.take i).map takeE) := by
  rw [walk_pre i T h, List.drop_eq_nil_of_le hi]; simp [walk]
theorem drop_cons {T : List Rc} {i : Nat} {r : Rc} (hr : T[i]? = some r) : T.drop i = r :: T.drop (i + 1) := by
  have hi := lt_of_get hr
  rw [List.drop_eq_getElem_cons hi]
  rw [List.getElem?_eq_getElem hi] at hr
  cases hr; rfl
theorem walk_stop {T : List Rc} {i : Nat} {r : Rc} (hr : T[i]? = some r) (h : ∀ j, j < i → ∀ r, T[j]? = some r → fine r) (g : goodE (takeE r) = true) (k : (takeE r).1 = 4) : walk T = some ((T.take i).map takeE) := by
  rw [walk_pre i T h, drop_cons hr, walk, if_neg (by rw [g]; decide), if_pos k]; simp
theorem walk_bad {T : List Rc} {i : Nat} {r : Rc} (hr : T[i]? = some r) (h : ∀ j, j < i → ∀ r, T[j]? = some r → fine r) (g : goodE (takeE r) = false) : walk T = none := by
  rw [walk_pre i T h, drop_cons hr, walk, if_pos g]; rfl
def tO (p : Int) (R : List Rc) : List En := if goodF p R = true then (match walk R.tail with | none => [] | some l => if mayB l = true then l else []) else []
def tN (p : Int) (R : List Rc) : Int := if goodF p R = true then (match walk R.tail with | none => 2 | some l => if mayB l = true then 0 else 2) else 2
theorem tO_of {p : Int} {r0 : Rc} {T : List Rc} {l : List En} (g : goodF p (r0 :: T) = true) (h : walk T = some l) : tO p (r0 :: T) = if mayB l = true then l else [] := by simp [tO, g, h]
theorem tN_of {p : Int} {r0 : Rc} {T : List Rc} {l : List En} (g : goodF p (r0 :: T) = true) (h : walk T = some l) : tN p (r0 :: T) = if mayB l = true then 0 else 2 := by simp [tN, g, h]
theorem take_succ {T : List Rc} {i : Nat} {r : Rc} (h : T[i]? = some r) : ((T.take i).map takeE).map encE ++ [encE (takeE r)] = ((T.take (i + 1)).map takeE).map encE := by
  simp [List.take_add_one, h]
theorem encE_z5 (x : En) : lput [.int .i64 0, .int .i64 0, .int .i64 0, .int .i64 0, .int .i64 0] 0 (encE x) = encE x := rfl
theorem encE_0 (x : En) : (encE x)[0]? = some (.int .i64 x.1) := rfl
theorem encE_1 (x : En) : (encE x)[1]? = some (.int .i64 x.2.1) := rfl
theorem encE_take (x : En) : (encE x).take 5 = encE x := rfl
theorem Table_u {p : Int} {R : List Rc} {n : Nat} {base : Option Addr} {cap : Nat} {H : AH} (hs : SlcIn H 4 base cap (R.map enc)) (hw : ∀ r ∈ R, RcOk r) (hn : n = R.length) :
    ACalls Try.prog 57 #[.agg #[.int .i64 p, .slice base n cap]] H (fun v H' => ∃ b c, v = .tuple #[.slice b (tO p R).length c, .int .i64 (tN p R)] ∧ Got H H' 5 b c ((tO p R).map encE)) := by
  subst hn
  have hg := fun H1 (h1 : SlcIn H1 4 base cap (R.map enc)) => File.Good_c p R base cap H1 h1
  unfold fv at hg
  cases g : goodF p R with
  | false =>
    have h1 : tO p R = [] := by simp [tO, g]
    have h2 : tN p R = 2 := by simp [tN, g]
    rw [h1, h2]
    refine ACalls.enter2 Try.func57 rfl Try.ntmps57 Try.results57 (by simp) ?_; simp (dsimp := false) (maxSteps := 4000000) only [go_sem, ↓reduceIte, Nat.reduceEqDiff, Nat.reduceLT, Nat.reduceLeDiff, Nat.reduceAdd, Nat.reduceMul, Nat.reduceSub, reduceCtorEq, Int.reduceToNat, Int.reduceLT, Int.reduceLE, Int.reduceEq, Int.reduceNe, Int.reduceBEq, Nat.reduceBEq, Int.reduceBNe, Nat.reduceBNe, Int.reduceAdd, Int.reduceSub, Int.reduceMul, Int.reduceNeg]
    refine AllB.mk fun b1 h_b1 => ?_; have hn_b1 := h_b1; (try simp only [fresh_add, fresh_set, ne_eq] at hn_b1); have hr_b1 := hn_b1; (try simp only [@eq_comm Nat b1] at hr_b1); simp (dsimp := false) (maxSteps := 4000000) only [hn_b1, hr_b1, go_sem, ↓reduceIte, Nat.reduceEqDiff, Nat.reduceLT, Nat.reduceLeDiff, Nat.reduceAdd, Nat.reduceMul, Nat.reduceSub, reduceCtorEq, Int.reduceToNat, Int.reduceLT, Int.reduceLE, Int.reduceEq, Int.reduceNe, Int.reduceBEq, Nat.reduceBEq, Int.reduceBNe, Nat.reduceBNe, Int.reduceAdd, Int.reduceSub, Int.reduceMul, Int.reduceNeg]
    refine (hg _ (hs.add (by simp only [fresh_add, ne_eq, hn_b1, not_false_eq_true, and_self] : Fresh _ b1))).mono ?_; rintro _ _ ⟨rfl, rfl⟩
    simp (dsimp := false) (maxSteps := 4000000) only [g, hn_b1, hr_b1, go_sem, ↓reduceIte, Nat.reduceEqDiff, Nat.reduceLT, Nat.reduceLeDiff, Nat.reduceAdd, Nat.reduceMul, Nat.reduceSub, reduceCtorEq, Int.reduceToNat, Int.reduceLT, Int.reduceLE, Int.reduceEq, Int.reduceNe, Int.reduceBEq, Nat.reduceBEq, Int.reduceBNe, Nat.reduceBNe, Int.reduceAdd, Int.reduceSub, Int.reduceMul, Int.reduceNeg]
    exact ⟨H, (AH.le_add (AH.le_refl _) ((by simp only [fresh_add, fresh_set, ne_eq, hn_b1, not_false_eq_true, and_self] : Fresh _ b1).2)), none, 0, rfl, Got.nil⟩
  | true =>
  obtain ⟨hp0, hp1, hr0, hr1⟩ := goodF_p g
  cases R with
  | nil => exact absurd rfl hr0
  | cons r0 T =>
  obtain ⟨b, o, rfl, _, _⟩ := hs.get (r := enc r0) (i := 0) rfl
  have hle := hs.le
  have hst := SlcIn.tail (by simpa only [List.map_cons] using hs)
  generalize hbt : (some ⟨b, if cap = 1 then o else o + 1 * 4, none⟩ : Option Addr) = bt at hst
  simp only [List.length_map, List.length_cons] at hle hr1
  have nil_ : ∀ (A' : AH), H.le A' → tO p (r0 :: T) = [] → tN p (r0 :: T) = 2 → ∃ H', H'.le A' ∧ ∃ b c, Value.tuple #[.slice none 0 0, .int .i64 2] = .tuple #[.slice b (tO p (r0 :: T)).length c, .int .i64 (tN p (r0 :: T))] ∧ Got H H' 5 b c ((tO p (r0 :: T)).map encE) := fun A' hA h1 h2 => ⟨H, hA, none, 0, by rw [h1, h2]; rfl, by rw [h1]; exact Got.nil⟩
  refine ACalls.enter2 Try.func57 rfl Try.ntmps57 Try.results57 (by simp) ?_; simp (dsimp := false) (maxSteps := 4000000) only [hbt, List.length_cons, go_sem, ↓reduceIte, Nat.reduceEqDiff, Nat.reduceLT, Nat.reduceLeDiff, Nat.reduceAdd, Nat.reduceMul, Nat.reduceSub, reduceCtorEq, Int.reduceToNat, Int.reduceLT, Int.reduceLE, Int.reduceEq, Int.reduceNe, Int.reduceBEq, Nat.reduceBEq, Int.reduceBNe, Nat.reduceBNe, Int.reduceAdd, Int.reduceSub, Int.reduceMul, Int.reduceNeg]
  refine AllB.mk fun b1 h_b1 => ?_; have hn_b1 := h_b1; (try simp only [fresh_add, fresh_set, ne_eq] at hn_b1); have hr_b1 := hn_b1; (try simp only [@eq_comm Nat b1] at hr_b1); simp (dsimp := false) (maxSteps := 4000000) only [hbt, List.length_cons, hn_b1, hr_b1, go_sem, ↓reduceIte, Nat.reduceEqDiff, Nat.reduceLT, Nat.reduceLeDiff, Nat.reduceAdd, Nat.reduceMul, Nat.reduceSub, reduceCtorEq, Int.reduceToNat, Int.reduceLT, Int.reduceLE, Int.reduceEq, Int.reduceNe, Int.reduceBEq, Nat.reduceBEq, Int.reduceBNe, Nat.reduceBNe, Int.reduceAdd, Int.reduceSub, Int.reduceMul, Int.reduceNeg]
  refine (hg _ (hs.add (by simp only [fresh_add, ne_eq, hn_b1, not_false_eq_true, and_self] : Fresh _ b1))).mono ?_; rintro _ _ ⟨rfl, rfl⟩
  have c1 : (1 : Int) ≤ ((T.length + 1 : Nat) : Int) := by omega
  have c2 : T.length + 1 ≤ cap := hle
  have c3 : T.length + 1 - 1 = T.length := by omega
  have n1 : Fresh H b1 := h_b1
  simp (dsimp := false) (maxSteps := 4000000) only [g, c1, c2, c3, hbt, List.length_cons, hn_b1, hr_b1, go_sem, ↓reduceIte, Nat.reduceEqDiff, Nat.reduceLT, Nat.reduceLeDiff, Nat.reduceAdd, Nat.reduceMul, Nat.reduceSub, reduceCtorEq, Int.reduceToNat, Int.reduceLT, Int.reduceLE, Int.reduceEq, Int.reduceNe, Int.reduceBEq, Nat.reduceBEq, Int.reduceBNe, Nat.reduceBNe, Int.reduceAdd, Int.reduceSub, Int.reduceMul, Int.reduceNeg]
  refine AWp.loopr (ι := Nat × Option Addr × Nat) (fun x A => x.1 ≤ T.length ∧ (∀ j, j < x.1 → ∀ r, T[j]? = some r → fine r) ∧ ∃ B, A = (B.add b1 (.cells [.int .i64 p, .slice (some ⟨b, o, none⟩) (T.length + 1) cap] 25 2)) ∧ OwnS H B 90 5 x.2.1 x.2.2 (((T.take x.1).map takeE).map encE) ∧ (Keep H B fun _ => False) ∧ Fresh B b1)
    (fun x => [(16, .int .i64 x.1), (15, .int .i64 T.length), (14, .slice bt T.length (cap - 1)), (1, .pointer (some ⟨b1, 0, none⟩)), (2, .slice none 0 0), (3, .int .i64 0), (4, .slice x.2.1 x.1 x.2.2)]) (fun x => T.length - x.1) (0, none, 0) (H.add b1 (.cells [.int .i64 p, .slice (some ⟨b, o, none⟩) (T.length + 1) cap] 25 2))
    ⟨by simp, fun j hj => by simp at hj, H, rfl, OwnS.nil, Keep.refl, h_b1⟩ (FrLe.of_lks ?_) (AH.le_refl _) fun x A hi Q again out => ?_
  · simp (dsimp := false) (maxSteps := 4000000) only [hbt, List.length_cons, hn_b1, hr_b1, go_sem, ↓reduceIte, Nat.reduceEqDiff, Nat.reduceLT, Nat.reduceLeDiff, Nat.reduceAdd, Nat.reduceMul, Nat.reduceSub, reduceCtorEq, Int.reduceToNat, Int.reduceLT, Int.reduceLE, Int.reduceEq, Int.reduceNe, Int.reduceBEq, Nat.reduceBEq, Int.reduceBNe, Nat.reduceBNe, Int.reduceAdd, Int.reduceSub, Int.reduceMul, Int.reduceNeg]
  · clear hn_b1 hr_b1 h_b1
    
    obtain ⟨i, base', cap'⟩ := x
    obtain ⟨hi, hz, B, rfl, hO, hK, g1⟩ := hi
    dsimp only at hi hO hz again ⊢
    
    have hil : i = ((T.take i).map takeE).length := by simp; omega
    have hsO := hO.slc
    by_cases hlt : i < T.length
    · have hlt' : (i : Int) < T.length := by omega
      obtain ⟨r, hr⟩ := get_some (l := T) (i := i) hlt
      have hsB : SlcIn B 4 bt (cap - 1) (T.map enc) := hst.keep hK fun _ _ h => h
      obtain ⟨q, o2, hbt2, hrow, _⟩ := hsB.get (map_get (f := enc) hr)
      subst hbt2
      have e1_ := i64_succ (i := i) (by omega)
      have nb1 : ¬ b1 = q := g1.ne_row hrow
      have hrk := hw r (List.mem_cons_of_mem _ (List.mem_of_getElem? hr))
      
      simp (dsimp := false) (maxSteps := 4000000) only [hlt', hrow, nb1, g1, enc_len, enc_scal, enc_z4, enc_take, encE_len, encE_scal, encE_z5, encE_take, hbt, List.length_cons, go_sem, ↓reduceIte, Nat.reduceEqDiff, Nat.reduceLT, Nat.reduceLeDiff, Nat.reduceAdd, Nat.reduceMul, Nat.reduceSub, reduceCtorEq, Int.reduceToNat, Int.reduceLT, Int.reduceLE, Int.reduceEq, Int.reduceNe, Int.reduceBEq, Nat.reduceBEq, Int.reduceBNe, Nat.reduceBNe, Int.reduceAdd, Int.reduceSub, Int.reduceMul, Int.reduceNeg]
      refine AllB.mk fun b6 h_b6 => ?_; have hn_b6 := h_b6; (try simp only [fresh_add, fresh_set, ne_eq] at hn_b6); have hr_b6 := hn_b6; (try simp only [@eq_comm Nat b6] at hr_b6); simp (dsimp := false) (maxSteps := 4000000) only [g1, enc_len, enc_scal, enc_z4, enc_take, encE_len, encE_scal, encE_z5, encE_take, hbt, List.length_cons, hn_b6, hr_b6, go_sem, ↓reduceIte, Nat.reduceEqDiff, Nat.reduceLT, Nat.reduceLeDiff, Nat.reduceAdd, Nat.reduceMul, Nat.reduceSub, reduceCtorEq, Int.reduceToNat, Int.reduceLT, Int.reduceLE, Int.reduceEq, Int.reduceNe, Int.reduceBEq, Nat.reduceBEq, Int.reduceBNe, Nat.reduceBNe, Int.reduceAdd, Int.reduceSub, Int.reduceMul, Int.reduceNeg]
      refine (Take_v hrk _).mono ?_; rintro _ _ ⟨rfl, rfl⟩
      cases ge : goodE (takeE r) with
      | false =>
        have hwk := walk_bad hr hz ge
        have t1 : tX r = ze := by simp [tX, ge]
        have t2 : tE r = 2 := by simp [tE, ge]
        
        simp (dsimp := false) (maxSteps := 4000000) only [t2, g1, enc_len, enc_scal, enc_z4, enc_take, encE_len, encE_scal, encE_z5, encE_take, hbt, List.length_cons, hn_b6, hr_b6, go_sem, ↓reduceIte, Nat.reduceEqDiff, Nat.reduceLT, Nat.reduceLeDiff, Nat.reduceAdd, Nat.reduceMul, Nat.reduceSub, reduceCtorEq, Int.reduceToNat, Int.reduceLT, Int.reduceLE, Int.reduceEq, Int.reduceNe, Int.reduceBEq, Nat.reduceBEq, Int.reduceBNe, Nat.reduceBNe, Int.reduceAdd, Int.reduceSub, Int.reduceMul, Int.reduceNeg]
        refine AllB.mk fun b7 h_b7 => ?_; have hn_b7 := h_b7; (try simp only [fresh_add, fresh_set, ne_eq] at hn_b7); have hr_b7 := hn_b7; (try simp only [@eq_comm Nat b7] at hr_b7); simp (dsimp := false) (maxSteps := 4000000) only [g1, enc_len, enc_scal, enc_z4, enc_take, encE_len, encE_scal, encE_z5, encE_take, hbt, List.length_cons, hn_b6, hr_b6, hn_b7, hr_b7, go_sem, ↓reduceIte, Nat.reduceEqDiff, Nat.reduceLT, Nat.reduceLeDiff, Nat.reduceAdd, Nat.reduceMul, Nat.reduceSub, reduceCtorEq, Int.reduceToNat, Int.reduceLT, Int.reduceLE, Int.reduceEq, Int.reduceNe, Int.reduceBEq, Nat.reduceBEq, Int.reduceBNe, Nat.reduceBNe, Int.reduceAdd, Int.reduceSub, Int.reduceMul, Int.reduceNeg]
        refine out _ _ _ (by simp) ?_
        simp (dsimp := false) (maxSteps := 4000000) only [g1, enc_len, enc_scal, enc_z4, enc_take, encE_len, encE_scal, encE_z5, encE_take, hbt, List.length_cons, hn_b6, hr_b6, hn_b7, hr_b7, go_sem, ↓reduceIte, Nat.reduceEqDiff, Nat.reduceLT, Nat.reduceLeDiff, Nat.reduceAdd, Nat.reduceMul, Nat.reduceSub, reduceCtorEq, Int.reduceToNat, Int.reduceLT, Int.reduceLE, Int.reduceEq, Int.reduceNe, Int.reduceBEq, Nat.reduceBEq, Int.reduceBNe, Nat.reduceBNe, Int.reduceAdd, Int.reduceSub, Int.reduceMul, Int.reduceNeg]
        exact nil_ _ (AH.le_trans hK.all (by (repeat (first | exact AH.le_refl _ | refine AH.le_add ?_ ?_)); all_goals (first | exact AH.le_refl _ | (show AH.find _ _ = _; simp only [find_add_self, find_add_ne, find_fresh, fresh_add, ne_eq, not_false_eq_true, true_and, and_true, and_self, g1, enc_len, enc_scal, enc_z4, enc_take, encE_len, encE_scal, encE_z5, encE_take, hbt, List.length_cons, hn_b6, hr_b6, hn_b7, hr_b7])))) (by simp [tO, g, hwk]) (by simp [tN, g, hwk])
        
      | true =>
        have t1 : tX r = takeE r := by simp [tX, ge]
        have t2 : tE r = 0 := by simp [tE, ge]
        rw [t1, t2]
        simp (dsimp := false) (maxSteps := 4000000) only [g1, enc_len, enc_scal, enc_z4, enc_take, encE_len, encE_scal, encE_z5, encE_take, hbt, List.length_cons, hn_b6, hr_b6, go_sem, ↓reduceIte, Nat.reduceEqDiff, Nat.reduceLT, Nat.reduceLeDiff, Nat.reduceAdd, Nat.reduceMul, Nat.reduceSub, reduceCtorEq, Int.reduceToNat, Int.reduceLT, Int.reduceLE, Int.reduceEq, Int.reduceNe, Int.reduceBEq, Nat.reduceBEq, Int.reduceBNe, Nat.reduceBNe, Int.reduceAdd, Int.reduceSub, Int.reduceMul, Int.reduceNeg]
        refine AllB.mk fun b7 h_b7 => ?_; have hn_b7 := h_b7; (try simp only [fresh_add, fresh_set, ne_eq] at hn_b7); have hr_b7 := hn_b7; (try simp only [@eq_comm Nat b7] at hr_b7); simp (dsimp := false) (maxSteps := 4000000) only [g1, enc_len, enc_scal, enc_z4, enc_take, encE_len, encE_scal, encE_z5, encE_take, hbt, List.length_cons, hn_b6, hr_b6, hn_b7, hr_b7, go_sem, ↓reduceIte, Nat.reduceEqDiff, Nat.reduceLT, Nat.reduceLeDiff, Nat.reduceAdd, Nat.reduceMul, Nat.reduceSub, reduceCtorEq, Int.reduceToNat, Int.reduceLT, Int.reduceLE, Int.reduceEq, Int.reduceNe, Int.reduceBEq, Nat.reduceBEq, Int.reduceBNe, Nat.reduceBNe, Int.reduceAdd, Int.reduceSub, Int.reduceMul, Int.reduceNeg]
        by_cases k4 : (takeE r).1 = 4
        · 
          simp (dsimp := false) (maxSteps := 4000000) only [encE_0, k4, g1, enc_len, enc_scal, enc_z4, enc_take, encE_len, encE_scal, encE_z5, encE_take, hbt, List.length_cons, hn_b6, hr_b6, hn_b7, hr_b7, go_sem, ↓reduceIte, Nat.reduceEqDiff, Nat.reduceLT, Nat.reduceLeDiff, Nat.reduceAdd, Nat.reduceMul, Nat.reduceSub, reduceCtorEq, Int.reduceToNat, Int.reduceLT, Int.reduceLE, Int.reduceEq, Int.reduceNe, Int.reduceBEq, Nat.reduceBEq, Int.reduceBNe, Nat.reduceBNe, Int.reduceAdd, Int.reduceSub, Int.reduceMul, Int.reduceNeg]
          refine out _ _ _ (by simp) ?_
          simp (dsimp := false) (maxSteps := 4000000) only [g1, enc_len, enc_scal, enc_z4, enc_take, encE_len, encE_scal, encE_z5, encE_take, hbt, List.length_cons, hn_b6, hr_b6, hn_b7, hr_b7, go_sem, ↓reduceIte, Nat.reduceEqDiff, Nat.reduceLT, Nat.reduceLeDiff, Nat.reduceAdd, Nat.reduceMul, Nat.reduceSub, reduceCtorEq, Int.reduceToNat, Int.reduceLT, Int.reduceLE, Int.reduceEq, Int.reduceNe, Int.reduceBEq, Nat.reduceBEq, Int.reduceBNe, Nat.reduceBNe, Int.reduceAdd, Int.reduceSub, Int.reduceMul, Int.reduceNeg]
          have hwk : walk T = some ((T.take i).map takeE) := walk_stop hr hz ge k4
          refine (table_x (L := (T.take i).map takeE) (((hsO.add g1).add h_b6).add h_b7) hil).mono ?_; rintro _ _ ⟨rfl, rfl⟩
          cases gm : mayB ((T.take i).map takeE) with
          | false =>
            simp (dsimp := false) (maxSteps := 4000000) only [gm, g1, enc_len, enc_scal, enc_z4, enc_take, encE_len, encE_scal, encE_z5, encE_take, hbt, List.length_cons, hn_b6, hr_b6, hn_b7, hr_b7, go_sem, ↓reduceIte, Nat.reduceEqDiff, Nat.reduceLT, Nat.reduceLeDiff, Nat.reduceAdd, Nat.reduceMul, Nat.reduceSub, reduceCtorEq, Int.reduceToNat, Int.reduceLT, Int.reduceLE, Int.reduceEq, Int.reduceNe, Int.reduceBEq, Nat.reduceBEq, Int.reduceBNe, Nat.reduceBNe, Int.reduceAdd, Int.reduceSub, Int.reduceMul, Int.reduceNeg]
            exact nil_ _ (AH.le_trans hK.all (by (repeat (first | exact AH.le_refl _ | refine AH.le_add ?_ ?_)); all_goals (first | exact AH.le_refl _ | (show AH.find _ _ = _; simp only [find_add_self, find_add_ne, find_fresh, fresh_add, ne_eq, not_false_eq_true, true_and, and_true, and_self, g1, enc_len, enc_scal, enc_z4, enc_take, encE_len, encE_scal, encE_z5, encE_take, hbt, List.length_cons, hn_b6, hr_b6, hn_b7, hr_b7])))) (by rw [tO_of g hwk, if_neg (by rw [gm]; decide)]) (by rw [tN_of g hwk, if_neg (by rw [gm]; decide)])
          | true =>
            have h1 : tO p (r0 :: T) = (T.take i).map takeE := by rw [tO_of g hwk, if_pos gm]
            have h2 : tN p (r0 :: T) = 0 := by rw [tN_of g hwk, if_pos gm]
            have hcp : i ≤ cap' := by have := hO.le; rw [List.length_map] at this; omega
            simp (dsimp := false) (maxSteps := 4000000) only [gm, g1, enc_len, enc_scal, enc_z4, enc_take, encE_len, encE_scal, encE_z5, encE_take, hbt, List.length_cons, hn_b6, hr_b6, hn_b7, hr_b7, go_sem, ↓reduceIte, Nat.reduceEqDiff, Nat.reduceLT, Nat.reduceLeDiff, Nat.reduceAdd, Nat.reduceMul, Nat.reduceSub, reduceCtorEq, Int.reduceToNat, Int.reduceLT, Int.reduceLE, Int.reduceEq, Int.reduceNe, Int.reduceBEq, Nat.reduceBEq, Int.reduceBNe, Nat.reduceBNe, Int.reduceAdd, Int.reduceSub, Int.reduceMul, Int.reduceNeg]
            refine (Clip_e base' i cap' _ hcp).mono ?_; rintro _ _ ⟨rfl, rfl⟩
            simp (dsimp := false) (maxSteps := 4000000) only [g1, enc_len, enc_scal, enc_z4, enc_take, encE_len, encE_scal, encE_z5, encE_take, hbt, List.length_cons, hn_b6, hr_b6, hn_b7, hr_b7, go_sem, ↓reduceIte, Nat.reduceEqDiff, Nat.reduceLT, Nat.reduceLeDiff, Nat.reduceAdd, Nat.reduceMul, Nat.reduceSub, reduceCtorEq, Int.reduceToNat, Int.reduceLT, Int.reduceLE, Int.reduceEq, Int.reduceNe, Int.reduceBEq, Nat.reduceBEq, Int.reduceBNe, Nat.reduceBNe, Int.reduceAdd, Int.reduceSub, Int.reduceMul, Int.reduceNeg]
            have hO2 : Got H B 5 base' i (((T.take i).map takeE).map encE) := by
              have := hO.clip
              rw [List.length_map, ← hil] at this
              cases hb : base' with
              | none =>
                subst hb
                rcases hO.at_ with ⟨_, h7, _⟩ | ⟨_, _, h7, _⟩
                · have : i = 0 := by rw [hil, ← List.length_map (f := encE), h7]; rfl
                  rw [h7, this]
                  exact ⟨SlcIn.nil, (fun a h => by cases h), hK⟩
                · cases h7
              | some a => subst hb; exact Got.own this hK
            refine ⟨B, (by (repeat (first | exact AH.le_refl _ | refine AH.le_add ?_ ?_)); all_goals (first | exact AH.le_refl _ | (show AH.find _ _ = _; simp only [find_add_self, find_add_ne, find_fresh, fresh_add, ne_eq, not_false_eq_true, true_and, and_true, and_self, g1, enc_len, enc_scal, enc_z4, enc_take, encE_len, encE_scal, encE_z5, encE_take, hbt, List.length_cons, hn_b6, hr_b6, hn_b7, hr_b7]))), base', i, ?_, ?_⟩
            · rw [h1, h2, ← hil]
            · rw [h1]; exact hO2
          
        simp (dsimp := false) (maxSteps := 4000000) only [encE_0, k4, g1, enc_len, enc_scal, enc_z4, enc_take, encE_len, encE_scal, encE_z5, encE_take, hbt, List.length_cons, hn_b6, hr_b6, hn_b7, hr_b7, go_sem, ↓reduceIte, Nat.reduceEqDiff, Nat.reduceLT, Nat.reduceLeDiff, Nat.reduceAdd, Nat.reduceMul, Nat.reduceSub, reduceCtorEq, Int.reduceToNat, Int.reduceLT, Int.reduceLE, Int.reduceEq, Int.reduceNe, Int.reduceBEq, Nat.reduceBEq, Int.reduceBNe, Nat.reduceBNe, Int.reduceAdd, Int.reduceSub, Int.reduceMul, Int.reduceNeg]
        refine AllB.mk fun bx h_bx => ?_; have hn_bx := h_bx; (try simp only [fresh_add, fresh_set, ne_eq] at hn_bx); have hr_bx := hn_bx; (try simp only [@eq_comm Nat bx] at hr_bx); simp (dsimp := false) (maxSteps := 4000000) only [g1, enc_len, enc_scal, enc_z4, enc_take, encE_len, encE_scal, encE_z5, encE_take, hbt, List.length_cons, hn_b6, hr_b6, hn_b7, hr_b7, hn_bx, hr_bx, go_sem, ↓reduceIte, Nat.reduceEqDiff, Nat.reduceLT, Nat.reduceLeDiff, Nat.reduceAdd, Nat.reduceMul, Nat.reduceSub, reduceCtorEq, Int.reduceToNat, Int.reduceLT, Int.reduceLE, Int.reduceEq, Int.reduceNe, Int.reduceBEq, Nat.reduceBEq, Int.reduceBNe, Nat.reduceBNe, Int.reduceAdd, Int.reduceSub, Int.reduceMul, Int.reduceNeg]
        have p1 : AH.find ((((B.add b1 (.cells [.int .i64 p, .slice (some ⟨b, o, none⟩) (T.length + 1) cap] 25 2)).add b6 (.cells (enc r) 64 4)).add b7 (.cells (encE (takeE r)) 90 5)).add bx (.cells (encE (takeE r)) 90 5)) b1 = some (.cells [.int .i64 p, .slice (some ⟨b, o, none⟩) (T.length + 1) cap] 25 2) := by (show AH.find _ _ = _; simp only [find_add_self, find_add_ne, find_fresh, fresh_add, ne_eq, not_false_eq_true, true_and, and_true, and_self, g1, enc_len, enc_scal, enc_z4, enc_take, encE_len, encE_scal, encE_z5, encE_take, hbt, List.length_cons, hn_b6, hr_b6, hn_b7, hr_b7, hn_bx, hr_bx])
        have hOx : OwnS H ((((B.add b1 (.cells [.int .i64 p, .slice (some ⟨b, o, none⟩) (T.length + 1) cap] 25 2)).add b6 (.cells (enc r) 64 4)).add b7 (.cells (encE (takeE r)) 90 5)).add bx (.cells (encE (takeE r)) 90 5)) 90 5 base' cap' (((T.take i).map takeE).map encE) := (((hO.added g1).added h_b6).added h_b7).added h_bx
        have hKx : Keep H ((((B.add b1 (.cells [.int .i64 p, .slice (some ⟨b, o, none⟩) (T.length + 1) cap] 25 2)).add b6 (.cells (enc r) 64 4)).add b7 (.cells (encE (takeE r)) 90 5)).add bx (.cells (encE (takeE r)) 90 5)) fun _ => False := (((hK.nw g1).nw h_b6).nw h_b7).nw h_bx
        refine APD.growW (x := .slice (some ⟨bx, 0, none⟩) 1 1) (R' := [encE (takeE r)]) (m := 1) hOx hKx.all se_101 rfl (by decide) (by rw [Try.underlying101]; rfl) (by simp; omega) rfl rfl (by rw [srow_some, row_add_self]; rfl) (by simp [encE]) (by simp [encE, scal]) (by omega) fun base2 cap2 A' hO' hK' hN' => ?_
        have q1 : A'.find b1 = some (.cells [.int .i64 p, .slice (some ⟨b, o, none⟩) (T.length + 1) cap] 25 2) := hK'.find (fun hx => by obtain ⟨a, ha, e⟩ := hx; exact hO.ne g1 a ha e.symm) p1
        refine ⟨_, top1 q1, ?_⟩
        
        
        simp (dsimp := false) (maxSteps := 4000000) only [e1_, g1, enc_len, enc_scal, enc_z4, enc_take, encE_len, encE_scal, encE_z5, encE_take, hbt, List.length_cons, go_sem, ↓reduceIte, Nat.reduceEqDiff, Nat.reduceLT, Nat.reduceLeDiff, Nat.reduceAdd, Nat.reduceMul, Nat.reduceSub, reduceCtorEq, Int.reduceToNat, Int.reduceLT, Int.reduceLE, Int.reduceEq, Int.reduceNe, Int.reduceBEq, Nat.reduceBEq, Int.reduceBNe, Nat.reduceBNe, Int.reduceAdd, Int.reduceSub, Int.reduceMul, Int.reduceNeg]
        have hK2 := (hKx.ow hK' fun b ⟨a, ha, e⟩ => e ▸ hO.fresh a ha)
        obtain ⟨hK3, g13⟩ := hK2.dels n1
        have ne1 : ∀ a, base2 = some a → a.block ≠ b1 := fun a ha e => by
          rcases hN' a ha with ⟨a', h1, h2⟩ | h1
          · exact hO.ne g1 a' h1 (h2 ▸ e)
          · exact h1.ne_find p1 e
        have hO2 := hO'.del ne1
        rw [take_succ hr] at hO2
        have hz2 : ∀ j, j < i + 1 → ∀ r, T[j]? = some r → fine r := fun j hj m hm => by
          by_cases hji : j = i
          · subst hji; rw [hr] at hm; cases hm; exact ⟨ge, k4⟩
          · exact hz j (by omega) m hm
        exact again (i + 1, base2, cap2) _ _ _ ⟨by simp only; omega, hz2, _, rfl, hO2, hK3, g13⟩ (FrLe.of_lks (by simp (dsimp := false) (maxSteps := 4000000) only [g1, enc_len, enc_scal, enc_z4, enc_take, encE_len, encE_scal, encE_z5, encE_take, hbt, List.length_cons, go_sem, ↓reduceIte, Nat.reduceEqDiff, Nat.reduceLT, Nat.reduceLeDiff, Nat.reduceAdd, Nat.reduceMul, Nat.reduceSub, reduceCtorEq, Int.reduceToNat, Int.reduceLT, Int.reduceLE, Int.reduceEq, Int.reduceNe, Int.reduceBEq, Nat.reduceBEq, Int.reduceBNe, Nat.reduceBNe, Int.reduceAdd, Int.reduceSub, Int.reduceMul, Int.reduceNeg])) (AH.le_refl _) (by simp only; omega)
        
    · have hlt' : ¬ (i : Int) < T.length := by omega
      simp (dsimp := false) (maxSteps := 4000000) only [hlt', g1, enc_len, enc_scal, enc_z4, enc_take, encE_len, encE_scal, encE_z5, encE_take, hbt, List.length_cons, go_sem, ↓reduceIte, Nat.reduceEqDiff, Nat.reduceLT, Nat.reduceLeDiff, Nat.reduceAdd, Nat.reduceMul, Nat.reduceSub, reduceCtorEq, Int.reduceToNat, Int.reduceLT, Int.reduceLE, Int.reduceEq, Int.reduceNe, Int.reduceBEq, Nat.reduceBEq, Int.reduceBNe, Nat.reduceBNe, Int.reduceAdd, Int.reduceSub, Int.reduceMul, Int.reduceNeg]
      refine out _ _ _ (by simp) ?_
      simp (dsimp := false) (maxSteps := 4000000) only [g1, enc_len, enc_scal, enc_z4, enc_take, encE_len, encE_scal, encE_z5, encE_take, hbt, List.length_cons, go_sem, ↓reduceIte, Nat.reduceEqDiff, Nat.reduceLT, Nat.reduceLeDiff, Nat.reduceAdd, Nat.reduceMul, Nat.reduceSub, reduceCtorEq, Int.reduceToNat, Int.reduceLT, Int.reduceLE, Int.reduceEq, Int.reduceNe, Int.reduceBEq, Nat.reduceBEq, Int.reduceBNe, Nat.reduceBNe, Int.reduceAdd, Int.reduceSub, Int.reduceMul, Int.reduceNeg]
      have hwk : walk T = some ((T.take i).map takeE) := walk_end (by omega) hz
      refine (table_x (L := (T.take i).map takeE) (hsO.add g1) hil).mono ?_; rintro _ _ ⟨rfl, rfl⟩
      cases gm : mayB ((T.take i).map takeE) with
      | false =>
        simp (dsimp := false) (maxSteps := 4000000) only [gm, g1, enc_len, enc_scal, enc_z4, enc_take, encE_len, encE_scal, encE_z5, encE_take, hbt, List.length_cons, go_sem, ↓reduceIte, Nat.reduceEqDiff, Nat.reduceLT, Nat.reduceLeDiff, Nat.reduceAdd, Nat.reduceMul, Nat.reduceSub, reduceCtorEq, Int.reduceToNat, Int.reduceLT, Int.reduceLE, Int.reduceEq, Int.reduceNe, Int.reduceBEq, Nat.reduceBEq, Int.reduceBNe, Nat.reduceBNe, Int.reduceAdd, Int.reduceSub, Int.reduceMul, Int.reduceNeg]
        exact nil_ _ (AH.le_trans hK.all (by (repeat (first | exact AH.le_refl _ | refine AH.le_add ?_ ?_)); all_goals (first | exact AH.le_refl _ | (show AH.find _ _ = _; simp only [find_add_self, find_add_ne, find_fresh, fresh_add, ne_eq, not_false_eq_true, true_and, and_true, and_self, g1, enc_len, enc_scal, enc_z4, enc_take, encE_len, encE_scal, encE_z5, encE_take, hbt, List.length_cons])))) (by rw [tO_of g hwk, if_neg (by rw [gm]; decide)]) (by rw [tN_of g hwk, if_neg (by rw [gm]; decide)])
      | true =>
        have h1 : tO p (r0 :: T) = (T.take i).map takeE := by rw [tO_of g hwk, if_pos gm]
        have h2 : tN p (r0 :: T) = 0 := by rw [tN_of g hwk, if_pos gm]
        have hcp : i ≤ cap' := by have := hO.le; rw [List.length_map] at this; omega
        simp (dsimp := false) (maxSteps := 4000000) only [gm, g1, enc_len, enc_scal, enc_z4, enc_take, encE_len, encE_scal, encE_z5, encE_take, hbt, List.length_cons, go_sem, ↓reduceIte, Nat.reduceEqDiff, Nat.reduceLT, Nat.reduceLeDiff, Nat.reduceAdd, Nat.reduceMul, Nat.reduceSub, reduceCtorEq, Int.reduceToNat, Int.reduceLT, Int.reduceLE, Int.reduceEq, Int.reduceNe, Int.reduceBEq, Nat.reduceBEq, Int.reduceBNe, Nat.reduceBNe, Int.reduceAdd, Int.reduceSub, Int.reduceMul, Int.reduceNeg]
        refine (Clip_e base' i cap' _ hcp).mono ?_; rintro _ _ ⟨rfl, rfl⟩
        simp (dsimp := false) (maxSteps := 4000000) only [g1, enc_len, enc_scal, enc_z4, enc_take, encE_len, encE_scal, encE_z5, encE_take, hbt, List.length_cons, go_sem, ↓reduceIte, Nat.reduceEqDiff, Nat.reduceLT, Nat.reduceLeDiff, Nat.reduceAdd, Nat.reduceMul, Nat.reduceSub, reduceCtorEq, Int.reduceToNat, Int.reduceLT, Int.reduceLE, Int.reduceEq, Int.reduceNe, Int.reduceBEq, Nat.reduceBEq, Int.reduceBNe, Nat.reduceBNe, Int.reduceAdd, Int.reduceSub, Int.reduceMul, Int.reduceNeg]
        have hO2 : Got H B 5 base' i (((T.take i).map takeE).map encE) := by
          have := hO.clip
          rw [List.length_map, ← hil] at this
          cases hb : base' with
          | none =>
            subst hb
            rcases hO.at_ with ⟨_, h7, _⟩ | ⟨_, _, h7, _⟩
            · have : i = 0 := by rw [hil, ← List.length_map (f := encE), h7]; rfl
              rw [h7, this]
              exact ⟨SlcIn.nil, (fun a h => by cases h), hK⟩
            · cases h7
          | some a => subst hb; exact Got.own this hK
        refine ⟨B, (by (repeat (first | exact AH.le_refl _ | refine AH.le_add ?_ ?_)); all_goals (first | exact AH.le_refl _ | (show AH.find _ _ = _; simp only [find_add_self, find_add_ne, find_fresh, fresh_add, ne_eq, not_false_eq_true, true_and, and_true, and_self, g1, enc_len, enc_scal, enc_z4, enc_take, encE_len, encE_scal, encE_z5, encE_take, hbt, List.length_cons]))), base', i, ?_, ?_⟩
        · rw [h1, h2, ← hil]
        · rw [h1]; exact hO2
end Go.Proofs.Ytadbmmdmibiikaa.Rodl
