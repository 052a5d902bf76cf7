/- rose's reference: Sequence. -/
import Derived.Test.YtadbmmdmibiikaaRose4
namespace Go.Proofs.Ytadbmmdmibiikaa.Rose
set_option linter.unusedSimpArgs false
set_option linter.unusedVariables false
open Go Go.AX Go.Proofs Ty Go.Proofs.Ytadbmmdmibiikaa.File
set_option maxHeartbeats 4000000
set_option maxRecDepth 10000

def zero3 (r : Rc) : Bool := decide (r.2 = (0, 0, 0))
theorem fb_eq {r : Rc} (h : RcOk r) : decide (fb r.1 = r) = zero3 r := by
  obtain ⟨a, b, c, d⟩ := r
  have hh : IntKind.u8.wrap a = a := u8_eq h.1.1 (by have := h.1.2; simp only at this; omega)
  simp only [fb, hh, zero3, Prod.mk.injEq, true_and]
  congr 1
  rw [eq_iff_iff]
  constructor
  · rintro ⟨h1, h2, h3⟩; exact ⟨h1.symm, h2.symm, h3.symm⟩
  · rintro ⟨h1, h2, h3⟩; exact ⟨h1.symm, h2.symm, h3.symm⟩
theorem map_fb {T : List Rc} (h : ∀ r ∈ T, RcOk r) : decide (T = (outF T).map fb) = T.all zero3 := by
  induction T with
  | nil => rfl
  | cons r T ih =>
    have := ih fun r hr => h r (List.mem_cons_of_mem _ hr)
    rw [List.all_cons, ← this, ← fb_eq (h r (List.mem_cons_self ..))]
    simp only [outF, List.map_cons, List.cons.injEq, Bool.decide_and]
    congr 1
    rw [Bool.eq_iff_iff]; simp [eq_comm]
theorem sq_eq {p : Int} {r0 : Rc} {T : List Rc} (g : goodF p (r0 :: T) = true) (h : ∀ r ∈ T, RcOk r) : sq p (r0 :: T) = (decide (p = 3) && T.all zero3 && seqB (outF T)) := by
  have hh : r0 = hd p T.length := by
    simp only [goodF, Bool.and_eq_true, decide_eq_true_eq] at g
    exact g.2
  by_cases hp : p = 3
  · subst hp
    have : sameF 3 3 (r0 :: T) (fileR (outF T)) = T.all zero3 := by
      rw [← map_fb h]
      simp only [sameF, fileR, true_and, List.cons.injEq]
      congr 1
      rw [eq_iff_iff]
      exact ⟨fun h => h.2, fun h' => ⟨by rw [hh]; simp [outF], h'⟩⟩
    simp only [sq, g, List.tail_cons, this, Bool.true_and, decide_true]
    exact Bool.and_comm _ _
  · simp [sq, sameF, hp]
theorem May_x {L : List Int} {n : Nat} {base : Option Addr} {cap : Nat} {H : AH} (hs : SlcIn H 1 base cap (L.map e1)) (hn : n = L.length) :
    ACalls Try.prog 68 #[.slice base n cap] H (fun v H' => v = .bool (seqB L) ∧ H = H') := by
  subst hn; exact May_c L base cap H hs
theorem RefSequence_nogood (p : Int) (R : List Rc) (base : Option Addr) (cap : Nat) (H : AH) (hs : SlcIn H 4 base cap (R.map enc)) (g : goodF p R = false) :
    ACalls Try.prog 19 #[fv p base R.length cap] H (fun v H' => v = sbad ∧ H = H') := by
  have hg := fun H1 (h1 : SlcIn H1 4 base cap (R.map enc)) => RefGood_c p R base cap H1 h1
  unfold fv at hg ⊢
  refine ACalls.enter2 Try.func19 rfl Try.ntmps19 Try.results19 (by simp) ?_; simp (dsimp := false) (maxSteps := 4000000) only [go_sem, ↓reduceIte, Nat.reduceEqDiff, Nat.reduceLT, Nat.reduceLeDiff, Nat.reduceAdd, Nat.reduceMul, Nat.reduceSub, reduceCtorEq, Int.reduceToNat, Int.reduceLT, Int.reduceLE, Int.reduceEq, Int.reduceNe, Int.reduceBEq, Nat.reduceBEq, Int.reduceBNe, Nat.reduceBNe, Int.reduceAdd, Int.reduceSub, Int.reduceMul, Int.reduceNeg]
  refine AllB.mk fun b1 h_b1 => ?_; have hn_b1 := h_b1; (try simp only [fresh_add, fresh_set, ne_eq] at hn_b1); have hr_b1 := hn_b1; (try simp only [@eq_comm Nat b1] at hr_b1); simp (dsimp := false) (maxSteps := 4000000) only [hn_b1, hr_b1, go_sem, ↓reduceIte, Nat.reduceEqDiff, Nat.reduceLT, Nat.reduceLeDiff, Nat.reduceAdd, Nat.reduceMul, Nat.reduceSub, reduceCtorEq, Int.reduceToNat, Int.reduceLT, Int.reduceLE, Int.reduceEq, Int.reduceNe, Int.reduceBEq, Nat.reduceBEq, Int.reduceBNe, Nat.reduceBNe, Int.reduceAdd, Int.reduceSub, Int.reduceMul, Int.reduceNeg]
  refine AllB.mk fun bl h_bl => ?_; have hn_bl := h_bl; (try simp only [fresh_add, fresh_set, ne_eq] at hn_bl); have hr_bl := hn_bl; (try simp only [@eq_comm Nat bl] at hr_bl); simp (dsimp := false) (maxSteps := 4000000) only [hn_b1, hr_b1, hn_bl, hr_bl, go_sem, ↓reduceIte, Nat.reduceEqDiff, Nat.reduceLT, Nat.reduceLeDiff, Nat.reduceAdd, Nat.reduceMul, Nat.reduceSub, reduceCtorEq, Int.reduceToNat, Int.reduceLT, Int.reduceLE, Int.reduceEq, Int.reduceNe, Int.reduceBEq, Nat.reduceBEq, Int.reduceBNe, Nat.reduceBNe, Int.reduceAdd, Int.reduceSub, Int.reduceMul, Int.reduceNeg]
  refine (hg _ ((hs.add (by simp only [fresh_add, ne_eq, hn_b1, not_false_eq_true, and_self] : Fresh _ b1)).add (by simp only [fresh_add, ne_eq, hn_bl, not_false_eq_true, and_self] : Fresh _ bl))).mono ?_; rintro _ _ ⟨rfl, rfl⟩
  simp (dsimp := false) (maxSteps := 4000000) only [g, hn_b1, hr_b1, hn_bl, hr_bl, go_sem, ↓reduceIte, Nat.reduceEqDiff, Nat.reduceLT, Nat.reduceLeDiff, Nat.reduceAdd, Nat.reduceMul, Nat.reduceSub, reduceCtorEq, Int.reduceToNat, Int.reduceLT, Int.reduceLE, Int.reduceEq, Int.reduceNe, Int.reduceBEq, Nat.reduceBEq, Int.reduceBNe, Nat.reduceBNe, Int.reduceAdd, Int.reduceSub, Int.reduceMul, Int.reduceNeg]
  exact ⟨H, (AH.le_add (AH.le_add (AH.le_refl _) ((by simp only [fresh_add, fresh_set, ne_eq, hn_b1, not_false_eq_true, and_self] : Fresh _ b1).2)) ((by simp only [fresh_add, fresh_set, ne_eq, hn_bl, not_false_eq_true, and_self] : Fresh _ bl).2)), (by first | exact ⟨rfl, rfl⟩ | rfl)⟩
theorem RefSequence_good (p : Int) (R : List Rc) (base : Option Addr) (cap : Nat) (H : AH) (hs : SlcIn H 4 base cap (R.map enc)) (hw : ∀ r ∈ R, RcOk r) (g : goodF p R = true) :
    ACalls Try.prog 19 #[fv p base R.length cap] H (fun v H' => (sq p R = false ∧ v = sbad ∧ H = H') ∨ (sq p R = true ∧ ∃ b' c', v = .tuple #[.slice b' R.tail.length c', .int .i64 0] ∧ OwnS H H' 3 1 b' c' ((outF R.tail).map e1) ∧ Keep H H' fun _ => False)) := by
  obtain ⟨hp0, hp1, hr0, hr1⟩ := goodF_p g
  have hg := fun H1 (h1 : SlcIn H1 4 base cap (R.map enc)) => RefGood_c p R base cap H1 h1
  unfold fv at hg ⊢
  cases R with
  | nil => exact absurd rfl hr0
  | cons r0 T =>
  obtain ⟨b, o, rfl, _, _⟩ := hs.get (r := enc r0) (i := 0) rfl
  have hle := hs.le
  have hsq := sq_eq g fun r hr => hw r (List.mem_cons_of_mem _ hr)
  simp only [List.length_map, List.length_cons] at hle hr1
  refine ACalls.enter2 Try.func19 rfl Try.ntmps19 Try.results19 (by simp) ?_; simp (dsimp := false) (maxSteps := 4000000) only [List.length_cons, go_sem, ↓reduceIte, Nat.reduceEqDiff, Nat.reduceLT, Nat.reduceLeDiff, Nat.reduceAdd, Nat.reduceMul, Nat.reduceSub, reduceCtorEq, Int.reduceToNat, Int.reduceLT, Int.reduceLE, Int.reduceEq, Int.reduceNe, Int.reduceBEq, Nat.reduceBEq, Int.reduceBNe, Nat.reduceBNe, Int.reduceAdd, Int.reduceSub, Int.reduceMul, Int.reduceNeg]
  refine AllB.mk fun b1 h_b1 => ?_; have hn_b1 := h_b1; (try simp only [fresh_add, fresh_set, ne_eq] at hn_b1); have hr_b1 := hn_b1; (try simp only [@eq_comm Nat b1] at hr_b1); simp (dsimp := false) (maxSteps := 4000000) only [List.length_cons, hn_b1, hr_b1, go_sem, ↓reduceIte, Nat.reduceEqDiff, Nat.reduceLT, Nat.reduceLeDiff, Nat.reduceAdd, Nat.reduceMul, Nat.reduceSub, reduceCtorEq, Int.reduceToNat, Int.reduceLT, Int.reduceLE, Int.reduceEq, Int.reduceNe, Int.reduceBEq, Nat.reduceBEq, Int.reduceBNe, Nat.reduceBNe, Int.reduceAdd, Int.reduceSub, Int.reduceMul, Int.reduceNeg]
  refine AllB.mk fun bl h_bl => ?_; have hn_bl := h_bl; (try simp only [fresh_add, fresh_set, ne_eq] at hn_bl); have hr_bl := hn_bl; (try simp only [@eq_comm Nat bl] at hr_bl); simp (dsimp := false) (maxSteps := 4000000) only [List.length_cons, hn_b1, hr_b1, hn_bl, hr_bl, go_sem, ↓reduceIte, Nat.reduceEqDiff, Nat.reduceLT, Nat.reduceLeDiff, Nat.reduceAdd, Nat.reduceMul, Nat.reduceSub, reduceCtorEq, Int.reduceToNat, Int.reduceLT, Int.reduceLE, Int.reduceEq, Int.reduceNe, Int.reduceBEq, Nat.reduceBEq, Int.reduceBNe, Nat.reduceBNe, Int.reduceAdd, Int.reduceSub, Int.reduceMul, Int.reduceNeg]
  refine (hg _ ((hs.add (by simp only [fresh_add, ne_eq, hn_b1, not_false_eq_true, and_self] : Fresh _ b1)).add (by simp only [fresh_add, ne_eq, hn_bl, not_false_eq_true, and_self] : Fresh _ bl))).mono ?_; rintro _ _ ⟨rfl, rfl⟩
  have n1 : Fresh H b1 := h_b1
  have nl : Fresh H bl := hn_bl.2
  by_cases hp : p = 3
  case neg =>
    
    simp (dsimp := false) (maxSteps := 4000000) only [g, hp, List.length_cons, hn_b1, hr_b1, hn_bl, hr_bl, go_sem, ↓reduceIte, Nat.reduceEqDiff, Nat.reduceLT, Nat.reduceLeDiff, Nat.reduceAdd, Nat.reduceMul, Nat.reduceSub, reduceCtorEq, Int.reduceToNat, Int.reduceLT, Int.reduceLE, Int.reduceEq, Int.reduceNe, Int.reduceBEq, Nat.reduceBEq, Int.reduceBNe, Nat.reduceBNe, Int.reduceAdd, Int.reduceSub, Int.reduceMul, Int.reduceNeg]
    exact ⟨H, (AH.le_add (AH.le_add (AH.le_refl _) ((by simp only [fresh_add, fresh_set, ne_eq, hn_b1, not_false_eq_true, and_self] : Fresh _ b1).2)) ((by simp only [fresh_add, fresh_set, ne_eq, hn_bl, not_false_eq_true, and_self] : Fresh _ bl).2)), .inl ⟨by rw [hsq, decide_eq_false hp]; rfl, rfl, rfl⟩⟩
    
  subst hp
  simp (dsimp := false) (maxSteps := 4000000) only [g, List.length_cons, hn_b1, hr_b1, hn_bl, hr_bl, go_sem, ↓reduceIte, Nat.reduceEqDiff, Nat.reduceLT, Nat.reduceLeDiff, Nat.reduceAdd, Nat.reduceMul, Nat.reduceSub, reduceCtorEq, Int.reduceToNat, Int.reduceLT, Int.reduceLE, Int.reduceEq, Int.reduceNe, Int.reduceBEq, Nat.reduceBEq, Int.reduceBNe, Nat.reduceBNe, Int.reduceAdd, Int.reduceSub, Int.reduceMul, Int.reduceNeg]
  refine AWp.loopr (ι := Nat × Option Addr × Nat) (fun x A => x.1 ≤ T.length ∧ (∀ j, j < x.1 → ∀ r, T[j]? = some r → zero3 r = true) ∧ ∃ B, A = (B.add b1 (.cells [.int .i64 3, .slice (some ⟨b, o, none⟩) (T.length + 1) cap] 25 2)) ∧ OwnS H B 3 1 x.2.1 x.2.2 ((outF (T.take x.1)).map e1) ∧ (Keep H B fun _ => False) ∧ Fresh B b1)
    (fun x => [(5, .int .i64 ((x.1 + 1 : Nat) : Int)), (1, .pointer (some ⟨b1, 0, none⟩)), (2, .slice none 0 0), (3, .int .i64 0), (4, .slice x.2.1 x.1 x.2.2)]) (fun x => T.length - x.1) (0, some ⟨bl, 0, none⟩, 0) ((H.add bl (.cells [] 3 0)).add b1 (.cells [.int .i64 3, .slice (some ⟨b, o, none⟩) (T.length + 1) cap] 25 2))
    ⟨by simp, fun j hj => by simp at hj, _, rfl, OwnS.new nl (AH.le_refl _) rfl rfl rfl (by simp [outF]) (by simp [outF]), Keep.add nl, by rw [fresh_add]; exact ⟨hr_bl.1, n1⟩⟩ (FrLe.of_lks ?_) ?_ fun x A hi Q again out => ?_
  · simp (dsimp := false) (maxSteps := 4000000) only [List.length_cons, hn_b1, hr_b1, hn_bl, hr_bl, go_sem, ↓reduceIte, Nat.reduceEqDiff, Nat.reduceLT, Nat.reduceLeDiff, Nat.reduceAdd, Nat.reduceMul, Nat.reduceSub, reduceCtorEq, Int.reduceToNat, Int.reduceLT, Int.reduceLE, Int.reduceEq, Int.reduceNe, Int.reduceBEq, Nat.reduceBEq, Int.reduceBNe, Nat.reduceBNe, Int.reduceAdd, Int.reduceSub, Int.reduceMul, Int.reduceNeg]
  · exact (by refine AH.le_cons ?_ ?_; (show AH.find _ _ = _; simp only [find_add_self, find_add_ne, find_fresh, fresh_add, ne_eq, not_false_eq_true, true_and, and_true, and_self, List.length_cons, hn_b1, hr_b1, hn_bl, hr_bl]); refine AH.le_cons ?_ ?_; (show AH.find _ _ = _; simp only [find_add_self, find_add_ne, find_fresh, fresh_add, ne_eq, not_false_eq_true, true_and, and_true, and_self, List.length_cons, hn_b1, hr_b1, hn_bl, hr_bl]); (repeat (first | exact AH.le_refl _ | refine AH.le_add ?_ ?_)); all_goals (first | exact AH.le_refl _ | (show AH.find _ _ = _; simp only [find_add_self, find_add_ne, find_fresh, fresh_add, ne_eq, not_false_eq_true, true_and, and_true, and_self, List.length_cons, hn_b1, hr_b1, hn_bl, hr_bl])))
  · clear hn_b1 hr_b1 h_b1 h_bl hn_bl hr_bl
    
    obtain ⟨i, base', cap'⟩ := x
    obtain ⟨hi, hz, B, rfl, hO, hK, g1⟩ := hi
    dsimp only at hi hO hz again ⊢
    
    by_cases hlt : i < T.length
    · have hlt' : ((i + 1 : Nat) : Int) < ((T.length + 1 : Nat) : Int) := by omega
      obtain ⟨r, hr⟩ := get_some (l := T) (i := i) (by omega)
      have hsB : SlcIn B 4 (some ⟨b, o, none⟩) cap ((r0 :: T).map enc) := hs.keep hK fun _ _ h => h
      obtain ⟨q, o2, hbt2, hrow, _⟩ := hsB.get (i := i + 1) (r := enc r) (by rw [List.map_cons, List.getElem?_cons_succ]; exact map_get hr)
      cases hbt2
      have e1_ := i64_succ (i := i + 1) (by omega)
      have nb1 : ¬ b1 = b := g1.ne_row hrow
      have hrk := (hw r (List.mem_cons_of_mem _ (List.mem_of_getElem? hr)))
      have hx1 : IntKind.i64.wrap r.1 = r.1 := by
        have := hrk.1
        exact i64_eq (by omega) (by omega)
      have zf : zero3 r = false → sq 3 (r0 :: T) = false := fun hz' => by
        rw [hsq]
        have : T.all zero3 = false := by
          rw [List.all_eq_false]
          exact ⟨r, List.mem_of_getElem? hr, by rw [hz']; simp⟩
        rw [this]; simp
      
      simp (dsimp := false) (maxSteps := 4000000) only [hlt', hrow, nb1, g1, enc_len, enc_scal, enc_z4, List.length_cons, go_sem, ↓reduceIte, Nat.reduceEqDiff, Nat.reduceLT, Nat.reduceLeDiff, Nat.reduceAdd, Nat.reduceMul, Nat.reduceSub, reduceCtorEq, Int.reduceToNat, Int.reduceLT, Int.reduceLE, Int.reduceEq, Int.reduceNe, Int.reduceBEq, Nat.reduceBEq, Int.reduceBNe, Nat.reduceBNe, Int.reduceAdd, Int.reduceSub, Int.reduceMul, Int.reduceNeg]
      refine AllB.mk fun b6 h_b6 => ?_; have hn_b6 := h_b6; (try simp only [fresh_add, fresh_set, ne_eq] at hn_b6); have hr_b6 := hn_b6; (try simp only [@eq_comm Nat b6] at hr_b6); simp (dsimp := false) (maxSteps := 4000000) only [g1, enc_len, enc_scal, enc_z4, List.length_cons, hn_b6, hr_b6, go_sem, ↓reduceIte, Nat.reduceEqDiff, Nat.reduceLT, Nat.reduceLeDiff, Nat.reduceAdd, Nat.reduceMul, Nat.reduceSub, reduceCtorEq, Int.reduceToNat, Int.reduceLT, Int.reduceLE, Int.reduceEq, Int.reduceNe, Int.reduceBEq, Nat.reduceBEq, Int.reduceBNe, Nat.reduceBNe, Int.reduceAdd, Int.reduceSub, Int.reduceMul, Int.reduceNeg]
      by_cases z1 : r.2.1 = 0
      case neg =>
        
        simp (dsimp := false) (maxSteps := 4000000) only [enc_1, z1, g1, enc_len, enc_scal, enc_z4, List.length_cons, hn_b6, hr_b6, go_sem, ↓reduceIte, Nat.reduceEqDiff, Nat.reduceLT, Nat.reduceLeDiff, Nat.reduceAdd, Nat.reduceMul, Nat.reduceSub, reduceCtorEq, Int.reduceToNat, Int.reduceLT, Int.reduceLE, Int.reduceEq, Int.reduceNe, Int.reduceBEq, Nat.reduceBEq, Int.reduceBNe, Nat.reduceBNe, Int.reduceAdd, Int.reduceSub, Int.reduceMul, Int.reduceNeg]
        refine out _ _ _ (by simp) ?_
        simp (dsimp := false) (maxSteps := 4000000) only [g1, enc_len, enc_scal, enc_z4, List.length_cons, hn_b6, hr_b6, go_sem, ↓reduceIte, Nat.reduceEqDiff, Nat.reduceLT, Nat.reduceLeDiff, Nat.reduceAdd, Nat.reduceMul, Nat.reduceSub, reduceCtorEq, Int.reduceToNat, Int.reduceLT, Int.reduceLE, Int.reduceEq, Int.reduceNe, Int.reduceBEq, Nat.reduceBEq, Int.reduceBNe, Nat.reduceBNe, Int.reduceAdd, Int.reduceSub, Int.reduceMul, Int.reduceNeg]
        exact ⟨H, AH.le_trans hK.all (by (repeat (first | exact AH.le_refl _ | refine AH.le_add ?_ ?_)); all_goals (first | exact AH.le_refl _ | (show AH.find _ _ = _; simp only [find_add_self, find_add_ne, find_fresh, fresh_add, ne_eq, not_false_eq_true, true_and, and_true, and_self, g1, enc_len, enc_scal, enc_z4, List.length_cons, hn_b6, hr_b6]))), .inl ⟨zf (by simp [zero3, Prod.ext_iff, z1]), rfl, rfl⟩⟩
        
      by_cases z2 : r.2.2.1 = 0
      case neg =>
        
        simp (dsimp := false) (maxSteps := 4000000) only [enc_1, enc_2, z1, z2, g1, enc_len, enc_scal, enc_z4, List.length_cons, hn_b6, hr_b6, go_sem, ↓reduceIte, Nat.reduceEqDiff, Nat.reduceLT, Nat.reduceLeDiff, Nat.reduceAdd, Nat.reduceMul, Nat.reduceSub, reduceCtorEq, Int.reduceToNat, Int.reduceLT, Int.reduceLE, Int.reduceEq, Int.reduceNe, Int.reduceBEq, Nat.reduceBEq, Int.reduceBNe, Nat.reduceBNe, Int.reduceAdd, Int.reduceSub, Int.reduceMul, Int.reduceNeg]
        refine out _ _ _ (by simp) ?_
        simp (dsimp := false) (maxSteps := 4000000) only [g1, enc_len, enc_scal, enc_z4, List.length_cons, hn_b6, hr_b6, go_sem, ↓reduceIte, Nat.reduceEqDiff, Nat.reduceLT, Nat.reduceLeDiff, Nat.reduceAdd, Nat.reduceMul, Nat.reduceSub, reduceCtorEq, Int.reduceToNat, Int.reduceLT, Int.reduceLE, Int.reduceEq, Int.reduceNe, Int.reduceBEq, Nat.reduceBEq, Int.reduceBNe, Nat.reduceBNe, Int.reduceAdd, Int.reduceSub, Int.reduceMul, Int.reduceNeg]
        exact ⟨H, AH.le_trans hK.all (by (repeat (first | exact AH.le_refl _ | refine AH.le_add ?_ ?_)); all_goals (first | exact AH.le_refl _ | (show AH.find _ _ = _; simp only [find_add_self, find_add_ne, find_fresh, fresh_add, ne_eq, not_false_eq_true, true_and, and_true, and_self, g1, enc_len, enc_scal, enc_z4, List.length_cons, hn_b6, hr_b6]))), .inl ⟨zf (by simp [zero3, Prod.ext_iff, z2]), rfl, rfl⟩⟩
        
      by_cases z3 : r.2.2.2 = 0
      case neg =>
        
        simp (dsimp := false) (maxSteps := 4000000) only [enc_1, enc_2, enc_3, z1, z2, z3, g1, enc_len, enc_scal, enc_z4, List.length_cons, hn_b6, hr_b6, go_sem, ↓reduceIte, Nat.reduceEqDiff, Nat.reduceLT, Nat.reduceLeDiff, Nat.reduceAdd, Nat.reduceMul, Nat.reduceSub, reduceCtorEq, Int.reduceToNat, Int.reduceLT, Int.reduceLE, Int.reduceEq, Int.reduceNe, Int.reduceBEq, Nat.reduceBEq, Int.reduceBNe, Nat.reduceBNe, Int.reduceAdd, Int.reduceSub, Int.reduceMul, Int.reduceNeg]
        refine out _ _ _ (by simp) ?_
        simp (dsimp := false) (maxSteps := 4000000) only [g1, enc_len, enc_scal, enc_z4, List.length_cons, hn_b6, hr_b6, go_sem, ↓reduceIte, Nat.reduceEqDiff, Nat.reduceLT, Nat.reduceLeDiff, Nat.reduceAdd, Nat.reduceMul, Nat.reduceSub, reduceCtorEq, Int.reduceToNat, Int.reduceLT, Int.reduceLE, Int.reduceEq, Int.reduceNe, Int.reduceBEq, Nat.reduceBEq, Int.reduceBNe, Nat.reduceBNe, Int.reduceAdd, Int.reduceSub, Int.reduceMul, Int.reduceNeg]
        exact ⟨H, AH.le_trans hK.all (by (repeat (first | exact AH.le_refl _ | refine AH.le_add ?_ ?_)); all_goals (first | exact AH.le_refl _ | (show AH.find _ _ = _; simp only [find_add_self, find_add_ne, find_fresh, fresh_add, ne_eq, not_false_eq_true, true_and, and_true, and_self, g1, enc_len, enc_scal, enc_z4, List.length_cons, hn_b6, hr_b6]))), .inl ⟨zf (by simp [zero3, Prod.ext_iff, z3]), rfl, rfl⟩⟩
        
      simp (dsimp := false) (maxSteps := 4000000) only [enc_0, enc_1, enc_2, enc_3, z1, z2, z3, hx1, g1, enc_len, enc_scal, enc_z4, List.length_cons, hn_b6, hr_b6, go_sem, ↓reduceIte, Nat.reduceEqDiff, Nat.reduceLT, Nat.reduceLeDiff, Nat.reduceAdd, Nat.reduceMul, Nat.reduceSub, reduceCtorEq, Int.reduceToNat, Int.reduceLT, Int.reduceLE, Int.reduceEq, Int.reduceNe, Int.reduceBEq, Nat.reduceBEq, Int.reduceBNe, Nat.reduceBNe, Int.reduceAdd, Int.reduceSub, Int.reduceMul, Int.reduceNeg]
      refine AllB.mk fun bx h_bx => ?_; have hn_bx := h_bx; (try simp only [fresh_add, fresh_set, ne_eq] at hn_bx); have hr_bx := hn_bx; (try simp only [@eq_comm Nat bx] at hr_bx); simp (dsimp := false) (maxSteps := 4000000) only [g1, enc_len, enc_scal, enc_z4, List.length_cons, hn_b6, hr_b6, hn_bx, hr_bx, go_sem, ↓reduceIte, Nat.reduceEqDiff, Nat.reduceLT, Nat.reduceLeDiff, Nat.reduceAdd, Nat.reduceMul, Nat.reduceSub, reduceCtorEq, Int.reduceToNat, Int.reduceLT, Int.reduceLE, Int.reduceEq, Int.reduceNe, Int.reduceBEq, Nat.reduceBEq, Int.reduceBNe, Nat.reduceBNe, Int.reduceAdd, Int.reduceSub, Int.reduceMul, Int.reduceNeg]
      have p1 : AH.find (((B.add b1 (.cells [.int .i64 3, .slice (some ⟨b, o, none⟩) (T.length + 1) cap] 25 2)).add b6 (.cells (enc r) 64 4)).add bx (.cells [.int .i64 r.1] 3 1)) b1 = some (.cells [.int .i64 3, .slice (some ⟨b, o, none⟩) (T.length + 1) cap] 25 2) := by (show AH.find _ _ = _; simp only [find_add_self, find_add_ne, find_fresh, fresh_add, ne_eq, not_false_eq_true, true_and, and_true, and_self, g1, enc_len, enc_scal, enc_z4, List.length_cons, hn_b6, hr_b6, hn_bx, hr_bx])
      have hOx : OwnS H (((B.add b1 (.cells [.int .i64 3, .slice (some ⟨b, o, none⟩) (T.length + 1) cap] 25 2)).add b6 (.cells (enc r) 64 4)).add bx (.cells [.int .i64 r.1] 3 1)) 3 1 base' cap' ((outF (T.take i)).map e1) := ((hO.added g1).added h_b6).added h_bx
      have hKx : Keep H (((B.add b1 (.cells [.int .i64 3, .slice (some ⟨b, o, none⟩) (T.length + 1) cap] 25 2)).add b6 (.cells (enc r) 64 4)).add bx (.cells [.int .i64 r.1] 3 1)) fun _ => False := ((hK.nw g1).nw h_b6).nw h_bx
      refine APD.growW (x := .slice (some ⟨bx, 0, none⟩) 1 1) (R' := [e1 r.1]) (m := 1) hOx hKx.all se_22 rfl (by decide) (by rw [Try.underlying22]; rfl) (by simp [outF]; omega) rfl rfl (by rw [srow_some, row_add_self]; rfl) (by simp [e1]) (by simp [e1, scal]) (by omega) fun base2 cap2 A' hO' hK' hN' => ?_
      have q1 : A'.find b1 = some (.cells [.int .i64 3, .slice (some ⟨b, o, none⟩) (T.length + 1) cap] 25 2) := hK'.find (fun hx => by obtain ⟨a, ha, e⟩ := hx; exact hO.ne g1 a ha e.symm) p1
      refine ⟨_, top1 q1, ?_⟩
      
      
      simp (dsimp := false) (maxSteps := 4000000) only [e1_, g1, enc_len, enc_scal, enc_z4, List.length_cons, go_sem, ↓reduceIte, Nat.reduceEqDiff, Nat.reduceLT, Nat.reduceLeDiff, Nat.reduceAdd, Nat.reduceMul, Nat.reduceSub, reduceCtorEq, Int.reduceToNat, Int.reduceLT, Int.reduceLE, Int.reduceEq, Int.reduceNe, Int.reduceBEq, Nat.reduceBEq, Int.reduceBNe, Nat.reduceBNe, Int.reduceAdd, Int.reduceSub, Int.reduceMul, Int.reduceNeg]
      have hK2 := (hKx.ow hK' fun b ⟨a, ha, e⟩ => e ▸ hO.fresh a ha)
      obtain ⟨hK3, g13⟩ := hK2.dels n1
      have ne1 : ∀ a, base2 = some a → a.block ≠ b1 := fun a ha e => by
        rcases hN' a ha with ⟨a', h1, h2⟩ | h1
        · exact hO.ne g1 a' h1 (h2 ▸ e)
        · exact h1.ne_find p1 e
      have hO2 := hO'.del ne1
      rw [out_succ hr] at hO2
      have hz2 : ∀ j, j < i + 1 → ∀ r, T[j]? = some r → zero3 r = true := fun j hj m hm => by
        by_cases hji : j = i
        · subst hji; rw [hr] at hm; cases hm; simp [zero3, Prod.ext_iff, z1, z2, z3]
        · exact hz j (by omega) m hm
      exact again (i + 1, base2, cap2) _ _ _ ⟨by simp only; omega, hz2, _, rfl, hO2, hK3, g13⟩ (FrLe.of_lks (by simp (dsimp := false) (maxSteps := 4000000) only [g1, enc_len, enc_scal, enc_z4, List.length_cons, go_sem, ↓reduceIte, Nat.reduceEqDiff, Nat.reduceLT, Nat.reduceLeDiff, Nat.reduceAdd, Nat.reduceMul, Nat.reduceSub, reduceCtorEq, Int.reduceToNat, Int.reduceLT, Int.reduceLE, Int.reduceEq, Int.reduceNe, Int.reduceBEq, Nat.reduceBEq, Int.reduceBNe, Nat.reduceBNe, Int.reduceAdd, Int.reduceSub, Int.reduceMul, Int.reduceNeg])) (AH.le_refl _) (by simp only; omega)
      
    · have hlt' : ¬ ((i + 1 : Nat) : Int) < ((T.length + 1 : Nat) : Int) := by omega
      obtain rfl : i = T.length := by omega
      simp (dsimp := false) (maxSteps := 4000000) only [hlt', g1, enc_len, enc_scal, enc_z4, List.length_cons, go_sem, ↓reduceIte, Nat.reduceEqDiff, Nat.reduceLT, Nat.reduceLeDiff, Nat.reduceAdd, Nat.reduceMul, Nat.reduceSub, reduceCtorEq, Int.reduceToNat, Int.reduceLT, Int.reduceLE, Int.reduceEq, Int.reduceNe, Int.reduceBEq, Nat.reduceBEq, Int.reduceBNe, Nat.reduceBNe, Int.reduceAdd, Int.reduceSub, Int.reduceMul, Int.reduceNeg]
      refine out _ _ _ (by simp) ?_
      simp (dsimp := false) (maxSteps := 4000000) only [g1, enc_len, enc_scal, enc_z4, List.length_cons, go_sem, ↓reduceIte, Nat.reduceEqDiff, Nat.reduceLT, Nat.reduceLeDiff, Nat.reduceAdd, Nat.reduceMul, Nat.reduceSub, reduceCtorEq, Int.reduceToNat, Int.reduceLT, Int.reduceLE, Int.reduceEq, Int.reduceNe, Int.reduceBEq, Nat.reduceBEq, Int.reduceBNe, Nat.reduceBNe, Int.reduceAdd, Int.reduceSub, Int.reduceMul, Int.reduceNeg]
      rw [List.take_length] at hO
      have hsO : SlcIn B 1 base' cap' ((outF T).map e1) := hO.slc
      have hol : T.length = (outF T).length := by simp [outF]
      have hza : T.all zero3 = true := by
        rw [List.all_eq_true]
        intro r hr
        obtain ⟨j, hj⟩ := List.mem_iff_getElem?.1 hr
        exact hz j (lt_of_get hj) r hj
      rw [hza, decide_eq_true rfl, Bool.true_and, Bool.true_and] at hsq
      refine (May_x (hsO.add g1) hol).mono ?_; rintro _ _ ⟨rfl, rfl⟩
      cases gs : seqB (outF T) with
      | false =>
        simp (dsimp := false) (maxSteps := 4000000) only [gs, g1, enc_len, enc_scal, enc_z4, List.length_cons, go_sem, ↓reduceIte, Nat.reduceEqDiff, Nat.reduceLT, Nat.reduceLeDiff, Nat.reduceAdd, Nat.reduceMul, Nat.reduceSub, reduceCtorEq, Int.reduceToNat, Int.reduceLT, Int.reduceLE, Int.reduceEq, Int.reduceNe, Int.reduceBEq, Nat.reduceBEq, Int.reduceBNe, Nat.reduceBNe, Int.reduceAdd, Int.reduceSub, Int.reduceMul, Int.reduceNeg]
        exact ⟨H, AH.le_trans hK.all (by (repeat (first | exact AH.le_refl _ | refine AH.le_add ?_ ?_)); all_goals (first | exact AH.le_refl _ | (show AH.find _ _ = _; simp only [find_add_self, find_add_ne, find_fresh, fresh_add, ne_eq, not_false_eq_true, true_and, and_true, and_self, g1, enc_len, enc_scal, enc_z4, List.length_cons]))), .inl ⟨by rw [hsq, gs], rfl, rfl⟩⟩
      | true =>
        simp (dsimp := false) (maxSteps := 4000000) only [gs, g1, enc_len, enc_scal, enc_z4, List.length_cons, go_sem, ↓reduceIte, Nat.reduceEqDiff, Nat.reduceLT, Nat.reduceLeDiff, Nat.reduceAdd, Nat.reduceMul, Nat.reduceSub, reduceCtorEq, Int.reduceToNat, Int.reduceLT, Int.reduceLE, Int.reduceEq, Int.reduceNe, Int.reduceBEq, Nat.reduceBEq, Int.reduceBNe, Nat.reduceBNe, Int.reduceAdd, Int.reduceSub, Int.reduceMul, Int.reduceNeg]
        exact ⟨B, (by (repeat (first | exact AH.le_refl _ | refine AH.le_add ?_ ?_)); all_goals (first | exact AH.le_refl _ | (show AH.find _ _ = _; simp only [find_add_self, find_add_ne, find_fresh, fresh_add, ne_eq, not_false_eq_true, true_and, and_true, and_self, g1, enc_len, enc_scal, enc_z4, List.length_cons]))), .inr ⟨by rw [hsq, gs], base', cap', rfl, hO, hK⟩⟩
end Go.Proofs.Ytadbmmdmibiikaa.Rose
