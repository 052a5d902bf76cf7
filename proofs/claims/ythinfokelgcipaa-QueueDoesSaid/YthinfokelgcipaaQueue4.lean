/- The ring: who waits; the fixed fact of layer 22. -/
import Derived.Test.YthinfokelgcipaaQueue3
namespace Go.Proofs.Ythinfokelgcipaa.Queue
set_option linter.unusedSimpArgs false
set_option linter.unusedVariables false
open Go Go.AX Go.Proofs Ty
set_option maxHeartbeats 2000000
set_option maxRecDepth 10000

/-- Who waits, in order. -/
def W (s : QS) : List Wt := (List.range s.many).map fun k => s.ring.getD ((s.first + k) % 8) (zeroR, 0)
theorem W_len (s : QS) : (W s).length = s.many := by simp [W]
theorem W_new : W newQ = [] := rfl
theorem popQ_ok {s : QS} (hs : s.Ok) : (popQ s).Ok := by
  unfold popQ; split
  · exact hs
  · exact ⟨hs.len, Nat.mod_lt _ (by omega), by have := hs.many; simp only; omega⟩
theorem pushQ_ok {s : QS} {x : Req} (hs : s.Ok) : (pushQ s x).Ok := by
  unfold pushQ; split
  · exact hs
  · rename_i h; exact ⟨by simp [hs.len], hs.first, by have := hs.many; simp only; omega⟩
theorem triedQ_ok {s : QS} {w : Wt} (hs : s.Ok) : (triedQ s w).Ok := ⟨by simp [triedQ, hs.len], hs.first, hs.many⟩
theorem ring_first {s : QS} (hs : s.Ok) : ∃ w, s.ring[s.first]? = some w := get_some (by rw [hs.len]; exact hs.first)

theorem W_cons {s : QS} {w : Wt} (hs : s.Ok) (h : s.many ≠ 0) (hw : s.ring[s.first]? = some w) : W s = w :: (List.range (s.many - 1)).map fun k => s.ring.getD ((s.first + (k + 1)) % 8) (zeroR, 0) := by
  obtain ⟨m, hm⟩ := Nat.exists_eq_succ_of_ne_zero h
  unfold W
  rw [hm, List.range_succ_eq_map, List.map_cons, List.map_map]
  congr 1
  rw [Nat.add_zero, Nat.mod_eq_of_lt hs.first, List.getD_eq_getElem?_getD, hw]; rfl
theorem W_pop {s : QS} {w : Wt} (hs : s.Ok) (h : s.many ≠ 0) (hw : s.ring[s.first]? = some w) : W s = w :: W (popQ s) := by
  rw [W_cons hs h hw, popQ_some h]
  unfold W
  congr 1
  apply List.map_congr_left
  intro k _
  rw [show (s.first + (k + 1)) % 8 = ((s.first + 1) % 8 + k) % 8 from by omega]
theorem W_tried {s : QS} {w : Wt} (hs : s.Ok) (h : s.many ≠ 0) (hw : s.ring[s.first]? = some w) : ∃ l, W s = w :: l ∧ W (triedQ s w) = (w.1, w.2 + 1) :: l := by
  have hf := hs.first
  have hm := hs.many
  have hw' : (triedQ s w).ring[(triedQ s w).first]? = some (w.1, w.2 + 1) := by
    simp only [triedQ]; rw [List.getElem?_set_self (by rw [hs.len]; exact hf)]
  refine ⟨_, W_cons hs h hw, ?_⟩
  rw [W_cons (triedQ_ok hs) h hw']
  congr 1
  apply List.map_congr_left
  intro k hk
  simp only [List.mem_range] at hk
  simp only [triedQ] at hk ⊢
  rw [List.getD_eq_getElem?_getD, List.getD_eq_getElem?_getD, List.getElem?_set_ne (by omega)]
theorem W_push {s : QS} {x : Req} (hs : s.Ok) (h : s.many ≠ 8) : W (pushQ s x) = W s ++ [(x, 0)] := by
  have hf := hs.first
  have hm := hs.many
  rw [pushQ_room h]
  unfold W
  simp only
  rw [List.range_succ, List.map_append, List.map_singleton]
  congr 1
  · apply List.map_congr_left
    intro k hk
    simp only [List.mem_range] at hk
    rw [List.getD_eq_getElem?_getD, List.getD_eq_getElem?_getD, List.getElem?_set_ne (by omega)]
  · rw [List.getD_eq_getElem?_getD, List.getElem?_set_self (by rw [hs.len]; omega)]; rfl

/-! ### the fixed fact -/
def r1 : Req := { zeroR with id := 1 }
def r2 : Req := { zeroR with id := 2 }
def q1 : QS := pushQ newQ r1
def q2 : QS := pushQ q1 r2
def q3 : QS := failQ q2 (r1, 0)
def q4 : QS := failQ q3 (r1, 1)
def q5 : QS := failQ q4 (r1, 2)
theorem k1 : q1.Ok := pushQ_ok newQ_ok
theorem k2 : q2.Ok := pushQ_ok k1
theorem k3 : q3.Ok := triedQ_ok k2
theorem k4 : q4.Ok := triedQ_ok k3
theorem k5 : q5.Ok := popQ_ok (triedQ_ok k4)

theorem n0_ : (if newQ.many = 8 then (12 : Int) else 0) = 0 := rfl
theorem n1_ : (if q1.many = 8 then (12 : Int) else 0) = 0 := rfl
theorem e1_ : (encR r1)[0]? = some (.int .i64 1) := rfl
theorem e2_ : (encR r2)[0]? = some (.int .i64 2) := rfl
theorem m5_ : ((q5.many : Nat) : Int) = 1 := rfl
theorem awake22_c (H : AH) : ACalls Try.prog 45 #[] H (fun v H' => v = .bool true ∧ H = H') := by
  refine ACalls.enter2 Try.func45 rfl Try.ntmps45 Try.results45 (by simp) ?_; simp (dsimp := false) (maxSteps := 4000000) only [encR_len, encR_scal, go_sem, ↓reduceIte, Nat.reduceEqDiff, Nat.reduceLT, Nat.reduceLeDiff, Nat.reduceAdd, Nat.reduceMul, Nat.reduceSub, reduceCtorEq, Int.reduceToNat, Int.reduceLT, Int.reduceLE, Int.reduceEq, Int.reduceNe, Int.reduceBEq, Nat.reduceBEq, Int.reduceBNe, Nat.reduceBNe]
  refine (New_c _).mono ?_; rintro _ _ ⟨b1, h_b1, rfl, rfl⟩; have hn_b1 := h_b1; (try simp only [fresh_add, fresh_set, ne_eq] at hn_b1); have hr_b1 := hn_b1; (try simp only [@eq_comm Nat b1] at hr_b1)
  simp (dsimp := false) (maxSteps := 4000000) only [encR_len, encR_scal, hn_b1, hr_b1, go_sem, ↓reduceIte, Nat.reduceEqDiff, Nat.reduceLT, Nat.reduceLeDiff, Nat.reduceAdd, Nat.reduceMul, Nat.reduceSub, reduceCtorEq, Int.reduceToNat, Int.reduceLT, Int.reduceLE, Int.reduceEq, Int.reduceNe, Int.reduceBEq, Nat.reduceBEq, Int.reduceBNe, Nat.reduceBNe]
  refine (Push_c newQ newQ_ok r1 b1 _ (find_add_self _ _ _)).mono ?_; rintro _ _ ⟨rfl, hH_⟩; simp only [put, del_add_self, del_add_ne, del_del, del_fresh, ne_eq, not_false_eq_true, true_and, and_true, and_self, hn_b1, hr_b1] at hH_; subst hH_
  simp (dsimp := false) (maxSteps := 4000000) only [encR_len, encR_scal, hn_b1, hr_b1, go_sem, ↓reduceIte, Nat.reduceEqDiff, Nat.reduceLT, Nat.reduceLeDiff, Nat.reduceAdd, Nat.reduceMul, Nat.reduceSub, reduceCtorEq, Int.reduceToNat, Int.reduceLT, Int.reduceLE, Int.reduceEq, Int.reduceNe, Int.reduceBEq, Nat.reduceBEq, Int.reduceBNe, Nat.reduceBNe]
  refine (Push_c q1 k1 r2 b1 _ (find_add_self _ _ _)).mono ?_; rintro _ _ ⟨rfl, hH_⟩; simp only [put, del_add_self, del_add_ne, del_del, del_fresh, ne_eq, not_false_eq_true, true_and, and_true, and_self, hn_b1, hr_b1] at hH_; subst hH_
  simp (dsimp := false) (maxSteps := 4000000) only [encR_len, encR_scal, hn_b1, hr_b1, go_sem, ↓reduceIte, Nat.reduceEqDiff, Nat.reduceLT, Nat.reduceLeDiff, Nat.reduceAdd, Nat.reduceMul, Nat.reduceSub, reduceCtorEq, Int.reduceToNat, Int.reduceLT, Int.reduceLE, Int.reduceEq, Int.reduceNe, Int.reduceBEq, Nat.reduceBEq, Int.reduceBNe, Nat.reduceBNe]
  refine (Fail_c q2 k2 (r1, 0) rfl (fun _ => by simp) b1 _ (find_add_self _ _ _)).mono ?_; rintro _ _ ⟨rfl, hH_⟩; simp only [put, del_add_self, del_add_ne, del_del, del_fresh, ne_eq, not_false_eq_true, true_and, and_true, and_self, hn_b1, hr_b1] at hH_; subst hH_
  simp (dsimp := false) (maxSteps := 4000000) only [encR_len, encR_scal, hn_b1, hr_b1, go_sem, ↓reduceIte, Nat.reduceEqDiff, Nat.reduceLT, Nat.reduceLeDiff, Nat.reduceAdd, Nat.reduceMul, Nat.reduceSub, reduceCtorEq, Int.reduceToNat, Int.reduceLT, Int.reduceLE, Int.reduceEq, Int.reduceNe, Int.reduceBEq, Nat.reduceBEq, Int.reduceBNe, Nat.reduceBNe]
  refine (Fail_c q3 k3 (r1, 1) rfl (fun _ => by simp) b1 _ (find_add_self _ _ _)).mono ?_; rintro _ _ ⟨rfl, hH_⟩; simp only [put, del_add_self, del_add_ne, del_del, del_fresh, ne_eq, not_false_eq_true, true_and, and_true, and_self, hn_b1, hr_b1] at hH_; subst hH_
  simp (dsimp := false) (maxSteps := 4000000) only [encR_len, encR_scal, hn_b1, hr_b1, go_sem, ↓reduceIte, Nat.reduceEqDiff, Nat.reduceLT, Nat.reduceLeDiff, Nat.reduceAdd, Nat.reduceMul, Nat.reduceSub, reduceCtorEq, Int.reduceToNat, Int.reduceLT, Int.reduceLE, Int.reduceEq, Int.reduceNe, Int.reduceBEq, Nat.reduceBEq, Int.reduceBNe, Nat.reduceBNe]
  refine (Fail_c q4 k4 (r1, 2) rfl (fun _ => by simp) b1 _ (find_add_self _ _ _)).mono ?_; rintro _ _ ⟨rfl, hH_⟩; simp only [put, del_add_self, del_add_ne, del_del, del_fresh, ne_eq, not_false_eq_true, true_and, and_true, and_self, hn_b1, hr_b1] at hH_; subst hH_
  rw [show failv q4 (r1, 2) = .tuple #[.agg (encR r1).toArray, .bool true] from rfl]
  
  simp (dsimp := false) (maxSteps := 4000000) only [encR_len, encR_scal, lput_full, hn_b1, hr_b1, go_sem, ↓reduceIte, Nat.reduceEqDiff, Nat.reduceLT, Nat.reduceLeDiff, Nat.reduceAdd, Nat.reduceMul, Nat.reduceSub, reduceCtorEq, Int.reduceToNat, Int.reduceLT, Int.reduceLE, Int.reduceEq, Int.reduceNe, Int.reduceBEq, Nat.reduceBEq, Int.reduceBNe, Nat.reduceBNe]
  refine AllB.mk fun b2 h_b2 => ?_; have hn_b2 := h_b2; (try simp only [fresh_add, fresh_set, ne_eq] at hn_b2); have hr_b2 := hn_b2; (try simp only [@eq_comm Nat b2] at hr_b2); simp (dsimp := false) (maxSteps := 4000000) only [encR_len, encR_scal, lput_full, hn_b1, hr_b1, hn_b2, hr_b2, go_sem, ↓reduceIte, Nat.reduceEqDiff, Nat.reduceLT, Nat.reduceLeDiff, Nat.reduceAdd, Nat.reduceMul, Nat.reduceSub, reduceCtorEq, Int.reduceToNat, Int.reduceLT, Int.reduceLE, Int.reduceEq, Int.reduceNe, Int.reduceBEq, Nat.reduceBEq, Int.reduceBNe, Nat.reduceBNe]
  have hq : ∀ k, At ((H.add b1 (.cells q5.cells 113 90)).add b2 k) b1 q5 := fun k => (find_add_ne _ hn_b2.1 _).trans (find_add_self _ _ _)
  refine (First_c q5 k5 b1 _ (hq _)).mono ?_; rintro _ _ ⟨rfl, rfl⟩
  rw [show firstv q5 = .tuple #[.agg (encR r2).toArray, .bool true] from rfl]
  simp (dsimp := false) (maxSteps := 4000000) only [encR_len, encR_scal, lput_full, hn_b1, hr_b1, hn_b2, hr_b2, go_sem, ↓reduceIte, Nat.reduceEqDiff, Nat.reduceLT, Nat.reduceLeDiff, Nat.reduceAdd, Nat.reduceMul, Nat.reduceSub, reduceCtorEq, Int.reduceToNat, Int.reduceLT, Int.reduceLE, Int.reduceEq, Int.reduceNe, Int.reduceBEq, Nat.reduceBEq, Int.reduceBNe, Nat.reduceBNe]
  refine AllB.mk fun b3 h_b3 => ?_; have hn_b3 := h_b3; (try simp only [fresh_add, fresh_set, ne_eq] at hn_b3); have hr_b3 := hn_b3; (try simp only [@eq_comm Nat b3] at hr_b3); simp (dsimp := false) (maxSteps := 4000000) only [encR_len, encR_scal, lput_full, hn_b1, hr_b1, hn_b2, hr_b2, hn_b3, hr_b3, go_sem, ↓reduceIte, Nat.reduceEqDiff, Nat.reduceLT, Nat.reduceLeDiff, Nat.reduceAdd, Nat.reduceMul, Nat.reduceSub, reduceCtorEq, Int.reduceToNat, Int.reduceLT, Int.reduceLE, Int.reduceEq, Int.reduceNe, Int.reduceBEq, Nat.reduceBEq, Int.reduceBNe, Nat.reduceBNe]
  simp (dsimp := false) (maxSteps := 4000000) only [n0_, n1_, e1_, e2_, encR_len, encR_scal, lput_full, hn_b1, hr_b1, hn_b2, hr_b2, hn_b3, hr_b3, go_sem, ↓reduceIte, Nat.reduceEqDiff, Nat.reduceLT, Nat.reduceLeDiff, Nat.reduceAdd, Nat.reduceMul, Nat.reduceSub, reduceCtorEq, Int.reduceToNat, Int.reduceLT, Int.reduceLE, Int.reduceEq, Int.reduceNe, Int.reduceBEq, Nat.reduceBEq, Int.reduceBNe, Nat.reduceBNe]
  have hq3 : ∀ k k', At (((H.add b1 (.cells q5.cells 113 90)).add b2 k).add b3 k') b1 q5 := fun k k' => (find_add_ne _ hn_b3.2.1 _).trans (hq _)
  refine (Len_c q5 k5 b1 _ (hq3 _ _)).mono ?_; rintro _ _ ⟨rfl, rfl⟩
  simp (dsimp := false) (maxSteps := 4000000) only [m5_, encR_len, encR_scal, lput_full, hn_b1, hr_b1, hn_b2, hr_b2, hn_b3, hr_b3, go_sem, ↓reduceIte, Nat.reduceEqDiff, Nat.reduceLT, Nat.reduceLeDiff, Nat.reduceAdd, Nat.reduceMul, Nat.reduceSub, reduceCtorEq, Int.reduceToNat, Int.reduceLT, Int.reduceLE, Int.reduceEq, Int.reduceNe, Int.reduceBEq, Nat.reduceBEq, Int.reduceBNe, Nat.reduceBNe]
  exact ⟨H, (AH.le_add (AH.le_add (AH.le_add (AH.le_refl _) ((by simp only [fresh_add, fresh_set, ne_eq, hn_b1, not_false_eq_true, and_self] : Fresh _ b1).2)) ((by simp only [fresh_add, fresh_set, ne_eq, hn_b2, not_false_eq_true, and_self] : Fresh _ b2).2)) ((by simp only [fresh_add, fresh_set, ne_eq, hn_b3, not_false_eq_true, and_self] : Fresh _ b3).2)), (by first | exact ⟨rfl, rfl⟩ | rfl)⟩

end Go.Proofs.Ythinfokelgcipaa.Queue
