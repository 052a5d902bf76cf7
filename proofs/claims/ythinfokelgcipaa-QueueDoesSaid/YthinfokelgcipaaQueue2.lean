/- The ring: New, Pop, Push, Fail as calls. -/
import Derived.Test.YthinfokelgcipaaQueue1
namespace Go.Proofs.Ythinfokelgcipaa.Queue
set_option linter.unusedSimpArgs false
set_option linter.unusedVariables false
open Go Go.AX Go.Proofs Ty
set_option maxHeartbeats 2000000
set_option maxRecDepth 10000

abbrev put (H : AH) (b : Nat) (s : QS) : AH := (H.del b).add b (.cells s.cells 113 90)

def newQ : QS := ⟨List.replicate 8 (zeroR, 0), 0, 0⟩
theorem newQ_ok : newQ.Ok := ⟨rfl, by simp [newQ], by simp [newQ]⟩
theorem newQ_cells : newQ.cells = ([[Value.int .i64 0, .int .i64 0, .int .i64 0, .int .i64 0, .int .i64 0, .int .u8 0, .int .u8 0, .int .u8 0, .int .u8 0, .int .i64 0, .int .i64 0], [Value.int .i64 0, .int .i64 0, .int .i64 0, .int .i64 0, .int .i64 0, .int .u8 0, .int .u8 0, .int .u8 0, .int .u8 0, .int .i64 0, .int .i64 0], [Value.int .i64 0, .int .i64 0, .int .i64 0, .int .i64 0, .int .i64 0, .int .u8 0, .int .u8 0, .int .u8 0, .int .u8 0, .int .i64 0, .int .i64 0], [Value.int .i64 0, .int .i64 0, .int .i64 0, .int .i64 0, .int .i64 0, .int .u8 0, .int .u8 0, .int .u8 0, .int .u8 0, .int .i64 0, .int .i64 0], [Value.int .i64 0, .int .i64 0, .int .i64 0, .int .i64 0, .int .i64 0, .int .u8 0, .int .u8 0, .int .u8 0, .int .u8 0, .int .i64 0, .int .i64 0], [Value.int .i64 0, .int .i64 0, .int .i64 0, .int .i64 0, .int .i64 0, .int .u8 0, .int .u8 0, .int .u8 0, .int .u8 0, .int .i64 0, .int .i64 0], [Value.int .i64 0, .int .i64 0, .int .i64 0, .int .i64 0, .int .i64 0, .int .u8 0, .int .u8 0, .int .u8 0, .int .u8 0, .int .i64 0, .int .i64 0], [Value.int .i64 0, .int .i64 0, .int .i64 0, .int .i64 0, .int .i64 0, .int .u8 0, .int .u8 0, .int .u8 0, .int .u8 0, .int .i64 0, .int .i64 0]] : List (List Value)).flatten ++ [.int .i64 0, .int .i64 0] := rfl

theorem New_c (H : AH) : ACalls Try.prog 36 #[] H (fun v H' => ∃ b, Fresh H b ∧ v = .pointer (some ⟨b, 0, none⟩) ∧ H' = H.add b (.cells newQ.cells 113 90)) := by
  refine ACalls.enter2 Try.func36 rfl Try.ntmps36 Try.results36 (by simp) ?_; simp (dsimp := false) (maxSteps := 4000000) only [go_sem, ↓reduceIte, Nat.reduceEqDiff, Nat.reduceLT, Nat.reduceLeDiff, Nat.reduceAdd, Nat.reduceMul, Nat.reduceSub, reduceCtorEq, Int.reduceToNat, Int.reduceLT, Int.reduceLE, Int.reduceEq, Int.reduceNe, Int.reduceBEq, Nat.reduceBEq, Int.reduceBNe, Nat.reduceBNe]
  refine AllB.mk fun b1 h_b1 => ?_; have hn_b1 := h_b1; (try simp only [fresh_add, fresh_set, ne_eq] at hn_b1); have hr_b1 := hn_b1; (try simp only [@eq_comm Nat b1] at hr_b1); simp (dsimp := false) (maxSteps := 4000000) only [hn_b1, hr_b1, go_sem, ↓reduceIte, Nat.reduceEqDiff, Nat.reduceLT, Nat.reduceLeDiff, Nat.reduceAdd, Nat.reduceMul, Nat.reduceSub, reduceCtorEq, Int.reduceToNat, Int.reduceLT, Int.reduceLE, Int.reduceEq, Int.reduceNe, Int.reduceBEq, Nat.reduceBEq, Int.reduceBNe, Nat.reduceBNe]
  exact ⟨_, AH.le_refl _, b1, h_b1, rfl, rfl⟩

def popQ (s : QS) : QS := if s.many = 0 then s else { s with first := (s.first + 1) % 8, many := s.many - 1 }
theorem popQ_none {s : QS} (h : s.many = 0) : popQ s = s := if_pos h
theorem popQ_some {s : QS} (h : s.many ≠ 0) : popQ s = { s with first := (s.first + 1) % 8, many := s.many - 1 } := if_neg h

theorem Pop_c (s : QS) (hs : s.Ok) (b : Nat) (H : AH) (hq : At H b s) : ACalls Try.prog 37 #[.pointer (some ⟨b, 0, none⟩)] H (fun v H' => v = firstv s ∧ put H b (popQ s) = H') := by
  refine ACalls.at hq ?_
  obtain ⟨w, hw⟩ := get_some (l := s.ring) (i := s.first) (by rw [hs.len]; exact hs.first)
  have hlen := QS.length hs
  have hf := hs.first
  have hm := hs.many
  obtain ⟨s1, hs1⟩ : ∃ s1 : QS, s1 = { s with first := (s.first + 1) % 8 } := ⟨_, rfl⟩
  have ok1 : s1.Ok := by subst hs1; exact ⟨hs.len, Nat.mod_lt _ (by omega), hs.many⟩
  have e88 : s.cells.set 88 (.int .i64 (((s.first + 1) % 8 : Nat) : Int)) = s1.cells := by rw [hs1]; exact QS.set88 hs _
  have g89 := QS.g89 ok1
  have hmany : s1.many = s.many := by rw [hs1]
  rw [hmany] at g89
  have hlen1 := QS.length ok1
  obtain ⟨s2, hs2⟩ : ∃ s2 : QS, s2 = { s1 with many := s.many - 1 } := ⟨_, rfl⟩
  have e89 : s1.cells.set 89 (.int .i64 ((s.many - 1 : Nat) : Int)) = s2.cells := by rw [hs2]; exact QS.set89 ok1 _
  have e1 : IntKind.i64.wrap ((s.first : Int) + 1) = ((s.first + 1 : Nat) : Int) := i64_succ (by omega)
  have e2 : (((s.first + 1 : Nat) : Int)).tmod 8 = (((s.first + 1) % 8 : Nat) : Int) := by rw [Int.tmod_eq_emod_of_nonneg (by omega)]; omega
  refine ACalls.enter2 Try.func37 rfl Try.ntmps37 Try.results37 (by simp) ?_; simp (dsimp := false) (maxSteps := 4000000) only [encR_len, encR_scal, go_sem, ↓reduceIte, Nat.reduceEqDiff, Nat.reduceLT, Nat.reduceLeDiff, Nat.reduceAdd, Nat.reduceMul, Nat.reduceSub, reduceCtorEq, Int.reduceToNat, Int.reduceLT, Int.reduceLE, Int.reduceEq, Int.reduceNe, Int.reduceBEq, Nat.reduceBEq, Int.reduceBNe, Nat.reduceBNe]
  refine AllB.mk fun b2 h_b2 => ?_; have hn_b2 := h_b2; (try simp only [fresh_add, fresh_set, ne_eq] at hn_b2); have hr_b2 := hn_b2; (try simp only [@eq_comm Nat b2] at hr_b2); simp (dsimp := false) (maxSteps := 4000000) only [encR_len, encR_scal, hn_b2, hr_b2, go_sem, ↓reduceIte, Nat.reduceEqDiff, Nat.reduceLT, Nat.reduceLeDiff, Nat.reduceAdd, Nat.reduceMul, Nat.reduceSub, reduceCtorEq, Int.reduceToNat, Int.reduceLT, Int.reduceLE, Int.reduceEq, Int.reduceNe, Int.reduceBEq, Nat.reduceBEq, Int.reduceBNe, Nat.reduceBNe]
  
  have hq2 : ∀ k, At (((H.del b).add b (.cells s.cells 113 90)).add b2 k) b s := fun k => (find_add_ne _ hn_b2.1 _).trans (find_add_self _ _ _)
  refine (First_c s hs b _ (hq2 _)).mono ?_; rintro _ _ ⟨rfl, rfl⟩
  by_cases h : s.many = 0
  · rw [firstv_none h, popQ_none h]
    simp (dsimp := false) (maxSteps := 4000000) only [encR_len, encR_scal, lput_full, QS.g88 hs, hlen, e1, e2, e88, g89, hlen1, e89, hn_b2, hr_b2, go_sem, ↓reduceIte, Nat.reduceEqDiff, Nat.reduceLT, Nat.reduceLeDiff, Nat.reduceAdd, Nat.reduceMul, Nat.reduceSub, reduceCtorEq, Int.reduceToNat, Int.reduceLT, Int.reduceLE, Int.reduceEq, Int.reduceNe, Int.reduceBEq, Nat.reduceBEq, Int.reduceBNe, Nat.reduceBNe]
    
    refine AllB.mk fun b3 h_b3 => ?_; have hn_b3 := h_b3; (try simp only [fresh_add, fresh_set, ne_eq] at hn_b3); have hr_b3 := hn_b3; (try simp only [@eq_comm Nat b3] at hr_b3); simp (dsimp := false) (maxSteps := 4000000) only [encR_len, encR_scal, lput_full, QS.g88 hs, hlen, e1, e2, e88, g89, hlen1, e89, hn_b2, hr_b2, hn_b3, hr_b3, go_sem, ↓reduceIte, Nat.reduceEqDiff, Nat.reduceLT, Nat.reduceLeDiff, Nat.reduceAdd, Nat.reduceMul, Nat.reduceSub, reduceCtorEq, Int.reduceToNat, Int.reduceLT, Int.reduceLE, Int.reduceEq, Int.reduceNe, Int.reduceBEq, Nat.reduceBEq, Int.reduceBNe, Nat.reduceBNe]
    exact ⟨_, (AH.le_add (AH.le_add (AH.le_refl _) ((by simp only [fresh_add, fresh_set, ne_eq, hn_b2, not_false_eq_true, and_self] : Fresh _ b2).2)) ((by simp only [fresh_add, fresh_set, ne_eq, hn_b3, not_false_eq_true, and_self] : Fresh _ b3).2)), (by first | exact ⟨rfl, rfl⟩ | rfl)⟩
    
  · rw [firstv_some h hw, popQ_some h]
    have e3 : IntKind.i64.wrap ((s.many : Int) - 1) = ((s.many - 1 : Nat) : Int) := by rw [i64_eq (by omega) (by omega)]; omega
    simp (dsimp := false) (maxSteps := 4000000) only [encR_len, encR_scal, lput_full, QS.g88 hs, hlen, e1, e2, e88, g89, hlen1, e89, hn_b2, hr_b2, go_sem, ↓reduceIte, Nat.reduceEqDiff, Nat.reduceLT, Nat.reduceLeDiff, Nat.reduceAdd, Nat.reduceMul, Nat.reduceSub, reduceCtorEq, Int.reduceToNat, Int.reduceLT, Int.reduceLE, Int.reduceEq, Int.reduceNe, Int.reduceBEq, Nat.reduceBEq, Int.reduceBNe, Nat.reduceBNe]
    refine AllB.mk fun b3 h_b3 => ?_; have hn_b3 := h_b3; (try simp only [fresh_add, fresh_set, ne_eq] at hn_b3); have hr_b3 := hn_b3; (try simp only [@eq_comm Nat b3] at hr_b3); simp (dsimp := false) (maxSteps := 4000000) only [encR_len, encR_scal, lput_full, QS.g88 hs, hlen, e1, e2, e88, g89, hlen1, e89, hn_b2, hr_b2, hn_b3, hr_b3, go_sem, ↓reduceIte, Nat.reduceEqDiff, Nat.reduceLT, Nat.reduceLeDiff, Nat.reduceAdd, Nat.reduceMul, Nat.reduceSub, reduceCtorEq, Int.reduceToNat, Int.reduceLT, Int.reduceLE, Int.reduceEq, Int.reduceNe, Int.reduceBEq, Nat.reduceBEq, Int.reduceBNe, Nat.reduceBNe]
    simp (dsimp := false) (maxSteps := 4000000) only [e3, encR_len, encR_scal, lput_full, QS.g88 hs, hlen, e1, e2, e88, g89, hlen1, e89, hn_b2, hr_b2, hn_b3, hr_b3, go_sem, ↓reduceIte, Nat.reduceEqDiff, Nat.reduceLT, Nat.reduceLeDiff, Nat.reduceAdd, Nat.reduceMul, Nat.reduceSub, reduceCtorEq, Int.reduceToNat, Int.reduceLT, Int.reduceLE, Int.reduceEq, Int.reduceNe, Int.reduceBEq, Nat.reduceBEq, Int.reduceBNe, Nat.reduceBNe]
    have es : s2 = { s with first := (s.first + 1) % 8, many := s.many - 1 } := by rw [hs2, hs1]
    rw [← es]
    exact ⟨_, (AH.le_add (AH.le_add (AH.le_refl _) ((by simp only [fresh_add, fresh_set, ne_eq, hn_b2, not_false_eq_true, and_self] : Fresh _ b2).2)) ((by simp only [fresh_add, fresh_set, ne_eq, hn_b3, not_false_eq_true, and_self] : Fresh _ b3).2)), (by first | exact ⟨rfl, rfl⟩ | rfl)⟩

/-! ### Push -/
theorem lputZ (x : Req) : lput [.int .i64 0, .int .i64 0, .int .i64 0, .int .i64 0, .int .i64 0, .int .u8 0, .int .u8 0, .int .u8 0, .int .u8 0, .int .i64 0, .int .i64 0] 0 (encR x) = encW (x, 0) := rfl
def pushQ (s : QS) (x : Req) : QS := if s.many = 8 then s else { s with ring := s.ring.set ((s.first + s.many) % 8) (x, 0), many := s.many + 1 }
theorem pushQ_full {s : QS} {x : Req} (h : s.many = 8) : pushQ s x = s := if_pos h
theorem pushQ_room {s : QS} {x : Req} (h : s.many ≠ 8) : pushQ s x = { s with ring := s.ring.set ((s.first + s.many) % 8) (x, 0), many := s.many + 1 } := if_neg h

theorem Push_c (s : QS) (hs : s.Ok) (x : Req) (b : Nat) (H : AH) (hq : At H b s) : ACalls Try.prog 41 #[.pointer (some ⟨b, 0, none⟩), .agg (encR x).toArray] H
    (fun v H' => v = .int .i64 (if s.many = 8 then 12 else 0) ∧ put H b (pushQ s x) = H') := by
  refine ACalls.at hq ?_
  have hlen := QS.length hs
  have hf := hs.first
  have hm := hs.many
  have hk : (s.first + s.many) % 8 < 8 := Nat.mod_lt _ (by omega)
  obtain ⟨k, hkk⟩ : ∃ k, k = (s.first + s.many) % 8 := ⟨_, rfl⟩
  rw [← hkk] at hk
  obtain ⟨s1, hs1⟩ : ∃ s1 : QS, s1 = { s with ring := s.ring.set k (x, 0) } := ⟨_, rfl⟩
  have ok1 : s1.Ok := by subst hs1; exact ⟨by simp [hs.len], hs.first, hs.many⟩
  have eW : lput s.cells (k * 11) (encW (x, 0)) = s1.cells := by rw [hs1]; exact QS.lputW hs hk _
  have g89 := QS.g89 ok1
  have hmany : s1.many = s.many := by rw [hs1]
  rw [hmany] at g89
  have hlen1 := QS.length ok1
  obtain ⟨s2, hs2⟩ : ∃ s2 : QS, s2 = { s1 with many := s.many + 1 } := ⟨_, rfl⟩
  have e89 : s1.cells.set 89 (.int .i64 ((s.many + 1 : Nat) : Int)) = s2.cells := by rw [hs2]; exact QS.set89 ok1 _
  have e1 : IntKind.i64.wrap ((s.first : Int) + s.many) = ((s.first + s.many : Nat) : Int) := by rw [i64_eq (by omega) (by omega)]; omega
  have e2 : (((s.first + s.many : Nat) : Int)).tmod 8 = (k : Int) := by rw [Int.tmod_eq_emod_of_nonneg (by omega), hkk]; omega
  have e3 := i64_succ (i := s.many) (by omega)
  have hk' : (k : Int) < 8 := by omega
  have hkle : k * 11 + 11 ≤ 90 := by omega
  refine ACalls.enter2 Try.func41 rfl Try.ntmps41 Try.results41 (by simp) ?_; simp (dsimp := false) (maxSteps := 4000000) only [encR_len, encR_scal, go_sem, ↓reduceIte, Nat.reduceEqDiff, Nat.reduceLT, Nat.reduceLeDiff, Nat.reduceAdd, Nat.reduceMul, Nat.reduceSub, reduceCtorEq, Int.reduceToNat, Int.reduceLT, Int.reduceLE, Int.reduceEq, Int.reduceNe, Int.reduceBEq, Nat.reduceBEq, Int.reduceBNe, Nat.reduceBNe]
  refine AllB.mk fun b2 h_b2 => ?_; have hn_b2 := h_b2; (try simp only [fresh_add, fresh_set, ne_eq] at hn_b2); have hr_b2 := hn_b2; (try simp only [@eq_comm Nat b2] at hr_b2); simp (dsimp := false) (maxSteps := 4000000) only [encR_len, encR_scal, hn_b2, hr_b2, go_sem, ↓reduceIte, Nat.reduceEqDiff, Nat.reduceLT, Nat.reduceLeDiff, Nat.reduceAdd, Nat.reduceMul, Nat.reduceSub, reduceCtorEq, Int.reduceToNat, Int.reduceLT, Int.reduceLE, Int.reduceEq, Int.reduceNe, Int.reduceBEq, Nat.reduceBEq, Int.reduceBNe, Nat.reduceBNe]
  
  by_cases h : s.many = 8
  · have h' : (s.many : Int) = 8 := by omega
    rw [if_pos h, pushQ_full h]
    simp (dsimp := false) (maxSteps := 4000000) only [h', encR_len, encR_scal, encW_len, encW_scal, lputZ, QS.g88 hs, QS.g89 hs, hlen, e1, e2, e3, eW, g89, hlen1, e89, hk', hkle, hn_b2, hr_b2, go_sem, ↓reduceIte, Nat.reduceEqDiff, Nat.reduceLT, Nat.reduceLeDiff, Nat.reduceAdd, Nat.reduceMul, Nat.reduceSub, reduceCtorEq, Int.reduceToNat, Int.reduceLT, Int.reduceLE, Int.reduceEq, Int.reduceNe, Int.reduceBEq, Nat.reduceBEq, Int.reduceBNe, Nat.reduceBNe]
    exact ⟨_, (AH.le_add (AH.le_refl _) ((by simp only [fresh_add, fresh_set, ne_eq, hn_b2, not_false_eq_true, and_self] : Fresh _ b2).2)), (by first | exact ⟨rfl, rfl⟩ | rfl)⟩
  · have h' : ¬ (s.many : Int) = 8 := by omega
    rw [if_neg h, pushQ_room h]
    simp (dsimp := false) (maxSteps := 4000000) only [h', encR_len, encR_scal, encW_len, encW_scal, lputZ, QS.g88 hs, QS.g89 hs, hlen, e1, e2, e3, eW, g89, hlen1, e89, hk', hkle, hn_b2, hr_b2, go_sem, ↓reduceIte, Nat.reduceEqDiff, Nat.reduceLT, Nat.reduceLeDiff, Nat.reduceAdd, Nat.reduceMul, Nat.reduceSub, reduceCtorEq, Int.reduceToNat, Int.reduceLT, Int.reduceLE, Int.reduceEq, Int.reduceNe, Int.reduceBEq, Nat.reduceBEq, Int.reduceBNe, Nat.reduceBNe]
    refine AWp.tail 16 mixed (by kernel_rfl) ?_
    simp (dsimp := false) (maxSteps := 4000000) only [encR_len, encR_scal, encW_len, encW_scal, lputZ, QS.g88 hs, QS.g89 hs, hlen, e1, e2, e3, eW, g89, hlen1, e89, hk', hkle, hn_b2, hr_b2, go_sem, ↓reduceIte, Nat.reduceEqDiff, Nat.reduceLT, Nat.reduceLeDiff, Nat.reduceAdd, Nat.reduceMul, Nat.reduceSub, reduceCtorEq, Int.reduceToNat, Int.reduceLT, Int.reduceLE, Int.reduceEq, Int.reduceNe, Int.reduceBEq, Nat.reduceBEq, Int.reduceBNe, Nat.reduceBNe]
    have es : s2 = { s with ring := s.ring.set ((s.first + s.many) % 8) (x, 0), many := s.many + 1 } := by rw [hs2, hs1, hkk]
    rw [← es]
    exact ⟨_, (AH.le_add (AH.le_refl _) ((by simp only [fresh_add, fresh_set, ne_eq, hn_b2, not_false_eq_true, and_self] : Fresh _ b2).2)), (by first | exact ⟨rfl, rfl⟩ | rfl)⟩

end Go.Proofs.Ythinfokelgcipaa.Queue
