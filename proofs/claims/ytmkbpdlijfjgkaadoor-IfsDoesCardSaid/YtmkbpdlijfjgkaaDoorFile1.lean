/- file: header, New, Good, Same, and their references: what each comes to. -/
import Derived.Test.YtmkbpdlijfjgkaaDoorTy
import Derived.Test.YtmkbpdlijfjgkaaDoorAx18
namespace Go.Proofs.YtmkbpdlijfjgkaaDoor.File
set_option linter.unusedSimpArgs false
set_option linter.unusedVariables false
open Go Go.AX Go.Proofs Ty
set_option maxHeartbeats 4000000
set_option maxRecDepth 10000

abbrev Rc := Int × Int × Int × Int
def enc (r : Rc) : List Value := [.int .u8 r.1, .int .u8 r.2.1, .int .u8 r.2.2.1, .int .u8 r.2.2.2]
def zr : Rc := (0, 0, 0, 0)
theorem enc_len (r : Rc) : (enc r).length = 4 := rfl
theorem enc_scal (r : Rc) : (enc r).all scal = true := rfl
theorem rows4 (R : List Rc) : ∀ r ∈ R.map enc, r.length = 4 := fun r hr => by
  obtain ⟨w, _, rfl⟩ := List.mem_map.1 hr
  rfl
theorem scal4 (l : List Rc) : ((l.map enc).flatten).all scal = true := by
  rw [List.all_flatten, List.all_map, List.all_eq_true]
  intro r _; rfl
theorem map_get {α : Type} {f : α → List Value} {L : List α} {i : Nat} {s : α} (h : L[i]? = some s) : (L.map f)[i]? = some (f s) := by rw [List.getElem?_map, h]; rfl
theorem eqlRc {u : Option TypeDesc} {H : AH} {a b : Operand} {kk : Value → Prop} (r s : Rc) : bin u Tryd.prog H .eql 32 a b (.agg (enc r).toArray) (.agg (enc s).toArray) kk = (u = Tryd.prog.underlying 32 ∧ nv (.bool (decide (r = s))) kk) := by
  obtain ⟨r1, r2, r3, r4⟩ := r
  obtain ⟨s1, s2, s3, s4⟩ := s
  unfold enc; rw [eql_32]
  have : ((r1 == s1) && ((r2 == s2) && ((r3 == s3) && (r4 == s4)))) = decide ((r1, r2, r3, r4) = (s1, s2, s3, s4)) := by
    rw [Bool.eq_iff_iff]; simp [Prod.mk.injEq]
  rw [this]
theorem neqRc {u : Option TypeDesc} {H : AH} {a b : Operand} {kk : Value → Prop} (r s : Rc) : bin u Tryd.prog H .neq 32 a b (.agg (enc r).toArray) (.agg (enc s).toArray) kk = (u = Tryd.prog.underlying 32 ∧ nv (.bool (!decide (r = s))) kk) := by
  obtain ⟨r1, r2, r3, r4⟩ := r
  obtain ⟨s1, s2, s3, s4⟩ := s
  unfold enc; rw [neq_32]
  have : ((r1 == s1) && ((r2 == s2) && ((r3 == s3) && (r4 == s4)))) = decide ((r1, r2, r3, r4) = (s1, s2, s3, s4)) := by
    rw [Bool.eq_iff_iff]; simp [Prod.mk.injEq]
  rw [this]

def hd (perm n : Int) : Rc := (IntKind.u8.wrap n, IntKind.u8.wrap perm, 165, ibits .xor .u8 (ibits .xor .u8 (IntKind.u8.wrap n) (IntKind.u8.wrap perm)) 165)
theorem header_c (perm n : Int) (H : AH) : ACalls Tryd.prog 45 #[.int .i64 perm, .int .i64 n] H (fun v H' => v = .agg (enc (hd perm n)).toArray ∧ H = H') := by
  refine ACalls.enter2 Tryd.func45 rfl Tryd.ntmps45 Tryd.results45 (by simp) ?_; simp (dsimp := false) (maxSteps := 4000000) only [go_sem, ↓reduceIte, Nat.reduceEqDiff, Nat.reduceLT, Nat.reduceLeDiff, Nat.reduceAdd, Nat.reduceMul, Nat.reduceSub, reduceCtorEq, Int.reduceToNat, Int.reduceLT, Int.reduceLE, Int.reduceEq, Int.reduceNe, Int.reduceBEq, Nat.reduceBEq, Int.reduceBNe, Nat.reduceBNe, Int.reduceAdd, Int.reduceSub, Int.reduceMul, Int.reduceNeg]
  refine AllB.mk fun b1 h_b1 => ?_; have hn_b1 := h_b1; (try simp only [fresh_add, fresh_set, ne_eq] at hn_b1); have hr_b1 := hn_b1; (try simp only [@eq_comm Nat b1] at hr_b1); simp (dsimp := false) (maxSteps := 4000000) only [hn_b1, hr_b1, go_sem, ↓reduceIte, Nat.reduceEqDiff, Nat.reduceLT, Nat.reduceLeDiff, Nat.reduceAdd, Nat.reduceMul, Nat.reduceSub, reduceCtorEq, Int.reduceToNat, Int.reduceLT, Int.reduceLE, Int.reduceEq, Int.reduceNe, Int.reduceBEq, Nat.reduceBEq, Int.reduceBNe, Nat.reduceBNe, Int.reduceAdd, Int.reduceSub, Int.reduceMul, Int.reduceNeg]
  exact ⟨H, (AH.le_add (AH.le_refl _) ((by simp only [fresh_add, fresh_set, ne_eq, hn_b1, not_false_eq_true, and_self] : Fresh _ b1).2)), (by first | exact ⟨rfl, rfl⟩ | rfl)⟩
theorem Header_c (perm n : Int) (H : AH) : ACalls Tryd.prog 39 #[.int .i64 perm, .int .i64 n] H (fun v H' => v = .agg (enc (hd perm n)).toArray ∧ H = H') := by
  refine ACalls.enter2 Tryd.func39 rfl Tryd.ntmps39 Tryd.results39 (by simp) ?_; simp (dsimp := false) (maxSteps := 4000000) only [go_sem, ↓reduceIte, Nat.reduceEqDiff, Nat.reduceLT, Nat.reduceLeDiff, Nat.reduceAdd, Nat.reduceMul, Nat.reduceSub, reduceCtorEq, Int.reduceToNat, Int.reduceLT, Int.reduceLE, Int.reduceEq, Int.reduceNe, Int.reduceBEq, Nat.reduceBEq, Int.reduceBNe, Nat.reduceBNe, Int.reduceAdd, Int.reduceSub, Int.reduceMul, Int.reduceNeg]
  refine AllB.mk fun b1 h_b1 => ?_; have hn_b1 := h_b1; (try simp only [fresh_add, fresh_set, ne_eq] at hn_b1); have hr_b1 := hn_b1; (try simp only [@eq_comm Nat b1] at hr_b1); simp (dsimp := false) (maxSteps := 4000000) only [hn_b1, hr_b1, go_sem, ↓reduceIte, Nat.reduceEqDiff, Nat.reduceLT, Nat.reduceLeDiff, Nat.reduceAdd, Nat.reduceMul, Nat.reduceSub, reduceCtorEq, Int.reduceToNat, Int.reduceLT, Int.reduceLE, Int.reduceEq, Int.reduceNe, Int.reduceBEq, Nat.reduceBEq, Int.reduceBNe, Nat.reduceBNe, Int.reduceAdd, Int.reduceSub, Int.reduceMul, Int.reduceNeg]
  exact ⟨H, (AH.le_add (AH.le_refl _) ((by simp only [fresh_add, fresh_set, ne_eq, hn_b1, not_false_eq_true, and_self] : Fresh _ b1).2)), (by first | exact ⟨rfl, rfl⟩ | rfl)⟩

/-- A file, as a value. -/
def fv (p : Int) (base : Option Addr) (n cap : Nat) : Value := .agg #[.int .i64 p, .slice base n cap]
def fbad (p : Int) : Value := .tuple #[.agg #[.int .i64 0, .slice none 0 0], .int .i64 p]
def okNew (perm n : Int) : Prop := 0 ≤ perm ∧ perm ≤ 7 ∧ 0 ≤ n ∧ n < 256
def newR (perm : Int) (n : Nat) : List Rc := hd perm n :: List.replicate n zr

theorem RefNew_bad (perm n : Int) (h : ¬ okNew perm n) (H : AH) : ACalls Tryd.prog 34 #[.int .i64 perm, .int .i64 n] H (fun v H' => v = fbad 1 ∧ H = H') := by
  unfold okNew at h
  refine ACalls.enter2 Tryd.func34 rfl Tryd.ntmps34 Tryd.results34 (by simp) ?_; simp (dsimp := false) (maxSteps := 4000000) only [go_sem, ↓reduceIte, Nat.reduceEqDiff, Nat.reduceLT, Nat.reduceLeDiff, Nat.reduceAdd, Nat.reduceMul, Nat.reduceSub, reduceCtorEq, Int.reduceToNat, Int.reduceLT, Int.reduceLE, Int.reduceEq, Int.reduceNe, Int.reduceBEq, Nat.reduceBEq, Int.reduceBNe, Nat.reduceBNe, Int.reduceAdd, Int.reduceSub, Int.reduceMul, Int.reduceNeg]
  refine AllB.mk fun b1 h_b1 => ?_; have hn_b1 := h_b1; (try simp only [fresh_add, fresh_set, ne_eq] at hn_b1); have hr_b1 := hn_b1; (try simp only [@eq_comm Nat b1] at hr_b1); simp (dsimp := false) (maxSteps := 4000000) only [hn_b1, hr_b1, go_sem, ↓reduceIte, Nat.reduceEqDiff, Nat.reduceLT, Nat.reduceLeDiff, Nat.reduceAdd, Nat.reduceMul, Nat.reduceSub, reduceCtorEq, Int.reduceToNat, Int.reduceLT, Int.reduceLE, Int.reduceEq, Int.reduceNe, Int.reduceBEq, Nat.reduceBEq, Int.reduceBNe, Nat.reduceBNe, Int.reduceAdd, Int.reduceSub, Int.reduceMul, Int.reduceNeg]
  by_cases a : perm < 0
  · simp (dsimp := false) (maxSteps := 4000000) only [a, hn_b1, hr_b1, go_sem, ↓reduceIte, Nat.reduceEqDiff, Nat.reduceLT, Nat.reduceLeDiff, Nat.reduceAdd, Nat.reduceMul, Nat.reduceSub, reduceCtorEq, Int.reduceToNat, Int.reduceLT, Int.reduceLE, Int.reduceEq, Int.reduceNe, Int.reduceBEq, Nat.reduceBEq, Int.reduceBNe, Nat.reduceBNe, Int.reduceAdd, Int.reduceSub, Int.reduceMul, Int.reduceNeg]
    exact ⟨H, (AH.le_add (AH.le_refl _) ((by simp only [fresh_add, fresh_set, ne_eq, hn_b1, not_false_eq_true, and_self] : Fresh _ b1).2)), (by first | exact ⟨rfl, rfl⟩ | rfl)⟩
  by_cases b : 7 < perm
  · simp (dsimp := false) (maxSteps := 4000000) only [a, b, hn_b1, hr_b1, go_sem, ↓reduceIte, Nat.reduceEqDiff, Nat.reduceLT, Nat.reduceLeDiff, Nat.reduceAdd, Nat.reduceMul, Nat.reduceSub, reduceCtorEq, Int.reduceToNat, Int.reduceLT, Int.reduceLE, Int.reduceEq, Int.reduceNe, Int.reduceBEq, Nat.reduceBEq, Int.reduceBNe, Nat.reduceBNe, Int.reduceAdd, Int.reduceSub, Int.reduceMul, Int.reduceNeg]
    exact ⟨H, (AH.le_add (AH.le_refl _) ((by simp only [fresh_add, fresh_set, ne_eq, hn_b1, not_false_eq_true, and_self] : Fresh _ b1).2)), (by first | exact ⟨rfl, rfl⟩ | rfl)⟩
  by_cases c : n < 0
  · simp (dsimp := false) (maxSteps := 4000000) only [a, b, c, hn_b1, hr_b1, go_sem, ↓reduceIte, Nat.reduceEqDiff, Nat.reduceLT, Nat.reduceLeDiff, Nat.reduceAdd, Nat.reduceMul, Nat.reduceSub, reduceCtorEq, Int.reduceToNat, Int.reduceLT, Int.reduceLE, Int.reduceEq, Int.reduceNe, Int.reduceBEq, Nat.reduceBEq, Int.reduceBNe, Nat.reduceBNe, Int.reduceAdd, Int.reduceSub, Int.reduceMul, Int.reduceNeg]
    exact ⟨H, (AH.le_add (AH.le_refl _) ((by simp only [fresh_add, fresh_set, ne_eq, hn_b1, not_false_eq_true, and_self] : Fresh _ b1).2)), (by first | exact ⟨rfl, rfl⟩ | rfl)⟩
  have d : (255 : Int) < n := by omega
  simp (dsimp := false) (maxSteps := 4000000) only [a, b, c, d, hn_b1, hr_b1, go_sem, ↓reduceIte, Nat.reduceEqDiff, Nat.reduceLT, Nat.reduceLeDiff, Nat.reduceAdd, Nat.reduceMul, Nat.reduceSub, reduceCtorEq, Int.reduceToNat, Int.reduceLT, Int.reduceLE, Int.reduceEq, Int.reduceNe, Int.reduceBEq, Nat.reduceBEq, Int.reduceBNe, Nat.reduceBNe, Int.reduceAdd, Int.reduceSub, Int.reduceMul, Int.reduceNeg]
  exact ⟨H, (AH.le_add (AH.le_refl _) ((by simp only [fresh_add, fresh_set, ne_eq, hn_b1, not_false_eq_true, and_self] : Fresh _ b1).2)), (by first | exact ⟨rfl, rfl⟩ | rfl)⟩
theorem newR_snoc (perm : Int) (m n : Nat) : (hd perm m :: List.replicate n zr) ++ [zr] = hd perm m :: List.replicate (n + 1) zr := by
  rw [List.replicate_succ']; rfl
theorem RefNew_c (perm : Int) (n : Nat) (h : okNew perm n) (H : AH) : ACalls Tryd.prog 34 #[.int .i64 perm, .int .i64 n] H (fun v H' => ∃ base cap, v = .tuple #[fv perm base (n + 1) cap, .int .i64 0] ∧ OwnS H H' 32 4 base cap ((newR perm n).map enc) ∧ Keep H H' fun _ => False) := by
  obtain ⟨h0, h1, h2, h3⟩ := h
  have a : ¬ perm < 0 := by omega
  have b : ¬ 7 < perm := by omega
  have c : ¬ (n : Int) < 0 := by omega
  have d : ¬ (255 : Int) < n := by omega
  refine ACalls.enter2 Tryd.func34 rfl Tryd.ntmps34 Tryd.results34 (by simp) ?_; simp (dsimp := false) (maxSteps := 4000000) only [a, b, c, d, enc_len, enc_scal, go_sem, ↓reduceIte, Nat.reduceEqDiff, Nat.reduceLT, Nat.reduceLeDiff, Nat.reduceAdd, Nat.reduceMul, Nat.reduceSub, reduceCtorEq, Int.reduceToNat, Int.reduceLT, Int.reduceLE, Int.reduceEq, Int.reduceNe, Int.reduceBEq, Nat.reduceBEq, Int.reduceBNe, Nat.reduceBNe, Int.reduceAdd, Int.reduceSub, Int.reduceMul, Int.reduceNeg]
  refine AllB.mk fun b4 h_b4 => ?_; have hn_b4 := h_b4; (try simp only [fresh_add, fresh_set, ne_eq] at hn_b4); have hr_b4 := hn_b4; (try simp only [@eq_comm Nat b4] at hr_b4); simp (dsimp := false) (maxSteps := 4000000) only [a, b, c, d, enc_len, enc_scal, hn_b4, hr_b4, go_sem, ↓reduceIte, Nat.reduceEqDiff, Nat.reduceLT, Nat.reduceLeDiff, Nat.reduceAdd, Nat.reduceMul, Nat.reduceSub, reduceCtorEq, Int.reduceToNat, Int.reduceLT, Int.reduceLE, Int.reduceEq, Int.reduceNe, Int.reduceBEq, Nat.reduceBEq, Int.reduceBNe, Nat.reduceBNe, Int.reduceAdd, Int.reduceSub, Int.reduceMul, Int.reduceNeg]
  refine (Header_c perm n _).mono ?_; rintro _ _ ⟨rfl, rfl⟩
  simp (dsimp := false) (maxSteps := 4000000) only [a, b, c, d, enc_len, enc_scal, hn_b4, hr_b4, go_sem, ↓reduceIte, Nat.reduceEqDiff, Nat.reduceLT, Nat.reduceLeDiff, Nat.reduceAdd, Nat.reduceMul, Nat.reduceSub, reduceCtorEq, Int.reduceToNat, Int.reduceLT, Int.reduceLE, Int.reduceEq, Int.reduceNe, Int.reduceBEq, Nat.reduceBEq, Int.reduceBNe, Nat.reduceBNe, Int.reduceAdd, Int.reduceSub, Int.reduceMul, Int.reduceNeg]
  refine AllB.mk fun bl h_bl => ?_; have hn_bl := h_bl; (try simp only [fresh_add, fresh_set, ne_eq] at hn_bl); have hr_bl := hn_bl; (try simp only [@eq_comm Nat bl] at hr_bl); simp (dsimp := false) (maxSteps := 4000000) only [a, b, c, d, enc_len, enc_scal, hn_b4, hr_b4, hn_bl, hr_bl, go_sem, ↓reduceIte, Nat.reduceEqDiff, Nat.reduceLT, Nat.reduceLeDiff, Nat.reduceAdd, Nat.reduceMul, Nat.reduceSub, reduceCtorEq, Int.reduceToNat, Int.reduceLT, Int.reduceLE, Int.reduceEq, Int.reduceNe, Int.reduceBEq, Nat.reduceBEq, Int.reduceBNe, Nat.reduceBNe, Int.reduceAdd, Int.reduceSub, Int.reduceMul, Int.reduceNeg]
  refine AllB.mk fun b6 h_b6 => ?_; have hn_b6 := h_b6; (try simp only [fresh_add, fresh_set, ne_eq] at hn_b6); have hr_b6 := hn_b6; (try simp only [@eq_comm Nat b6] at hr_b6); simp (dsimp := false) (maxSteps := 4000000) only [a, b, c, d, enc_len, enc_scal, hn_b4, hr_b4, hn_bl, hr_bl, hn_b6, hr_b6, go_sem, ↓reduceIte, Nat.reduceEqDiff, Nat.reduceLT, Nat.reduceLeDiff, Nat.reduceAdd, Nat.reduceMul, Nat.reduceSub, reduceCtorEq, Int.reduceToNat, Int.reduceLT, Int.reduceLE, Int.reduceEq, Int.reduceNe, Int.reduceBEq, Nat.reduceBEq, Int.reduceBNe, Nat.reduceBNe, Int.reduceAdd, Int.reduceSub, Int.reduceMul, Int.reduceNeg]
  have n64 : ¬ b6 = b4 := hn_b6.2.1
  have f4 : Fresh H b4 := h_b4
  have f6 : Fresh H b6 := hn_b6.2.2
  have fl : Fresh H bl := hn_bl.2
  refine AWp.loopr (ι := Nat) (fun i A => i ≤ n ∧ ∃ B base cap, A = (B.add b4 (.cells [.int .i64 0, .slice none 0 0] 35 2)).add b6 (.cells [.int .i64 perm, .slice base (i + 1) cap] 35 2) ∧ OwnS H B 32 4 base cap ((hd perm n :: List.replicate i zr).map enc) ∧ (Keep H B fun _ => False) ∧ Fresh B b4 ∧ Fresh B b6)
    (fun i => [(7, .int .i64 i), (0, .int .i64 perm), (1, .int .i64 n), (4, .pointer (some ⟨b4, 0, none⟩)), (6, .pointer (some ⟨b6, 0, none⟩))]) (fun i => n - i) 0 (((H.add bl (.cells (enc (hd perm n)) 32 4)).add b4 (.cells [.int .i64 0, .slice none 0 0] 35 2)).add b6 (.cells [.int .i64 perm, .slice (some ⟨bl, 0, none⟩) 1 1] 35 2))
    ⟨by omega, _, some ⟨bl, 0, none⟩, 1, rfl, OwnS.new fl (AH.le_refl _) (by simp) rfl rfl (by simp [enc_len]) (by simp), Keep.add fl, by rw [fresh_add]; exact ⟨hr_bl.1, f4⟩, by rw [fresh_add]; exact ⟨hn_b6.1, f6⟩⟩ (FrLe.of_lks ?_) ?_ fun i A hi Q again out => ?_
  · simp (dsimp := false) (maxSteps := 4000000) only [a, b, c, d, enc_len, enc_scal, hn_b4, hr_b4, hn_bl, hr_bl, hn_b6, hr_b6, go_sem, ↓reduceIte, Nat.reduceEqDiff, Nat.reduceLT, Nat.reduceLeDiff, Nat.reduceAdd, Nat.reduceMul, Nat.reduceSub, reduceCtorEq, Int.reduceToNat, Int.reduceLT, Int.reduceLE, Int.reduceEq, Int.reduceNe, Int.reduceBEq, Nat.reduceBEq, Int.reduceBNe, Nat.reduceBNe, Int.reduceAdd, Int.reduceSub, Int.reduceMul, Int.reduceNeg]
  · exact (by refine AH.le_cons ?_ ?_; (show AH.find _ _ = _; simp only [find_add_self, find_add_ne, find_fresh, fresh_add, ne_eq, not_false_eq_true, true_and, and_true, and_self, a, b, c, d, enc_len, enc_scal, hn_b4, hr_b4, hn_bl, hr_bl, hn_b6, hr_b6]); refine AH.le_cons ?_ ?_; (show AH.find _ _ = _; simp only [find_add_self, find_add_ne, find_fresh, fresh_add, ne_eq, not_false_eq_true, true_and, and_true, and_self, a, b, c, d, enc_len, enc_scal, hn_b4, hr_b4, hn_bl, hr_bl, hn_b6, hr_b6]); refine AH.le_cons ?_ ?_; (show AH.find _ _ = _; simp only [find_add_self, find_add_ne, find_fresh, fresh_add, ne_eq, not_false_eq_true, true_and, and_true, and_self, a, b, c, d, enc_len, enc_scal, hn_b4, hr_b4, hn_bl, hr_bl, hn_b6, hr_b6]); (repeat (first | exact AH.le_refl _ | refine AH.le_add ?_ ?_)); all_goals (first | exact AH.le_refl _ | (show AH.find _ _ = _; simp only [find_add_self, find_add_ne, find_fresh, fresh_add, ne_eq, not_false_eq_true, true_and, and_true, and_self, a, b, c, d, enc_len, enc_scal, hn_b4, hr_b4, hn_bl, hr_bl, hn_b6, hr_b6])))
  · clear hn_b6 hr_b6 h_b6 hn_b4 hr_b4 h_b4 hn_bl hr_bl h_bl fl
    
    obtain ⟨hi, B, base, cap, rfl, hO, hK, g4, g6⟩ := hi
    have n46 : ¬ b4 = b6 := fun e => n64 e.symm
    
    by_cases hlt : (i : Int) < n
    · have e1 := i64_succ (i := i) (by omega)
      
      simp (dsimp := false) (maxSteps := 4000000) only [hlt, n64, n46, g4, g6, enc_len, enc_scal, go_sem, ↓reduceIte, Nat.reduceEqDiff, Nat.reduceLT, Nat.reduceLeDiff, Nat.reduceAdd, Nat.reduceMul, Nat.reduceSub, reduceCtorEq, Int.reduceToNat, Int.reduceLT, Int.reduceLE, Int.reduceEq, Int.reduceNe, Int.reduceBEq, Nat.reduceBEq, Int.reduceBNe, Nat.reduceBNe, Int.reduceAdd, Int.reduceSub, Int.reduceMul, Int.reduceNeg]
      refine AllB.mk fun b37 h_b37 => ?_; have hn_b37 := h_b37; (try simp only [fresh_add, fresh_set, ne_eq] at hn_b37); have hr_b37 := hn_b37; (try simp only [@eq_comm Nat b37] at hr_b37); simp (dsimp := false) (maxSteps := 4000000) only [n64, n46, g4, g6, enc_len, enc_scal, hn_b37, hr_b37, go_sem, ↓reduceIte, Nat.reduceEqDiff, Nat.reduceLT, Nat.reduceLeDiff, Nat.reduceAdd, Nat.reduceMul, Nat.reduceSub, reduceCtorEq, Int.reduceToNat, Int.reduceLT, Int.reduceLE, Int.reduceEq, Int.reduceNe, Int.reduceBEq, Nat.reduceBEq, Int.reduceBNe, Nat.reduceBNe, Int.reduceAdd, Int.reduceSub, Int.reduceMul, Int.reduceNeg]
      have g37 : Fresh B b37 := hn_b37.2.2
      have p4 : AH.find (((B.add b4 (.cells [.int .i64 0, .slice none 0 0] 35 2)).add b6 (.cells [.int .i64 perm, .slice base (i + 1) cap] 35 2)).add b37 (.cells (enc zr) 32 4)) b4 = some (.cells [.int .i64 0, .slice none 0 0] 35 2) := by (show AH.find _ _ = _; simp only [find_add_self, find_add_ne, find_fresh, fresh_add, ne_eq, not_false_eq_true, true_and, and_true, and_self, n64, n46, g4, g6, enc_len, enc_scal, hn_b37, hr_b37])
      have p6 : AH.find (((B.add b4 (.cells [.int .i64 0, .slice none 0 0] 35 2)).add b6 (.cells [.int .i64 perm, .slice base (i + 1) cap] 35 2)).add b37 (.cells (enc zr) 32 4)) b6 = some (.cells [.int .i64 perm, .slice base (i + 1) cap] 35 2) := by (show AH.find _ _ = _; simp only [find_add_self, find_add_ne, find_fresh, fresh_add, ne_eq, not_false_eq_true, true_and, and_true, and_self, n64, n46, g4, g6, enc_len, enc_scal, hn_b37, hr_b37])
      have hOx : OwnS H (((B.add b4 (.cells [.int .i64 0, .slice none 0 0] 35 2)).add b6 (.cells [.int .i64 perm, .slice base (i + 1) cap] 35 2)).add b37 (.cells (enc zr) 32 4)) 32 4 base cap ((hd perm n :: List.replicate i zr).map enc) :=
        ((hO.added g4).added (by rw [fresh_add]; exact ⟨n64, g6⟩)).added h_b37
      have hKx : Keep H (((B.add b4 (.cells [.int .i64 0, .slice none 0 0] 35 2)).add b6 (.cells [.int .i64 perm, .slice base (i + 1) cap] 35 2)).add b37 (.cells (enc zr) 32 4)) fun _ => False :=
        ((hK.nw g4).nw (by rw [fresh_add]; exact ⟨n64, g6⟩)).nw h_b37
      refine APD.growW (x := .slice (some ⟨b37, 0, none⟩) 1 1) (R' := [enc zr]) (m := 1) hOx hKx.all se_33 rfl (by decide) (by rw [Tryd.underlying33]; rfl) (by simp) rfl rfl (by rw [srow_some, row_add_self]; rfl) (by simp [enc_len]) (by simp [enc, scal]) (by omega) fun base' cap' A' hO' hK' hN' => ?_
      have q4 : A'.find b4 = some (.cells [.int .i64 0, .slice none 0 0] 35 2) := hK'.find (fun hx => by obtain ⟨a, ha, e⟩ := hx; exact hO.ne g4 a ha e.symm) p4
      have q6 : A'.find b6 = some (.cells [.int .i64 perm, .slice base (i + 1) cap] 35 2) := hK'.find (fun hx => by obtain ⟨a, ha, e⟩ := hx; exact hO.ne g6 a ha e.symm) p6
      refine ⟨_, top2 q4 q6, ?_⟩
      
      simp (dsimp := false) (maxSteps := 4000000) only [e1, n64, n46, g4, g6, enc_len, enc_scal, go_sem, ↓reduceIte, Nat.reduceEqDiff, Nat.reduceLT, Nat.reduceLeDiff, Nat.reduceAdd, Nat.reduceMul, Nat.reduceSub, reduceCtorEq, Int.reduceToNat, Int.reduceLT, Int.reduceLE, Int.reduceEq, Int.reduceNe, Int.reduceBEq, Nat.reduceBEq, Int.reduceBNe, Nat.reduceBNe, Int.reduceAdd, Int.reduceSub, Int.reduceMul, Int.reduceNeg]
      have hK2 := (hKx.ow hK' fun b ⟨a, ha, e⟩ => e ▸ hO.fresh a ha)
      obtain ⟨hK3, g43⟩ := hK2.dels f4
      obtain ⟨hK4, g64⟩ := hK3.dels f6
      have ne4 : ∀ a, base' = some a → a.block ≠ b4 := fun a ha e => by
        rcases hN' a ha with ⟨a', h1, h2⟩ | h1
        · exact hO.ne g4 a' h1 (h2 ▸ e)
        · exact h1.ne_find p4 e
      have ne6 : ∀ a, base' = some a → a.block ≠ b6 := fun a ha e => by
        rcases hN' a ha with ⟨a', h1, h2⟩ | h1
        · exact hO.ne g6 a' h1 (h2 ▸ e)
        · exact h1.ne_find p6 e
      have hO2 := (hO'.del ne4).del ne6
      rw [show (hd perm n :: List.replicate i zr).map enc ++ [enc zr] = (hd perm n :: List.replicate (i + 1) zr).map enc from by rw [← newR_snoc]; simp] at hO2
      exact again (i + 1) _ _ _ ⟨by omega, _, base', cap', rfl, hO2, hK4, Fresh.of_le AH.le_del g43, g64⟩ (FrLe.of_lks (by simp (dsimp := false) (maxSteps := 4000000) only [n64, n46, g4, g6, enc_len, enc_scal, go_sem, ↓reduceIte, Nat.reduceEqDiff, Nat.reduceLT, Nat.reduceLeDiff, Nat.reduceAdd, Nat.reduceMul, Nat.reduceSub, reduceCtorEq, Int.reduceToNat, Int.reduceLT, Int.reduceLE, Int.reduceEq, Int.reduceNe, Int.reduceBEq, Nat.reduceBEq, Int.reduceBNe, Nat.reduceBNe, Int.reduceAdd, Int.reduceSub, Int.reduceMul, Int.reduceNeg])) (AH.le_refl _) (by omega)
    · obtain rfl : i = n := by omega
      simp (dsimp := false) (maxSteps := 4000000) only [hlt, n64, n46, g4, g6, enc_len, enc_scal, go_sem, ↓reduceIte, Nat.reduceEqDiff, Nat.reduceLT, Nat.reduceLeDiff, Nat.reduceAdd, Nat.reduceMul, Nat.reduceSub, reduceCtorEq, Int.reduceToNat, Int.reduceLT, Int.reduceLE, Int.reduceEq, Int.reduceNe, Int.reduceBEq, Nat.reduceBEq, Int.reduceBNe, Nat.reduceBNe, Int.reduceAdd, Int.reduceSub, Int.reduceMul, Int.reduceNeg]
      refine out _ _ _ (by simp) ?_
      simp (dsimp := false) (maxSteps := 4000000) only [n64, n46, g4, g6, enc_len, enc_scal, go_sem, ↓reduceIte, Nat.reduceEqDiff, Nat.reduceLT, Nat.reduceLeDiff, Nat.reduceAdd, Nat.reduceMul, Nat.reduceSub, reduceCtorEq, Int.reduceToNat, Int.reduceLT, Int.reduceLE, Int.reduceEq, Int.reduceNe, Int.reduceBEq, Nat.reduceBEq, Int.reduceBNe, Nat.reduceBNe, Int.reduceAdd, Int.reduceSub, Int.reduceMul, Int.reduceNeg]
      exact ⟨B, (by (repeat (first | exact AH.le_refl _ | refine AH.le_add ?_ ?_)); all_goals (first | exact AH.le_refl _ | (show AH.find _ _ = _; simp only [find_add_self, find_add_ne, find_fresh, fresh_add, ne_eq, not_false_eq_true, true_and, and_true, and_self, n64, n46, g4, g6, enc_len, enc_scal]))), base, cap, rfl, hO, hK⟩
end Go.Proofs.YtmkbpdlijfjgkaaDoor.File
