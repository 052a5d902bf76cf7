/- Texts of mine, one behind another. -/
import Derived.Test.YtamlipffhimfmaaGreatDoorMServeBytes6
/- addr.Take and its reference; the fixed fact; the two statements as_ calls. -/
namespace Go.Proofs.YtamlipffhimfmaaGreatDoor
set_option linter.unusedSimpArgs false
set_option linter.unusedVariables false
open Go Go.AX Go.Proofs Ty
set_option maxHeartbeats 2000000
set_option maxRecDepth 10000

def atakev (x y : Int) : Value := if x < 192 then .tuple #[.agg #[.int .i64 (x / 64), .int .i64 (x % 64), .int .i64 y], .int .i64 0] else .tuple #[.agg #[.int .i64 0, .int .i64 0, .int .i64 0], .int .i64 2]

theorem shr6 : ∀ x : Fin 256, IntKind.i64.wrap ((x.val : Int).fdiv (2 ^ min 6 8)) = (x.val : Int) / 64 := by decide +kernel
theorem and63 : ∀ x : Fin 256, IntKind.i64.wrap (ibits .and .u8 (x.val : Int) 63) = (x.val : Int) % 64 := by decide +kernel
theorem shr6' {x : Int} (h : 0 ≤ x ∧ x < 256) : IntKind.i64.wrap (x.fdiv (2 ^ min 6 8)) = x / 64 := by
  obtain ⟨n, rfl⟩ := Int.eq_ofNat_of_zero_le h.1
  exact shr6 ⟨n, by omega⟩
theorem and63' {x : Int} (h : 0 ≤ x ∧ x < 256) : IntKind.i64.wrap (ibits .and .u8 x 63) = x % 64 := by
  obtain ⟨n, rfl⟩ := Int.eq_ofNat_of_zero_le h.1
  exact and63 ⟨n, by omega⟩

theorem Take_c (x y : Int) (hx : 0 ≤ x ∧ x < 256) (hy : 0 ≤ y ∧ y < 256) (H : AH) : ACalls Tryz.prog 75 #[.agg #[.int .u8 x, .int .u8 y]] H (fun v H' => v = atakev x y ∧ H = H') := by
  have e1 := shr6' hx
  have e2 := and63' hx
  have e3 : IntKind.i64.wrap y = y := i64_eq (by omega) (by omega)
  refine ACalls.enter2 Tryz.func75 rfl Tryz.ntmps75 Tryz.results75 (by simp) ?_; simp (dsimp := false) (maxSteps := 4000000) only [go_sem, ↓reduceIte, Nat.reduceEqDiff, Nat.reduceLT, Nat.reduceLeDiff, Nat.reduceAdd, Nat.reduceMul, Nat.reduceSub, reduceCtorEq, Int.reduceToNat, Int.reduceLT, Int.reduceLE, Int.reduceEq, Int.reduceNe, Int.reduceBEq, Nat.reduceBEq, Int.reduceBNe, Nat.reduceBNe, Int.reduceAdd, Int.reduceSub, Int.reduceMul, Int.reduceNeg]
  
  refine AllB.mk fun b1 h_b1 => ?_; have hn_b1 := h_b1; (try simp only [fresh_add, fresh_set, ne_eq] at hn_b1); have hr_b1 := hn_b1; (try simp only [@eq_comm Nat b1] at hr_b1); simp (dsimp := false) (maxSteps := 4000000) only [e1, e2, e3, hn_b1, hr_b1, go_sem, ↓reduceIte, Nat.reduceEqDiff, Nat.reduceLT, Nat.reduceLeDiff, Nat.reduceAdd, Nat.reduceMul, Nat.reduceSub, reduceCtorEq, Int.reduceToNat, Int.reduceLT, Int.reduceLE, Int.reduceEq, Int.reduceNe, Int.reduceBEq, Nat.reduceBEq, Int.reduceBNe, Nat.reduceBNe, Int.reduceAdd, Int.reduceSub, Int.reduceMul, Int.reduceNeg]
  refine AllB.mk fun b2 h_b2 => ?_; have hn_b2 := h_b2; (try simp only [fresh_add, fresh_set, ne_eq] at hn_b2); have hr_b2 := hn_b2; (try simp only [@eq_comm Nat b2] at hr_b2); simp (dsimp := false) (maxSteps := 4000000) only [e1, e2, e3, hn_b1, hr_b1, hn_b2, hr_b2, go_sem, ↓reduceIte, Nat.reduceEqDiff, Nat.reduceLT, Nat.reduceLeDiff, Nat.reduceAdd, Nat.reduceMul, Nat.reduceSub, reduceCtorEq, Int.reduceToNat, Int.reduceLT, Int.reduceLE, Int.reduceEq, Int.reduceNe, Int.reduceBEq, Nat.reduceBEq, Int.reduceBNe, Nat.reduceBNe, Int.reduceAdd, Int.reduceSub, Int.reduceMul, Int.reduceNeg]
  refine AllB.mk fun b3 h_b3 => ?_; have hn_b3 := h_b3; (try simp only [fresh_add, fresh_set, ne_eq] at hn_b3); have hr_b3 := hn_b3; (try simp only [@eq_comm Nat b3] at hr_b3); simp (dsimp := false) (maxSteps := 4000000) only [e1, e2, e3, hn_b1, hr_b1, hn_b2, hr_b2, hn_b3, hr_b3, go_sem, ↓reduceIte, Nat.reduceEqDiff, Nat.reduceLT, Nat.reduceLeDiff, Nat.reduceAdd, Nat.reduceMul, Nat.reduceSub, reduceCtorEq, Int.reduceToNat, Int.reduceLT, Int.reduceLE, Int.reduceEq, Int.reduceNe, Int.reduceBEq, Nat.reduceBEq, Int.reduceBNe, Nat.reduceBNe, Int.reduceAdd, Int.reduceSub, Int.reduceMul, Int.reduceNeg]
  refine (Good_c _ _ _ _).mono ?_; rintro _ _ ⟨rfl, rfl⟩
  by_cases h : x < 192
  · have hg : agood (x / 64) (x % 64) y = true := by simp only [agood, decide_eq_true_eq]; omega
    simp (dsimp := false) (maxSteps := 4000000) only [hg, e1, e2, e3, hn_b1, hr_b1, hn_b2, hr_b2, hn_b3, hr_b3, go_sem, ↓reduceIte, Nat.reduceEqDiff, Nat.reduceLT, Nat.reduceLeDiff, Nat.reduceAdd, Nat.reduceMul, Nat.reduceSub, reduceCtorEq, Int.reduceToNat, Int.reduceLT, Int.reduceLE, Int.reduceEq, Int.reduceNe, Int.reduceBEq, Nat.reduceBEq, Int.reduceBNe, Nat.reduceBNe, Int.reduceAdd, Int.reduceSub, Int.reduceMul, Int.reduceNeg]
    exact ⟨H, (AH.le_add (AH.le_add (AH.le_add (AH.le_refl _) ((by simp only [e1, e2, e3, fresh_add, fresh_set, ne_eq, hn_b1, not_false_eq_true, and_self] : Fresh _ b1).2)) ((by simp only [e1, e2, e3, fresh_add, fresh_set, ne_eq, hn_b2, not_false_eq_true, and_self] : Fresh _ b2).2)) ((by simp only [e1, e2, e3, fresh_add, fresh_set, ne_eq, hn_b3, not_false_eq_true, and_self] : Fresh _ b3).2)), (by first | exact ⟨by simp [atakev, h], rfl⟩ | rfl)⟩
  · have hg : agood (x / 64) (x % 64) y = false := by simp only [agood, decide_eq_false_iff_not]; omega
    simp (dsimp := false) (maxSteps := 4000000) only [hg, e1, e2, e3, hn_b1, hr_b1, hn_b2, hr_b2, hn_b3, hr_b3, go_sem, ↓reduceIte, Nat.reduceEqDiff, Nat.reduceLT, Nat.reduceLeDiff, Nat.reduceAdd, Nat.reduceMul, Nat.reduceSub, reduceCtorEq, Int.reduceToNat, Int.reduceLT, Int.reduceLE, Int.reduceEq, Int.reduceNe, Int.reduceBEq, Nat.reduceBEq, Int.reduceBNe, Nat.reduceBNe, Int.reduceAdd, Int.reduceSub, Int.reduceMul, Int.reduceNeg]
    exact ⟨H, (AH.le_add (AH.le_add (AH.le_add (AH.le_refl _) ((by simp only [e1, e2, e3, fresh_add, fresh_set, ne_eq, hn_b1, not_false_eq_true, and_self] : Fresh _ b1).2)) ((by simp only [e1, e2, e3, fresh_add, fresh_set, ne_eq, hn_b2, not_false_eq_true, and_self] : Fresh _ b2).2)) ((by simp only [e1, e2, e3, fresh_add, fresh_set, ne_eq, hn_b3, not_false_eq_true, and_self] : Fresh _ b3).2)), (by first | exact ⟨by simp [atakev, h], rfl⟩ | rfl)⟩
end Go.Proofs.YtamlipffhimfmaaGreatDoor

/- serve: Ask, wrap. -/
namespace Go.Proofs.YtamlipffhimfmaaGreatDoor.Srv
set_option linter.unusedSimpArgs false
set_option linter.unusedVariables false
open Go Go.AX Go.Proofs Ty Go.Proofs.YtamlipffhimfmaaGreatDoor.File
set_option maxHeartbeats 4000000
set_option maxRecDepth 10000

/-- An error of a node that is silent. -/
def silV (e : Int) : Value := if e = 0 then .nilIface else .iface 117 (.agg #[.iface 28 (.int .i64 e)])
theorem wrap_c (e : Int) (H : AH) : ACalls Tryz.prog 76 #[.int .i64 e] H (fun v H' => v = silV e ∧ H = H') := by
  refine ACalls.enter2 Tryz.func76 rfl Tryz.ntmps76 Tryz.results76 (by simp) ?_; simp (dsimp := false) (maxSteps := 4000000) only [go_sem, ↓reduceIte, Nat.reduceEqDiff, Nat.reduceLT, Nat.reduceLeDiff, Nat.reduceAdd, Nat.reduceMul, Nat.reduceSub, reduceCtorEq, Int.reduceToNat, Int.reduceLT, Int.reduceLE, Int.reduceEq, Int.reduceNe, Int.reduceBEq, Nat.reduceBEq, Int.reduceBNe, Nat.reduceBNe, Int.reduceAdd, Int.reduceSub, Int.reduceMul, Int.reduceNeg]
  by_cases h : e = 0
  · subst h
    simp (dsimp := false) (maxSteps := 4000000) only [go_sem, ↓reduceIte, Nat.reduceEqDiff, Nat.reduceLT, Nat.reduceLeDiff, Nat.reduceAdd, Nat.reduceMul, Nat.reduceSub, reduceCtorEq, Int.reduceToNat, Int.reduceLT, Int.reduceLE, Int.reduceEq, Int.reduceNe, Int.reduceBEq, Nat.reduceBEq, Int.reduceBNe, Nat.reduceBNe, Int.reduceAdd, Int.reduceSub, Int.reduceMul, Int.reduceNeg]
    exact ⟨H, (AH.le_refl _), (by first | exact ⟨rfl, rfl⟩ | rfl)⟩
  · simp (dsimp := false) (maxSteps := 4000000) only [h, go_sem, ↓reduceIte, Nat.reduceEqDiff, Nat.reduceLT, Nat.reduceLeDiff, Nat.reduceAdd, Nat.reduceMul, Nat.reduceSub, reduceCtorEq, Int.reduceToNat, Int.reduceLT, Int.reduceLE, Int.reduceEq, Int.reduceNe, Int.reduceBEq, Nat.reduceBEq, Int.reduceBNe, Nat.reduceBNe, Int.reduceAdd, Int.reduceSub, Int.reduceMul, Int.reduceNeg]
    exact ⟨H, AH.le_refl _, by rw [silV, if_neg h], rfl⟩
def askOk (n a b c : Int) : Prop := 1 ≤ n ∧ n ≤ 254 ∧ agood a b c = true
instance {n a b c : Int} : Decidable (askOk n a b c) := by unfold askOk; infer_instance
def askL (n a b c : Int) : List Int := [n, 64 * a + b, c]
def askV (n a b c : Int) : Value := if askOk n a b c then .tuple #[.agg #[.int .u8 n, .int .u8 (64 * a + b), .int .u8 c, .int .u8 (chk (askL n a b c))], .int .i64 0] else .tuple #[.agg #[.int .u8 0, .int .u8 0, .int .u8 0, .int .u8 0], .int .i64 1]
theorem Ask_c (n a b c : Int) (H : AH) : ACalls Tryz.prog 7 #[.int .i64 n, .agg #[.int .i64 a, .int .i64 b, .int .i64 c]] H (fun v H' => v = askV n a b c ∧ H = H') := by
  have hck := fun H1 q (h : SlcIn H1 1 (some ⟨q, 0, none⟩) 4 ((askL n a b c).map enc1)) => checked_c (askL n a b c) (some ⟨q, 0, none⟩) 4 H1 h
  refine ACalls.enter2 Tryz.func7 rfl Tryz.ntmps7 Tryz.results7 (by simp) ?_; simp (dsimp := false) (maxSteps := 4000000) only [go_sem, ↓reduceIte, Nat.reduceEqDiff, Nat.reduceLT, Nat.reduceLeDiff, Nat.reduceAdd, Nat.reduceMul, Nat.reduceSub, reduceCtorEq, Int.reduceToNat, Int.reduceLT, Int.reduceLE, Int.reduceEq, Int.reduceNe, Int.reduceBEq, Nat.reduceBEq, Int.reduceBNe, Nat.reduceBNe, Int.reduceAdd, Int.reduceSub, Int.reduceMul, Int.reduceNeg]
  refine AllB.mk fun b3 h_b3 => ?_; have hn_b3 := h_b3; (try simp only [fresh_add, fresh_set, ne_eq] at hn_b3); have hr_b3 := hn_b3; (try simp only [@eq_comm Nat b3] at hr_b3); simp (dsimp := false) (maxSteps := 4000000) only [hn_b3, hr_b3, go_sem, ↓reduceIte, Nat.reduceEqDiff, Nat.reduceLT, Nat.reduceLeDiff, Nat.reduceAdd, Nat.reduceMul, Nat.reduceSub, reduceCtorEq, Int.reduceToNat, Int.reduceLT, Int.reduceLE, Int.reduceEq, Int.reduceNe, Int.reduceBEq, Nat.reduceBEq, Int.reduceBNe, Nat.reduceBNe, Int.reduceAdd, Int.reduceSub, Int.reduceMul, Int.reduceNeg]
  refine AllB.mk fun b4 h_b4 => ?_; have hn_b4 := h_b4; (try simp only [fresh_add, fresh_set, ne_eq] at hn_b4); have hr_b4 := hn_b4; (try simp only [@eq_comm Nat b4] at hr_b4); simp (dsimp := false) (maxSteps := 4000000) only [hn_b3, hr_b3, hn_b4, hr_b4, go_sem, ↓reduceIte, Nat.reduceEqDiff, Nat.reduceLT, Nat.reduceLeDiff, Nat.reduceAdd, Nat.reduceMul, Nat.reduceSub, reduceCtorEq, Int.reduceToNat, Int.reduceLT, Int.reduceLE, Int.reduceEq, Int.reduceNe, Int.reduceBEq, Nat.reduceBEq, Int.reduceBNe, Nat.reduceBNe, Int.reduceAdd, Int.reduceSub, Int.reduceMul, Int.reduceNeg]
  refine (Go.Proofs.YtamlipffhimfmaaGreatDoor.Put_c a b c _).mono ?_; rintro _ _ ⟨rfl, rfl⟩
  unfold aputv
  by_cases hg : agood a b c = true
  case' neg =>
    rw [if_neg hg]
    
    simp (dsimp := false) (maxSteps := 4000000) only [hn_b3, hr_b3, hn_b4, hr_b4, go_sem, ↓reduceIte, Nat.reduceEqDiff, Nat.reduceLT, Nat.reduceLeDiff, Nat.reduceAdd, Nat.reduceMul, Nat.reduceSub, reduceCtorEq, Int.reduceToNat, Int.reduceLT, Int.reduceLE, Int.reduceEq, Int.reduceNe, Int.reduceBEq, Nat.reduceBEq, Int.reduceBNe, Nat.reduceBNe, Int.reduceAdd, Int.reduceSub, Int.reduceMul, Int.reduceNeg]
    refine AllB.mk fun b6 h_b6 => ?_; have hn_b6 := h_b6; (try simp only [fresh_add, fresh_set, ne_eq] at hn_b6); have hr_b6 := hn_b6; (try simp only [@eq_comm Nat b6] at hr_b6); simp (dsimp := false) (maxSteps := 4000000) only [hn_b3, hr_b3, hn_b4, hr_b4, hn_b6, hr_b6, go_sem, ↓reduceIte, Nat.reduceEqDiff, Nat.reduceLT, Nat.reduceLeDiff, Nat.reduceAdd, Nat.reduceMul, Nat.reduceSub, reduceCtorEq, Int.reduceToNat, Int.reduceLT, Int.reduceLE, Int.reduceEq, Int.reduceNe, Int.reduceBEq, Nat.reduceBEq, Int.reduceBNe, Nat.reduceBNe, Int.reduceAdd, Int.reduceSub, Int.reduceMul, Int.reduceNeg]
    have hno : ¬ askOk n a b c := fun h => hg h.2.2
    by_cases h1 : n < 1
    · simp (dsimp := false) (maxSteps := 4000000) only [h1, hn_b3, hr_b3, hn_b4, hr_b4, hn_b6, hr_b6, go_sem, ↓reduceIte, Nat.reduceEqDiff, Nat.reduceLT, Nat.reduceLeDiff, Nat.reduceAdd, Nat.reduceMul, Nat.reduceSub, reduceCtorEq, Int.reduceToNat, Int.reduceLT, Int.reduceLE, Int.reduceEq, Int.reduceNe, Int.reduceBEq, Nat.reduceBEq, Int.reduceBNe, Nat.reduceBNe, Int.reduceAdd, Int.reduceSub, Int.reduceMul, Int.reduceNeg]
      exact ⟨H, (AH.le_add (AH.le_add (AH.le_add (AH.le_refl _) ((by simp only [fresh_add, fresh_set, ne_eq, hn_b3, not_false_eq_true, and_self] : Fresh _ b3).2)) ((by simp only [fresh_add, fresh_set, ne_eq, hn_b4, not_false_eq_true, and_self] : Fresh _ b4).2)) ((by simp only [fresh_add, fresh_set, ne_eq, hn_b6, not_false_eq_true, and_self] : Fresh _ b6).2)), by rw [askV, if_neg hno], rfl⟩
    by_cases h2 : 254 < n
    · simp (dsimp := false) (maxSteps := 4000000) only [h1, h2, hn_b3, hr_b3, hn_b4, hr_b4, hn_b6, hr_b6, go_sem, ↓reduceIte, Nat.reduceEqDiff, Nat.reduceLT, Nat.reduceLeDiff, Nat.reduceAdd, Nat.reduceMul, Nat.reduceSub, reduceCtorEq, Int.reduceToNat, Int.reduceLT, Int.reduceLE, Int.reduceEq, Int.reduceNe, Int.reduceBEq, Nat.reduceBEq, Int.reduceBNe, Nat.reduceBNe, Int.reduceAdd, Int.reduceSub, Int.reduceMul, Int.reduceNeg]
      exact ⟨H, (AH.le_add (AH.le_add (AH.le_add (AH.le_refl _) ((by simp only [fresh_add, fresh_set, ne_eq, hn_b3, not_false_eq_true, and_self] : Fresh _ b3).2)) ((by simp only [fresh_add, fresh_set, ne_eq, hn_b4, not_false_eq_true, and_self] : Fresh _ b4).2)) ((by simp only [fresh_add, fresh_set, ne_eq, hn_b6, not_false_eq_true, and_self] : Fresh _ b6).2)), by rw [askV, if_neg hno], rfl⟩
    simp (dsimp := false) (maxSteps := 4000000) only [h1, h2, hn_b3, hr_b3, hn_b4, hr_b4, hn_b6, hr_b6, go_sem, ↓reduceIte, Nat.reduceEqDiff, Nat.reduceLT, Nat.reduceLeDiff, Nat.reduceAdd, Nat.reduceMul, Nat.reduceSub, reduceCtorEq, Int.reduceToNat, Int.reduceLT, Int.reduceLE, Int.reduceEq, Int.reduceNe, Int.reduceBEq, Nat.reduceBEq, Int.reduceBNe, Nat.reduceBNe, Int.reduceAdd, Int.reduceSub, Int.reduceMul, Int.reduceNeg]
    exact ⟨H, (AH.le_add (AH.le_add (AH.le_add (AH.le_refl _) ((by simp only [fresh_add, fresh_set, ne_eq, hn_b3, not_false_eq_true, and_self] : Fresh _ b3).2)) ((by simp only [fresh_add, fresh_set, ne_eq, hn_b4, not_false_eq_true, and_self] : Fresh _ b4).2)) ((by simp only [fresh_add, fresh_set, ne_eq, hn_b6, not_false_eq_true, and_self] : Fresh _ b6).2)), by rw [askV, if_neg hno], rfl⟩
    
  rw [if_pos hg]
  simp (dsimp := false) (maxSteps := 4000000) only [hn_b3, hr_b3, hn_b4, hr_b4, go_sem, ↓reduceIte, Nat.reduceEqDiff, Nat.reduceLT, Nat.reduceLeDiff, Nat.reduceAdd, Nat.reduceMul, Nat.reduceSub, reduceCtorEq, Int.reduceToNat, Int.reduceLT, Int.reduceLE, Int.reduceEq, Int.reduceNe, Int.reduceBEq, Nat.reduceBEq, Int.reduceBNe, Nat.reduceBNe, Int.reduceAdd, Int.reduceSub, Int.reduceMul, Int.reduceNeg]
  refine AllB.mk fun b6 h_b6 => ?_; have hn_b6 := h_b6; (try simp only [fresh_add, fresh_set, ne_eq] at hn_b6); have hr_b6 := hn_b6; (try simp only [@eq_comm Nat b6] at hr_b6); simp (dsimp := false) (maxSteps := 4000000) only [hn_b3, hr_b3, hn_b4, hr_b4, hn_b6, hr_b6, go_sem, ↓reduceIte, Nat.reduceEqDiff, Nat.reduceLT, Nat.reduceLeDiff, Nat.reduceAdd, Nat.reduceMul, Nat.reduceSub, reduceCtorEq, Int.reduceToNat, Int.reduceLT, Int.reduceLE, Int.reduceEq, Int.reduceNe, Int.reduceBEq, Nat.reduceBEq, Int.reduceBNe, Nat.reduceBNe, Int.reduceAdd, Int.reduceSub, Int.reduceMul, Int.reduceNeg]
  by_cases h1 : n < 1
  · simp (dsimp := false) (maxSteps := 4000000) only [h1, hn_b3, hr_b3, hn_b4, hr_b4, hn_b6, hr_b6, go_sem, ↓reduceIte, Nat.reduceEqDiff, Nat.reduceLT, Nat.reduceLeDiff, Nat.reduceAdd, Nat.reduceMul, Nat.reduceSub, reduceCtorEq, Int.reduceToNat, Int.reduceLT, Int.reduceLE, Int.reduceEq, Int.reduceNe, Int.reduceBEq, Nat.reduceBEq, Int.reduceBNe, Nat.reduceBNe, Int.reduceAdd, Int.reduceSub, Int.reduceMul, Int.reduceNeg]
    exact ⟨H, (AH.le_add (AH.le_add (AH.le_add (AH.le_refl _) ((by simp only [fresh_add, fresh_set, ne_eq, hn_b3, not_false_eq_true, and_self] : Fresh _ b3).2)) ((by simp only [fresh_add, fresh_set, ne_eq, hn_b4, not_false_eq_true, and_self] : Fresh _ b4).2)) ((by simp only [fresh_add, fresh_set, ne_eq, hn_b6, not_false_eq_true, and_self] : Fresh _ b6).2)), by rw [askV, if_neg (fun h => by have := h.1; omega)], rfl⟩
  by_cases h2 : 254 < n
  · simp (dsimp := false) (maxSteps := 4000000) only [h1, h2, hn_b3, hr_b3, hn_b4, hr_b4, hn_b6, hr_b6, go_sem, ↓reduceIte, Nat.reduceEqDiff, Nat.reduceLT, Nat.reduceLeDiff, Nat.reduceAdd, Nat.reduceMul, Nat.reduceSub, reduceCtorEq, Int.reduceToNat, Int.reduceLT, Int.reduceLE, Int.reduceEq, Int.reduceNe, Int.reduceBEq, Nat.reduceBEq, Int.reduceBNe, Nat.reduceBNe, Int.reduceAdd, Int.reduceSub, Int.reduceMul, Int.reduceNeg]
    exact ⟨H, (AH.le_add (AH.le_add (AH.le_add (AH.le_refl _) ((by simp only [fresh_add, fresh_set, ne_eq, hn_b3, not_false_eq_true, and_self] : Fresh _ b3).2)) ((by simp only [fresh_add, fresh_set, ne_eq, hn_b4, not_false_eq_true, and_self] : Fresh _ b4).2)) ((by simp only [fresh_add, fresh_set, ne_eq, hn_b6, not_false_eq_true, and_self] : Fresh _ b6).2)), by rw [askV, if_neg (fun h => by have := h.2.1; omega)], rfl⟩
  have en : IntKind.u8.wrap n = n := u8_eq (by omega) (by omega)
  simp (dsimp := false) (maxSteps := 4000000) only [h1, h2, en, hn_b3, hr_b3, hn_b4, hr_b4, hn_b6, hr_b6, go_sem, ↓reduceIte, Nat.reduceEqDiff, Nat.reduceLT, Nat.reduceLeDiff, Nat.reduceAdd, Nat.reduceMul, Nat.reduceSub, reduceCtorEq, Int.reduceToNat, Int.reduceLT, Int.reduceLE, Int.reduceEq, Int.reduceNe, Int.reduceBEq, Nat.reduceBEq, Int.reduceBNe, Nat.reduceBNe, Int.reduceAdd, Int.reduceSub, Int.reduceMul, Int.reduceNeg]
  refine AllB.mk fun b8 h_b8 => ?_; have hn_b8 := h_b8; (try simp only [fresh_add, fresh_set, ne_eq] at hn_b8); have hr_b8 := hn_b8; (try simp only [@eq_comm Nat b8] at hr_b8); simp (dsimp := false) (maxSteps := 4000000) only [hn_b3, hr_b3, hn_b4, hr_b4, hn_b6, hr_b6, hn_b8, hr_b8, go_sem, ↓reduceIte, Nat.reduceEqDiff, Nat.reduceLT, Nat.reduceLeDiff, Nat.reduceAdd, Nat.reduceMul, Nat.reduceSub, reduceCtorEq, Int.reduceToNat, Int.reduceLT, Int.reduceLE, Int.reduceEq, Int.reduceNe, Int.reduceBEq, Nat.reduceBEq, Int.reduceBNe, Nat.reduceBNe, Int.reduceAdd, Int.reduceSub, Int.reduceMul, Int.reduceNeg]
  refine ACalls.mono (hck _ b8 (row1 (k := [n, 64 * a + b, c, 0]) (cs := [.int .u8 n, .int .u8 (64 * a + b), .int .u8 c, .int .u8 0]) (e := 25) (m := 4) (by (show AH.find _ _ = _; simp only [find_add_self, find_add_ne, find_fresh, fresh_add, fresh_set, ne_eq, not_false_eq_true, true_and, and_true, and_self, hn_b3, hr_b3, hn_b4, hr_b4, hn_b6, hr_b6, hn_b8, hr_b8])) rfl rfl (by simp) 4 (by simp [askL]))) ?_; rintro _ _ ⟨rfl, rfl⟩
  simp (dsimp := false) (maxSteps := 4000000) only [hn_b3, hr_b3, hn_b4, hr_b4, hn_b6, hr_b6, hn_b8, hr_b8, go_sem, ↓reduceIte, Nat.reduceEqDiff, Nat.reduceLT, Nat.reduceLeDiff, Nat.reduceAdd, Nat.reduceMul, Nat.reduceSub, reduceCtorEq, Int.reduceToNat, Int.reduceLT, Int.reduceLE, Int.reduceEq, Int.reduceNe, Int.reduceBEq, Nat.reduceBEq, Int.reduceBNe, Nat.reduceBNe, Int.reduceAdd, Int.reduceSub, Int.reduceMul, Int.reduceNeg]
  exact ⟨H, (AH.le_add (AH.le_add (AH.le_add (AH.le_add (AH.le_refl _) ((by simp only [fresh_add, fresh_set, ne_eq, hn_b3, not_false_eq_true, and_self] : Fresh _ b3).2)) ((by simp only [fresh_add, fresh_set, ne_eq, hn_b4, not_false_eq_true, and_self] : Fresh _ b4).2)) ((by simp only [fresh_add, fresh_set, ne_eq, hn_b6, not_false_eq_true, and_self] : Fresh _ b6).2)) ((by simp only [fresh_add, fresh_set, ne_eq, hn_b8, not_false_eq_true, and_self] : Fresh _ b8).2)), by rw [askV, if_pos ⟨by omega, by omega, hg⟩], rfl⟩
end Go.Proofs.YtamlipffhimfmaaGreatDoor.Srv

/- serve: answer. -/
namespace Go.Proofs.YtamlipffhimfmaaGreatDoor.Srv
set_option linter.unusedSimpArgs false
set_option linter.unusedVariables false
open Go Go.AX Go.Proofs Ty Go.Proofs.YtamlipffhimfmaaGreatDoor.File Go.Proofs.YtamlipffhimfmaaGreatDoor.Ifs Go.Proofs.YtamlipffhimfmaaGreatDoor.Err
set_option maxHeartbeats 4000000
set_option maxRecDepth 10000

/-- An asking, and a record's bytes. -/
structure Aq where
  n : Int
  a0 : Int
  a1 : Int
  a2 : Int
  a3 : Int
  d : Rc
  d4 : Int
def Aq.op (q : Aq) : Int := q.a1 / 64
def Aq.fl (q : Aq) : Int := q.a1 % 64
def Aq.v (q : Aq) : Rc := if q.op = 1 then q.d else zr
/-- Why nothing is asked of the store; 0: something is. -/
def Aq.pre (q : Aq) : Int := if chk [q.a0, q.a1, q.a2] ≠ q.a3 ∨ q.a0 ≠ q.n then 14 else if ¬ q.a1 < 192 then 2 else if q.op = 1 ∧ chk (rl q.d) ≠ q.d4 then 14 else 0
def Aq.E (q : Aq) (X : List Nf) : Int := if q.pre = 0 then doE X q.op q.fl q.a2 else q.pre
def Aq.W (q : Aq) (X : List Nf) : Rc := if q.pre = 0 then doW X q.op q.fl q.a2 q.v else zr
def Aq.X (q : Aq) (X : List Nf) : List Nf := if q.pre = 0 then doX X q.op q.fl q.a2 q.v else X
def Aq.D (q : Aq) (X : List Nf) (d : Int) : Int := if q.pre = 0 then doD X q.op q.fl q.a2 d else d
def Aq.ask (q : Aq) : Value := .agg #[.int .u8 q.a0, .int .u8 q.a1, .int .u8 q.a2, .int .u8 q.a3]
def Aq.dat (q : Aq) : Value := .agg #[.int .u8 q.d.1, .int .u8 q.d.2.1, .int .u8 q.d.2.2.1, .int .u8 q.d.2.2.2, .int .u8 q.d4]
structure Aq.Ok (q : Aq) : Prop where
  h0 : 0 ≤ q.a0 ∧ q.a0 < 256
  h1 : 0 ≤ q.a1 ∧ q.a1 < 256
  h2 : 0 ≤ q.a2 ∧ q.a2 < 256
  hd : RcOk q.d
theorem answer_c {H : AH} {b : Nat} {X : List Nf} {den : Int} {ft : Nat → Prop} (hE : ErrT H.w0) (h : StAt H b X den ft) (hX : OkX X) (q : Aq) (hq : q.Ok) :
    ACalls Tryz.prog 43 #[.pointer (some ⟨b, 0, none⟩), .int .i64 q.n, q.ask, q.dat] H (fun u H' => ∃ ft', u = .tuple #[.agg (enc (q.W X)).toArray, silV (q.E X)] ∧ StAt H' b (q.X X) (q.D X den) ft' ∧ Keep H H' ft ∧ ∀ x, ft' x → ft x ∨ Fresh H x) := by
  have bad : ∀ {e : Int} {u : Value} {T : AH}, q.pre = e → e ≠ 0 → u = silV e → H.le T → ∃ H', H'.le T ∧ ∃ ft', Value.tuple #[.agg (enc zr).toArray, u] = .tuple #[.agg (enc (q.W X)).toArray, silV (q.E X)] ∧ StAt H' b (q.X X) (q.D X den) ft' ∧ Keep H H' ft ∧ ∀ x, ft' x → ft x ∨ Fresh H x := fun {e u T} he h0 hu hl => by
    subst hu
    have h1 : ¬ q.pre = 0 := by rw [he]; exact h0
    exact ⟨H, hl, ft, by rw [Aq.W, Aq.E, if_neg h1, if_neg h1, he], by rw [Aq.X, Aq.D, if_neg h1, if_neg h1]; exact h, Keep.refl, fun x h => .inl h⟩
  obtain ⟨h0, h1, h2, hd⟩ := hq
  have e0 : IntKind.i64.wrap q.a0 = q.a0 := i64_eq (by omega) (by omega)
  have hck := fun H1 p (h : SlcIn H1 1 (some ⟨p, 0, none⟩) 4 ([q.a0, q.a1, q.a2].map enc1)) => checked_c [q.a0, q.a1, q.a2] (some ⟨p, 0, none⟩) 4 H1 h
  have hop := fun H1 => Open_c q.d q.d4 H1
  unfold Aq.ask Aq.dat
  refine ACalls.enter2 Tryz.func43 rfl Tryz.ntmps43 Tryz.results43 (by simp) ?_; simp (dsimp := false) (maxSteps := 4000000) only [enc_len, enc_scal, lput_enc, take_enc, go_sem, ↓reduceIte, Nat.reduceEqDiff, Nat.reduceLT, Nat.reduceLeDiff, Nat.reduceAdd, Nat.reduceMul, Nat.reduceSub, reduceCtorEq, Int.reduceToNat, Int.reduceLT, Int.reduceLE, Int.reduceEq, Int.reduceNe, Int.reduceBEq, Nat.reduceBEq, Int.reduceBNe, Nat.reduceBNe, Int.reduceAdd, Int.reduceSub, Int.reduceMul, Int.reduceNeg]
  refine AllB.mk fun b6 h_b6 => ?_; have hn_b6 := h_b6; (try simp only [fresh_add, fresh_set, ne_eq] at hn_b6); have hr_b6 := hn_b6; (try simp only [@eq_comm Nat b6] at hr_b6); simp (dsimp := false) (maxSteps := 4000000) only [enc_len, enc_scal, lput_enc, take_enc, hn_b6, hr_b6, go_sem, ↓reduceIte, Nat.reduceEqDiff, Nat.reduceLT, Nat.reduceLeDiff, Nat.reduceAdd, Nat.reduceMul, Nat.reduceSub, reduceCtorEq, Int.reduceToNat, Int.reduceLT, Int.reduceLE, Int.reduceEq, Int.reduceNe, Int.reduceBEq, Nat.reduceBEq, Int.reduceBNe, Nat.reduceBNe, Int.reduceAdd, Int.reduceSub, Int.reduceMul, Int.reduceNeg]
  refine AllB.mk fun b7 h_b7 => ?_; have hn_b7 := h_b7; (try simp only [fresh_add, fresh_set, ne_eq] at hn_b7); have hr_b7 := hn_b7; (try simp only [@eq_comm Nat b7] at hr_b7); simp (dsimp := false) (maxSteps := 4000000) only [enc_len, enc_scal, lput_enc, take_enc, hn_b6, hr_b6, hn_b7, hr_b7, go_sem, ↓reduceIte, Nat.reduceEqDiff, Nat.reduceLT, Nat.reduceLeDiff, Nat.reduceAdd, Nat.reduceMul, Nat.reduceSub, reduceCtorEq, Int.reduceToNat, Int.reduceLT, Int.reduceLE, Int.reduceEq, Int.reduceNe, Int.reduceBEq, Nat.reduceBEq, Int.reduceBNe, Nat.reduceBNe, Int.reduceAdd, Int.reduceSub, Int.reduceMul, Int.reduceNeg]
  refine AllB.mk fun b8 h_b8 => ?_; have hn_b8 := h_b8; (try simp only [fresh_add, fresh_set, ne_eq] at hn_b8); have hr_b8 := hn_b8; (try simp only [@eq_comm Nat b8] at hr_b8); simp (dsimp := false) (maxSteps := 4000000) only [enc_len, enc_scal, lput_enc, take_enc, hn_b6, hr_b6, hn_b7, hr_b7, hn_b8, hr_b8, go_sem, ↓reduceIte, Nat.reduceEqDiff, Nat.reduceLT, Nat.reduceLeDiff, Nat.reduceAdd, Nat.reduceMul, Nat.reduceSub, reduceCtorEq, Int.reduceToNat, Int.reduceLT, Int.reduceLE, Int.reduceEq, Int.reduceNe, Int.reduceBEq, Nat.reduceBEq, Int.reduceBNe, Nat.reduceBNe, Int.reduceAdd, Int.reduceSub, Int.reduceMul, Int.reduceNeg]
  refine AWp.gen [.pu, .pu, .pu, .pu, .ch, .pu, .rd, .pu, .pu, .pu, .pu, .rd, .pu, .pu, .pu, .pu] [0, 1, 3, 7, 15, 7, 39, 127, 255, 511, 1023, 2047, 4095, 1023, 16383, 32767] 5 (_) mixed (by kernel_rfl) (AH.le_refl _) ?_
  simp (dsimp := false) (maxSteps := 4000000) only [enc_len, enc_scal, lput_enc, take_enc, hn_b6, hr_b6, hn_b7, hr_b7, hn_b8, hr_b8, go_sem, ↓reduceIte, Nat.reduceEqDiff, Nat.reduceLT, Nat.reduceLeDiff, Nat.reduceAdd, Nat.reduceMul, Nat.reduceSub, reduceCtorEq, Int.reduceToNat, Int.reduceLT, Int.reduceLE, Int.reduceEq, Int.reduceNe, Int.reduceBEq, Nat.reduceBEq, Int.reduceBNe, Nat.reduceBNe, Int.reduceAdd, Int.reduceSub, Int.reduceMul, Int.reduceNeg]
  refine ACalls.mono (hck _ b6 (row1 (k := [q.a0, q.a1, q.a2, q.a3]) (cs := [.int .u8 q.a0, .int .u8 q.a1, .int .u8 q.a2, .int .u8 q.a3]) (e := 25) (m := 4) (by (show AH.find _ _ = _; simp only [find_add_self, find_add_ne, find_fresh, fresh_add, fresh_set, ne_eq, not_false_eq_true, true_and, and_true, and_self, enc_len, enc_scal, lput_enc, take_enc, hn_b6, hr_b6, hn_b7, hr_b7, hn_b8, hr_b8])) rfl rfl (by simp) 4 (by simp))) ?_; rintro _ _ ⟨rfl, rfl⟩
  by_cases c1 : chk [q.a0, q.a1, q.a2] = q.a3
  case' neg =>
    have cb : (chk [q.a0, q.a1, q.a2] != q.a3) = true := by simp [c1]
    simp (dsimp := false) (maxSteps := 4000000) only [cb, enc_len, enc_scal, lput_enc, take_enc, hn_b6, hr_b6, hn_b7, hr_b7, hn_b8, hr_b8, go_sem, ↓reduceIte, Nat.reduceEqDiff, Nat.reduceLT, Nat.reduceLeDiff, Nat.reduceAdd, Nat.reduceMul, Nat.reduceSub, reduceCtorEq, Int.reduceToNat, Int.reduceLT, Int.reduceLE, Int.reduceEq, Int.reduceNe, Int.reduceBEq, Nat.reduceBEq, Int.reduceBNe, Nat.reduceBNe, Int.reduceAdd, Int.reduceSub, Int.reduceMul, Int.reduceNeg]
    exact bad (e := 14) (by simp [Aq.pre, c1]) (by decide) (by rw [silV, if_neg (by decide)]) (AH.le_add (AH.le_add (AH.le_add (AH.le_refl _) ((by simp only [enc_len, enc_scal, lput_enc, take_enc, fresh_add, fresh_set, ne_eq, hn_b6, not_false_eq_true, and_self] : Fresh _ b6).2)) ((by simp only [enc_len, enc_scal, lput_enc, take_enc, fresh_add, fresh_set, ne_eq, hn_b7, not_false_eq_true, and_self] : Fresh _ b7).2)) ((by simp only [enc_len, enc_scal, lput_enc, take_enc, fresh_add, fresh_set, ne_eq, hn_b8, not_false_eq_true, and_self] : Fresh _ b8).2))
  have cb : (chk [q.a0, q.a1, q.a2] != q.a3) = false := by simp [c1]
  by_cases c2 : q.a0 = q.n
  case' neg =>
    have cb2 : (q.a0 != q.n) = true := by simp [c2]
    simp (dsimp := false) (maxSteps := 4000000) only [cb, e0, cb2, enc_len, enc_scal, lput_enc, take_enc, hn_b6, hr_b6, hn_b7, hr_b7, hn_b8, hr_b8, go_sem, ↓reduceIte, Nat.reduceEqDiff, Nat.reduceLT, Nat.reduceLeDiff, Nat.reduceAdd, Nat.reduceMul, Nat.reduceSub, reduceCtorEq, Int.reduceToNat, Int.reduceLT, Int.reduceLE, Int.reduceEq, Int.reduceNe, Int.reduceBEq, Nat.reduceBEq, Int.reduceBNe, Nat.reduceBNe, Int.reduceAdd, Int.reduceSub, Int.reduceMul, Int.reduceNeg]
    exact bad (e := 14) (by simp [Aq.pre, c2]) (by decide) (by rw [silV, if_neg (by decide)]) (AH.le_add (AH.le_add (AH.le_add (AH.le_refl _) ((by simp only [enc_len, enc_scal, lput_enc, take_enc, fresh_add, fresh_set, ne_eq, hn_b6, not_false_eq_true, and_self] : Fresh _ b6).2)) ((by simp only [enc_len, enc_scal, lput_enc, take_enc, fresh_add, fresh_set, ne_eq, hn_b7, not_false_eq_true, and_self] : Fresh _ b7).2)) ((by simp only [enc_len, enc_scal, lput_enc, take_enc, fresh_add, fresh_set, ne_eq, hn_b8, not_false_eq_true, and_self] : Fresh _ b8).2))
  have cb2 : (q.a0 != q.n) = false := by simp [c2]
  simp (dsimp := false) (maxSteps := 4000000) only [cb, e0, cb2, enc_len, enc_scal, lput_enc, take_enc, hn_b6, hr_b6, hn_b7, hr_b7, hn_b8, hr_b8, go_sem, ↓reduceIte, Nat.reduceEqDiff, Nat.reduceLT, Nat.reduceLeDiff, Nat.reduceAdd, Nat.reduceMul, Nat.reduceSub, reduceCtorEq, Int.reduceToNat, Int.reduceLT, Int.reduceLE, Int.reduceEq, Int.reduceNe, Int.reduceBEq, Nat.reduceBEq, Int.reduceBNe, Nat.reduceBNe, Int.reduceAdd, Int.reduceSub, Int.reduceMul, Int.reduceNeg]
  refine (Go.Proofs.YtamlipffhimfmaaGreatDoor.Take_c q.a1 q.a2 h1 h2 _).mono ?_; rintro _ _ ⟨rfl, rfl⟩
  unfold atakev
  by_cases t : q.a1 < 192
  case' neg =>
    rw [if_neg t]
    
    simp (dsimp := false) (maxSteps := 4000000) only [enc_len, enc_scal, lput_enc, take_enc, hn_b6, hr_b6, hn_b7, hr_b7, hn_b8, hr_b8, go_sem, ↓reduceIte, Nat.reduceEqDiff, Nat.reduceLT, Nat.reduceLeDiff, Nat.reduceAdd, Nat.reduceMul, Nat.reduceSub, reduceCtorEq, Int.reduceToNat, Int.reduceLT, Int.reduceLE, Int.reduceEq, Int.reduceNe, Int.reduceBEq, Nat.reduceBEq, Int.reduceBNe, Nat.reduceBNe, Int.reduceAdd, Int.reduceSub, Int.reduceMul, Int.reduceNeg]
    refine AllB.mk fun b10 h_b10 => ?_; have hn_b10 := h_b10; (try simp only [fresh_add, fresh_set, ne_eq] at hn_b10); have hr_b10 := hn_b10; (try simp only [@eq_comm Nat b10] at hr_b10); simp (dsimp := false) (maxSteps := 4000000) only [enc_len, enc_scal, lput_enc, take_enc, hn_b6, hr_b6, hn_b7, hr_b7, hn_b8, hr_b8, hn_b10, hr_b10, go_sem, ↓reduceIte, Nat.reduceEqDiff, Nat.reduceLT, Nat.reduceLeDiff, Nat.reduceAdd, Nat.reduceMul, Nat.reduceSub, reduceCtorEq, Int.reduceToNat, Int.reduceLT, Int.reduceLE, Int.reduceEq, Int.reduceNe, Int.reduceBEq, Nat.reduceBEq, Int.reduceBNe, Nat.reduceBNe, Int.reduceAdd, Int.reduceSub, Int.reduceMul, Int.reduceNeg]
    refine (wrap_c 2 _).mono ?_; rintro _ _ ⟨rfl, rfl⟩
    simp (dsimp := false) (maxSteps := 4000000) only [enc_len, enc_scal, lput_enc, take_enc, hn_b6, hr_b6, hn_b7, hr_b7, hn_b8, hr_b8, hn_b10, hr_b10, go_sem, ↓reduceIte, Nat.reduceEqDiff, Nat.reduceLT, Nat.reduceLeDiff, Nat.reduceAdd, Nat.reduceMul, Nat.reduceSub, reduceCtorEq, Int.reduceToNat, Int.reduceLT, Int.reduceLE, Int.reduceEq, Int.reduceNe, Int.reduceBEq, Nat.reduceBEq, Int.reduceBNe, Nat.reduceBNe, Int.reduceAdd, Int.reduceSub, Int.reduceMul, Int.reduceNeg]
    exact bad (e := 2) (by unfold Aq.pre; rw [if_neg (fun h => h.elim (fun h => h c1) fun h => h c2), if_pos t]) (by decide) rfl (AH.le_add (AH.le_add (AH.le_add (AH.le_add (AH.le_refl _) ((by simp only [enc_len, enc_scal, lput_enc, take_enc, fresh_add, fresh_set, ne_eq, hn_b6, not_false_eq_true, and_self] : Fresh _ b6).2)) ((by simp only [enc_len, enc_scal, lput_enc, take_enc, fresh_add, fresh_set, ne_eq, hn_b7, not_false_eq_true, and_self] : Fresh _ b7).2)) ((by simp only [enc_len, enc_scal, lput_enc, take_enc, fresh_add, fresh_set, ne_eq, hn_b8, not_false_eq_true, and_self] : Fresh _ b8).2)) ((by simp only [enc_len, enc_scal, lput_enc, take_enc, fresh_add, fresh_set, ne_eq, hn_b10, not_false_eq_true, and_self] : Fresh _ b10).2))
    
  rw [if_pos t]
  simp (dsimp := false) (maxSteps := 4000000) only [enc_len, enc_scal, lput_enc, take_enc, hn_b6, hr_b6, hn_b7, hr_b7, hn_b8, hr_b8, go_sem, ↓reduceIte, Nat.reduceEqDiff, Nat.reduceLT, Nat.reduceLeDiff, Nat.reduceAdd, Nat.reduceMul, Nat.reduceSub, reduceCtorEq, Int.reduceToNat, Int.reduceLT, Int.reduceLE, Int.reduceEq, Int.reduceNe, Int.reduceBEq, Nat.reduceBEq, Int.reduceBNe, Nat.reduceBNe, Int.reduceAdd, Int.reduceSub, Int.reduceMul, Int.reduceNeg]
  refine AllB.mk fun b10 h_b10 => ?_; have hn_b10 := h_b10; (try simp only [fresh_add, fresh_set, ne_eq] at hn_b10); have hr_b10 := hn_b10; (try simp only [@eq_comm Nat b10] at hr_b10); simp (dsimp := false) (maxSteps := 4000000) only [enc_len, enc_scal, lput_enc, take_enc, hn_b6, hr_b6, hn_b7, hr_b7, hn_b8, hr_b8, hn_b10, hr_b10, go_sem, ↓reduceIte, Nat.reduceEqDiff, Nat.reduceLT, Nat.reduceLeDiff, Nat.reduceAdd, Nat.reduceMul, Nat.reduceSub, reduceCtorEq, Int.reduceToNat, Int.reduceLT, Int.reduceLE, Int.reduceEq, Int.reduceNe, Int.reduceBEq, Nat.reduceBEq, Int.reduceBNe, Nat.reduceBNe, Int.reduceAdd, Int.reduceSub, Int.reduceMul, Int.reduceNeg]
  refine AllB.mk fun b12 h_b12 => ?_; have hn_b12 := h_b12; (try simp only [fresh_add, fresh_set, ne_eq] at hn_b12); have hr_b12 := hn_b12; (try simp only [@eq_comm Nat b12] at hr_b12); simp (dsimp := false) (maxSteps := 4000000) only [enc_len, enc_scal, lput_enc, take_enc, hn_b6, hr_b6, hn_b7, hr_b7, hn_b8, hr_b8, hn_b10, hr_b10, hn_b12, hr_b12, go_sem, ↓reduceIte, Nat.reduceEqDiff, Nat.reduceLT, Nat.reduceLeDiff, Nat.reduceAdd, Nat.reduceMul, Nat.reduceSub, reduceCtorEq, Int.reduceToNat, Int.reduceLT, Int.reduceLE, Int.reduceEq, Int.reduceNe, Int.reduceBEq, Nat.reduceBEq, Int.reduceBNe, Nat.reduceBNe, Int.reduceAdd, Int.reduceSub, Int.reduceMul, Int.reduceNeg]
  by_cases o : q.a1 / 64 = 1
  case' pos =>
    simp (dsimp := false) (maxSteps := 4000000) only [o, enc_len, enc_scal, lput_enc, take_enc, hn_b6, hr_b6, hn_b7, hr_b7, hn_b8, hr_b8, hn_b10, hr_b10, hn_b12, hr_b12, go_sem, ↓reduceIte, Nat.reduceEqDiff, Nat.reduceLT, Nat.reduceLeDiff, Nat.reduceAdd, Nat.reduceMul, Nat.reduceSub, reduceCtorEq, Int.reduceToNat, Int.reduceLT, Int.reduceLE, Int.reduceEq, Int.reduceNe, Int.reduceBEq, Nat.reduceBEq, Int.reduceBNe, Nat.reduceBNe, Int.reduceAdd, Int.reduceSub, Int.reduceMul, Int.reduceNeg]
    refine (hop _).mono ?_; rintro _ _ ⟨rfl, rfl⟩
    unfold openV
    by_cases k : chk (rl q.d) = q.d4
    case' neg =>
      rw [if_neg k]
      
      simp (dsimp := false) (maxSteps := 4000000) only [enc_len, enc_scal, lput_enc, take_enc, hn_b6, hr_b6, hn_b7, hr_b7, hn_b8, hr_b8, hn_b10, hr_b10, hn_b12, hr_b12, go_sem, ↓reduceIte, Nat.reduceEqDiff, Nat.reduceLT, Nat.reduceLeDiff, Nat.reduceAdd, Nat.reduceMul, Nat.reduceSub, reduceCtorEq, Int.reduceToNat, Int.reduceLT, Int.reduceLE, Int.reduceEq, Int.reduceNe, Int.reduceBEq, Nat.reduceBEq, Int.reduceBNe, Nat.reduceBNe, Int.reduceAdd, Int.reduceSub, Int.reduceMul, Int.reduceNeg]
      refine (wrap_c 14 _).mono ?_; rintro _ _ ⟨rfl, rfl⟩
      simp (dsimp := false) (maxSteps := 4000000) only [enc_len, enc_scal, lput_enc, take_enc, hn_b6, hr_b6, hn_b7, hr_b7, hn_b8, hr_b8, hn_b10, hr_b10, hn_b12, hr_b12, go_sem, ↓reduceIte, Nat.reduceEqDiff, Nat.reduceLT, Nat.reduceLeDiff, Nat.reduceAdd, Nat.reduceMul, Nat.reduceSub, reduceCtorEq, Int.reduceToNat, Int.reduceLT, Int.reduceLE, Int.reduceEq, Int.reduceNe, Int.reduceBEq, Nat.reduceBEq, Int.reduceBNe, Nat.reduceBNe, Int.reduceAdd, Int.reduceSub, Int.reduceMul, Int.reduceNeg]
      exact bad (e := 14) (by unfold Aq.pre Aq.op; rw [if_neg (fun h => h.elim (fun h => h c1) fun h => h c2), if_neg (fun h => h t), if_pos ⟨o, k⟩]) (by decide) rfl (AH.le_add (AH.le_add (AH.le_add (AH.le_add (AH.le_add (AH.le_refl _) ((by simp only [enc_len, enc_scal, lput_enc, take_enc, fresh_add, fresh_set, ne_eq, hn_b6, not_false_eq_true, and_self] : Fresh _ b6).2)) ((by simp only [enc_len, enc_scal, lput_enc, take_enc, fresh_add, fresh_set, ne_eq, hn_b7, not_false_eq_true, and_self] : Fresh _ b7).2)) ((by simp only [enc_len, enc_scal, lput_enc, take_enc, fresh_add, fresh_set, ne_eq, hn_b8, not_false_eq_true, and_self] : Fresh _ b8).2)) ((by simp only [enc_len, enc_scal, lput_enc, take_enc, fresh_add, fresh_set, ne_eq, hn_b10, not_false_eq_true, and_self] : Fresh _ b10).2)) ((by simp only [enc_len, enc_scal, lput_enc, take_enc, fresh_add, fresh_set, ne_eq, hn_b12, not_false_eq_true, and_self] : Fresh _ b12).2))
      
    rw [if_pos k]
    simp (dsimp := false) (maxSteps := 4000000) only [enc_len, enc_scal, lput_enc, take_enc, hn_b6, hr_b6, hn_b7, hr_b7, hn_b8, hr_b8, hn_b10, hr_b10, hn_b12, hr_b12, go_sem, ↓reduceIte, Nat.reduceEqDiff, Nat.reduceLT, Nat.reduceLeDiff, Nat.reduceAdd, Nat.reduceMul, Nat.reduceSub, reduceCtorEq, Int.reduceToNat, Int.reduceLT, Int.reduceLE, Int.reduceEq, Int.reduceNe, Int.reduceBEq, Nat.reduceBEq, Int.reduceBNe, Nat.reduceBNe, Int.reduceAdd, Int.reduceSub, Int.reduceMul, Int.reduceNeg]
    have hv : q.v = q.d := by rw [Aq.v, Aq.op]; exact if_pos o
    have hp : q.pre = 0 := by unfold Aq.pre Aq.op; rw [if_neg (fun h => h.elim (fun h => h c1) fun h => h c2), if_neg (fun h => h t), if_neg (fun h => h.2 k)]
    have hf8 : Fresh H b8 := hn_b8.2.2
    have hdo := fun H1 (hE1 : ErrT H1.w0) (h1 : StAt H1 b X den ft) => Do_c hE1 h1 hX q.op q.fl q.a2 q.v
    rw [hv] at hdo
    refine (hdo _ (by simp only [w0_add]; exact hE) (h.keep (ex := fun _ => False) (((((Keep.refl.nw h_b6).nw h_b7).nw h_b8).nw (by simp only [fresh_add, ne_eq, hn_b10, not_false_eq_true, and_self])).nw (by simp only [fresh_add, ne_eq, hn_b12, not_false_eq_true, and_self])) fun _ _ h => h)).mono ?_
    rintro _ A ⟨ft', rfl, hst, hK, hf⟩
    rw [← hv] at hst
    have hnf8 : ¬ ft b8 := h.fresh hf8
    have hHA : Keep H A ft := (((((((Keep.refl.nw h_b6).nw h_b7).nw h_b8).nw (by simp only [fresh_add, ne_eq, hn_b10, not_false_eq_true, and_self])).nw (by simp only [fresh_add, ne_eq, hn_b12, not_false_eq_true, and_self])) : Keep H _ fun _ => False).mono fun _ h => h.elim).trans hK
    have hff : ∀ x, ft' x → ft x ∨ Fresh H x := fun x hx => (hf x hx).imp id fun h => ((((((Keep.refl.nw h_b6).nw h_b7).nw h_b8).nw (by simp only [fresh_add, ne_eq, hn_b10, not_false_eq_true, and_self])).nw (by simp only [fresh_add, ne_eq, hn_b12, not_false_eq_true, and_self])) : Keep H _ fun _ => False).fr h
    have f8' : ¬ ft' b8 := fun hx => (hf _ hx).elim hnf8 fun h' => by
      have := h'.2
      rw [show AH.find _ b8 = some (.cells [.int .u8 0, .int .u8 0, .int .u8 0, .int .u8 0] 26 4) from (by (show AH.find _ _ = _; simp only [find_add_self, find_add_ne, find_fresh, fresh_add, fresh_set, ne_eq, not_false_eq_true, true_and, and_true, and_self, enc_len, enc_scal, lput_enc, take_enc, hn_b6, hr_b6, hn_b7, hr_b7, hn_b8, hr_b8, hn_b10, hr_b10, hn_b12, hr_b12]))] at this; cases this
    have f8 : A.find b8 = some (.cells [.int .u8 0, .int .u8 0, .int .u8 0, .int .u8 0] 26 4) := hK.find hnf8 (by (show AH.find _ _ = _; simp only [find_add_self, find_add_ne, find_fresh, fresh_add, fresh_set, ne_eq, not_false_eq_true, true_and, and_true, and_self, enc_len, enc_scal, lput_enc, take_enc, hn_b6, hr_b6, hn_b7, hr_b7, hn_b8, hr_b8, hn_b10, hr_b10, hn_b12, hr_b12]))
    rw [← hv, doV]
    clear hK hf hdo
  case' neg =>
    have ob : (q.a1 / 64 == 1) = false := by simp [o]
    simp (dsimp := false) (maxSteps := 4000000) only [o, enc_len, enc_scal, lput_enc, take_enc, hn_b6, hr_b6, hn_b7, hr_b7, hn_b8, hr_b8, hn_b10, hr_b10, hn_b12, hr_b12, go_sem, ↓reduceIte, Nat.reduceEqDiff, Nat.reduceLT, Nat.reduceLeDiff, Nat.reduceAdd, Nat.reduceMul, Nat.reduceSub, reduceCtorEq, Int.reduceToNat, Int.reduceLT, Int.reduceLE, Int.reduceEq, Int.reduceNe, Int.reduceBEq, Nat.reduceBEq, Int.reduceBNe, Nat.reduceBNe, Int.reduceAdd, Int.reduceSub, Int.reduceMul, Int.reduceNeg]
    have hv : q.v = zr := by rw [Aq.v, Aq.op]; exact if_neg o
    have hp : q.pre = 0 := by unfold Aq.pre Aq.op; rw [if_neg (fun h => h.elim (fun h => h c1) fun h => h c2), if_neg (fun h => h t), if_neg (fun h => o h.1)]
    have hf8 : Fresh H b8 := hn_b8.2.2
    have hdo := fun H1 (hE1 : ErrT H1.w0) (h1 : StAt H1 b X den ft) => Do_c hE1 h1 hX q.op q.fl q.a2 q.v
    rw [hv] at hdo
    refine (hdo _ (by simp only [w0_add]; exact hE) (h.keep (ex := fun _ => False) (((((Keep.refl.nw h_b6).nw h_b7).nw h_b8).nw (by simp only [fresh_add, ne_eq, hn_b10, not_false_eq_true, and_self])).nw (by simp only [fresh_add, ne_eq, hn_b12, not_false_eq_true, and_self])) fun _ _ h => h)).mono ?_
    rintro _ A ⟨ft', rfl, hst, hK, hf⟩
    rw [← hv] at hst
    have hnf8 : ¬ ft b8 := h.fresh hf8
    have hHA : Keep H A ft := (((((((Keep.refl.nw h_b6).nw h_b7).nw h_b8).nw (by simp only [fresh_add, ne_eq, hn_b10, not_false_eq_true, and_self])).nw (by simp only [fresh_add, ne_eq, hn_b12, not_false_eq_true, and_self])) : Keep H _ fun _ => False).mono fun _ h => h.elim).trans hK
    have hff : ∀ x, ft' x → ft x ∨ Fresh H x := fun x hx => (hf x hx).imp id fun h => ((((((Keep.refl.nw h_b6).nw h_b7).nw h_b8).nw (by simp only [fresh_add, ne_eq, hn_b10, not_false_eq_true, and_self])).nw (by simp only [fresh_add, ne_eq, hn_b12, not_false_eq_true, and_self])) : Keep H _ fun _ => False).fr h
    have f8' : ¬ ft' b8 := fun hx => (hf _ hx).elim hnf8 fun h' => by
      have := h'.2
      rw [show AH.find _ b8 = some (.cells [.int .u8 0, .int .u8 0, .int .u8 0, .int .u8 0] 26 4) from (by (show AH.find _ _ = _; simp only [find_add_self, find_add_ne, find_fresh, fresh_add, fresh_set, ne_eq, not_false_eq_true, true_and, and_true, and_self, enc_len, enc_scal, lput_enc, take_enc, hn_b6, hr_b6, hn_b7, hr_b7, hn_b8, hr_b8, hn_b10, hr_b10, hn_b12, hr_b12]))] at this; cases this
    have f8 : A.find b8 = some (.cells [.int .u8 0, .int .u8 0, .int .u8 0, .int .u8 0] 26 4) := hK.find hnf8 (by (show AH.find _ _ = _; simp only [find_add_self, find_add_ne, find_fresh, fresh_add, fresh_set, ne_eq, not_false_eq_true, true_and, and_true, and_self, enc_len, enc_scal, lput_enc, take_enc, hn_b6, hr_b6, hn_b7, hr_b7, hn_b8, hr_b8, hn_b10, hr_b10, hn_b12, hr_b12]))
    rw [← hv, doV]
    clear hK hf hdo
  all_goals
    clear hn_b6 hr_b6 h_b6 hn_b7 hr_b7 h_b7 hn_b8 hr_b8 h_b8 hn_b10 hr_b10 h_b10 hn_b12 hr_b12 h_b12
    
    obtain ⟨w, hw⟩ : ∃ w, doW X q.op q.fl q.a2 q.v = w := ⟨_, rfl⟩
    obtain ⟨e, he⟩ : ∃ e, doE X q.op q.fl q.a2 = e := ⟨_, rfl⟩
    rw [hw, he]
    simp (dsimp := false) (maxSteps := 4000000) only [enc_len, enc_scal, lput_enc, take_enc, go_sem, ↓reduceIte, Nat.reduceEqDiff, Nat.reduceLT, Nat.reduceLeDiff, Nat.reduceAdd, Nat.reduceMul, Nat.reduceSub, reduceCtorEq, Int.reduceToNat, Int.reduceLT, Int.reduceLE, Int.reduceEq, Int.reduceNe, Int.reduceBEq, Nat.reduceBEq, Int.reduceBNe, Nat.reduceBNe, Int.reduceAdd, Int.reduceSub, Int.reduceMul, Int.reduceNeg]
    refine AllB.mk fun b13 h_b13 => ?_
    simp (dsimp := false) (maxSteps := 4000000) only [enc_len, enc_scal, lput_enc, take_enc, go_sem, ↓reduceIte, Nat.reduceEqDiff, Nat.reduceLT, Nat.reduceLeDiff, Nat.reduceAdd, Nat.reduceMul, Nat.reduceSub, reduceCtorEq, Int.reduceToNat, Int.reduceLT, Int.reduceLE, Int.reduceEq, Int.reduceNe, Int.reduceBEq, Nat.reduceBEq, Int.reduceBNe, Nat.reduceBNe, Int.reduceAdd, Int.reduceSub, Int.reduceMul, Int.reduceNeg]
    obtain ⟨C, hC⟩ : ∃ C, A.add b13 (.cells (enc w) 26 4) = C := ⟨_, rfl⟩
    have kC : Keep A C fun _ => False := hC ▸ Keep.add h_b13
    have w13 : C.row b13 0 4 = some (enc w) := by
      have f13 : C.find b13 = some (.cells (enc w) 26 4) := by rw [← hC, find_add_self]
      exact row_find f13 (by simp [enc])
    have f8C := kC.find (fun h => h) f8
    obtain ⟨D, hD⟩ : ∃ D, C.set b8 (.cells (enc w) 26 4) = D := ⟨_, rfl⟩
    have kD : Keep C D (· = b8) := hD ▸ Keep.set
    have hwr : C.wrs b8 0 (enc w) = some D := by rw [← hD]; simp [AH.wrs, f8C, enc, lput, scal]
    have wD : D.row b8 0 4 = some (enc w) := by
      have fD : D.find b8 = some (.cells (enc w) 26 4) := by rw [← hD, find_set, if_pos rfl]
      exact row_find fD (by simp [enc])
    rw [hC]
    refine AWp.gen [.rd, .pu, .ch, .ch, .pu] [0, 0, 2, 7, 15] 3 (_) mixed (by kernel_rfl) (AH.le_refl _) ?_
    simp (dsimp := false) (maxSteps := 4000000) only [w13, enc_len, enc_scal, lput_enc, take_enc, go_sem, ↓reduceIte, Nat.reduceEqDiff, Nat.reduceLT, Nat.reduceLeDiff, Nat.reduceAdd, Nat.reduceMul, Nat.reduceSub, reduceCtorEq, Int.reduceToNat, Int.reduceLT, Int.reduceLE, Int.reduceEq, Int.reduceNe, Int.reduceBEq, Nat.reduceBEq, Int.reduceBNe, Nat.reduceBNe, Int.reduceAdd, Int.reduceSub, Int.reduceMul, Int.reduceNeg]
    refine (wrap_c e _).mono ?_; rintro _ _ ⟨rfl, rfl⟩
    simp (dsimp := false) (maxSteps := 4000000) only [w13, hwr, wD, enc_len, enc_scal, lput_enc, take_enc, go_sem, ↓reduceIte, Nat.reduceEqDiff, Nat.reduceLT, Nat.reduceLeDiff, Nat.reduceAdd, Nat.reduceMul, Nat.reduceSub, reduceCtorEq, Int.reduceToNat, Int.reduceLT, Int.reduceLE, Int.reduceEq, Int.reduceNe, Int.reduceBEq, Nat.reduceBEq, Int.reduceBNe, Nat.reduceBNe, Int.reduceAdd, Int.reduceSub, Int.reduceMul, Int.reduceNeg]
    refine ⟨D, AH.le_refl _, ft', by rw [Aq.W, Aq.E, if_pos hp, if_pos hp, hw, he], by rw [Aq.X, Aq.D, if_pos hp, if_pos hp]; exact (hst.keep kC fun _ _ h => h).keep kD fun x hx e => f8' (e ▸ hx), (hHA.trans (kC.mono fun _ h => h.elim)).then kD fun x e => .inr (e ▸ hf8), hff⟩
end Go.Proofs.YtamlipffhimfmaaGreatDoor.Srv

/- errors.As at a target of type *silent. -/
namespace Go.Proofs.YtamlipffhimfmaaGreatDoor.Err.Sil
set_option linter.unusedSimpArgs false
set_option linter.unusedVariables false
open Go Go.Proofs Go.RowKit Go.Extern.Stop Go.Stop Go.Extern Go.Proofs.YtamlipffhimfmaaGreatDoor.Err

theorem valueOfP (t : Addr) (w : World) : (ReflectliteValue.unpack (.iface 119 (.pointer (some t)))).run Tryz.prog w
    = .ok (.agg #[.pointer (some ⟨1, 119, none⟩), .pointer (some ⟨w.heap.size, 0, none⟩), .int .u64 150]) (w.alloc (.cells #[.pointer (some t)] 119)) := by kernel_rfl
theorem typeP (a : Addr) (w : World) : (ReflectliteValue.methodAny (ReflectliteValue.valueError "reflectlite.Value.Type" 0) (fun t _ _ _ => ReflectliteType.toType t) #[.agg #[.pointer (some ⟨1, 119, none⟩), .pointer (some a), .int .u64 150]]).run Tryz.prog w
    = .ok (.iface 197 (.agg #[.pointer (some ⟨1, 119, none⟩)])) w := by kernel_rfl
theorem kindP (w : World) : ((ReflectliteType.abiMethod fun t => (fun a : Nat => Value.int IntKind.u8 (a : Int)) <$> Rtype.kind t) #[.pointer (some ⟨1, 119, none⟩)]).run Tryz.prog w = .ok (.int .u8 22) w := by kernel_rfl
theorem kindE (w : World) : ((ReflectliteType.abiMethod fun t => (fun a : Nat => Value.int IntKind.u8 (a : Int)) <$> Rtype.kind t) #[.pointer (some ⟨1, 117, none⟩)]).run Tryz.prog w = .ok (.int .u8 25) w := by kernel_rfl
theorem partsP (a : Addr) (w : World) : (ReflectliteValue.parts (.agg #[.pointer (some ⟨1, 119, none⟩), .pointer (some a), .int .u64 150])).run Tryz.prog w = .ok (some (119, a, 150)) w := by kernel_rfl
theorem isNilP (a p : Addr) (W : World) (ha : W.cell? a = some (.pointer (some p))) :
    (ReflectliteValue.method (ReflectliteValue.valueError "reflectlite.Value.IsNil" 0) ReflectliteValue.isNil #[.agg #[.pointer (some ⟨1, 119, none⟩), .pointer (some a), .int .u64 150]]).run Tryz.prog W = .ok (.bool false) W := by
  rw [rlm]
  simp only [Sem.run_bind, partsP, Result.andThen]
  simp [ReflectliteValue.isNil, loadVar, isAgg, underlying, Tryz.underlying119, ha, Result.andThen]
theorem elemT (w : World) : (ReflectliteType.method ReflectliteType.elem #[.agg #[.pointer (some ⟨1, 119, none⟩)]]).run Tryz.prog w = .ok (.iface 197 (.agg #[.pointer (some ⟨1, 117, none⟩)])) w := by kernel_rfl
theorem implE (w : World) : (ReflectliteType.relation "Implements" ReflectliteType.implements_ #[.agg #[.pointer (some ⟨1, 117, none⟩)], .iface 197 (.agg #[.pointer (some ⟨1, 113, none⟩)])]).run Tryz.prog w = .ok (.bool true) w := by kernel_rfl
theorem typeOfE (v : Value) (w : World) : (ReflectliteType.typeOf #[.iface 117 v]).run Tryz.prog w = .ok (.iface 197 (.agg #[.pointer (some ⟨1, 117, none⟩)])) w := by kernel_rfl
theorem asgnE (w : World) : (ReflectliteType.relation "AssignableTo" ReflectliteType.assignableTo #[.agg #[.pointer (some ⟨1, 117, none⟩)], .iface 197 (.agg #[.pointer (some ⟨1, 117, none⟩)])]).run Tryz.prog w = .ok (.bool true) w := by kernel_rfl
theorem valueOfE (e : Int) (w : World) : (ReflectliteValue.unpack (.iface 117 (.agg #[.iface 28 (.int .i64 e)]))).run Tryz.prog w
    = .ok (.agg #[.pointer (some ⟨1, 117, none⟩), .pointer (some ⟨w.heap.size, 0, none⟩), .int .u64 153]) (w.alloc (.cells #[.iface 28 (.int .i64 e)] 117)) := by kernel_rfl
theorem elemOfP (w : World) : (Rtype.elem? 119).run Tryz.prog w = .ok (some 117) w := by kernel_rfl
theorem mkE (p : Addr) (w : World) : (ReflectliteValue.mk 117 p ReflectliteValue.flagAddr).run Tryz.prog w = .ok (.agg #[.pointer (some ⟨1, 117, none⟩), .pointer (some p), .int .u64 409]) w := by kernel_rfl
theorem elemVP (a p : Addr) (W : World) (ha : W.cell? a = some (.pointer (some p))) :
    (ReflectliteValue.method (ReflectliteValue.valueError "reflectlite.Value.Elem" 0) ReflectliteValue.elem #[.agg #[.pointer (some ⟨1, 119, none⟩), .pointer (some a), .int .u64 150]]).run Tryz.prog W
      = .ok (.agg #[.pointer (some ⟨1, 117, none⟩), .pointer (some p), .int .u64 409]) W := by
  rw [rlm]
  simp only [Sem.run_bind, partsP, Result.andThen]
  simp [ReflectliteValue.elem, loadVar, isAgg, underlying, Tryz.underlying119, ha, Result.andThen, elemOfP, mkE]
theorem partsEa (a : Addr) (w : World) : (ReflectliteValue.parts (.agg #[.pointer (some ⟨1, 117, none⟩), .pointer (some a), .int .u64 409])).run Tryz.prog w = .ok (some (117, a, 409)) w := by kernel_rfl
theorem partsE (a : Addr) (w : World) : (ReflectliteValue.parts (.agg #[.pointer (some ⟨1, 117, none⟩), .pointer (some a), .int .u64 153])).run Tryz.prog w = .ok (some (117, a, 153)) w := by kernel_rfl
theorem directE (w : World) : (Rtype.directlyAssignable 117 117).run Tryz.prog w = .ok true w := by kernel_rfl
theorem sizeE (w : World) : (sizeOf 117).run Tryz.prog w = .ok 1 w := by kernel_rfl
theorem loadS (b : Addr) (e : Int) (W : World) (hb : W.cell? b = some (.iface 28 (.int .i64 e))) : (loadVar 117 b).run Tryz.prog W = .ok (.agg #[.iface 28 (.int .i64 e)]) W := by
  simp [loadVar, isAgg, underlying, Tryz.underlying117, loadCells, loadCellsFrom, hb, Result.andThen, Addr.add]
theorem storeS (ta : Addr) (e : Int) (old : Value) (W : World) (ht : W.cell? ta = some old) (hf : W.frozen? ta = false) : (storeVar 117 ta (.agg #[.iface 28 (.int .i64 e)])).run Tryz.prog W = .ok () (W.setCell ta (.iface 28 (.int .i64 e))) := by
  have hz : (Value.agg #[.iface 28 (.int .i64 e)]).cells = #[.iface 28 (.int .i64 e)] := rfl
  unfold storeVar
  rw [hz]
  simp only [Sem.run_bind, sizeE, Result.andThen]
  simp [storeCells, Addr.add, Result.andThen]
  rw [run_store Tryz.prog W ta _ _ (by rfl)]
  simp [ht, hf]
theorem setE (ta b : Addr) (e : Int) (old : Value) (W : World) (hb : W.cell? b = some (.iface 28 (.int .i64 e))) (ht : W.cell? ta = some old) (hf : W.frozen? ta = false) :
    (ReflectliteValue.set #[.agg #[.pointer (some ⟨1, 117, none⟩), .pointer (some ta), .int .u64 409], .agg #[.pointer (some ⟨1, 117, none⟩), .pointer (some b), .int .u64 153]]).run Tryz.prog W
      = .ok (.tuple #[]) (W.setCell ta (.iface 28 (.int .i64 e))) := by
  rw [rls]
  simp only [Sem.run_bind, partsEa, partsE, Result.andThen]
  simp [ReflectliteValue.flagAddr, loadS b e W hb, directE, storeS ta e old W ht hf, Result.andThen]

set_option maxHeartbeats 4000000 in
/-- errors.As(err, &n), err of type silent. -/
theorem as_silent (e : Int) (t : Addr) (old : Value) (w : World) (hg : ErrT w) (ht : w.cell? t = some old) (hf : w.frozen? t = false) :
    Calls Tryz.prog 44 #[.iface 117 (.agg #[.iface 28 (.int .i64 e)]), .iface 119 (.pointer (some t))] w fun ev w' => ev = .returned (.bool true) ∧ ∃ w1, Grown w w1 ∧ w' = w1.setCell t (.iface 28 (.int .i64 e)) := by
  have h61 := @run_callFunc_extern Tryz.prog 77 _ (fun args => ReflectliteValue.unpack (args.getD 0 (.tuple #[]))) Tryz.func77 (by kernel_rfl) (by kernel_rfl) (by kernel_rfl) (by kernel_rfl)
  have h62 := @run_callFunc_extern Tryz.prog 78 _ (ReflectliteValue.methodAny (ReflectliteValue.valueError "reflectlite.Value.Type" 0) (fun t _ _ _ => ReflectliteType.toType t)) Tryz.func78 (by kernel_rfl) (by kernel_rfl) (by kernel_rfl) (by kernel_rfl)
  have h63 := @run_callFunc_extern Tryz.prog 79 _ (ReflectliteValue.method (ReflectliteValue.valueError "reflectlite.Value.IsNil" 0) ReflectliteValue.isNil) Tryz.func79 (by kernel_rfl) (by kernel_rfl) (by kernel_rfl) (by kernel_rfl)
  have h107 := @run_callFunc_extern Tryz.prog 155 _ (ReflectliteType.abiMethod fun t => do pure (.int .u8 (← Rtype.kind t))) Tryz.func155 (by kernel_rfl) (by kernel_rfl) (by kernel_rfl) (by kernel_rfl)
  have h118 := @run_callFunc_extern Tryz.prog 167 _ (ReflectliteType.method ReflectliteType.elem) Tryz.func167 (by kernel_rfl) (by kernel_rfl) (by kernel_rfl) (by kernel_rfl)
  have h119 := @run_callFunc_extern Tryz.prog 168 _ (ReflectliteType.relation "Implements" ReflectliteType.implements_) Tryz.func168 (by kernel_rfl) (by kernel_rfl) (by kernel_rfl) (by kernel_rfl)
  have h50 := @run_callFunc_extern Tryz.prog 99 _ ReflectliteType.typeOf Tryz.func99 (by kernel_rfl) (by kernel_rfl) (by kernel_rfl) (by kernel_rfl)
  have h116 := @run_callFunc_extern Tryz.prog 165 _ (ReflectliteType.relation "AssignableTo" ReflectliteType.assignableTo) Tryz.func165 (by kernel_rfl) (by kernel_rfl) (by kernel_rfl) (by kernel_rfl)
  have h72 := @run_callFunc_extern Tryz.prog 100 _ (ReflectliteValue.method (ReflectliteValue.valueError "reflectlite.Value.Elem" 0) ReflectliteValue.elem) Tryz.func100 (by kernel_rfl) (by kernel_rfl) (by kernel_rfl) (by kernel_rfl)
  have h73 := @run_callFunc_extern Tryz.prog 101 _ ReflectliteValue.set Tryz.func101 (by kernel_rfl) (by kernel_rfl) (by kernel_rfl) (by kernel_rfl)
  have tO := typeOfE
  have mA := mAssignableTo
  have aE := asgnE
  have vE := valueOfE
  have fP := valueOfP
  have tP := typeP
  have mK := mKind
  have mE := mElem
  have mI := mImplements
  have kP := kindP
  have kE := kindE
  have eT := elemT
  have iE := implE
  have c1 : ∀ o, Grown w (w.alloc o) := fun o => (Grown.refl w).al o
  have n8 := isNilP ⟨w.heap.size, 0, none⟩ t ((w.alloc (.cells #[.pointer (some t)] 119)).alloc (.cells #[.pointer (some ⟨1, 119, none⟩), .pointer (some ⟨w.heap.size, 0, none⟩), .int .u64 150] 168)) (by simp)
  have hg2 : World.cell? ((w.alloc (.cells #[.pointer (some t)] 119)).alloc (.cells #[.pointer (some ⟨1, 119, none⟩), .pointer (some ⟨w.heap.size, 0, none⟩), .int .u64 150] 168)) ⟨0, 0, none⟩ = some (.iface 197 (.agg #[.pointer (some ⟨1, 113, none⟩)])) := ((c1 _).al _).cell hg
  have el := elemVP ⟨w.heap.size, 0, none⟩ t (((w.alloc (.cells #[.pointer (some t)] 119)).alloc (.cells #[.pointer (some ⟨1, 119, none⟩), .pointer (some ⟨w.heap.size, 0, none⟩), .int .u64 150] 168)).alloc (.cells #[.pointer (some ⟨1, 119, none⟩), .pointer (some ⟨w.heap.size, 0, none⟩), .int .u64 150] 168)) (by rw [World.cell?_alloc_lt _ _ ⟨w.heap.size, 0, none⟩ (by simp; omega)]; simp)
  have st := setE t ⟨w.heap.size + 1 + 1 + 1, 0, none⟩ e old ((((w.alloc (.cells #[.pointer (some t)] 119)).alloc (.cells #[.pointer (some ⟨1, 119, none⟩), .pointer (some ⟨w.heap.size, 0, none⟩), .int .u64 150] 168)).alloc (.cells #[.pointer (some ⟨1, 119, none⟩), .pointer (some ⟨w.heap.size, 0, none⟩), .int .u64 150] 168)).alloc (.cells #[.iface 28 (.int .i64 e)] 117)) (by rw [World.cell?_alloc_at _ _ _ _ (by simp)]; rfl) ((((c1 _).al _).al _).al _ |>.cell ht) ((((c1 _).al _).al _).al _ |>.frozen ht hf)
  go_enter Tryz.func44, Tryz.ntmps44
  go_wp2
  refine wp_loop_rounds 1 ?_
  rw [rounds_succ]
  go_wp2
  go_ret
  exact ⟨rfl, _, (((c1 _).al _).al _).al _, rfl⟩
end Go.Proofs.YtamlipffhimfmaaGreatDoor.Err.Sil

/- serve: Serve. -/
namespace Go.Proofs.YtamlipffhimfmaaGreatDoor.Srv
set_option linter.unusedSimpArgs false
set_option linter.unusedVariables false
open Go Go.AX Go.Proofs Ty Go.Proofs.YtamlipffhimfmaaGreatDoor.File Go.Proofs.YtamlipffhimfmaaGreatDoor.Ifs Go.Proofs.YtamlipffhimfmaaGreatDoor.Err
set_option maxHeartbeats 4000000
set_option maxRecDepth 10000

theorem AsS_c {H : AH} {e : Int} {b : Nat} (hE : ErrT H.w0) (hf : Fresh H b) :
    ACalls Tryz.prog 44 #[silV e, .iface 119 (.pointer (some ⟨b, 0, none⟩))] (H.add b (.cells [.nilIface] 117 1)) (fun u H' => u = .bool (!decide (e = 0)) ∧ ∃ x, H' = H.add b (.cells [x] 117 1)) := by
  by_cases h : e = 0
  · subst h
    exact fun E w hs => (as_nil _ w).mono fun ev w' ⟨h1, h2⟩ => ⟨_, _, h1, h2 ▸ hs, rfl, _, rfl⟩
  · rw [silV, if_neg h]
    refine (ACalls.one (u := .bool true) (y := .iface 28 (.int .i64 e)) hf fun E w hs => ?_).mono ?_
    · have hg := ErrT.of (H := H.add b (.cells [.nilIface] 117 1)) hE hs
      exact Sil.as_silent e _ .nilIface w hg (hs.rd (by rw [rd_add_self]; rfl)) (hs.frz (by simp [AH.frz, find_add]))
    · rintro _ _ ⟨rfl, rfl⟩
      exact ⟨by simp [h], _, rfl⟩
def serveV (q : Aq) (X : List Nf) : Value := if q.E X = 0 then .tuple #[dataV (q.W X), .bool true] else .tuple #[.agg #[.int .u8 0, .int .u8 0, .int .u8 0, .int .u8 0, .int .u8 0], .bool false]
theorem Serve_c {H : AH} {b : Nat} {X : List Nf} {den : Int} {ft : Nat → Prop} (hE : ErrT H.w0) (h : StAt H b X den ft) (hX : OkX X) (q : Aq) (hq : q.Ok) :
    ACalls Tryz.prog 12 #[.pointer (some ⟨b, 0, none⟩), .int .i64 q.n, q.ask, q.dat] H (fun u H' => ∃ ft', u = serveV q X ∧ StAt H' b (q.X X) (q.D X den) ft' ∧ Keep H H' ft ∧ ∀ x, ft' x → ft x ∨ Fresh H x) := by
  have hans := fun H1 (hE1 : ErrT H1.w0) (h1 : StAt H1 b X den ft) => answer_c hE1 h1 hX q hq
  unfold Aq.ask Aq.dat at hans ⊢
  refine ACalls.enter2 Tryz.func12 rfl Tryz.ntmps12 Tryz.results12 (by simp) ?_; simp (dsimp := false) (maxSteps := 4000000) only [enc_len, enc_scal, lput_enc, take_enc, go_sem, ↓reduceIte, Nat.reduceEqDiff, Nat.reduceLT, Nat.reduceLeDiff, Nat.reduceAdd, Nat.reduceMul, Nat.reduceSub, reduceCtorEq, Int.reduceToNat, Int.reduceLT, Int.reduceLE, Int.reduceEq, Int.reduceNe, Int.reduceBEq, Nat.reduceBEq, Int.reduceBNe, Nat.reduceBNe, Int.reduceAdd, Int.reduceSub, Int.reduceMul, Int.reduceNeg]
  refine AllB.mk fun b6 h_b6 => ?_; have hn_b6 := h_b6; (try simp only [fresh_add, fresh_set, ne_eq] at hn_b6); have hr_b6 := hn_b6; (try simp only [@eq_comm Nat b6] at hr_b6); simp (dsimp := false) (maxSteps := 4000000) only [enc_len, enc_scal, lput_enc, take_enc, hn_b6, hr_b6, go_sem, ↓reduceIte, Nat.reduceEqDiff, Nat.reduceLT, Nat.reduceLeDiff, Nat.reduceAdd, Nat.reduceMul, Nat.reduceSub, reduceCtorEq, Int.reduceToNat, Int.reduceLT, Int.reduceLE, Int.reduceEq, Int.reduceNe, Int.reduceBEq, Nat.reduceBEq, Int.reduceBNe, Nat.reduceBNe, Int.reduceAdd, Int.reduceSub, Int.reduceMul, Int.reduceNeg]
  refine AllB.mk fun b7 h_b7 => ?_; have hn_b7 := h_b7; (try simp only [fresh_add, fresh_set, ne_eq] at hn_b7); have hr_b7 := hn_b7; (try simp only [@eq_comm Nat b7] at hr_b7); simp (dsimp := false) (maxSteps := 4000000) only [enc_len, enc_scal, lput_enc, take_enc, hn_b6, hr_b6, hn_b7, hr_b7, go_sem, ↓reduceIte, Nat.reduceEqDiff, Nat.reduceLT, Nat.reduceLeDiff, Nat.reduceAdd, Nat.reduceMul, Nat.reduceSub, reduceCtorEq, Int.reduceToNat, Int.reduceLT, Int.reduceLE, Int.reduceEq, Int.reduceNe, Int.reduceBEq, Nat.reduceBEq, Int.reduceBNe, Nat.reduceBNe, Int.reduceAdd, Int.reduceSub, Int.reduceMul, Int.reduceNeg]
  refine AllB.mk fun b8 h_b8 => ?_; have hn_b8 := h_b8; (try simp only [fresh_add, fresh_set, ne_eq] at hn_b8); have hr_b8 := hn_b8; (try simp only [@eq_comm Nat b8] at hr_b8); simp (dsimp := false) (maxSteps := 4000000) only [enc_len, enc_scal, lput_enc, take_enc, hn_b6, hr_b6, hn_b7, hr_b7, hn_b8, hr_b8, go_sem, ↓reduceIte, Nat.reduceEqDiff, Nat.reduceLT, Nat.reduceLeDiff, Nat.reduceAdd, Nat.reduceMul, Nat.reduceSub, reduceCtorEq, Int.reduceToNat, Int.reduceLT, Int.reduceLE, Int.reduceEq, Int.reduceNe, Int.reduceBEq, Nat.reduceBEq, Int.reduceBNe, Nat.reduceBNe, Int.reduceAdd, Int.reduceSub, Int.reduceMul, Int.reduceNeg]
  refine (hans _ (by simp only [w0_add]; exact hE) (h.keep (ex := fun _ => False) (((Keep.refl.nw h_b6).nw h_b7).nw h_b8) fun _ _ h => h)).mono ?_
  rintro _ A ⟨ft', rfl, hst, hK, hf⟩
  have hf8 : Fresh H b8 := hn_b8.2.2
  have hnf8 : ¬ ft b8 := h.fresh hf8
  have kT : Keep H _ fun _ => False := ((Keep.refl.nw h_b6).nw h_b7).nw (k := .cells [.int .u8 0, .int .u8 0, .int .u8 0, .int .u8 0, .int .u8 0] 27 5) h_b8
  have hHA : Keep H A ft := (kT.mono fun _ h => h.elim).trans hK
  have hff : ∀ x, ft' x → ft x ∨ Fresh H x := fun x hx => (hf x hx).imp id fun h => kT.fr h
  have f8' : ¬ ft' b8 := fun hx => (hf _ hx).elim hnf8 fun h' => by
    have := h'.2
    rw [find_add_self] at this; cases this
  have f8 := hK.find hnf8 (find_add_self _ _ _)
  clear hK hf hans kT hn_b6 hr_b6 h_b6 hn_b7 hr_b7 h_b7 hn_b8 hr_b8 h_b8
  
  obtain ⟨w, hw⟩ : ∃ w, q.W X = w := ⟨_, rfl⟩
  obtain ⟨e, he⟩ : ∃ e, q.E X = e := ⟨_, rfl⟩
  rw [hw, he]
  simp (dsimp := false) (maxSteps := 4000000) only [enc_len, enc_scal, lput_enc, take_enc, go_sem, ↓reduceIte, Nat.reduceEqDiff, Nat.reduceLT, Nat.reduceLeDiff, Nat.reduceAdd, Nat.reduceMul, Nat.reduceSub, reduceCtorEq, Int.reduceToNat, Int.reduceLT, Int.reduceLE, Int.reduceEq, Int.reduceNe, Int.reduceBEq, Nat.reduceBEq, Int.reduceBNe, Nat.reduceBNe, Int.reduceAdd, Int.reduceSub, Int.reduceMul, Int.reduceNeg]
  refine AllB.mk fun b10 h_b10 => ?_; have hn_b10 := h_b10; (try simp only [fresh_add, fresh_set, ne_eq] at hn_b10); have hr_b10 := hn_b10; (try simp only [@eq_comm Nat b10] at hr_b10); simp (dsimp := false) (maxSteps := 4000000) only [enc_len, enc_scal, lput_enc, take_enc, hn_b10, hr_b10, go_sem, ↓reduceIte, Nat.reduceEqDiff, Nat.reduceLT, Nat.reduceLeDiff, Nat.reduceAdd, Nat.reduceMul, Nat.reduceSub, reduceCtorEq, Int.reduceToNat, Int.reduceLT, Int.reduceLE, Int.reduceEq, Int.reduceNe, Int.reduceBEq, Nat.reduceBEq, Int.reduceBNe, Nat.reduceBNe, Int.reduceAdd, Int.reduceSub, Int.reduceMul, Int.reduceNeg]
  refine AllB.mk fun b12 h_b12 => ?_; have hn_b12 := h_b12; (try simp only [fresh_add, fresh_set, ne_eq] at hn_b12); have hr_b12 := hn_b12; (try simp only [@eq_comm Nat b12] at hr_b12); simp (dsimp := false) (maxSteps := 4000000) only [enc_len, enc_scal, lput_enc, take_enc, hn_b10, hr_b10, hn_b12, hr_b12, go_sem, ↓reduceIte, Nat.reduceEqDiff, Nat.reduceLT, Nat.reduceLeDiff, Nat.reduceAdd, Nat.reduceMul, Nat.reduceSub, reduceCtorEq, Int.reduceToNat, Int.reduceLT, Int.reduceLE, Int.reduceEq, Int.reduceNe, Int.reduceBEq, Nat.reduceBEq, Int.reduceBNe, Nat.reduceBNe, Int.reduceAdd, Int.reduceSub, Int.reduceMul, Int.reduceNeg]
  have hAw : A.w0 = H.w0 := hHA.w0
  refine (AsS_c (H := A.add b10 (.cells (enc w) 26 4)) (by simp only [w0_add, hAw]; exact hE) h_b12).mono ?_
  rintro _ _ ⟨rfl, x, rfl⟩
  have n10 : ¬ b10 = b8 := h_b10.ne_find f8
  have n12 : ¬ b12 = b8 := hn_b12.2.ne_find f8
  have fin : ∀ (vs : List Value) (k1 k2 : ABlk) (u : Value), u = serveV q X → ∃ H', H'.le (((A.set b8 (.cells vs 27 5)).add b10 k1).add b12 k2) ∧ ∃ ft', u = serveV q X ∧ StAt H' b (q.X X) (q.D X den) ft' ∧ Keep H H' ft ∧ ∀ x, ft' x → ft x ∨ Fresh H x := fun vs k1 k2 u hu =>
    ⟨_, AH.le_add (AH.le_add (AH.le_refl _) (by rw [find_set, if_neg n10]; exact h_b10.2)) (by rw [find_add, if_neg hn_b12.1, find_set, if_neg n12]; exact hn_b12.2.2), ft', hu, hst.keep Keep.set fun x hx e => f8' (e ▸ hx), hHA.then Keep.set fun x e => .inr (e ▸ hf8), hff⟩
  by_cases e0 : e = 0
  · have hd := fun H1 => Data_c w H1
    unfold dataV at hd
    have hw : A.wrs b8 0 [.int .u8 w.1, .int .u8 w.2.1, .int .u8 w.2.2.1, .int .u8 w.2.2.2, .int .u8 (chk (rl w))] = some (A.set b8 (.cells [.int .u8 w.1, .int .u8 w.2.1, .int .u8 w.2.2.1, .int .u8 w.2.2.2, .int .u8 (chk (rl w))] 27 5)) := by simp [AH.wrs, f8, lput, scal]
    have hfd : (A.set b8 (.cells [.int .u8 w.1, .int .u8 w.2.1, .int .u8 w.2.2.1, .int .u8 w.2.2.2, .int .u8 (chk (rl w))] 27 5)).find b8 = some (.cells [.int .u8 w.1, .int .u8 w.2.1, .int .u8 w.2.2.1, .int .u8 w.2.2.2, .int .u8 (chk (rl w))] 27 5) := by rw [find_set, if_pos rfl]
    have hr : (A.set b8 (.cells [.int .u8 w.1, .int .u8 w.2.1, .int .u8 w.2.2.1, .int .u8 w.2.2.2, .int .u8 (chk (rl w))] 27 5)).row b8 0 5 = some [.int .u8 w.1, .int .u8 w.2.1, .int .u8 w.2.2.1, .int .u8 w.2.2.2, .int .u8 (chk (rl w))] := row_find hfd (by simp)
    simp (dsimp := false) (maxSteps := 4000000) only [e0, enc_len, enc_scal, lput_enc, take_enc, hn_b10, hr_b10, hn_b12, hr_b12, go_sem, ↓reduceIte, Nat.reduceEqDiff, Nat.reduceLT, Nat.reduceLeDiff, Nat.reduceAdd, Nat.reduceMul, Nat.reduceSub, reduceCtorEq, Int.reduceToNat, Int.reduceLT, Int.reduceLE, Int.reduceEq, Int.reduceNe, Int.reduceBEq, Nat.reduceBEq, Int.reduceBNe, Nat.reduceBNe, Int.reduceAdd, Int.reduceSub, Int.reduceMul, Int.reduceNeg]
    refine (hd _).mono ?_; rintro _ _ ⟨rfl, rfl⟩
    simp (dsimp := false) (maxSteps := 4000000) only [n10, n12, hw, hr, enc_len, enc_scal, lput_enc, take_enc, hn_b10, hr_b10, hn_b12, hr_b12, go_sem, ↓reduceIte, Nat.reduceEqDiff, Nat.reduceLT, Nat.reduceLeDiff, Nat.reduceAdd, Nat.reduceMul, Nat.reduceSub, reduceCtorEq, Int.reduceToNat, Int.reduceLT, Int.reduceLE, Int.reduceEq, Int.reduceNe, Int.reduceBEq, Nat.reduceBEq, Int.reduceBNe, Nat.reduceBNe, Int.reduceAdd, Int.reduceSub, Int.reduceMul, Int.reduceNeg]
    exact fin _ _ _ _ (by rw [serveV, if_pos (he.trans e0), ‹q.W X = w›]; rfl)
  · have hw : A.wrs b8 0 [.int .u8 0, .int .u8 0, .int .u8 0, .int .u8 0, .int .u8 0] = some (A.set b8 (.cells [.int .u8 0, .int .u8 0, .int .u8 0, .int .u8 0, .int .u8 0] 27 5)) := by simp [AH.wrs, f8, lput, scal]
    have hfd : (A.set b8 (.cells [.int .u8 0, .int .u8 0, .int .u8 0, .int .u8 0, .int .u8 0] 27 5)).find b8 = some (.cells [.int .u8 0, .int .u8 0, .int .u8 0, .int .u8 0, .int .u8 0] 27 5) := by rw [find_set, if_pos rfl]
    have hr : (A.set b8 (.cells [.int .u8 0, .int .u8 0, .int .u8 0, .int .u8 0, .int .u8 0] 27 5)).row b8 0 5 = some [.int .u8 0, .int .u8 0, .int .u8 0, .int .u8 0, .int .u8 0] := row_find hfd (by simp)
    simp (dsimp := false) (maxSteps := 4000000) only [e0, n10, n12, hw, hr, enc_len, enc_scal, lput_enc, take_enc, hn_b10, hr_b10, hn_b12, hr_b12, go_sem, ↓reduceIte, Nat.reduceEqDiff, Nat.reduceLT, Nat.reduceLeDiff, Nat.reduceAdd, Nat.reduceMul, Nat.reduceSub, reduceCtorEq, Int.reduceToNat, Int.reduceLT, Int.reduceLE, Int.reduceEq, Int.reduceNe, Int.reduceBEq, Nat.reduceBEq, Int.reduceBNe, Nat.reduceBNe, Int.reduceAdd, Int.reduceSub, Int.reduceMul, Int.reduceNeg]
    exact fin _ _ _ _ (by rw [serveV, if_neg (by rw [he]; exact e0)])
end Go.Proofs.YtamlipffhimfmaaGreatDoor.Srv

/- serve: the map of turned bytes. -/
namespace Go.Proofs.YtamlipffhimfmaaGreatDoor.Srv
set_option linter.unusedSimpArgs false
set_option linter.unusedVariables false
open Go Go.AX Go.Proofs Ty Go.Proofs.YtamlipffhimfmaaGreatDoor.File Go.Proofs.YtamlipffhimfmaaGreatDoor.Ifs Go.Proofs.YtamlipffhimfmaaGreatDoor.Err
set_option maxHeartbeats 4000000
set_option maxRecDepth 10000

/-- What a map of turned bytes says of each place. -/
def Mp (H : AH) (tv : Value) (tu : Int → Int) : Prop :=
  (tv = .map none ∧ ∀ i, tu i = 0) ∨ ∃ bm es, tv = .map (some bm) ∧ H.find bm = some (.amap es) ∧ ∀ i : Int, (mlk (.int .i64) (.int .i64 i) es 0 = some none ∧ tu i = 0) ∨ ∃ k, mlk (.int .i64) (.int .i64 i) es 0 = some (some (k, .int .u8 (tu i)))
theorem Mp.keep {H H' : AH} {tv : Value} {tu : Int → Int} (h : Mp H tv tu) (hK : Keep H H' fun _ => False) : Mp H' tv tu := by
  rcases h with h | ⟨bm, es, h1, h2, h3⟩
  · exact .inl h
  · exact .inr ⟨bm, es, h1, hK.find (fun h => h) h2, h3⟩
theorem lkp_mp {H : AH} {tv : Value} {tu : Int → Int} (h : Mp H tv tu) (i : Int) (k : Value → AH → Prop) : lkp Tryz.prog 53 tv (.int .i64 i) false H k = k (.int .u8 (tu i)) H := by
  have hnil : mlk (.int .i64) (.int .i64 i) [] 0 = some none := rfl
  unfold lkp
  rcases h with ⟨rfl, h⟩ | ⟨bm, es, rfl, h2, h3⟩
  · simp only [me_53, wo, hnil, mres, nv, h i]
    simp
  · have hmp : H.mp bm = some es := by rw [AH.mp, h2]
    rcases h3 i with ⟨h4, h5⟩ | ⟨q, h4⟩
    · simp only [me_53, wo, hmp, h4, mres, nv, h5]
      simp
    · simp only [me_53, wo, hmp, h4, mres, nv]
      simp
end Go.Proofs.YtamlipffhimfmaaGreatDoor.Srv

/- serve: bytes turned; what a round comes to, and what one turned byte does to it. -/
namespace Go.Proofs.YtamlipffhimfmaaGreatDoor.Srv
set_option linter.unusedSimpArgs false
set_option linter.unusedVariables false
open Go Go.AX Go.Proofs Ty Go.Proofs.YtamlipffhimfmaaGreatDoor.File Go.Proofs.YtamlipffhimfmaaGreatDoor.Ifs

abbrev bx (a b : Int) : Int := ibits .xor .u8 a b
def B8 (x : Int) : BitVec 8 := BitVec.ofInt 8 x
theorem bx_eq (a b : Int) : bx a b = ((B8 a ^^^ B8 b).toNat : Int) := by
  have h : (B8 a ^^^ B8 b).toNat < 256 := (B8 a ^^^ B8 b).isLt
  exact u8_eq (c := ((B8 a ^^^ B8 b).toNat : Int)) (by omega) (by omega)
theorem bx_range (a b : Int) : 0 ≤ bx a b ∧ bx a b < 256 := by
  rw [bx_eq]
  have h : (B8 a ^^^ B8 b).toNat < 256 := (B8 a ^^^ B8 b).isLt
  omega
/-! ### A round -/
def tryQ (n to a0 a1 a2 : Int) (v : Rc) (tu : Int → Int) : Aq := ⟨n, bx to (tu 0), bx (64 * a0 + a1) (tu 1), bx a2 (tu 2), bx (chk (askL to a0 a1 a2)) (tu 3), (bx v.1 (tu 4), bx v.2.1 (tu 5), bx v.2.2.1 (tu 6), bx v.2.2.2 (tu 7)), bx (chk (rl v)) (tu 8)⟩
theorem bx_rk (a b : Int) : 0 ≤ bx a b ∧ bx a b ≤ 255 := by have := bx_range a b; omega
theorem tryQ_ok (n to a0 a1 a2 : Int) (v : Rc) (tu : Int → Int) : (tryQ n to a0 a1 a2 v tu).Ok := ⟨bx_range _ _, bx_range _ _, bx_range _ _, bx_rk _ _, bx_rk _ _, bx_rk _ _, bx_rk _ _⟩
def backR (w : Rc) (tu : Int → Int) : Rc := (bx w.1 (tu 9), bx w.2.1 (tu 10), bx w.2.2.1 (tu 11), bx w.2.2.2 (tu 12))
def backC (w : Rc) (tu : Int → Int) : Int := bx (chk (rl w)) (tu 13)
def tryE (q : Aq) (tu : Int → Int) (X : List Nf) : Int := if q.E X = 0 then (if chk (rl (backR (q.W X) tu)) = backC (q.W X) tu then 0 else 14) else 13
def tryW (q : Aq) (tu : Int → Int) (X : List Nf) : Rc := if q.E X = 0 then (if chk (rl (backR (q.W X) tu)) = backC (q.W X) tu then backR (q.W X) tu else zr) else zr
def tryV (n to a0 a1 a2 : Int) (v : Rc) (tu : Int → Int) (X : List Nf) : Value := if askOk to a0 a1 a2 then .tuple #[.agg (enc (tryW (tryQ n to a0 a1 a2 v tu) tu X)).toArray, .int .i64 (tryE (tryQ n to a0 a1 a2 v tu) tu X)] else .tuple #[.agg (enc zr).toArray, .int .i64 1]
def tryX (n to a0 a1 a2 : Int) (v : Rc) (tu : Int → Int) (X : List Nf) : List Nf := if askOk to a0 a1 a2 then (tryQ n to a0 a1 a2 v tu).X X else X
def tryD (n to a0 a1 a2 : Int) (v : Rc) (tu : Int → Int) (X : List Nf) (d : Int) : Int := if askOk to a0 a1 a2 then (tryQ n to a0 a1 a2 v tu).D X d else d
theorem Aq.E_bad {q : Aq} {X : List Nf} (h : q.pre ≠ 0) : q.E X ≠ 0 ∧ q.X X = X := by
  rw [Aq.E, Aq.X, if_neg h, if_neg h]; exact ⟨h, rfl⟩
theorem Aq.ok_X {q : Aq} (hq : q.Ok) {X : List Nf} (h : OkX X) : OkX (q.X X) := by
  rw [Aq.X]
  split
  · refine h.do _ _ _ ?_
    rw [Aq.v]
    split
    · exact hq.hd
    · exact ⟨by decide, by decide, by decide, by decide⟩
  · exact h
theorem tryX_ok {n to a0 a1 a2 : Int} {v : Rc} {tu : Int → Int} {X : List Nf} (h : OkX X) : OkX (tryX n to a0 a1 a2 v tu X) := by
  rw [tryX]
  split
  · exact Aq.ok_X (tryQ_ok ..) h
  · exact h

end Go.Proofs.YtamlipffhimfmaaGreatDoor.Srv

/- serve: Try. -/
namespace Go.Proofs.YtamlipffhimfmaaGreatDoor.Srv
set_option linter.unusedSimpArgs false
set_option linter.unusedVariables false
open Go Go.AX Go.Proofs Ty Go.Proofs.YtamlipffhimfmaaGreatDoor.File Go.Proofs.YtamlipffhimfmaaGreatDoor.Ifs Go.Proofs.YtamlipffhimfmaaGreatDoor.Err
set_option maxHeartbeats 4000000
set_option maxRecDepth 10000

theorem Mp.addF {H : AH} {b : Nat} {kk : ABlk} {tv : Value} {tu : Int → Int} (hf : Fresh H b) (h : Mp H tv tu) : Mp (H.add b kk) tv tu := h.keep (Keep.add hf)
theorem Mp.keepF {H H' : AH} {tv : Value} {tu : Int → Int} {ft : Nat → Prop} (h : Mp H tv tu) (hK : Keep H H' ft) (hn : ∀ bm, tv = .map (some bm) → ¬ ft bm) : Mp H' tv tu := by
  rcases h with h | ⟨bm, es, h1, h2, h3⟩
  · exact .inl h
  · exact .inr ⟨bm, es, h1, hK.find (hn bm h1) h2, h3⟩
theorem Try_c {H : AH} {b : Nat} {X : List Nf} {den : Int} {ft : Nat → Prop} (hE : ErrT H.w0) (h : StAt H b X den ft) (hX : OkX X) (name to a0 a1 a2 : Int) (v : Rc) (tv : Value) (tu : Int → Int) (hM : Mp H tv tu) (hMf : ∀ bm, tv = .map (some bm) → ¬ ft bm) :
    ACalls Tryz.prog 20 #[.pointer (some ⟨b, 0, none⟩), .int .i64 name, .int .i64 to, .agg #[.int .i64 a0, .int .i64 a1, .int .i64 a2], .agg (enc v).toArray, tv] H (fun u H' => ∃ ft', u = tryV name to a0 a1 a2 v tu X ∧ StAt H' b (tryX name to a0 a1 a2 v tu X) (tryD name to a0 a1 a2 v tu X den) ft' ∧ Keep H H' ft ∧ ∀ x, ft' x → ft x ∨ Fresh H x) := by
  have hv : ∃ m, tv = .map m := by
    rcases hM with ⟨e, _⟩ | ⟨bm, _, e, _⟩
    · exact ⟨_, e⟩
    · exact ⟨_, e⟩
  obtain ⟨tm, rfl⟩ := hv
  refine ACalls.enter2 Tryz.func20 rfl Tryz.ntmps20 Tryz.results20 (by simp) ?_; simp (dsimp := false) (maxSteps := 4000000) only [enc_len, enc_scal, lput_enc, take_enc, go_sem, ↓reduceIte, Nat.reduceEqDiff, Nat.reduceLT, Nat.reduceLeDiff, Nat.reduceAdd, Nat.reduceMul, Nat.reduceSub, reduceCtorEq, Int.reduceToNat, Int.reduceLT, Int.reduceLE, Int.reduceEq, Int.reduceNe, Int.reduceBEq, Nat.reduceBEq, Int.reduceBNe, Nat.reduceBNe, Int.reduceAdd, Int.reduceSub, Int.reduceMul, Int.reduceNeg]
  refine AllB.mk fun b9 h_b9 => ?_; have hn_b9 := h_b9; (try simp only [fresh_add, fresh_set, ne_eq] at hn_b9); have hr_b9 := hn_b9; (try simp only [@eq_comm Nat b9] at hr_b9); simp (dsimp := false) (maxSteps := 4000000) only [enc_len, enc_scal, lput_enc, take_enc, hn_b9, hr_b9, go_sem, ↓reduceIte, Nat.reduceEqDiff, Nat.reduceLT, Nat.reduceLeDiff, Nat.reduceAdd, Nat.reduceMul, Nat.reduceSub, reduceCtorEq, Int.reduceToNat, Int.reduceLT, Int.reduceLE, Int.reduceEq, Int.reduceNe, Int.reduceBEq, Nat.reduceBEq, Int.reduceBNe, Nat.reduceBNe, Int.reduceAdd, Int.reduceSub, Int.reduceMul, Int.reduceNeg]
  refine AllB.mk fun b10 h_b10 => ?_; have hn_b10 := h_b10; (try simp only [fresh_add, fresh_set, ne_eq] at hn_b10); have hr_b10 := hn_b10; (try simp only [@eq_comm Nat b10] at hr_b10); simp (dsimp := false) (maxSteps := 4000000) only [enc_len, enc_scal, lput_enc, take_enc, hn_b9, hr_b9, hn_b10, hr_b10, go_sem, ↓reduceIte, Nat.reduceEqDiff, Nat.reduceLT, Nat.reduceLeDiff, Nat.reduceAdd, Nat.reduceMul, Nat.reduceSub, reduceCtorEq, Int.reduceToNat, Int.reduceLT, Int.reduceLE, Int.reduceEq, Int.reduceNe, Int.reduceBEq, Nat.reduceBEq, Int.reduceBNe, Nat.reduceBNe, Int.reduceAdd, Int.reduceSub, Int.reduceMul, Int.reduceNeg]
  refine AllB.mk fun b12 h_b12 => ?_; have hn_b12 := h_b12; (try simp only [fresh_add, fresh_set, ne_eq] at hn_b12); have hr_b12 := hn_b12; (try simp only [@eq_comm Nat b12] at hr_b12); simp (dsimp := false) (maxSteps := 4000000) only [enc_len, enc_scal, lput_enc, take_enc, hn_b9, hr_b9, hn_b10, hr_b10, hn_b12, hr_b12, go_sem, ↓reduceIte, Nat.reduceEqDiff, Nat.reduceLT, Nat.reduceLeDiff, Nat.reduceAdd, Nat.reduceMul, Nat.reduceSub, reduceCtorEq, Int.reduceToNat, Int.reduceLT, Int.reduceLE, Int.reduceEq, Int.reduceNe, Int.reduceBEq, Nat.reduceBEq, Int.reduceBNe, Nat.reduceBNe, Int.reduceAdd, Int.reduceSub, Int.reduceMul, Int.reduceNeg]
  refine (Ask_c to a0 a1 a2 _).mono ?_; rintro _ _ ⟨rfl, rfl⟩
  unfold askV
  by_cases ha : askOk to a0 a1 a2
  case' neg =>
    rw [if_neg ha]
    
    simp (dsimp := false) (maxSteps := 4000000) only [enc_len, enc_scal, lput_enc, take_enc, hn_b9, hr_b9, hn_b10, hr_b10, hn_b12, hr_b12, go_sem, ↓reduceIte, Nat.reduceEqDiff, Nat.reduceLT, Nat.reduceLeDiff, Nat.reduceAdd, Nat.reduceMul, Nat.reduceSub, reduceCtorEq, Int.reduceToNat, Int.reduceLT, Int.reduceLE, Int.reduceEq, Int.reduceNe, Int.reduceBEq, Nat.reduceBEq, Int.reduceBNe, Nat.reduceBNe, Int.reduceAdd, Int.reduceSub, Int.reduceMul, Int.reduceNeg]
    refine AllB.mk fun b14 h_b14 => ?_; have hn_b14 := h_b14; (try simp only [fresh_add, fresh_set, ne_eq] at hn_b14); have hr_b14 := hn_b14; (try simp only [@eq_comm Nat b14] at hr_b14); simp (dsimp := false) (maxSteps := 4000000) only [enc_len, enc_scal, lput_enc, take_enc, hn_b9, hr_b9, hn_b10, hr_b10, hn_b12, hr_b12, hn_b14, hr_b14, go_sem, ↓reduceIte, Nat.reduceEqDiff, Nat.reduceLT, Nat.reduceLeDiff, Nat.reduceAdd, Nat.reduceMul, Nat.reduceSub, reduceCtorEq, Int.reduceToNat, Int.reduceLT, Int.reduceLE, Int.reduceEq, Int.reduceNe, Int.reduceBEq, Nat.reduceBEq, Int.reduceBNe, Nat.reduceBNe, Int.reduceAdd, Int.reduceSub, Int.reduceMul, Int.reduceNeg]
    exact ⟨H, (AH.le_add (AH.le_add (AH.le_add (AH.le_add (AH.le_refl _) ((by simp only [enc_len, enc_scal, lput_enc, take_enc, fresh_add, fresh_set, ne_eq, hn_b9, not_false_eq_true, and_self] : Fresh _ b9).2)) ((by simp only [enc_len, enc_scal, lput_enc, take_enc, fresh_add, fresh_set, ne_eq, hn_b10, not_false_eq_true, and_self] : Fresh _ b10).2)) ((by simp only [enc_len, enc_scal, lput_enc, take_enc, fresh_add, fresh_set, ne_eq, hn_b12, not_false_eq_true, and_self] : Fresh _ b12).2)) ((by simp only [enc_len, enc_scal, lput_enc, take_enc, fresh_add, fresh_set, ne_eq, hn_b14, not_false_eq_true, and_self] : Fresh _ b14).2)), ft, by rw [tryV, if_neg ha]; rfl, by rw [tryX, tryD, if_neg ha, if_neg ha]; exact h, Keep.refl, fun x h => .inl h⟩
    
  rw [if_pos ha]
  simp (dsimp := false) (maxSteps := 4000000) only [enc_len, enc_scal, lput_enc, take_enc, hn_b9, hr_b9, hn_b10, hr_b10, hn_b12, hr_b12, go_sem, ↓reduceIte, Nat.reduceEqDiff, Nat.reduceLT, Nat.reduceLeDiff, Nat.reduceAdd, Nat.reduceMul, Nat.reduceSub, reduceCtorEq, Int.reduceToNat, Int.reduceLT, Int.reduceLE, Int.reduceEq, Int.reduceNe, Int.reduceBEq, Nat.reduceBEq, Int.reduceBNe, Nat.reduceBNe, Int.reduceAdd, Int.reduceSub, Int.reduceMul, Int.reduceNeg]
  refine AllB.mk fun b14 h_b14 => ?_; have hn_b14 := h_b14; (try simp only [fresh_add, fresh_set, ne_eq] at hn_b14); have hr_b14 := hn_b14; (try simp only [@eq_comm Nat b14] at hr_b14); simp (dsimp := false) (maxSteps := 4000000) only [enc_len, enc_scal, lput_enc, take_enc, hn_b9, hr_b9, hn_b10, hr_b10, hn_b12, hr_b12, hn_b14, hr_b14, go_sem, ↓reduceIte, Nat.reduceEqDiff, Nat.reduceLT, Nat.reduceLeDiff, Nat.reduceAdd, Nat.reduceMul, Nat.reduceSub, reduceCtorEq, Int.reduceToNat, Int.reduceLT, Int.reduceLE, Int.reduceEq, Int.reduceNe, Int.reduceBEq, Nat.reduceBEq, Int.reduceBNe, Nat.reduceBNe, Int.reduceAdd, Int.reduceSub, Int.reduceMul, Int.reduceNeg]
  refine (Data_c v _).mono ?_; rintro _ _ ⟨rfl, rfl⟩
  unfold dataV
  simp (dsimp := false) (maxSteps := 4000000) only [enc_len, enc_scal, lput_enc, take_enc, hn_b9, hr_b9, hn_b10, hr_b10, hn_b12, hr_b12, hn_b14, hr_b14, go_sem, ↓reduceIte, Nat.reduceEqDiff, Nat.reduceLT, Nat.reduceLeDiff, Nat.reduceAdd, Nat.reduceMul, Nat.reduceSub, reduceCtorEq, Int.reduceToNat, Int.reduceLT, Int.reduceLE, Int.reduceEq, Int.reduceNe, Int.reduceBEq, Nat.reduceBEq, Int.reduceBNe, Nat.reduceBNe, Int.reduceAdd, Int.reduceSub, Int.reduceMul, Int.reduceNeg]
  refine AllB.mk fun b16 h_b16 => ?_; have hn_b16 := h_b16; (try simp only [fresh_add, fresh_set, ne_eq] at hn_b16); have hr_b16 := hn_b16; (try simp only [@eq_comm Nat b16] at hr_b16); simp (dsimp := false) (maxSteps := 4000000) only [enc_len, enc_scal, lput_enc, take_enc, hn_b9, hr_b9, hn_b10, hr_b10, hn_b12, hr_b12, hn_b14, hr_b14, hn_b16, hr_b16, go_sem, ↓reduceIte, Nat.reduceEqDiff, Nat.reduceLT, Nat.reduceLeDiff, Nat.reduceAdd, Nat.reduceMul, Nat.reduceSub, reduceCtorEq, Int.reduceToNat, Int.reduceLT, Int.reduceLE, Int.reduceEq, Int.reduceNe, Int.reduceBEq, Nat.reduceBEq, Int.reduceBNe, Nat.reduceBNe, Int.reduceAdd, Int.reduceSub, Int.reduceMul, Int.reduceNeg]
  have hl := fun k9 k10 k12 k14 k16 i k => lkp_mp (H := ((((H.add b9 k9).add b10 k10).add b12 k12).add b14 k14).add b16 k16) (tv := .map tm) (tu := tu) (Mp.addF (by simp only [fresh_add, ne_eq, hn_b16, not_false_eq_true, and_self]) (Mp.addF (by simp only [fresh_add, ne_eq, hn_b14, not_false_eq_true, and_self]) (Mp.addF (by simp only [fresh_add, ne_eq, hn_b12, not_false_eq_true, and_self]) (Mp.addF (by simp only [fresh_add, ne_eq, hn_b10, not_false_eq_true, and_self]) (Mp.addF h_b9 hM))))) i k
  refine AWp.rounds 5 ?_
  simp (dsimp := false) (maxSteps := 4000000) only [enc_len, enc_scal, lput_enc, take_enc, hn_b9, hr_b9, hn_b10, hr_b10, hn_b12, hr_b12, hn_b14, hr_b14, hn_b16, hr_b16, go_sem, ↓reduceIte, Nat.reduceEqDiff, Nat.reduceLT, Nat.reduceLeDiff, Nat.reduceAdd, Nat.reduceMul, Nat.reduceSub, reduceCtorEq, Int.reduceToNat, Int.reduceLT, Int.reduceLE, Int.reduceEq, Int.reduceNe, Int.reduceBEq, Nat.reduceBEq, Int.reduceBNe, Nat.reduceBNe, Int.reduceAdd, Int.reduceSub, Int.reduceMul, Int.reduceNeg]
  refine AWp.gen [.pu, .pu, .rd, .pu, .pu, .ch, .pu, .pu, .ch] [0, 1, 3, 0, 0, 24, 63, 127, 255] 6 (_) mixed (by kernel_rfl) (AH.le_refl _) ?_
  simp (dsimp := false) (maxSteps := 4000000) only [hl, enc_len, enc_scal, lput_enc, take_enc, hn_b9, hr_b9, hn_b10, hr_b10, hn_b12, hr_b12, hn_b14, hr_b14, hn_b16, hr_b16, go_sem, ↓reduceIte, Nat.reduceEqDiff, Nat.reduceLT, Nat.reduceLeDiff, Nat.reduceAdd, Nat.reduceMul, Nat.reduceSub, reduceCtorEq, Int.reduceToNat, Int.reduceLT, Int.reduceLE, Int.reduceEq, Int.reduceNe, Int.reduceBEq, Nat.reduceBEq, Int.reduceBNe, Nat.reduceBNe, Int.reduceAdd, Int.reduceSub, Int.reduceMul, Int.reduceNeg]
  refine AWp.gen [.pu, .pu, .rd, .pu, .pu, .ch, .pu, .pu, .ch] [0, 1, 3, 0, 0, 24, 63, 127, 255] 6 (_) mixed (by kernel_rfl) (AH.le_refl _) ?_
  simp (dsimp := false) (maxSteps := 4000000) only [hl, enc_len, enc_scal, lput_enc, take_enc, hn_b9, hr_b9, hn_b10, hr_b10, hn_b12, hr_b12, hn_b14, hr_b14, hn_b16, hr_b16, go_sem, ↓reduceIte, Nat.reduceEqDiff, Nat.reduceLT, Nat.reduceLeDiff, Nat.reduceAdd, Nat.reduceMul, Nat.reduceSub, reduceCtorEq, Int.reduceToNat, Int.reduceLT, Int.reduceLE, Int.reduceEq, Int.reduceNe, Int.reduceBEq, Nat.reduceBEq, Int.reduceBNe, Nat.reduceBNe, Int.reduceAdd, Int.reduceSub, Int.reduceMul, Int.reduceNeg]
  refine AWp.gen [.pu, .pu, .rd, .pu, .pu, .ch, .pu, .pu, .ch] [0, 1, 3, 0, 0, 24, 63, 127, 255] 6 (_) mixed (by kernel_rfl) (AH.le_refl _) ?_
  simp (dsimp := false) (maxSteps := 4000000) only [hl, enc_len, enc_scal, lput_enc, take_enc, hn_b9, hr_b9, hn_b10, hr_b10, hn_b12, hr_b12, hn_b14, hr_b14, hn_b16, hr_b16, go_sem, ↓reduceIte, Nat.reduceEqDiff, Nat.reduceLT, Nat.reduceLeDiff, Nat.reduceAdd, Nat.reduceMul, Nat.reduceSub, reduceCtorEq, Int.reduceToNat, Int.reduceLT, Int.reduceLE, Int.reduceEq, Int.reduceNe, Int.reduceBEq, Nat.reduceBEq, Int.reduceBNe, Nat.reduceBNe, Int.reduceAdd, Int.reduceSub, Int.reduceMul, Int.reduceNeg]
  refine AWp.gen [.pu, .pu, .rd, .pu, .pu, .ch, .pu, .pu, .ch] [0, 1, 3, 0, 0, 24, 63, 127, 255] 6 (_) mixed (by kernel_rfl) (AH.le_refl _) ?_
  simp (dsimp := false) (maxSteps := 4000000) only [hl, enc_len, enc_scal, lput_enc, take_enc, hn_b9, hr_b9, hn_b10, hr_b10, hn_b12, hr_b12, hn_b14, hr_b14, hn_b16, hr_b16, go_sem, ↓reduceIte, Nat.reduceEqDiff, Nat.reduceLT, Nat.reduceLeDiff, Nat.reduceAdd, Nat.reduceMul, Nat.reduceSub, reduceCtorEq, Int.reduceToNat, Int.reduceLT, Int.reduceLE, Int.reduceEq, Int.reduceNe, Int.reduceBEq, Nat.reduceBEq, Int.reduceBNe, Nat.reduceBNe, Int.reduceAdd, Int.reduceSub, Int.reduceMul, Int.reduceNeg]
  refine AWp.rounds 6 ?_
  simp (dsimp := false) (maxSteps := 4000000) only [enc_len, enc_scal, lput_enc, take_enc, hn_b9, hr_b9, hn_b10, hr_b10, hn_b12, hr_b12, hn_b14, hr_b14, hn_b16, hr_b16, go_sem, ↓reduceIte, Nat.reduceEqDiff, Nat.reduceLT, Nat.reduceLeDiff, Nat.reduceAdd, Nat.reduceMul, Nat.reduceSub, reduceCtorEq, Int.reduceToNat, Int.reduceLT, Int.reduceLE, Int.reduceEq, Int.reduceNe, Int.reduceBEq, Nat.reduceBEq, Int.reduceBNe, Nat.reduceBNe, Int.reduceAdd, Int.reduceSub, Int.reduceMul, Int.reduceNeg]
  refine AWp.gen [.pu, .pu, .rd, .pu, .pu, .pu, .ch, .pu, .pu, .ch] [0, 1, 3, 0, 0, 16, 56, 127, 255, 511] 7 (_) mixed (by kernel_rfl) (AH.le_refl _) ?_
  simp (dsimp := false) (maxSteps := 4000000) only [hl, enc_len, enc_scal, lput_enc, take_enc, hn_b9, hr_b9, hn_b10, hr_b10, hn_b12, hr_b12, hn_b14, hr_b14, hn_b16, hr_b16, go_sem, ↓reduceIte, Nat.reduceEqDiff, Nat.reduceLT, Nat.reduceLeDiff, Nat.reduceAdd, Nat.reduceMul, Nat.reduceSub, reduceCtorEq, Int.reduceToNat, Int.reduceLT, Int.reduceLE, Int.reduceEq, Int.reduceNe, Int.reduceBEq, Nat.reduceBEq, Int.reduceBNe, Nat.reduceBNe, Int.reduceAdd, Int.reduceSub, Int.reduceMul, Int.reduceNeg]
  refine AWp.gen [.pu, .pu, .rd, .pu, .pu, .pu, .ch, .pu, .pu, .ch] [0, 1, 3, 0, 0, 16, 56, 127, 255, 511] 7 (_) mixed (by kernel_rfl) (AH.le_refl _) ?_
  simp (dsimp := false) (maxSteps := 4000000) only [hl, enc_len, enc_scal, lput_enc, take_enc, hn_b9, hr_b9, hn_b10, hr_b10, hn_b12, hr_b12, hn_b14, hr_b14, hn_b16, hr_b16, go_sem, ↓reduceIte, Nat.reduceEqDiff, Nat.reduceLT, Nat.reduceLeDiff, Nat.reduceAdd, Nat.reduceMul, Nat.reduceSub, reduceCtorEq, Int.reduceToNat, Int.reduceLT, Int.reduceLE, Int.reduceEq, Int.reduceNe, Int.reduceBEq, Nat.reduceBEq, Int.reduceBNe, Nat.reduceBNe, Int.reduceAdd, Int.reduceSub, Int.reduceMul, Int.reduceNeg]
  refine AWp.gen [.pu, .pu, .rd, .pu, .pu, .pu, .ch, .pu, .pu, .ch] [0, 1, 3, 0, 0, 16, 56, 127, 255, 511] 7 (_) mixed (by kernel_rfl) (AH.le_refl _) ?_
  simp (dsimp := false) (maxSteps := 4000000) only [hl, enc_len, enc_scal, lput_enc, take_enc, hn_b9, hr_b9, hn_b10, hr_b10, hn_b12, hr_b12, hn_b14, hr_b14, hn_b16, hr_b16, go_sem, ↓reduceIte, Nat.reduceEqDiff, Nat.reduceLT, Nat.reduceLeDiff, Nat.reduceAdd, Nat.reduceMul, Nat.reduceSub, reduceCtorEq, Int.reduceToNat, Int.reduceLT, Int.reduceLE, Int.reduceEq, Int.reduceNe, Int.reduceBEq, Nat.reduceBEq, Int.reduceBNe, Nat.reduceBNe, Int.reduceAdd, Int.reduceSub, Int.reduceMul, Int.reduceNeg]
  refine AWp.gen [.pu, .pu, .rd, .pu, .pu, .pu, .ch, .pu, .pu, .ch] [0, 1, 3, 0, 0, 16, 56, 127, 255, 511] 7 (_) mixed (by kernel_rfl) (AH.le_refl _) ?_
  simp (dsimp := false) (maxSteps := 4000000) only [hl, enc_len, enc_scal, lput_enc, take_enc, hn_b9, hr_b9, hn_b10, hr_b10, hn_b12, hr_b12, hn_b14, hr_b14, hn_b16, hr_b16, go_sem, ↓reduceIte, Nat.reduceEqDiff, Nat.reduceLT, Nat.reduceLeDiff, Nat.reduceAdd, Nat.reduceMul, Nat.reduceSub, reduceCtorEq, Int.reduceToNat, Int.reduceLT, Int.reduceLE, Int.reduceEq, Int.reduceNe, Int.reduceBEq, Nat.reduceBEq, Int.reduceBNe, Nat.reduceBNe, Int.reduceAdd, Int.reduceSub, Int.reduceMul, Int.reduceNeg]
  refine AWp.gen [.pu, .pu, .rd, .pu, .pu, .pu, .ch, .pu, .pu, .ch] [0, 1, 3, 0, 0, 16, 56, 127, 255, 511] 7 (_) mixed (by kernel_rfl) (AH.le_refl _) ?_
  simp (dsimp := false) (maxSteps := 4000000) only [hl, enc_len, enc_scal, lput_enc, take_enc, hn_b9, hr_b9, hn_b10, hr_b10, hn_b12, hr_b12, hn_b14, hr_b14, hn_b16, hr_b16, go_sem, ↓reduceIte, Nat.reduceEqDiff, Nat.reduceLT, Nat.reduceLeDiff, Nat.reduceAdd, Nat.reduceMul, Nat.reduceSub, reduceCtorEq, Int.reduceToNat, Int.reduceLT, Int.reduceLE, Int.reduceEq, Int.reduceNe, Int.reduceBEq, Nat.reduceBEq, Int.reduceBNe, Nat.reduceBNe, Int.reduceAdd, Int.reduceSub, Int.reduceMul, Int.reduceNeg]
  have hsv := fun H1 (hE1 : ErrT H1.w0) (h1 : StAt H1 b X den ft) => Serve_c hE1 h1 hX (tryQ name to a0 a1 a2 v tu) (tryQ_ok ..)
  have kT : ∀ {k9 k10 k12 k14 k16 : ABlk}, Keep H (((((H.add b9 k9).add b10 k10).add b12 k12).add b14 k14).add b16 k16) fun _ => False := fun {k9 k10 k12 k14 k16} => ((((Keep.refl.nw h_b9).nw (by simp only [fresh_add, ne_eq, hn_b10, not_false_eq_true, and_self])).nw (by simp only [fresh_add, ne_eq, hn_b12, not_false_eq_true, and_self])).nw (by simp only [fresh_add, ne_eq, hn_b14, not_false_eq_true, and_self])).nw (by simp only [fresh_add, ne_eq, hn_b16, not_false_eq_true, and_self])
  refine (hsv _ (by simp only [w0_add]; exact hE) (h.keep (ex := fun _ => False) kT fun _ _ h => h)).mono ?_
  rintro _ A ⟨ft', rfl, hst, hK, hf⟩
  have hf12 : Fresh H b12 := hn_b12.2.2
  have hnf12 : ¬ ft b12 := h.fresh hf12
  have hHA : Keep H A ft := (kT.mono fun _ h => h.elim).trans hK
  have hff : ∀ x, ft' x → ft x ∨ Fresh H x := fun x hx => (hf x hx).imp id fun h => kT.fr h
  have f12' : ¬ ft' b12 := fun hx => (hf _ hx).elim hnf12 fun h' => by
    have := h'.2
    rw [show AH.find _ b12 = some (.cells [.int .u8 0, .int .u8 0, .int .u8 0, .int .u8 0] 26 4) from (by (show AH.find _ _ = _; simp only [find_add_self, find_add_ne, find_fresh, fresh_add, fresh_set, ne_eq, not_false_eq_true, true_and, and_true, and_self, enc_len, enc_scal, lput_enc, take_enc, hn_b9, hr_b9, hn_b10, hr_b10, hn_b12, hr_b12, hn_b14, hr_b14, hn_b16, hr_b16]))] at this; cases this
  have f12 : A.find b12 = some (.cells [.int .u8 0, .int .u8 0, .int .u8 0, .int .u8 0] 26 4) := hK.find hnf12 (by (show AH.find _ _ = _; simp only [find_add_self, find_add_ne, find_fresh, fresh_add, fresh_set, ne_eq, not_false_eq_true, true_and, and_true, and_self, enc_len, enc_scal, lput_enc, take_enc, hn_b9, hr_b9, hn_b10, hr_b10, hn_b12, hr_b12, hn_b14, hr_b14, hn_b16, hr_b16]))
  have hMA : Mp A (.map tm) tu := hM.keepF hHA hMf
  have hX' : (tryQ name to a0 a1 a2 v tu).X X = tryX name to a0 a1 a2 v tu X := by rw [tryX, if_pos ha]
  have hD' : (tryQ name to a0 a1 a2 v tu).D X den = tryD name to a0 a1 a2 v tu X den := by rw [tryD, if_pos ha]
  rw [hX', hD'] at hst
  have fin : ∀ (vs : List Value) (k19 : ABlk) (b19 : Nat) (u : Value), Fresh A b19 → u = tryV name to a0 a1 a2 v tu X → ∃ H', H'.le ((A.set b12 (.cells vs 26 4)).add b19 k19) ∧ ∃ ft', u = tryV name to a0 a1 a2 v tu X ∧ StAt H' b (tryX name to a0 a1 a2 v tu X) (tryD name to a0 a1 a2 v tu X den) ft' ∧ Keep H H' ft ∧ ∀ x, ft' x → ft x ∨ Fresh H x := fun vs k19 b19 u h19 hu =>
    ⟨_, AH.le_add (AH.le_refl _) (by rw [find_set, if_neg (h19.ne_find f12)]; exact h19.2), ft', hu, hst.keep Keep.set fun x hx e => f12' (e ▸ hx), hHA.then Keep.set fun x e => .inr (e ▸ hf12), hff⟩
  clear hK hf hsv kT hl hn_b9 hr_b9 h_b9 hn_b10 hr_b10 h_b10 hn_b12 hr_b12 h_b12 hn_b14 hr_b14 h_b14 hn_b16 hr_b16 h_b16
  
  obtain ⟨q, hq⟩ : ∃ q, tryQ name to a0 a1 a2 v tu = q := ⟨_, rfl⟩
  obtain ⟨w, hw⟩ : ∃ w, q.W X = w := ⟨_, rfl⟩
  rw [hq]
  unfold serveV
  by_cases e0 : q.E X = 0
  case' neg =>
    rw [if_neg e0]
    
    simp (dsimp := false) (maxSteps := 4000000) only [enc_len, enc_scal, lput_enc, take_enc, go_sem, ↓reduceIte, Nat.reduceEqDiff, Nat.reduceLT, Nat.reduceLeDiff, Nat.reduceAdd, Nat.reduceMul, Nat.reduceSub, reduceCtorEq, Int.reduceToNat, Int.reduceLT, Int.reduceLE, Int.reduceEq, Int.reduceNe, Int.reduceBEq, Nat.reduceBEq, Int.reduceBNe, Nat.reduceBNe, Int.reduceAdd, Int.reduceSub, Int.reduceMul, Int.reduceNeg]
    refine AllB.mk fun b19 h_b19 => ?_; have hn_b19 := h_b19; (try simp only [fresh_add, fresh_set, ne_eq] at hn_b19); have hr_b19 := hn_b19; (try simp only [@eq_comm Nat b19] at hr_b19); simp (dsimp := false) (maxSteps := 4000000) only [enc_len, enc_scal, lput_enc, take_enc, hn_b19, hr_b19, go_sem, ↓reduceIte, Nat.reduceEqDiff, Nat.reduceLT, Nat.reduceLeDiff, Nat.reduceAdd, Nat.reduceMul, Nat.reduceSub, reduceCtorEq, Int.reduceToNat, Int.reduceLT, Int.reduceLE, Int.reduceEq, Int.reduceNe, Int.reduceBEq, Nat.reduceBEq, Int.reduceBNe, Nat.reduceBNe, Int.reduceAdd, Int.reduceSub, Int.reduceMul, Int.reduceNeg]
    have n19 : ¬ b19 = b12 := h_b19.ne_find f12
    have hw : A.wrs b12 0 [.int .u8 0, .int .u8 0, .int .u8 0, .int .u8 0] = some (A.set b12 (.cells [.int .u8 0, .int .u8 0, .int .u8 0, .int .u8 0] 26 4)) := by simp [AH.wrs, f12, lput, scal]
    have hfd : (A.set b12 (.cells [.int .u8 0, .int .u8 0, .int .u8 0, .int .u8 0] 26 4)).find b12 = some (.cells [.int .u8 0, .int .u8 0, .int .u8 0, .int .u8 0] 26 4) := by rw [find_set, if_pos rfl]
    have hr : (A.set b12 (.cells [.int .u8 0, .int .u8 0, .int .u8 0, .int .u8 0] 26 4)).row b12 0 4 = some [.int .u8 0, .int .u8 0, .int .u8 0, .int .u8 0] := row_find hfd (by simp)
    simp (dsimp := false) (maxSteps := 4000000) only [n19, hw, hr, enc_len, enc_scal, lput_enc, take_enc, hn_b19, hr_b19, go_sem, ↓reduceIte, Nat.reduceEqDiff, Nat.reduceLT, Nat.reduceLeDiff, Nat.reduceAdd, Nat.reduceMul, Nat.reduceSub, reduceCtorEq, Int.reduceToNat, Int.reduceLT, Int.reduceLE, Int.reduceEq, Int.reduceNe, Int.reduceBEq, Nat.reduceBEq, Int.reduceBNe, Nat.reduceBNe, Int.reduceAdd, Int.reduceSub, Int.reduceMul, Int.reduceNeg]
    exact fin _ _ _ _ h_b19 (by rw [tryV, if_pos ha, hq, tryE, tryW, if_neg e0, if_neg e0]; rfl)
    
  rw [if_pos e0]
  rw [hw]
  unfold dataV
  simp (dsimp := false) (maxSteps := 4000000) only [enc_len, enc_scal, lput_enc, take_enc, go_sem, ↓reduceIte, Nat.reduceEqDiff, Nat.reduceLT, Nat.reduceLeDiff, Nat.reduceAdd, Nat.reduceMul, Nat.reduceSub, reduceCtorEq, Int.reduceToNat, Int.reduceLT, Int.reduceLE, Int.reduceEq, Int.reduceNe, Int.reduceBEq, Nat.reduceBEq, Int.reduceBNe, Nat.reduceBNe, Int.reduceAdd, Int.reduceSub, Int.reduceMul, Int.reduceNeg]
  refine AllB.mk fun b19 h_b19 => ?_; have hn_b19 := h_b19; (try simp only [fresh_add, fresh_set, ne_eq] at hn_b19); have hr_b19 := hn_b19; (try simp only [@eq_comm Nat b19] at hr_b19); simp (dsimp := false) (maxSteps := 4000000) only [enc_len, enc_scal, lput_enc, take_enc, hn_b19, hr_b19, go_sem, ↓reduceIte, Nat.reduceEqDiff, Nat.reduceLT, Nat.reduceLeDiff, Nat.reduceAdd, Nat.reduceMul, Nat.reduceSub, reduceCtorEq, Int.reduceToNat, Int.reduceLT, Int.reduceLE, Int.reduceEq, Int.reduceNe, Int.reduceBEq, Nat.reduceBEq, Int.reduceBNe, Nat.reduceBNe, Int.reduceAdd, Int.reduceSub, Int.reduceMul, Int.reduceNeg]
  have hl2 := fun k19 i k => lkp_mp (H := A.add b19 k19) (tv := .map tm) (tu := tu) (Mp.addF h_b19 hMA) i k
  refine AWp.rounds 6 ?_
  simp (dsimp := false) (maxSteps := 4000000) only [enc_len, enc_scal, lput_enc, take_enc, hn_b19, hr_b19, go_sem, ↓reduceIte, Nat.reduceEqDiff, Nat.reduceLT, Nat.reduceLeDiff, Nat.reduceAdd, Nat.reduceMul, Nat.reduceSub, reduceCtorEq, Int.reduceToNat, Int.reduceLT, Int.reduceLE, Int.reduceEq, Int.reduceNe, Int.reduceBEq, Nat.reduceBEq, Int.reduceBNe, Nat.reduceBNe, Int.reduceAdd, Int.reduceSub, Int.reduceMul, Int.reduceNeg]
  refine AWp.gen [.pu, .pu, .rd, .pu, .pu, .pu, .ch, .pu, .pu, .ch] [0, 1, 3, 0, 0, 16, 56, 127, 255, 511] 7 (_) mixed (by kernel_rfl) (AH.le_refl _) ?_
  simp (dsimp := false) (maxSteps := 4000000) only [hl2, enc_len, enc_scal, lput_enc, take_enc, hn_b19, hr_b19, go_sem, ↓reduceIte, Nat.reduceEqDiff, Nat.reduceLT, Nat.reduceLeDiff, Nat.reduceAdd, Nat.reduceMul, Nat.reduceSub, reduceCtorEq, Int.reduceToNat, Int.reduceLT, Int.reduceLE, Int.reduceEq, Int.reduceNe, Int.reduceBEq, Nat.reduceBEq, Int.reduceBNe, Nat.reduceBNe, Int.reduceAdd, Int.reduceSub, Int.reduceMul, Int.reduceNeg]
  refine AWp.gen [.pu, .pu, .rd, .pu, .pu, .pu, .ch, .pu, .pu, .ch] [0, 1, 3, 0, 0, 16, 56, 127, 255, 511] 7 (_) mixed (by kernel_rfl) (AH.le_refl _) ?_
  simp (dsimp := false) (maxSteps := 4000000) only [hl2, enc_len, enc_scal, lput_enc, take_enc, hn_b19, hr_b19, go_sem, ↓reduceIte, Nat.reduceEqDiff, Nat.reduceLT, Nat.reduceLeDiff, Nat.reduceAdd, Nat.reduceMul, Nat.reduceSub, reduceCtorEq, Int.reduceToNat, Int.reduceLT, Int.reduceLE, Int.reduceEq, Int.reduceNe, Int.reduceBEq, Nat.reduceBEq, Int.reduceBNe, Nat.reduceBNe, Int.reduceAdd, Int.reduceSub, Int.reduceMul, Int.reduceNeg]
  refine AWp.gen [.pu, .pu, .rd, .pu, .pu, .pu, .ch, .pu, .pu, .ch] [0, 1, 3, 0, 0, 16, 56, 127, 255, 511] 7 (_) mixed (by kernel_rfl) (AH.le_refl _) ?_
  simp (dsimp := false) (maxSteps := 4000000) only [hl2, enc_len, enc_scal, lput_enc, take_enc, hn_b19, hr_b19, go_sem, ↓reduceIte, Nat.reduceEqDiff, Nat.reduceLT, Nat.reduceLeDiff, Nat.reduceAdd, Nat.reduceMul, Nat.reduceSub, reduceCtorEq, Int.reduceToNat, Int.reduceLT, Int.reduceLE, Int.reduceEq, Int.reduceNe, Int.reduceBEq, Nat.reduceBEq, Int.reduceBNe, Nat.reduceBNe, Int.reduceAdd, Int.reduceSub, Int.reduceMul, Int.reduceNeg]
  refine AWp.gen [.pu, .pu, .rd, .pu, .pu, .pu, .ch, .pu, .pu, .ch] [0, 1, 3, 0, 0, 16, 56, 127, 255, 511] 7 (_) mixed (by kernel_rfl) (AH.le_refl _) ?_
  simp (dsimp := false) (maxSteps := 4000000) only [hl2, enc_len, enc_scal, lput_enc, take_enc, hn_b19, hr_b19, go_sem, ↓reduceIte, Nat.reduceEqDiff, Nat.reduceLT, Nat.reduceLeDiff, Nat.reduceAdd, Nat.reduceMul, Nat.reduceSub, reduceCtorEq, Int.reduceToNat, Int.reduceLT, Int.reduceLE, Int.reduceEq, Int.reduceNe, Int.reduceBEq, Nat.reduceBEq, Int.reduceBNe, Nat.reduceBNe, Int.reduceAdd, Int.reduceSub, Int.reduceMul, Int.reduceNeg]
  refine AWp.gen [.pu, .pu, .rd, .pu, .pu, .pu, .ch, .pu, .pu, .ch] [0, 1, 3, 0, 0, 16, 56, 127, 255, 511] 7 (_) mixed (by kernel_rfl) (AH.le_refl _) ?_
  simp (dsimp := false) (maxSteps := 4000000) only [hl2, enc_len, enc_scal, lput_enc, take_enc, hn_b19, hr_b19, go_sem, ↓reduceIte, Nat.reduceEqDiff, Nat.reduceLT, Nat.reduceLeDiff, Nat.reduceAdd, Nat.reduceMul, Nat.reduceSub, reduceCtorEq, Int.reduceToNat, Int.reduceLT, Int.reduceLE, Int.reduceEq, Int.reduceNe, Int.reduceBEq, Nat.reduceBEq, Int.reduceBNe, Nat.reduceBNe, Int.reduceAdd, Int.reduceSub, Int.reduceMul, Int.reduceNeg]
  have hop := fun H1 => Open_c (backR w tu) (backC w tu) H1
  refine (hop _).mono ?_; rintro _ _ ⟨rfl, rfl⟩
  have n19 : ¬ b19 = b12 := h_b19.ne_find f12
  unfold openV
  by_cases eb : chk (rl (backR w tu)) = backC w tu
  · rw [if_pos eb]
    obtain ⟨z, hz⟩ : ∃ z, backR w tu = z := ⟨_, rfl⟩
    rw [hz]
    have hw' : A.wrs b12 0 (enc z) = some (A.set b12 (.cells (enc z) 26 4)) := by simp [AH.wrs, f12, enc, lput, scal]
    have hfd : (A.set b12 (.cells (enc z) 26 4)).find b12 = some (.cells (enc z) 26 4) := by rw [find_set, if_pos rfl]
    have hr : (A.set b12 (.cells (enc z) 26 4)).row b12 0 4 = some (enc z) := row_find hfd (by simp [enc])
    simp (dsimp := false) (maxSteps := 4000000) only [n19, hw', hr, enc_len, enc_scal, lput_enc, take_enc, hn_b19, hr_b19, go_sem, ↓reduceIte, Nat.reduceEqDiff, Nat.reduceLT, Nat.reduceLeDiff, Nat.reduceAdd, Nat.reduceMul, Nat.reduceSub, reduceCtorEq, Int.reduceToNat, Int.reduceLT, Int.reduceLE, Int.reduceEq, Int.reduceNe, Int.reduceBEq, Nat.reduceBEq, Int.reduceBNe, Nat.reduceBNe, Int.reduceAdd, Int.reduceSub, Int.reduceMul, Int.reduceNeg]
    exact fin _ _ _ _ h_b19 (by rw [tryV, if_pos ha, hq, tryE, tryW, if_pos e0, if_pos e0, hw, if_pos eb, if_pos eb, hz])
  · rw [if_neg eb]
    obtain ⟨z, hz⟩ : ∃ z, zr = z := ⟨_, rfl⟩
    rw [hz]
    have hw' : A.wrs b12 0 (enc z) = some (A.set b12 (.cells (enc z) 26 4)) := by simp [AH.wrs, f12, enc, lput, scal]
    have hfd : (A.set b12 (.cells (enc z) 26 4)).find b12 = some (.cells (enc z) 26 4) := by rw [find_set, if_pos rfl]
    have hr : (A.set b12 (.cells (enc z) 26 4)).row b12 0 4 = some (enc z) := row_find hfd (by simp [enc])
    simp (dsimp := false) (maxSteps := 4000000) only [n19, hw', hr, enc_len, enc_scal, lput_enc, take_enc, hn_b19, hr_b19, go_sem, ↓reduceIte, Nat.reduceEqDiff, Nat.reduceLT, Nat.reduceLeDiff, Nat.reduceAdd, Nat.reduceMul, Nat.reduceSub, reduceCtorEq, Int.reduceToNat, Int.reduceLT, Int.reduceLE, Int.reduceEq, Int.reduceNe, Int.reduceBEq, Nat.reduceBEq, Int.reduceBNe, Nat.reduceBNe, Int.reduceAdd, Int.reduceSub, Int.reduceMul, Int.reduceNeg]
    exact fin _ _ _ _ h_b19 (by rw [tryV, if_pos ha, hq, tryE, tryW, if_pos e0, if_pos e0, hw, if_neg eb, if_neg eb, hz])
end Go.Proofs.YtamlipffhimfmaaGreatDoor.Srv

/- ifs: the fixed fact. -/
namespace Go.Proofs.YtamlipffhimfmaaGreatDoor.Ifs
set_option linter.unusedSimpArgs false
set_option linter.unusedVariables false
open Go Go.AX Go.Proofs Ty Go.Proofs.YtamlipffhimfmaaGreatDoor.File Go.Proofs.YtamlipffhimfmaaGreatDoor.Err
set_option maxHeartbeats 4000000
set_option maxRecDepth 10000

theorem RcOk.zr : RcOk zr := ⟨by decide, by decide, by decide, by decide⟩
end Go.Proofs.YtamlipffhimfmaaGreatDoor.Ifs

/- serve: the fixed fact. -/
namespace Go.Proofs.YtamlipffhimfmaaGreatDoor.Srv
set_option linter.unusedSimpArgs false
set_option linter.unusedVariables false
open Go Go.AX Go.Proofs Ty Go.Proofs.YtamlipffhimfmaaGreatDoor.File Go.Proofs.YtamlipffhimfmaaGreatDoor.Ifs Go.Proofs.YtamlipffhimfmaaGreatDoor.Err
set_option maxHeartbeats 4000000
set_option maxRecDepth 10000

theorem same_i (i j : Int) : Instr.sameNow (.int .i64) (.int .i64 i) (.int .i64 j) = some (decide (i = j)) := by
  simp only [Instr.sameNow, ite_true, Option.some.injEq]
  rw [Bool.eq_iff_iff]; simp
theorem Mp.one {H : AH} {bm : Nat} {k y : Int} (h : H.find bm = some (.amap [(.int .i64 k, .int .u8 y)])) : Mp H (.map (some bm)) (fun i => if i = k then y else 0) := by
  refine .inr ⟨bm, _, rfl, h, fun i => ?_⟩
  simp only [mlk, same_i]
  by_cases e : i = k
  · subst e
    exact .inr ⟨0, by simp⟩
  · exact .inl ⟨by simp [e], by simp [e]⟩
theorem Mp.nil {H : AH} : Mp H (.map none) (fun _ => 0) := .inl ⟨rfl, fun _ => rfl⟩
def F7 : Fl := (7, newR 7 1)
def Y1 : List Nf := addX [] 2 F7
def W12 : Rc := (1, 2, 0, 0)
def W3 : Rc := (3, 0, 0, 0)
def t0 : Int → Int := fun _ => 0
def t41 : Int → Int := fun i => if i = 4 then 1 else 0
def Y2 : List Nf := tryX 5 5 1 2 1 W12 t0 Y1
theorem yk1 : OkX Y1 := OkX.nil.add 2 F7 (by unfold RcOk; decide +kernel)
theorem yk2 : OkX Y2 := tryX_ok yk1
theorem va : askV 5 0 2 1 = .tuple #[.agg #[.int .u8 5, .int .u8 2, .int .u8 1, .int .u8 92], .int .i64 0] := by
  rw [askV, if_pos (by decide +kernel), show chk (askL 5 0 2 1) = 92 by decide +kernel]; rfl
theorem v1 : tryV 5 5 1 2 1 W12 t0 Y1 = .tuple #[.agg (enc W12).toArray, .int .i64 0] := by
  rw [tryV, if_pos (by decide +kernel), show tryW (tryQ 5 5 1 2 1 W12 t0) t0 Y1 = W12 by decide +kernel, show tryE (tryQ 5 5 1 2 1 W12 t0) t0 Y1 = 0 by decide +kernel]
theorem v2 : tryV 5 5 1 2 1 W3 t41 Y2 = .tuple #[.agg (enc zr).toArray, .int .i64 13] := by
  rw [tryV, if_pos (by decide +kernel), show tryW (tryQ 5 5 1 2 1 W3 t41) t41 Y2 = zr by decide +kernel, show tryE (tryQ 5 5 1 2 1 W3 t41) t41 Y2 = 13 by decide +kernel]
theorem v3 : tryV 5 6 0 2 1 zr t0 Y2 = .tuple #[.agg (enc zr).toArray, .int .i64 13] := by
  rw [tryV, if_pos (by decide +kernel), show tryW (tryQ 5 6 0 2 1 zr t0) t0 Y2 = zr by decide +kernel, show tryE (tryQ 5 6 0 2 1 zr t0) t0 Y2 = 13 by decide +kernel]
theorem x2 : tryX 5 5 1 2 1 W3 t41 Y2 = Y2 := by decide +kernel
theorem x3 : tryX 5 6 0 2 1 zr t0 Y2 = Y2 := by decide +kernel
theorem d1 : tryD 5 5 1 2 1 W12 t0 Y1 0 = 0 := by decide +kernel
theorem d2 : tryD 5 5 1 2 1 W3 t41 Y2 0 = 0 := by decide +kernel
theorem d3 : tryD 5 6 0 2 1 zr t0 Y2 0 = 0 := by decide +kernel
theorem gw : getW Y2 2 1 = some W12 := by decide +kernel
theorem awake_c (H : AH) (hE : ErrT H.w0) : ACalls Tryz.prog 14 #[] H (fun v H' => v = .bool true ∧ H = H') := by
  refine ACalls.enter2 Tryz.func14 rfl Tryz.ntmps14 Tryz.results14 (by simp) ?_; simp (dsimp := false) (maxSteps := 4000000) only [enc_len, enc_scal, lput_enc, take_enc, go_sem, ↓reduceIte, Nat.reduceEqDiff, Nat.reduceLT, Nat.reduceLeDiff, Nat.reduceAdd, Nat.reduceMul, Nat.reduceSub, reduceCtorEq, Int.reduceToNat, Int.reduceLT, Int.reduceLE, Int.reduceEq, Int.reduceNe, Int.reduceBEq, Nat.reduceBEq, Int.reduceBNe, Nat.reduceBNe, Int.reduceAdd, Int.reduceSub, Int.reduceMul, Int.reduceNeg]
  refine (New_c H).mono ?_
  rintro _ A0 ⟨b, ft0, rfl, hs0, hK0, hf0⟩
  simp (dsimp := false) (maxSteps := 4000000) only [enc_len, enc_scal, lput_enc, take_enc, go_sem, ↓reduceIte, Nat.reduceEqDiff, Nat.reduceLT, Nat.reduceLeDiff, Nat.reduceAdd, Nat.reduceMul, Nat.reduceSub, reduceCtorEq, Int.reduceToNat, Int.reduceLT, Int.reduceLE, Int.reduceEq, Int.reduceNe, Int.reduceBEq, Nat.reduceBEq, Int.reduceBNe, Nat.reduceBNe, Int.reduceAdd, Int.reduceSub, Int.reduceMul, Int.reduceNeg]
  refine (RefNew_c 7 1 (by unfold okNew; decide) _).mono ?_
  rintro _ A1 ⟨fb, fc, rfl, hO1, hK1⟩
  have hs1 := hs0.keep hK1 fun _ _ h => h
  unfold fv
  simp (dsimp := false) (maxSteps := 4000000) only [enc_len, enc_scal, lput_enc, take_enc, go_sem, ↓reduceIte, Nat.reduceEqDiff, Nat.reduceLT, Nat.reduceLeDiff, Nat.reduceAdd, Nat.reduceMul, Nat.reduceSub, reduceCtorEq, Int.reduceToNat, Int.reduceLT, Int.reduceLE, Int.reduceEq, Int.reduceNe, Int.reduceBEq, Nat.reduceBEq, Int.reduceBNe, Nat.reduceBNe, Int.reduceAdd, Int.reduceSub, Int.reduceMul, Int.reduceNeg]
  refine AllB.mk fun b2 h_b2 => ?_; have hn_b2 := h_b2; (try simp only [fresh_add, fresh_set, ne_eq] at hn_b2); have hr_b2 := hn_b2; (try simp only [@eq_comm Nat b2] at hr_b2); simp (dsimp := false) (maxSteps := 4000000) only [enc_len, enc_scal, lput_enc, take_enc, hn_b2, hr_b2, go_sem, ↓reduceIte, Nat.reduceEqDiff, Nat.reduceLT, Nat.reduceLeDiff, Nat.reduceAdd, Nat.reduceMul, Nat.reduceSub, reduceCtorEq, Int.reduceToNat, Int.reduceLT, Int.reduceLE, Int.reduceEq, Int.reduceNe, Int.reduceBEq, Nat.reduceBEq, Int.reduceBNe, Nat.reduceBNe, Int.reduceAdd, Int.reduceSub, Int.reduceMul, Int.reduceNeg]
  have hs2 := hs1.keep (Keep.add h_b2 (k := .cells [.int .i64 7, .slice fb 2 fc] 72 2) (ex := fun _ => False)) fun _ _ h => h
  have k2 : Keep H (A1.add b2 (.cells [.int .i64 7, .slice fb 2 fc] 72 2)) fun _ => False := (hK0.trans hK1).nw h_b2
  have hsl := hO1.slc.add h_b2 (k := .cells [.int .i64 7, .slice fb 2 fc] 72 2)
  refine (Add_c hs2 2 7 (newR 7 1) fb fc hsl).mono ?_
  rintro _ A3 ⟨ft3, rfl, hs3, hK3, hf3⟩
  have e3 : addE [] 2 (7, newR 7 1) = 0 := by decide +kernel
  change StAt A3 b Y1 0 ft3 at hs3
  rw [e3]
  have k3 : Keep H A3 fun _ => False := k2.ow hK3 hf0
  have g3 : ∀ x, ft3 x → Fresh H x := fun x hx => (hf3 x hx).elim (hf0 x) fun h => k2.fr h
  clear hK3 hf3 hsl hs2 hs1 hs0
  
  simp (dsimp := false) (maxSteps := 4000000) only [enc_len, enc_scal, lput_enc, take_enc, go_sem, ↓reduceIte, Nat.reduceEqDiff, Nat.reduceLT, Nat.reduceLeDiff, Nat.reduceAdd, Nat.reduceMul, Nat.reduceSub, reduceCtorEq, Int.reduceToNat, Int.reduceLT, Int.reduceLE, Int.reduceEq, Int.reduceNe, Int.reduceBEq, Nat.reduceBEq, Int.reduceBNe, Nat.reduceBNe, Int.reduceAdd, Int.reduceSub, Int.reduceMul, Int.reduceNeg]
  refine (Ask_c 5 0 2 1 _).mono ?_; rintro _ _ ⟨rfl, rfl⟩
  rw [va]
  simp (dsimp := false) (maxSteps := 4000000) only [enc_len, enc_scal, lput_enc, take_enc, go_sem, ↓reduceIte, Nat.reduceEqDiff, Nat.reduceLT, Nat.reduceLeDiff, Nat.reduceAdd, Nat.reduceMul, Nat.reduceSub, reduceCtorEq, Int.reduceToNat, Int.reduceLT, Int.reduceLE, Int.reduceEq, Int.reduceNe, Int.reduceBEq, Nat.reduceBEq, Int.reduceBNe, Nat.reduceBNe, Int.reduceAdd, Int.reduceSub, Int.reduceMul, Int.reduceNeg]
  refine AllB.mk fun b4 h_b4 => ?_; have hn_b4 := h_b4; (try simp only [fresh_add, fresh_set, ne_eq] at hn_b4); have hr_b4 := hn_b4; (try simp only [@eq_comm Nat b4] at hr_b4); simp (dsimp := false) (maxSteps := 4000000) only [enc_len, enc_scal, lput_enc, take_enc, hn_b4, hr_b4, go_sem, ↓reduceIte, Nat.reduceEqDiff, Nat.reduceLT, Nat.reduceLeDiff, Nat.reduceAdd, Nat.reduceMul, Nat.reduceSub, reduceCtorEq, Int.reduceToNat, Int.reduceLT, Int.reduceLE, Int.reduceEq, Int.reduceNe, Int.reduceBEq, Nat.reduceBEq, Int.reduceBNe, Nat.reduceBNe, Int.reduceAdd, Int.reduceSub, Int.reduceMul, Int.reduceNeg]
  obtain ⟨A4, hA4⟩ : ∃ A4, A3.add b4 (.cells [.int .u8 5, .int .u8 2, .int .u8 1, .int .u8 92] 25 4) = A4 := ⟨_, rfl⟩
  have k4 : Keep H A4 fun _ => False := hA4 ▸ k3.nw h_b4
  have hs4 : StAt A4 b Y1 0 ft3 := hA4 ▸ hs3.keep (Keep.add h_b4 (ex := fun _ => False)) fun _ _ h => h
  have n4 : ¬ ft3 b4 := hs3.fresh h_b4
  have f4 : A4.find b4 = some (.cells [.int .u8 5, .int .u8 2, .int .u8 1, .int .u8 92] 25 4) := by rw [← hA4, find_add_self]
  rw [hA4]
  clear hA4 hs3 h_b4 hn_b4 hr_b4
  
  refine (Try_c (by rw [k4.w0]; exact hE) hs4 yk1 5 5 1 2 1 W12 (.map none) t0 Mp.nil (fun _ h => by cases h)).mono ?_
  rintro _ A5 ⟨ft5, rfl, hs5, hK5, hf5⟩
  rw [d1] at hs5
  change StAt A5 b Y2 0 ft5 at hs5
  rw [v1]
  have k5 : Keep H A5 fun _ => False := k4.ow hK5 g3
  have g5 : ∀ x, ft5 x → Fresh H x := fun x hx => (hf5 x hx).elim (g3 x) fun h => k4.fr h
  have n5 : ¬ ft5 b4 := fun hx => (hf5 _ hx).elim n4 fun h => h.ne_find f4 rfl
  have f5 := hK5.find n4 f4
  clear hK5 hf5 hs4 f4 n4
  simp (dsimp := false) (maxSteps := 4000000) only [enc_len, enc_scal, lput_enc, take_enc, go_sem, ↓reduceIte, Nat.reduceEqDiff, Nat.reduceLT, Nat.reduceLeDiff, Nat.reduceAdd, Nat.reduceMul, Nat.reduceSub, reduceCtorEq, Int.reduceToNat, Int.reduceLT, Int.reduceLE, Int.reduceEq, Int.reduceNe, Int.reduceBEq, Nat.reduceBEq, Int.reduceBNe, Nat.reduceBNe, Int.reduceAdd, Int.reduceSub, Int.reduceMul, Int.reduceNeg]
  refine AllB.mk fun b6 h_b6 => ?_; have hn_b6 := h_b6; (try simp only [fresh_add, fresh_set, ne_eq] at hn_b6); have hr_b6 := hn_b6; (try simp only [@eq_comm Nat b6] at hr_b6); simp (dsimp := false) (maxSteps := 4000000) only [enc_len, enc_scal, lput_enc, take_enc, hn_b6, hr_b6, go_sem, ↓reduceIte, Nat.reduceEqDiff, Nat.reduceLT, Nat.reduceLeDiff, Nat.reduceAdd, Nat.reduceMul, Nat.reduceSub, reduceCtorEq, Int.reduceToNat, Int.reduceLT, Int.reduceLE, Int.reduceEq, Int.reduceNe, Int.reduceBEq, Nat.reduceBEq, Int.reduceBNe, Nat.reduceBNe, Int.reduceAdd, Int.reduceSub, Int.reduceMul, Int.reduceNeg]
  obtain ⟨A6, hA6⟩ : ∃ A6, A5.add b6 (.cells (enc W12) 26 4) = A6 := ⟨_, rfl⟩
  have k6 : Keep H A6 fun _ => False := hA6 ▸ k5.nw h_b6
  have hs6 : StAt A6 b Y2 0 ft5 := hA6 ▸ hs5.keep (Keep.add h_b6 (ex := fun _ => False)) fun _ _ h => h
  have f6 : A6.find b4 = some (.cells [.int .u8 5, .int .u8 2, .int .u8 1, .int .u8 92] 25 4) := by rw [← hA6, find_add, if_neg (fun e => h_b6.ne_find f5 e.symm)]; exact f5
  have w6 : A6.find b6 = some (.cells (enc W12) 26 4) := by rw [← hA6, find_add_self]
  have m6 : ¬ ft5 b6 := hs5.fresh h_b6
  rw [hA6]
  clear hA6 hs5 f5 h_b6 hn_b6 hr_b6
  
  refine AllB.mk fun bm h_bm => ?_; have hn_bm := h_bm; (try simp only [fresh_add, fresh_set, ne_eq] at hn_bm); have hr_bm := hn_bm; (try simp only [@eq_comm Nat bm] at hr_bm); simp (dsimp := false) (maxSteps := 4000000) only [enc_len, enc_scal, lput_enc, take_enc, hn_bm, hr_bm, go_sem, ↓reduceIte, Nat.reduceEqDiff, Nat.reduceLT, Nat.reduceLeDiff, Nat.reduceAdd, Nat.reduceMul, Nat.reduceSub, reduceCtorEq, Int.reduceToNat, Int.reduceLT, Int.reduceLE, Int.reduceEq, Int.reduceNe, Int.reduceBEq, Nat.reduceBEq, Int.reduceBNe, Nat.reduceBNe, Int.reduceAdd, Int.reduceSub, Int.reduceMul, Int.reduceNeg]
  obtain ⟨A7, hA7⟩ : ∃ A7, A6.add bm (.amap [(.int .i64 4, .int .u8 1)]) = A7 := ⟨_, rfl⟩
  have k7 : Keep H A7 fun _ => False := hA7 ▸ k6.nw h_bm
  have hs7 : StAt A7 b Y2 0 ft5 := hA7 ▸ hs6.keep (Keep.add h_bm (ex := fun _ => False)) fun _ _ h => h
  have kk7 : Keep A6 A7 fun _ => False := hA7 ▸ Keep.add h_bm
  have hM7 : Mp A7 (.map (some bm)) t41 := Mp.one (k := 4) (y := 1) (by rw [← hA7, find_add_self])
  have mm : ¬ ft5 bm := hs6.fresh h_bm
  have f7 := kk7.find (fun h => h) f6
  have w7 := kk7.find (fun h => h) w6
  rw [hA7]
  clear hA7 hs6 f6 w6 h_bm hn_bm hr_bm kk7
  
  refine (Try_c (by rw [k7.w0]; exact hE) hs7 yk2 5 5 1 2 1 W3 (.map (some bm)) t41 hM7 (fun _ h => by cases h; exact mm)).mono ?_
  rintro _ A8 ⟨ft8, rfl, hs8, hK8, hf8⟩
  rw [d2, x2] at hs8
  rw [v2]
  have k8 : Keep H A8 fun _ => False := k7.ow hK8 g5
  have g8 : ∀ x, ft8 x → Fresh H x := fun x hx => (hf8 x hx).elim (g5 x) fun h => k7.fr h
  have n8 : ¬ ft8 b4 := fun hx => (hf8 _ hx).elim n5 fun h => h.ne_find f7 rfl
  have m8 : ¬ ft8 b6 := fun hx => (hf8 _ hx).elim m6 fun h => h.ne_find w7 rfl
  have f8 := hK8.find n5 f7
  have w8 := hK8.find m6 w7
  clear hK8 hf8 hs7 f7 w7 n5 m6 hM7 mm
  simp (dsimp := false) (maxSteps := 4000000) only [enc_len, enc_scal, lput_enc, take_enc, go_sem, ↓reduceIte, Nat.reduceEqDiff, Nat.reduceLT, Nat.reduceLeDiff, Nat.reduceAdd, Nat.reduceMul, Nat.reduceSub, reduceCtorEq, Int.reduceToNat, Int.reduceLT, Int.reduceLE, Int.reduceEq, Int.reduceNe, Int.reduceBEq, Nat.reduceBEq, Int.reduceBNe, Nat.reduceBNe, Int.reduceAdd, Int.reduceSub, Int.reduceMul, Int.reduceNeg]
  refine AllB.mk fun b8 h_b8 => ?_; have hn_b8 := h_b8; (try simp only [fresh_add, fresh_set, ne_eq] at hn_b8); have hr_b8 := hn_b8; (try simp only [@eq_comm Nat b8] at hr_b8); simp (dsimp := false) (maxSteps := 4000000) only [enc_len, enc_scal, lput_enc, take_enc, hn_b8, hr_b8, go_sem, ↓reduceIte, Nat.reduceEqDiff, Nat.reduceLT, Nat.reduceLeDiff, Nat.reduceAdd, Nat.reduceMul, Nat.reduceSub, reduceCtorEq, Int.reduceToNat, Int.reduceLT, Int.reduceLE, Int.reduceEq, Int.reduceNe, Int.reduceBEq, Nat.reduceBEq, Int.reduceBNe, Nat.reduceBNe, Int.reduceAdd, Int.reduceSub, Int.reduceMul, Int.reduceNeg]
  have hs9 : StAt (A8.add b8 (.cells (enc zr) 26 4)) b Y2 0 ft8 := hs8.keep (Keep.add h_b8 (ex := fun _ => False)) fun _ _ h => h
  obtain ⟨A9, hA9⟩ : ∃ A9, A8.add b8 (.cells (enc zr) 26 4) = A9 := ⟨_, rfl⟩
  have kk9 : Keep A8 A9 fun _ => False := hA9 ▸ Keep.add h_b8
  have k9 : Keep H A9 fun _ => False := k8.trans kk9
  rw [hA9] at hs9 ⊢
  have f9 := kk9.find (fun h => h) f8
  have w9 := kk9.find (fun h => h) w8
  clear hA9 hs8 f8 w8 h_b8 hn_b8 hr_b8 kk9
  
  refine (Try_c (by rw [k9.w0]; exact hE) hs9 yk2 5 6 0 2 1 zr (.map none) t0 Mp.nil (fun _ h => by cases h)).mono ?_
  rintro _ A10 ⟨ft10, rfl, hs10, hK10, hf10⟩
  rw [d3, x3] at hs10
  rw [v3]
  have k10 : Keep H A10 fun _ => False := k9.ow hK10 g8
  have f10 := hK10.find n8 f9
  have w10 := hK10.find m8 w9
  clear hK10 hf10 hs9 f9 w9 n8 m8
  simp (dsimp := false) (maxSteps := 4000000) only [enc_len, enc_scal, lput_enc, take_enc, go_sem, ↓reduceIte, Nat.reduceEqDiff, Nat.reduceLT, Nat.reduceLeDiff, Nat.reduceAdd, Nat.reduceMul, Nat.reduceSub, reduceCtorEq, Int.reduceToNat, Int.reduceLT, Int.reduceLE, Int.reduceEq, Int.reduceNe, Int.reduceBEq, Nat.reduceBEq, Int.reduceBNe, Nat.reduceBNe, Int.reduceAdd, Int.reduceSub, Int.reduceMul, Int.reduceNeg]
  refine AllB.mk fun b10 h_b10 => ?_; have hn_b10 := h_b10; (try simp only [fresh_add, fresh_set, ne_eq] at hn_b10); have hr_b10 := hn_b10; (try simp only [@eq_comm Nat b10] at hr_b10); simp (dsimp := false) (maxSteps := 4000000) only [enc_len, enc_scal, lput_enc, take_enc, hn_b10, hr_b10, go_sem, ↓reduceIte, Nat.reduceEqDiff, Nat.reduceLT, Nat.reduceLeDiff, Nat.reduceAdd, Nat.reduceMul, Nat.reduceSub, reduceCtorEq, Int.reduceToNat, Int.reduceLT, Int.reduceLE, Int.reduceEq, Int.reduceNe, Int.reduceBEq, Nat.reduceBEq, Int.reduceBNe, Nat.reduceBNe, Int.reduceAdd, Int.reduceSub, Int.reduceMul, Int.reduceNeg]
  have hs11 : StAt (A10.add b10 (.cells (enc zr) 26 4)) b Y2 0 ft10 := hs10.keep (Keep.add h_b10 (ex := fun _ => False)) fun _ _ h => h
  refine (Get_c hs11 yk2 2 1).mono ?_; rintro _ _ ⟨rfl, rfl⟩
  rw [gw]
  unfold getV
  simp (dsimp := false) (maxSteps := 4000000) only [enc_len, enc_scal, lput_enc, take_enc, hn_b10, hr_b10, go_sem, ↓reduceIte, Nat.reduceEqDiff, Nat.reduceLT, Nat.reduceLeDiff, Nat.reduceAdd, Nat.reduceMul, Nat.reduceSub, reduceCtorEq, Int.reduceToNat, Int.reduceLT, Int.reduceLE, Int.reduceEq, Int.reduceNe, Int.reduceBEq, Nat.reduceBEq, Int.reduceBNe, Nat.reduceBNe, Int.reduceAdd, Int.reduceSub, Int.reduceMul, Int.reduceNeg]
  refine AllB.mk fun b12 h_b12 => ?_; have hn_b12 := h_b12; (try simp only [fresh_add, fresh_set, ne_eq] at hn_b12); have hr_b12 := hn_b12; (try simp only [@eq_comm Nat b12] at hr_b12); simp (dsimp := false) (maxSteps := 4000000) only [enc_len, enc_scal, lput_enc, take_enc, hn_b10, hr_b10, hn_b12, hr_b12, go_sem, ↓reduceIte, Nat.reduceEqDiff, Nat.reduceLT, Nat.reduceLeDiff, Nat.reduceAdd, Nat.reduceMul, Nat.reduceSub, reduceCtorEq, Int.reduceToNat, Int.reduceLT, Int.reduceLE, Int.reduceEq, Int.reduceNe, Int.reduceBEq, Nat.reduceBEq, Int.reduceBNe, Nat.reduceBNe, Int.reduceAdd, Int.reduceSub, Int.reduceMul, Int.reduceNeg]
  have e4 : b4 ≠ b10 := fun e => h_b10.ne_find f10 e.symm
  have e6 : b6 ≠ b10 := fun e => h_b10.ne_find w10 e.symm
  have g4 : b4 ≠ b12 := fun e => hn_b12.2.ne_find f10 e.symm
  have g6 : b6 ≠ b12 := fun e => hn_b12.2.ne_find w10 e.symm
  obtain ⟨A11, hA11⟩ : ∃ A11, (A10.add b10 (.cells (enc zr) 26 4)).add b12 (.cells (enc W12) 26 4) = A11 := ⟨_, rfl⟩
  have k11 : Keep H A11 fun _ => False := hA11 ▸ (k10.nw h_b10).nw h_b12
  have f11 : A11.find b4 = some (.cells [.int .u8 5, .int .u8 2, .int .u8 1, .int .u8 92] 25 4) := by rw [← hA11, find_add, if_neg g4, find_add, if_neg e4]; exact f10
  have w11 : A11.find b6 = some (.cells (enc W12) 26 4) := by rw [← hA11, find_add, if_neg g6, find_add, if_neg e6]; exact w10
  have u11 : A11.find b12 = some (.cells (enc W12) 26 4) := by rw [← hA11, find_add_self]
  rw [hA11]
  clear hA11 hs10 hs11 f10 w10 h_b10 hn_b10 hr_b10 h_b12 hn_b12 hr_b12 e4 e6 g4 g6
  
  have r4 : A11.row b4 0 4 = some [.int .u8 5, .int .u8 2, .int .u8 1, .int .u8 92] := row_find f11 (by simp)
  have r6 : A11.row b6 0 4 = some (enc W12) := row_find w11 (by simp [enc])
  have r12 : A11.row b12 0 4 = some (enc W12) := row_find u11 (by simp [enc])
  have eV : enc W12 = [.int .u8 1, .int .u8 2, .int .u8 0, .int .u8 0] := Eq.trans rfl rfl
  simp (dsimp := false) (maxSteps := 4000000) only [r4, r6, r12, eV, enc_len, enc_scal, lput_enc, take_enc, go_sem, ↓reduceIte, Nat.reduceEqDiff, Nat.reduceLT, Nat.reduceLeDiff, Nat.reduceAdd, Nat.reduceMul, Nat.reduceSub, reduceCtorEq, Int.reduceToNat, Int.reduceLT, Int.reduceLE, Int.reduceEq, Int.reduceNe, Int.reduceBEq, Nat.reduceBEq, Int.reduceBNe, Nat.reduceBNe, Int.reduceAdd, Int.reduceSub, Int.reduceMul, Int.reduceNeg]
  exact ⟨H, k11.all, rfl⟩
end Go.Proofs.YtamlipffhimfmaaGreatDoor.Srv

/- addr: the reference's Put and Take. -/
namespace Go.Proofs.YtamlipffhimfmaaGreatDoor
set_option linter.unusedSimpArgs false
set_option linter.unusedVariables false
open Go Go.AX Go.Proofs Ty
set_option maxHeartbeats 4000000
set_option maxRecDepth 10000

theorem RefPut_c (a b c : Int) (H : AH) : ACalls Tryz.prog 38 #[.agg #[.int .i64 a, .int .i64 b, .int .i64 c]] H (fun v H' => v = aputv a b c ∧ H = H') := by
  refine ACalls.enter2 Tryz.func38 rfl Tryz.ntmps38 Tryz.results38 (by simp) ?_; simp (dsimp := false) (maxSteps := 4000000) only [go_sem, ↓reduceIte, Nat.reduceEqDiff, Nat.reduceLT, Nat.reduceLeDiff, Nat.reduceAdd, Nat.reduceMul, Nat.reduceSub, reduceCtorEq, Int.reduceToNat, Int.reduceLT, Int.reduceLE, Int.reduceEq, Int.reduceNe, Int.reduceBEq, Nat.reduceBEq, Int.reduceBNe, Nat.reduceBNe, Int.reduceAdd, Int.reduceSub, Int.reduceMul, Int.reduceNeg]
  refine AllB.mk fun b1 h_b1 => ?_; have hn_b1 := h_b1; (try simp only [fresh_add, fresh_set, ne_eq] at hn_b1); have hr_b1 := hn_b1; (try simp only [@eq_comm Nat b1] at hr_b1); simp (dsimp := false) (maxSteps := 4000000) only [hn_b1, hr_b1, go_sem, ↓reduceIte, Nat.reduceEqDiff, Nat.reduceLT, Nat.reduceLeDiff, Nat.reduceAdd, Nat.reduceMul, Nat.reduceSub, reduceCtorEq, Int.reduceToNat, Int.reduceLT, Int.reduceLE, Int.reduceEq, Int.reduceNe, Int.reduceBEq, Nat.reduceBEq, Int.reduceBNe, Nat.reduceBNe, Int.reduceAdd, Int.reduceSub, Int.reduceMul, Int.reduceNeg]
  refine AllB.mk fun b2 h_b2 => ?_; have hn_b2 := h_b2; (try simp only [fresh_add, fresh_set, ne_eq] at hn_b2); have hr_b2 := hn_b2; (try simp only [@eq_comm Nat b2] at hr_b2); simp (dsimp := false) (maxSteps := 4000000) only [hn_b1, hr_b1, hn_b2, hr_b2, go_sem, ↓reduceIte, Nat.reduceEqDiff, Nat.reduceLT, Nat.reduceLeDiff, Nat.reduceAdd, Nat.reduceMul, Nat.reduceSub, reduceCtorEq, Int.reduceToNat, Int.reduceLT, Int.reduceLE, Int.reduceEq, Int.reduceNe, Int.reduceBEq, Nat.reduceBEq, Int.reduceBNe, Nat.reduceBNe, Int.reduceAdd, Int.reduceSub, Int.reduceMul, Int.reduceNeg]
  refine (RefGood_c a b c _).mono ?_; rintro _ _ ⟨rfl, rfl⟩
  cases hg : agood a b c
  · simp (dsimp := false) (maxSteps := 4000000) only [hn_b1, hr_b1, hn_b2, hr_b2, go_sem, ↓reduceIte, Nat.reduceEqDiff, Nat.reduceLT, Nat.reduceLeDiff, Nat.reduceAdd, Nat.reduceMul, Nat.reduceSub, reduceCtorEq, Int.reduceToNat, Int.reduceLT, Int.reduceLE, Int.reduceEq, Int.reduceNe, Int.reduceBEq, Nat.reduceBEq, Int.reduceBNe, Nat.reduceBNe, Int.reduceAdd, Int.reduceSub, Int.reduceMul, Int.reduceNeg]
    exact ⟨H, (AH.le_add (AH.le_add (AH.le_refl _) ((by simp only [fresh_add, fresh_set, ne_eq, hn_b1, not_false_eq_true, and_self] : Fresh _ b1).2)) ((by simp only [fresh_add, fresh_set, ne_eq, hn_b2, not_false_eq_true, and_self] : Fresh _ b2).2)), (by first | exact ⟨by simp [aputv, hg], rfl⟩ | rfl)⟩
  · simp (dsimp := false) (maxSteps := 4000000) only [hn_b1, hr_b1, hn_b2, hr_b2, go_sem, ↓reduceIte, Nat.reduceEqDiff, Nat.reduceLT, Nat.reduceLeDiff, Nat.reduceAdd, Nat.reduceMul, Nat.reduceSub, reduceCtorEq, Int.reduceToNat, Int.reduceLT, Int.reduceLE, Int.reduceEq, Int.reduceNe, Int.reduceBEq, Nat.reduceBEq, Int.reduceBNe, Nat.reduceBNe, Int.reduceAdd, Int.reduceSub, Int.reduceMul, Int.reduceNeg]
    refine ⟨H, (AH.le_add (AH.le_add (AH.le_refl _) ((by simp only [fresh_add, fresh_set, ne_eq, hn_b1, not_false_eq_true, and_self] : Fresh _ b1).2)) ((by simp only [fresh_add, fresh_set, ne_eq, hn_b2, not_false_eq_true, and_self] : Fresh _ b2).2)), ?_, rfl⟩
    simp only [aputv, hg, if_true]
    simp only [agood, decide_eq_true_eq] at hg
    have e1 : IntKind.i64.wrap (64 * a) = 64 * a := i64_eq (by omega) (by omega)
    rw [e1, i64_eq (by omega) (by omega), u8_eq (by omega) (by omega), u8_eq (by omega) (by omega)]
theorem RefTake_c (x y : Int) (hx : 0 ≤ x ∧ x < 256) (hy : 0 ≤ y ∧ y < 256) (H : AH) : ACalls Tryz.prog 45 #[.agg #[.int .u8 x, .int .u8 y]] H (fun v H' => v = atakev x y ∧ H = H') := by
  have e1 : IntKind.i64.wrap x = x := i64_eq (by omega) (by omega)
  have e2 : IntKind.i64.wrap (x.tdiv 64) = x / 64 := by rw [Int.tdiv_eq_ediv_of_nonneg hx.1]; exact i64_eq (by omega) (by omega)
  have e3 : x.tmod 64 = x % 64 := Int.tmod_eq_emod_of_nonneg hx.1
  have e4 : IntKind.i64.wrap y = y := i64_eq (by omega) (by omega)
  refine ACalls.enter2 Tryz.func45 rfl Tryz.ntmps45 Tryz.results45 (by simp) ?_; simp (dsimp := false) (maxSteps := 4000000) only [go_sem, ↓reduceIte, Nat.reduceEqDiff, Nat.reduceLT, Nat.reduceLeDiff, Nat.reduceAdd, Nat.reduceMul, Nat.reduceSub, reduceCtorEq, Int.reduceToNat, Int.reduceLT, Int.reduceLE, Int.reduceEq, Int.reduceNe, Int.reduceBEq, Nat.reduceBEq, Int.reduceBNe, Nat.reduceBNe, Int.reduceAdd, Int.reduceSub, Int.reduceMul, Int.reduceNeg]
  
  refine AllB.mk fun b1 h_b1 => ?_; have hn_b1 := h_b1; (try simp only [fresh_add, fresh_set, ne_eq] at hn_b1); have hr_b1 := hn_b1; (try simp only [@eq_comm Nat b1] at hr_b1); simp (dsimp := false) (maxSteps := 4000000) only [e1, e2, e3, e4, hn_b1, hr_b1, go_sem, ↓reduceIte, Nat.reduceEqDiff, Nat.reduceLT, Nat.reduceLeDiff, Nat.reduceAdd, Nat.reduceMul, Nat.reduceSub, reduceCtorEq, Int.reduceToNat, Int.reduceLT, Int.reduceLE, Int.reduceEq, Int.reduceNe, Int.reduceBEq, Nat.reduceBEq, Int.reduceBNe, Nat.reduceBNe, Int.reduceAdd, Int.reduceSub, Int.reduceMul, Int.reduceNeg]
  refine AllB.mk fun b2 h_b2 => ?_; have hn_b2 := h_b2; (try simp only [fresh_add, fresh_set, ne_eq] at hn_b2); have hr_b2 := hn_b2; (try simp only [@eq_comm Nat b2] at hr_b2); simp (dsimp := false) (maxSteps := 4000000) only [e1, e2, e3, e4, hn_b1, hr_b1, hn_b2, hr_b2, go_sem, ↓reduceIte, Nat.reduceEqDiff, Nat.reduceLT, Nat.reduceLeDiff, Nat.reduceAdd, Nat.reduceMul, Nat.reduceSub, reduceCtorEq, Int.reduceToNat, Int.reduceLT, Int.reduceLE, Int.reduceEq, Int.reduceNe, Int.reduceBEq, Nat.reduceBEq, Int.reduceBNe, Nat.reduceBNe, Int.reduceAdd, Int.reduceSub, Int.reduceMul, Int.reduceNeg]
  refine ⟨fun h => ?_, fun h => ?_⟩
  · simp (dsimp := false) (maxSteps := 4000000) only [e1, e2, e3, e4, hn_b1, hr_b1, hn_b2, hr_b2, go_sem, ↓reduceIte, Nat.reduceEqDiff, Nat.reduceLT, Nat.reduceLeDiff, Nat.reduceAdd, Nat.reduceMul, Nat.reduceSub, reduceCtorEq, Int.reduceToNat, Int.reduceLT, Int.reduceLE, Int.reduceEq, Int.reduceNe, Int.reduceBEq, Nat.reduceBEq, Int.reduceBNe, Nat.reduceBNe, Int.reduceAdd, Int.reduceSub, Int.reduceMul, Int.reduceNeg]
    exact ⟨H, (AH.le_add (AH.le_add (AH.le_refl _) ((by simp only [e1, e2, e3, e4, fresh_add, fresh_set, ne_eq, hn_b1, not_false_eq_true, and_self] : Fresh _ b1).2)) ((by simp only [e1, e2, e3, e4, fresh_add, fresh_set, ne_eq, hn_b2, not_false_eq_true, and_self] : Fresh _ b2).2)), (by first | exact ⟨by simp [atakev, show ¬ x < 192 from by omega], rfl⟩ | rfl)⟩
  · simp (dsimp := false) (maxSteps := 4000000) only [e1, e2, e3, e4, hn_b1, hr_b1, hn_b2, hr_b2, go_sem, ↓reduceIte, Nat.reduceEqDiff, Nat.reduceLT, Nat.reduceLeDiff, Nat.reduceAdd, Nat.reduceMul, Nat.reduceSub, reduceCtorEq, Int.reduceToNat, Int.reduceLT, Int.reduceLE, Int.reduceEq, Int.reduceNe, Int.reduceBEq, Nat.reduceBEq, Int.reduceBNe, Nat.reduceBNe, Int.reduceAdd, Int.reduceSub, Int.reduceMul, Int.reduceNeg]
    exact ⟨H, (AH.le_add (AH.le_add (AH.le_refl _) ((by simp only [e1, e2, e3, e4, fresh_add, fresh_set, ne_eq, hn_b1, not_false_eq_true, and_self] : Fresh _ b1).2)) ((by simp only [e1, e2, e3, e4, fresh_add, fresh_set, ne_eq, hn_b2, not_false_eq_true, and_self] : Fresh _ b2).2)), (by first | exact ⟨by simp [atakev, show x < 192 from by omega], rfl⟩ | rfl)⟩
end Go.Proofs.YtamlipffhimfmaaGreatDoor

/- serve: the reference's check, Ask, Data, Open. -/
namespace Go.Proofs.YtamlipffhimfmaaGreatDoor.Srv
set_option linter.unusedSimpArgs false
set_option linter.unusedVariables false
open Go Go.AX Go.Proofs Ty Go.Proofs.YtamlipffhimfmaaGreatDoor.File
set_option maxHeartbeats 4000000
set_option maxRecDepth 10000

theorem RefCheck_c (l : List Int) (base : Option Addr) (cap : Nat) (H : AH) (hs : SlcIn H 1 base cap (l.map enc1)) :
    ACalls Tryz.prog 39 #[.slice base l.length cap] H (fun v H' => v = .int .u8 (chk l) ∧ H = H') := by
  have hbig := hs.big
  simp only [List.length_map] at hbig
  refine ACalls.enter2 Tryz.func39 rfl Tryz.ntmps39 Tryz.results39 (by simp) ?_; simp (dsimp := false) (maxSteps := 4000000) only [go_sem, ↓reduceIte, Nat.reduceEqDiff, Nat.reduceLT, Nat.reduceLeDiff, Nat.reduceAdd, Nat.reduceMul, Nat.reduceSub, reduceCtorEq, Int.reduceToNat, Int.reduceLT, Int.reduceLE, Int.reduceEq, Int.reduceNe, Int.reduceBEq, Nat.reduceBEq, Int.reduceBNe, Nat.reduceBNe, Int.reduceAdd, Int.reduceSub, Int.reduceMul, Int.reduceNeg]
  refine AWp.loopo (ι := Nat) (fun i => i ≤ l.length) (fun i => [(4, .int .i64 i), (0, .slice base l.length cap), (3, .int .u8 (chk (l.take i)))]) (fun _ => H) (fun i => l.length - i) 0 (by omega) (FrLe.of_lks ?_) (AH.le_refl _) fun i hi Q again out => ?_
  · have e0 : chk [] = 90 := rfl
    simp (dsimp := false) (maxSteps := 4000000) only [List.take_zero, e0, go_sem, ↓reduceIte, Nat.reduceEqDiff, Nat.reduceLT, Nat.reduceLeDiff, Nat.reduceAdd, Nat.reduceMul, Nat.reduceSub, reduceCtorEq, Int.reduceToNat, Int.reduceLT, Int.reduceLE, Int.reduceEq, Int.reduceNe, Int.reduceBEq, Nat.reduceBEq, Int.reduceBNe, Nat.reduceBNe, Int.reduceAdd, Int.reduceSub, Int.reduceMul, Int.reduceNeg]
  by_cases hlt : (i : Int) < l.length
  · obtain ⟨x, hx⟩ := get_some (l := l) (i := i) (by omega)
    obtain ⟨b_, o, rfl, _, hrd⟩ := hs.get (Go.AX.map_get (f := enc1) hx)
    have rx := hrd 0 _ rfl
    simp only [Nat.add_zero, Nat.mul_one] at rx
    have ee := i64_succ (i := i) (by omega)
    have hi0 : (0 : Int) ≤ (i : Int) := by omega
    simp (dsimp := false) (maxSteps := 4000000) only [hlt, hi0, rx, ee, go_sem, ↓reduceIte, Nat.reduceEqDiff, Nat.reduceLT, Nat.reduceLeDiff, Nat.reduceAdd, Nat.reduceMul, Nat.reduceSub, reduceCtorEq, Int.reduceToNat, Int.reduceLT, Int.reduceLE, Int.reduceEq, Int.reduceNe, Int.reduceBEq, Nat.reduceBEq, Int.reduceBNe, Nat.reduceBNe, Int.reduceAdd, Int.reduceSub, Int.reduceMul, Int.reduceNeg]
    rw [← chk_take hx]
    exact again (i + 1) _ _ (by omega) (FrLe.of_lks (by simp (dsimp := false) (maxSteps := 4000000) only [go_sem, ↓reduceIte, Nat.reduceEqDiff, Nat.reduceLT, Nat.reduceLeDiff, Nat.reduceAdd, Nat.reduceMul, Nat.reduceSub, reduceCtorEq, Int.reduceToNat, Int.reduceLT, Int.reduceLE, Int.reduceEq, Int.reduceNe, Int.reduceBEq, Nat.reduceBEq, Int.reduceBNe, Nat.reduceBNe, Int.reduceAdd, Int.reduceSub, Int.reduceMul, Int.reduceNeg])) (AH.le_refl _) (by omega)
  · obtain rfl : i = l.length := by omega
    rw [List.take_length]
    simp (dsimp := false) (maxSteps := 4000000) only [hlt, go_sem, ↓reduceIte, Nat.reduceEqDiff, Nat.reduceLT, Nat.reduceLeDiff, Nat.reduceAdd, Nat.reduceMul, Nat.reduceSub, reduceCtorEq, Int.reduceToNat, Int.reduceLT, Int.reduceLE, Int.reduceEq, Int.reduceNe, Int.reduceBEq, Nat.reduceBEq, Int.reduceBNe, Nat.reduceBNe, Int.reduceAdd, Int.reduceSub, Int.reduceMul, Int.reduceNeg]
    refine out _ _ _ (by simp) ?_
    simp (dsimp := false) (maxSteps := 4000000) only [go_sem, ↓reduceIte, Nat.reduceEqDiff, Nat.reduceLT, Nat.reduceLeDiff, Nat.reduceAdd, Nat.reduceMul, Nat.reduceSub, reduceCtorEq, Int.reduceToNat, Int.reduceLT, Int.reduceLE, Int.reduceEq, Int.reduceNe, Int.reduceBEq, Nat.reduceBEq, Int.reduceBNe, Nat.reduceBNe, Int.reduceAdd, Int.reduceSub, Int.reduceMul, Int.reduceNeg]
    exact ⟨H, AH.le_refl _, rfl⟩
theorem RefData_c (r : Rc) (H : AH) : ACalls Tryz.prog 16 #[.agg (enc r).toArray] H (fun v H' => v = dataV r ∧ H = H') := by
  obtain ⟨r0, r1, r2, r3⟩ := r
  have hck := fun H1 b (h : SlcIn H1 1 (some ⟨b, 0, none⟩) 4 ([r0, r1, r2, r3].map enc1)) => RefCheck_c [r0, r1, r2, r3] (some ⟨b, 0, none⟩) 4 H1 h
  dsimp only [enc]
  refine ACalls.enter2 Tryz.func16 rfl Tryz.ntmps16 Tryz.results16 (by simp) ?_; simp (dsimp := false) (maxSteps := 4000000) only [go_sem, ↓reduceIte, Nat.reduceEqDiff, Nat.reduceLT, Nat.reduceLeDiff, Nat.reduceAdd, Nat.reduceMul, Nat.reduceSub, reduceCtorEq, Int.reduceToNat, Int.reduceLT, Int.reduceLE, Int.reduceEq, Int.reduceNe, Int.reduceBEq, Nat.reduceBEq, Int.reduceBNe, Nat.reduceBNe, Int.reduceAdd, Int.reduceSub, Int.reduceMul, Int.reduceNeg]
  refine AllB.mk fun b1 h_b1 => ?_; have hn_b1 := h_b1; (try simp only [fresh_add, fresh_set, ne_eq] at hn_b1); have hr_b1 := hn_b1; (try simp only [@eq_comm Nat b1] at hr_b1); simp (dsimp := false) (maxSteps := 4000000) only [hn_b1, hr_b1, go_sem, ↓reduceIte, Nat.reduceEqDiff, Nat.reduceLT, Nat.reduceLeDiff, Nat.reduceAdd, Nat.reduceMul, Nat.reduceSub, reduceCtorEq, Int.reduceToNat, Int.reduceLT, Int.reduceLE, Int.reduceEq, Int.reduceNe, Int.reduceBEq, Nat.reduceBEq, Int.reduceBNe, Nat.reduceBNe, Int.reduceAdd, Int.reduceSub, Int.reduceMul, Int.reduceNeg]
  refine AllB.mk fun b2 h_b2 => ?_; have hn_b2 := h_b2; (try simp only [fresh_add, fresh_set, ne_eq] at hn_b2); have hr_b2 := hn_b2; (try simp only [@eq_comm Nat b2] at hr_b2); simp (dsimp := false) (maxSteps := 4000000) only [hn_b1, hr_b1, hn_b2, hr_b2, go_sem, ↓reduceIte, Nat.reduceEqDiff, Nat.reduceLT, Nat.reduceLeDiff, Nat.reduceAdd, Nat.reduceMul, Nat.reduceSub, reduceCtorEq, Int.reduceToNat, Int.reduceLT, Int.reduceLE, Int.reduceEq, Int.reduceNe, Int.reduceBEq, Nat.reduceBEq, Int.reduceBNe, Nat.reduceBNe, Int.reduceAdd, Int.reduceSub, Int.reduceMul, Int.reduceNeg]
  refine AWp.gen [.pu, .rd, .pu, .rd, .pu, .rd, .pu, .rd, .pu, .rd, .pu, .rd, .pu, .rd, .pu, .rd, .al, .ch, .pu, .ch] [0, 1, 0, 4, 0, 16, 0, 64, 0, 256, 0, 1024, 0, 4096, 0, 16384, 65280, 130816, 262143, 524287] 18 (_) mixed (by kernel_rfl) (AH.le_refl _) ?_
  simp (dsimp := false) (maxSteps := 4000000) only [hn_b1, hr_b1, hn_b2, hr_b2, go_sem, ↓reduceIte, Nat.reduceEqDiff, Nat.reduceLT, Nat.reduceLeDiff, Nat.reduceAdd, Nat.reduceMul, Nat.reduceSub, reduceCtorEq, Int.reduceToNat, Int.reduceLT, Int.reduceLE, Int.reduceEq, Int.reduceNe, Int.reduceBEq, Nat.reduceBEq, Int.reduceBNe, Nat.reduceBNe, Int.reduceAdd, Int.reduceSub, Int.reduceMul, Int.reduceNeg]
  refine AllB.mk fun b3 h_b3 => ?_; have hn_b3 := h_b3; (try simp only [fresh_add, fresh_set, ne_eq] at hn_b3); have hr_b3 := hn_b3; (try simp only [@eq_comm Nat b3] at hr_b3); simp (dsimp := false) (maxSteps := 4000000) only [hn_b1, hr_b1, hn_b2, hr_b2, hn_b3, hr_b3, go_sem, ↓reduceIte, Nat.reduceEqDiff, Nat.reduceLT, Nat.reduceLeDiff, Nat.reduceAdd, Nat.reduceMul, Nat.reduceSub, reduceCtorEq, Int.reduceToNat, Int.reduceLT, Int.reduceLE, Int.reduceEq, Int.reduceNe, Int.reduceBEq, Nat.reduceBEq, Int.reduceBNe, Nat.reduceBNe, Int.reduceAdd, Int.reduceSub, Int.reduceMul, Int.reduceNeg]
  refine ACalls.mono (hck _ b3 (row1 (k := [r0, r1, r2, r3]) (cs := [.int .u8 r0, .int .u8 r1, .int .u8 r2, .int .u8 r3]) (e := 5) (m := 4) (by (show AH.find _ _ = _; simp only [find_add_self, find_add_ne, find_fresh, fresh_add, fresh_set, ne_eq, not_false_eq_true, true_and, and_true, and_self, hn_b1, hr_b1, hn_b2, hr_b2, hn_b3, hr_b3])) rfl rfl (by simp) 4 (by simp))) ?_; rintro _ _ ⟨rfl, rfl⟩
  simp (dsimp := false) (maxSteps := 4000000) only [hn_b1, hr_b1, hn_b2, hr_b2, hn_b3, hr_b3, go_sem, ↓reduceIte, Nat.reduceEqDiff, Nat.reduceLT, Nat.reduceLeDiff, Nat.reduceAdd, Nat.reduceMul, Nat.reduceSub, reduceCtorEq, Int.reduceToNat, Int.reduceLT, Int.reduceLE, Int.reduceEq, Int.reduceNe, Int.reduceBEq, Nat.reduceBEq, Int.reduceBNe, Nat.reduceBNe, Int.reduceAdd, Int.reduceSub, Int.reduceMul, Int.reduceNeg]
  refine ⟨AH.le_add (AH.le_refl _) h_b3.2, ?_⟩
  exact ⟨H, (AH.le_add (AH.le_add (AH.le_add (AH.le_refl _) ((by simp only [fresh_add, fresh_set, ne_eq, hn_b1, not_false_eq_true, and_self] : Fresh _ b1).2)) ((by simp only [fresh_add, fresh_set, ne_eq, hn_b2, not_false_eq_true, and_self] : Fresh _ b2).2)) ((by simp only [fresh_add, fresh_set, ne_eq, hn_b3, not_false_eq_true, and_self] : Fresh _ b3).2)), (by first | exact ⟨rfl, rfl⟩ | rfl)⟩
theorem RefOpen_c (r : Rc) (x : Int) (H : AH) : ACalls Tryz.prog 10 #[.agg #[.int .u8 r.1, .int .u8 r.2.1, .int .u8 r.2.2.1, .int .u8 r.2.2.2, .int .u8 x]] H (fun v H' => v = openV r x ∧ H = H') := by
  have hd := fun H1 => RefData_c r H1
  obtain ⟨r0, r1, r2, r3⟩ := r
  unfold dataV at hd
  dsimp only [enc] at hd ⊢
  refine ACalls.enter2 Tryz.func10 rfl Tryz.ntmps10 Tryz.results10 (by simp) ?_; simp (dsimp := false) (maxSteps := 4000000) only [go_sem, ↓reduceIte, Nat.reduceEqDiff, Nat.reduceLT, Nat.reduceLeDiff, Nat.reduceAdd, Nat.reduceMul, Nat.reduceSub, reduceCtorEq, Int.reduceToNat, Int.reduceLT, Int.reduceLE, Int.reduceEq, Int.reduceNe, Int.reduceBEq, Nat.reduceBEq, Int.reduceBNe, Nat.reduceBNe, Int.reduceAdd, Int.reduceSub, Int.reduceMul, Int.reduceNeg]
  refine AllB.mk fun b1 h_b1 => ?_; have hn_b1 := h_b1; (try simp only [fresh_add, fresh_set, ne_eq] at hn_b1); have hr_b1 := hn_b1; (try simp only [@eq_comm Nat b1] at hr_b1); simp (dsimp := false) (maxSteps := 4000000) only [hn_b1, hr_b1, go_sem, ↓reduceIte, Nat.reduceEqDiff, Nat.reduceLT, Nat.reduceLeDiff, Nat.reduceAdd, Nat.reduceMul, Nat.reduceSub, reduceCtorEq, Int.reduceToNat, Int.reduceLT, Int.reduceLE, Int.reduceEq, Int.reduceNe, Int.reduceBEq, Nat.reduceBEq, Int.reduceBNe, Nat.reduceBNe, Int.reduceAdd, Int.reduceSub, Int.reduceMul, Int.reduceNeg]
  refine AllB.mk fun b2 h_b2 => ?_; have hn_b2 := h_b2; (try simp only [fresh_add, fresh_set, ne_eq] at hn_b2); have hr_b2 := hn_b2; (try simp only [@eq_comm Nat b2] at hr_b2); simp (dsimp := false) (maxSteps := 4000000) only [hn_b1, hr_b1, hn_b2, hr_b2, go_sem, ↓reduceIte, Nat.reduceEqDiff, Nat.reduceLT, Nat.reduceLeDiff, Nat.reduceAdd, Nat.reduceMul, Nat.reduceSub, reduceCtorEq, Int.reduceToNat, Int.reduceLT, Int.reduceLE, Int.reduceEq, Int.reduceNe, Int.reduceBEq, Nat.reduceBEq, Int.reduceBNe, Nat.reduceBNe, Int.reduceAdd, Int.reduceSub, Int.reduceMul, Int.reduceNeg]
  refine AllB.mk fun b4 h_b4 => ?_; have hn_b4 := h_b4; (try simp only [fresh_add, fresh_set, ne_eq] at hn_b4); have hr_b4 := hn_b4; (try simp only [@eq_comm Nat b4] at hr_b4); simp (dsimp := false) (maxSteps := 4000000) only [hn_b1, hr_b1, hn_b2, hr_b2, hn_b4, hr_b4, go_sem, ↓reduceIte, Nat.reduceEqDiff, Nat.reduceLT, Nat.reduceLeDiff, Nat.reduceAdd, Nat.reduceMul, Nat.reduceSub, reduceCtorEq, Int.reduceToNat, Int.reduceLT, Int.reduceLE, Int.reduceEq, Int.reduceNe, Int.reduceBEq, Nat.reduceBEq, Int.reduceBNe, Nat.reduceBNe, Int.reduceAdd, Int.reduceSub, Int.reduceMul, Int.reduceNeg]
  refine AWp.gen [.rd, .ch, .pu, .pu, .rd, .pu] [0, 1, 3, 0, 8, 31] 2 (_) mixed (by kernel_rfl) (AH.le_refl _) ?_
  simp (dsimp := false) (maxSteps := 4000000) only [hn_b1, hr_b1, hn_b2, hr_b2, hn_b4, hr_b4, go_sem, ↓reduceIte, Nat.reduceEqDiff, Nat.reduceLT, Nat.reduceLeDiff, Nat.reduceAdd, Nat.reduceMul, Nat.reduceSub, reduceCtorEq, Int.reduceToNat, Int.reduceLT, Int.reduceLE, Int.reduceEq, Int.reduceNe, Int.reduceBEq, Nat.reduceBEq, Int.reduceBNe, Nat.reduceBNe, Int.reduceAdd, Int.reduceSub, Int.reduceMul, Int.reduceNeg]
  refine (hd _).mono ?_; rintro _ _ ⟨rfl, rfl⟩
  simp (dsimp := false) (maxSteps := 4000000) only [hn_b1, hr_b1, hn_b2, hr_b2, hn_b4, hr_b4, go_sem, ↓reduceIte, Nat.reduceEqDiff, Nat.reduceLT, Nat.reduceLeDiff, Nat.reduceAdd, Nat.reduceMul, Nat.reduceSub, reduceCtorEq, Int.reduceToNat, Int.reduceLT, Int.reduceLE, Int.reduceEq, Int.reduceNe, Int.reduceBEq, Nat.reduceBEq, Int.reduceBNe, Nat.reduceBNe, Int.reduceAdd, Int.reduceSub, Int.reduceMul, Int.reduceNeg]
  by_cases h : chk (rl (r0, r1, r2, r3)) = x
  · simp (dsimp := false) (maxSteps := 4000000) only [h, hn_b1, hr_b1, hn_b2, hr_b2, hn_b4, hr_b4, go_sem, ↓reduceIte, Nat.reduceEqDiff, Nat.reduceLT, Nat.reduceLeDiff, Nat.reduceAdd, Nat.reduceMul, Nat.reduceSub, reduceCtorEq, Int.reduceToNat, Int.reduceLT, Int.reduceLE, Int.reduceEq, Int.reduceNe, Int.reduceBEq, Nat.reduceBEq, Int.reduceBNe, Nat.reduceBNe, Int.reduceAdd, Int.reduceSub, Int.reduceMul, Int.reduceNeg]
    exact ⟨H, (AH.le_add (AH.le_add (AH.le_add (AH.le_refl _) ((by simp only [fresh_add, fresh_set, ne_eq, hn_b1, not_false_eq_true, and_self] : Fresh _ b1).2)) ((by simp only [fresh_add, fresh_set, ne_eq, hn_b2, not_false_eq_true, and_self] : Fresh _ b2).2)) ((by simp only [fresh_add, fresh_set, ne_eq, hn_b4, not_false_eq_true, and_self] : Fresh _ b4).2)), by rw [openV, if_pos h]; rfl, rfl⟩
  · simp (dsimp := false) (maxSteps := 4000000) only [h, hn_b1, hr_b1, hn_b2, hr_b2, hn_b4, hr_b4, go_sem, ↓reduceIte, Nat.reduceEqDiff, Nat.reduceLT, Nat.reduceLeDiff, Nat.reduceAdd, Nat.reduceMul, Nat.reduceSub, reduceCtorEq, Int.reduceToNat, Int.reduceLT, Int.reduceLE, Int.reduceEq, Int.reduceNe, Int.reduceBEq, Nat.reduceBEq, Int.reduceBNe, Nat.reduceBNe, Int.reduceAdd, Int.reduceSub, Int.reduceMul, Int.reduceNeg]
    exact ⟨H, (AH.le_add (AH.le_add (AH.le_add (AH.le_refl _) ((by simp only [fresh_add, fresh_set, ne_eq, hn_b1, not_false_eq_true, and_self] : Fresh _ b1).2)) ((by simp only [fresh_add, fresh_set, ne_eq, hn_b2, not_false_eq_true, and_self] : Fresh _ b2).2)) ((by simp only [fresh_add, fresh_set, ne_eq, hn_b4, not_false_eq_true, and_self] : Fresh _ b4).2)), by rw [openV, if_neg h]; rfl, rfl⟩
theorem RefAsk_c (n a b c : Int) (H : AH) : ACalls Tryz.prog 8 #[.int .i64 n, .agg #[.int .i64 a, .int .i64 b, .int .i64 c]] H (fun v H' => v = askV n a b c ∧ H = H') := by
  have hck := fun H1 q (h : SlcIn H1 1 (some ⟨q, 0, none⟩) 3 ((askL n a b c).map enc1)) => RefCheck_c (askL n a b c) (some ⟨q, 0, none⟩) 3 H1 h
  refine ACalls.enter2 Tryz.func8 rfl Tryz.ntmps8 Tryz.results8 (by simp) ?_; simp (dsimp := false) (maxSteps := 4000000) only [go_sem, ↓reduceIte, Nat.reduceEqDiff, Nat.reduceLT, Nat.reduceLeDiff, Nat.reduceAdd, Nat.reduceMul, Nat.reduceSub, reduceCtorEq, Int.reduceToNat, Int.reduceLT, Int.reduceLE, Int.reduceEq, Int.reduceNe, Int.reduceBEq, Nat.reduceBEq, Int.reduceBNe, Nat.reduceBNe, Int.reduceAdd, Int.reduceSub, Int.reduceMul, Int.reduceNeg]
  refine AllB.mk fun b3 h_b3 => ?_; have hn_b3 := h_b3; (try simp only [fresh_add, fresh_set, ne_eq] at hn_b3); have hr_b3 := hn_b3; (try simp only [@eq_comm Nat b3] at hr_b3); simp (dsimp := false) (maxSteps := 4000000) only [hn_b3, hr_b3, go_sem, ↓reduceIte, Nat.reduceEqDiff, Nat.reduceLT, Nat.reduceLeDiff, Nat.reduceAdd, Nat.reduceMul, Nat.reduceSub, reduceCtorEq, Int.reduceToNat, Int.reduceLT, Int.reduceLE, Int.reduceEq, Int.reduceNe, Int.reduceBEq, Nat.reduceBEq, Int.reduceBNe, Nat.reduceBNe, Int.reduceAdd, Int.reduceSub, Int.reduceMul, Int.reduceNeg]
  refine AllB.mk fun b4 h_b4 => ?_; have hn_b4 := h_b4; (try simp only [fresh_add, fresh_set, ne_eq] at hn_b4); have hr_b4 := hn_b4; (try simp only [@eq_comm Nat b4] at hr_b4); simp (dsimp := false) (maxSteps := 4000000) only [hn_b3, hr_b3, hn_b4, hr_b4, go_sem, ↓reduceIte, Nat.reduceEqDiff, Nat.reduceLT, Nat.reduceLeDiff, Nat.reduceAdd, Nat.reduceMul, Nat.reduceSub, reduceCtorEq, Int.reduceToNat, Int.reduceLT, Int.reduceLE, Int.reduceEq, Int.reduceNe, Int.reduceBEq, Nat.reduceBEq, Int.reduceBNe, Nat.reduceBNe, Int.reduceAdd, Int.reduceSub, Int.reduceMul, Int.reduceNeg]
  by_cases h1 : n < 1
  · simp (dsimp := false) (maxSteps := 4000000) only [h1, hn_b3, hr_b3, hn_b4, hr_b4, go_sem, ↓reduceIte, Nat.reduceEqDiff, Nat.reduceLT, Nat.reduceLeDiff, Nat.reduceAdd, Nat.reduceMul, Nat.reduceSub, reduceCtorEq, Int.reduceToNat, Int.reduceLT, Int.reduceLE, Int.reduceEq, Int.reduceNe, Int.reduceBEq, Nat.reduceBEq, Int.reduceBNe, Nat.reduceBNe, Int.reduceAdd, Int.reduceSub, Int.reduceMul, Int.reduceNeg]
    exact ⟨H, (AH.le_add (AH.le_add (AH.le_refl _) ((by simp only [fresh_add, fresh_set, ne_eq, hn_b3, not_false_eq_true, and_self] : Fresh _ b3).2)) ((by simp only [fresh_add, fresh_set, ne_eq, hn_b4, not_false_eq_true, and_self] : Fresh _ b4).2)), by rw [askV, if_neg (fun h => by have := h.1; omega)], rfl⟩
  by_cases h2 : 254 < n
  · simp (dsimp := false) (maxSteps := 4000000) only [h1, h2, hn_b3, hr_b3, hn_b4, hr_b4, go_sem, ↓reduceIte, Nat.reduceEqDiff, Nat.reduceLT, Nat.reduceLeDiff, Nat.reduceAdd, Nat.reduceMul, Nat.reduceSub, reduceCtorEq, Int.reduceToNat, Int.reduceLT, Int.reduceLE, Int.reduceEq, Int.reduceNe, Int.reduceBEq, Nat.reduceBEq, Int.reduceBNe, Nat.reduceBNe, Int.reduceAdd, Int.reduceSub, Int.reduceMul, Int.reduceNeg]
    exact ⟨H, (AH.le_add (AH.le_add (AH.le_refl _) ((by simp only [fresh_add, fresh_set, ne_eq, hn_b3, not_false_eq_true, and_self] : Fresh _ b3).2)) ((by simp only [fresh_add, fresh_set, ne_eq, hn_b4, not_false_eq_true, and_self] : Fresh _ b4).2)), by rw [askV, if_neg (fun h => by have := h.2.1; omega)], rfl⟩
  simp (dsimp := false) (maxSteps := 4000000) only [h1, h2, hn_b3, hr_b3, hn_b4, hr_b4, go_sem, ↓reduceIte, Nat.reduceEqDiff, Nat.reduceLT, Nat.reduceLeDiff, Nat.reduceAdd, Nat.reduceMul, Nat.reduceSub, reduceCtorEq, Int.reduceToNat, Int.reduceLT, Int.reduceLE, Int.reduceEq, Int.reduceNe, Int.reduceBEq, Nat.reduceBEq, Int.reduceBNe, Nat.reduceBNe, Int.reduceAdd, Int.reduceSub, Int.reduceMul, Int.reduceNeg]
  refine (Go.Proofs.YtamlipffhimfmaaGreatDoor.RefGood_c a b c _).mono ?_; rintro _ _ ⟨rfl, rfl⟩
  by_cases hg : agood a b c = true
  case' neg =>
    rw [Bool.not_eq_true] at hg
    rw [hg]
    
    simp (dsimp := false) (maxSteps := 4000000) only [hn_b3, hr_b3, hn_b4, hr_b4, go_sem, ↓reduceIte, Nat.reduceEqDiff, Nat.reduceLT, Nat.reduceLeDiff, Nat.reduceAdd, Nat.reduceMul, Nat.reduceSub, reduceCtorEq, Int.reduceToNat, Int.reduceLT, Int.reduceLE, Int.reduceEq, Int.reduceNe, Int.reduceBEq, Nat.reduceBEq, Int.reduceBNe, Nat.reduceBNe, Int.reduceAdd, Int.reduceSub, Int.reduceMul, Int.reduceNeg]
    exact ⟨H, (AH.le_add (AH.le_add (AH.le_refl _) ((by simp only [fresh_add, fresh_set, ne_eq, hn_b3, not_false_eq_true, and_self] : Fresh _ b3).2)) ((by simp only [fresh_add, fresh_set, ne_eq, hn_b4, not_false_eq_true, and_self] : Fresh _ b4).2)), by rw [askV, if_neg (fun h => by rw [h.2.2] at hg; cases hg)], rfl⟩
    
  rw [hg]
  simp (dsimp := false) (maxSteps := 4000000) only [hn_b3, hr_b3, hn_b4, hr_b4, go_sem, ↓reduceIte, Nat.reduceEqDiff, Nat.reduceLT, Nat.reduceLeDiff, Nat.reduceAdd, Nat.reduceMul, Nat.reduceSub, reduceCtorEq, Int.reduceToNat, Int.reduceLT, Int.reduceLE, Int.reduceEq, Int.reduceNe, Int.reduceBEq, Nat.reduceBEq, Int.reduceBNe, Nat.reduceBNe, Int.reduceAdd, Int.reduceSub, Int.reduceMul, Int.reduceNeg]
  refine (Go.Proofs.YtamlipffhimfmaaGreatDoor.RefPut_c a b c _).mono ?_; rintro _ _ ⟨rfl, rfl⟩
  unfold aputv
  rw [if_pos hg]
  simp (dsimp := false) (maxSteps := 4000000) only [hn_b3, hr_b3, hn_b4, hr_b4, go_sem, ↓reduceIte, Nat.reduceEqDiff, Nat.reduceLT, Nat.reduceLeDiff, Nat.reduceAdd, Nat.reduceMul, Nat.reduceSub, reduceCtorEq, Int.reduceToNat, Int.reduceLT, Int.reduceLE, Int.reduceEq, Int.reduceNe, Int.reduceBEq, Nat.reduceBEq, Int.reduceBNe, Nat.reduceBNe, Int.reduceAdd, Int.reduceSub, Int.reduceMul, Int.reduceNeg]
  refine AllB.mk fun b6 h_b6 => ?_; have hn_b6 := h_b6; (try simp only [fresh_add, fresh_set, ne_eq] at hn_b6); have hr_b6 := hn_b6; (try simp only [@eq_comm Nat b6] at hr_b6); simp (dsimp := false) (maxSteps := 4000000) only [hn_b3, hr_b3, hn_b4, hr_b4, hn_b6, hr_b6, go_sem, ↓reduceIte, Nat.reduceEqDiff, Nat.reduceLT, Nat.reduceLeDiff, Nat.reduceAdd, Nat.reduceMul, Nat.reduceSub, reduceCtorEq, Int.reduceToNat, Int.reduceLT, Int.reduceLE, Int.reduceEq, Int.reduceNe, Int.reduceBEq, Nat.reduceBEq, Int.reduceBNe, Nat.reduceBNe, Int.reduceAdd, Int.reduceSub, Int.reduceMul, Int.reduceNeg]
  have en : IntKind.u8.wrap n = n := u8_eq (by omega) (by omega)
  refine AWp.gen [.pu, .pu, .pu, .rd, .pu, .rd, .pu, .pu, .pu, .rd, .pu, .rd, .al, .ch, .pu, .ch, .pu] [0, 1, 0, 4, 0, 16, 0, 64, 0, 256, 0, 1024, 4032, 8128, 16383, 32767, 65535] 14 (_) mixed (by kernel_rfl) (AH.le_refl _) ?_
  simp (dsimp := false) (maxSteps := 4000000) only [en, hn_b3, hr_b3, hn_b4, hr_b4, hn_b6, hr_b6, go_sem, ↓reduceIte, Nat.reduceEqDiff, Nat.reduceLT, Nat.reduceLeDiff, Nat.reduceAdd, Nat.reduceMul, Nat.reduceSub, reduceCtorEq, Int.reduceToNat, Int.reduceLT, Int.reduceLE, Int.reduceEq, Int.reduceNe, Int.reduceBEq, Nat.reduceBEq, Int.reduceBNe, Nat.reduceBNe, Int.reduceAdd, Int.reduceSub, Int.reduceMul, Int.reduceNeg]
  refine AllB.mk fun b8 h_b8 => ?_; have hn_b8 := h_b8; (try simp only [fresh_add, fresh_set, ne_eq] at hn_b8); have hr_b8 := hn_b8; (try simp only [@eq_comm Nat b8] at hr_b8); simp (dsimp := false) (maxSteps := 4000000) only [hn_b3, hr_b3, hn_b4, hr_b4, hn_b6, hr_b6, hn_b8, hr_b8, go_sem, ↓reduceIte, Nat.reduceEqDiff, Nat.reduceLT, Nat.reduceLeDiff, Nat.reduceAdd, Nat.reduceMul, Nat.reduceSub, reduceCtorEq, Int.reduceToNat, Int.reduceLT, Int.reduceLE, Int.reduceEq, Int.reduceNe, Int.reduceBEq, Nat.reduceBEq, Int.reduceBNe, Nat.reduceBNe, Int.reduceAdd, Int.reduceSub, Int.reduceMul, Int.reduceNeg]
  refine ACalls.mono (hck _ b8 (row1 (k := [n, 64 * a + b, c]) (cs := [.int .u8 n, .int .u8 (64 * a + b), .int .u8 c]) (e := 5) (m := 3) (by (show AH.find _ _ = _; simp only [find_add_self, find_add_ne, find_fresh, fresh_add, fresh_set, ne_eq, not_false_eq_true, true_and, and_true, and_self, hn_b3, hr_b3, hn_b4, hr_b4, hn_b6, hr_b6, hn_b8, hr_b8])) rfl rfl (by simp) 3 (by simp [askL]))) ?_; rintro _ _ ⟨rfl, rfl⟩
  simp (dsimp := false) (maxSteps := 4000000) only [hn_b3, hr_b3, hn_b4, hr_b4, hn_b6, hr_b6, hn_b8, hr_b8, go_sem, ↓reduceIte, Nat.reduceEqDiff, Nat.reduceLT, Nat.reduceLeDiff, Nat.reduceAdd, Nat.reduceMul, Nat.reduceSub, reduceCtorEq, Int.reduceToNat, Int.reduceLT, Int.reduceLE, Int.reduceEq, Int.reduceNe, Int.reduceBEq, Nat.reduceBEq, Int.reduceBNe, Nat.reduceBNe, Int.reduceAdd, Int.reduceSub, Int.reduceMul, Int.reduceNeg]
  refine ⟨AH.le_add (AH.le_refl _) h_b8.2, ?_⟩
  exact ⟨H, (AH.le_add (AH.le_add (AH.le_add (AH.le_add (AH.le_refl _) ((by simp only [fresh_add, fresh_set, ne_eq, hn_b3, not_false_eq_true, and_self] : Fresh _ b3).2)) ((by simp only [fresh_add, fresh_set, ne_eq, hn_b4, not_false_eq_true, and_self] : Fresh _ b4).2)) ((by simp only [fresh_add, fresh_set, ne_eq, hn_b6, not_false_eq_true, and_self] : Fresh _ b6).2)) ((by simp only [fresh_add, fresh_set, ne_eq, hn_b8, not_false_eq_true, and_self] : Fresh _ b8).2)), by rw [askV, if_pos ⟨by omega, by omega, hg⟩], rfl⟩
end Go.Proofs.YtamlipffhimfmaaGreatDoor.Srv

/- the reference's store: Do. -/
namespace Go.Proofs.YtamlipffhimfmaaGreatDoor.Ifs
set_option linter.unusedSimpArgs false
set_option linter.unusedVariables false
open Go Go.AX Go.Proofs Ty Go.Proofs.YtamlipffhimfmaaGreatDoor.File
set_option maxHeartbeats 4000000
set_option maxRecDepth 10000

theorem set_rp {X : List Nf} {k : Nat} {x : Nf} {f : Fl} (hk : X[k]? = some x) (hd : Kd X) : X.set k (x.1, f) = rp x.1 f X := by
  apply List.ext_getElem?
  intro j
  rw [List.getElem?_set]
  simp only [rp, List.getElem?_map]
  have hlt := Go.AX.lt_of_get hk
  by_cases e : k = j
  · subst e
    rw [if_pos rfl, if_pos hlt, hk]
    simp
  · rw [if_neg e]
    cases hj : X[j]? with
    | none => rfl
    | some y =>
      have : y.1 ≠ x.1 := fun he => by
        have h1 : (X.map (·.1))[j]? = some x.1 := by simp [hj, he]
        have h2 : (X.map (·.1))[k]? = some x.1 := by simp [hk]
        exact e ((List.getElem?_inj (by simpa using hlt) hd).1 (h2.trans h1.symm))
      simp [this]
theorem RefDo_c {H : AH} {b : Nat} {Z : List RF} {den : Int} {rd : Nat → Prop} (h : RefS H b Z den rd) (hX : OkX (Z.map RF.nf)) (op fl rec : Int) (v : Rc) :
    ACalls Tryz.prog 46 #[.pointer (some ⟨b, 0, none⟩), .agg #[.int .i64 op, .int .i64 fl, .int .i64 rec], .agg (enc v).toArray] H (fun u H' => ∃ Z' rd', u = doV (Z.map RF.nf) op fl rec v ∧ Z'.map RF.nf = doX (Z.map RF.nf) op fl rec v ∧ RefS H' b Z' (doD (Z.map RF.nf) op fl rec den) rd' ∧ Keep H H' (· = b) ∧ ∀ x, rd' x → rd x ∨ Fresh H x) := by
  have hat := fun H1 (h1 : RefAt H1 b Z den rd) => at_c h1 fl
  have hZl : Z.length ≤ 64 := by have := hX.len; simpa using this
  have bad : ∀ {e den' : Int} {H' T : AH}, doE (Z.map RF.nf) op fl rec = e → e ≠ 0 → doD (Z.map RF.nf) op fl rec den = den' → RefS H' b Z den' rd → Keep H H' (· = b) → H'.le T → ∃ H', H'.le T ∧ ∃ Z' rd', Value.tuple #[.agg (enc zr).toArray, .int .i64 e] = doV (Z.map RF.nf) op fl rec v ∧ Z'.map RF.nf = doX (Z.map RF.nf) op fl rec v ∧ RefS H' b Z' (doD (Z.map RF.nf) op fl rec den) rd' ∧ Keep H H' (· = b) ∧ ∀ x, rd' x → rd x ∨ Fresh H x := fun {e den' H' T} he h0 hd hS hK hl =>
    ⟨H', hl, Z, rd, by rw [doV, doW, he, if_neg h0], by rw [doX, he, if_neg h0], hd ▸ hS, hK, fun x h => .inl h⟩
  refine ACalls.enter2 Tryz.func46 rfl Tryz.ntmps46 Tryz.results46 (by simp) ?_; simp (dsimp := false) (maxSteps := 4000000) only [enc_len, enc_scal, lput_enc, take_enc, go_sem, ↓reduceIte, Nat.reduceEqDiff, Nat.reduceLT, Nat.reduceLeDiff, Nat.reduceAdd, Nat.reduceMul, Nat.reduceSub, reduceCtorEq, Int.reduceToNat, Int.reduceLT, Int.reduceLE, Int.reduceEq, Int.reduceNe, Int.reduceBEq, Nat.reduceBEq, Int.reduceBNe, Nat.reduceBNe, Int.reduceAdd, Int.reduceSub, Int.reduceMul, Int.reduceNeg]
  refine AllB.mk fun b4 h_b4 => ?_; have hn_b4 := h_b4; (try simp only [fresh_add, fresh_set, ne_eq] at hn_b4); have hr_b4 := hn_b4; (try simp only [@eq_comm Nat b4] at hr_b4); simp (dsimp := false) (maxSteps := 4000000) only [enc_len, enc_scal, lput_enc, take_enc, hn_b4, hr_b4, go_sem, ↓reduceIte, Nat.reduceEqDiff, Nat.reduceLT, Nat.reduceLeDiff, Nat.reduceAdd, Nat.reduceMul, Nat.reduceSub, reduceCtorEq, Int.reduceToNat, Int.reduceLT, Int.reduceLE, Int.reduceEq, Int.reduceNe, Int.reduceBEq, Nat.reduceBEq, Int.reduceBNe, Nat.reduceBNe, Int.reduceAdd, Int.reduceSub, Int.reduceMul, Int.reduceNeg]
  refine AllB.mk fun b5 h_b5 => ?_; have hn_b5 := h_b5; (try simp only [fresh_add, fresh_set, ne_eq] at hn_b5); have hr_b5 := hn_b5; (try simp only [@eq_comm Nat b5] at hr_b5); simp (dsimp := false) (maxSteps := 4000000) only [enc_len, enc_scal, lput_enc, take_enc, hn_b4, hr_b4, hn_b5, hr_b5, go_sem, ↓reduceIte, Nat.reduceEqDiff, Nat.reduceLT, Nat.reduceLeDiff, Nat.reduceAdd, Nat.reduceMul, Nat.reduceSub, reduceCtorEq, Int.reduceToNat, Int.reduceLT, Int.reduceLE, Int.reduceEq, Int.reduceNe, Int.reduceBEq, Nat.reduceBEq, Int.reduceBNe, Nat.reduceBNe, Int.reduceAdd, Int.reduceSub, Int.reduceMul, Int.reduceNeg]
  refine AllB.mk fun b6 h_b6 => ?_; have hn_b6 := h_b6; (try simp only [fresh_add, fresh_set, ne_eq] at hn_b6); have hr_b6 := hn_b6; (try simp only [@eq_comm Nat b6] at hr_b6); simp (dsimp := false) (maxSteps := 4000000) only [enc_len, enc_scal, lput_enc, take_enc, hn_b4, hr_b4, hn_b5, hr_b5, hn_b6, hr_b6, go_sem, ↓reduceIte, Nat.reduceEqDiff, Nat.reduceLT, Nat.reduceLeDiff, Nat.reduceAdd, Nat.reduceMul, Nat.reduceSub, reduceCtorEq, Int.reduceToNat, Int.reduceLT, Int.reduceLE, Int.reduceEq, Int.reduceNe, Int.reduceBEq, Nat.reduceBEq, Int.reduceBNe, Nat.reduceBNe, Int.reduceAdd, Int.reduceSub, Int.reduceMul, Int.reduceNeg]
  refine (Go.Proofs.YtamlipffhimfmaaGreatDoor.RefGood_c op fl rec _).mono ?_; rintro _ _ ⟨rfl, rfl⟩
  cases hg : agood op fl rec with
  | false =>
    simp (dsimp := false) (maxSteps := 4000000) only [enc_len, enc_scal, lput_enc, take_enc, hn_b4, hr_b4, hn_b5, hr_b5, hn_b6, hr_b6, go_sem, ↓reduceIte, Nat.reduceEqDiff, Nat.reduceLT, Nat.reduceLeDiff, Nat.reduceAdd, Nat.reduceMul, Nat.reduceSub, reduceCtorEq, Int.reduceToNat, Int.reduceLT, Int.reduceLE, Int.reduceEq, Int.reduceNe, Int.reduceBEq, Nat.reduceBEq, Int.reduceBNe, Nat.reduceBNe, Int.reduceAdd, Int.reduceSub, Int.reduceMul, Int.reduceNeg]
    exact bad (H' := H) (by simp [doE, hg]) (by decide) (by simp [doD, doE, hg]) h Keep.refl (AH.le_add (AH.le_add (AH.le_add (AH.le_refl _) ((by simp only [enc_len, enc_scal, lput_enc, take_enc, fresh_add, fresh_set, ne_eq, hn_b4, not_false_eq_true, and_self] : Fresh _ b4).2)) ((by simp only [enc_len, enc_scal, lput_enc, take_enc, fresh_add, fresh_set, ne_eq, hn_b5, not_false_eq_true, and_self] : Fresh _ b5).2)) ((by simp only [enc_len, enc_scal, lput_enc, take_enc, fresh_add, fresh_set, ne_eq, hn_b6, not_false_eq_true, and_self] : Fresh _ b6).2))
  | true =>
    
    simp (dsimp := false) (maxSteps := 4000000) only [enc_len, enc_scal, lput_enc, take_enc, hn_b4, hr_b4, hn_b5, hr_b5, hn_b6, hr_b6, go_sem, ↓reduceIte, Nat.reduceEqDiff, Nat.reduceLT, Nat.reduceLeDiff, Nat.reduceAdd, Nat.reduceMul, Nat.reduceSub, reduceCtorEq, Int.reduceToNat, Int.reduceLT, Int.reduceLE, Int.reduceEq, Int.reduceNe, Int.reduceBEq, Nat.reduceBEq, Int.reduceBNe, Nat.reduceBNe, Int.reduceAdd, Int.reduceSub, Int.reduceMul, Int.reduceNeg]
    refine (hat _ (h.at.keep (((Keep.refl.nw h_b4).nw h_b5).nw h_b6) (fun _ _ h => h) fun h => h)).mono ?_
    rintro _ _ ⟨r, rfl, ho, rfl⟩
    rcases ho with ⟨rfl, hl⟩ | ⟨i, z, rfl, hz, hn, hl⟩
    · simp (dsimp := false) (maxSteps := 4000000) only [enc_len, enc_scal, lput_enc, take_enc, hn_b4, hr_b4, hn_b5, hr_b5, hn_b6, hr_b6, go_sem, ↓reduceIte, Nat.reduceEqDiff, Nat.reduceLT, Nat.reduceLeDiff, Nat.reduceAdd, Nat.reduceMul, Nat.reduceSub, reduceCtorEq, Int.reduceToNat, Int.reduceLT, Int.reduceLE, Int.reduceEq, Int.reduceNe, Int.reduceBEq, Nat.reduceBEq, Int.reduceBNe, Nat.reduceBNe, Int.reduceAdd, Int.reduceSub, Int.reduceMul, Int.reduceNeg]
      exact bad (H' := H) (by simp [doE, hg, hl]) (by decide) (by simp [doD, doE, hg, hl]) h Keep.refl (AH.le_add (AH.le_add (AH.le_add (AH.le_refl _) ((by simp only [enc_len, enc_scal, lput_enc, take_enc, fresh_add, fresh_set, ne_eq, hn_b4, not_false_eq_true, and_self] : Fresh _ b4).2)) ((by simp only [enc_len, enc_scal, lput_enc, take_enc, fresh_add, fresh_set, ne_eq, hn_b5, not_false_eq_true, and_self] : Fresh _ b5).2)) ((by simp only [enc_len, enc_scal, lput_enc, take_enc, fresh_add, fresh_set, ne_eq, hn_b6, not_false_eq_true, and_self] : Fresh _ b6).2))
    obtain ⟨zb, zc, ht, hZ, hnb, hzb, hk⟩ := id h
    have hi0 : (0 : Int) ≤ (i : Int) := by omega
    have hi1 : ¬ (i : Int) < 0 := by omega
    have hilt := Go.AX.lt_of_get hz
    have hlt : (i : Int) < (Z.length : Int) := by omega
    have he : doE (Z.map RF.nf) op fl rec = mayF z.p z.R op rec := by simp [doE, hg, hl]
    obtain ⟨b_, o, rfl, hrow, hrd⟩ := hZ.out.get (Go.AX.map_get (f := encN) hz)
    have hx1 : H.row b_ (o + i * 3 + 1) 2 = some [.int .i64 z.p, .slice z.base z.R.length z.cap] := row_of_rd rfl (by decide) fun j c hj => by
      rw [Nat.add_assoc _ 1 j, Nat.add_comm 1 j]
      exact hrd (j + 1) c hj
    have r0 : H.rd ⟨b, 0, none⟩ = some (.slice (some ⟨b_, o, none⟩) Z.length zc) := by rw [rd_find ht]; rfl
    have r1 : H.rd ⟨b, 1, none⟩ = some (.int .i64 den) := by rw [rd_find ht]; rfl
    have n4 : ¬ b4 = b := h_b4.ne_find ht
    have n5 : ¬ b5 = b := hn_b5.2.ne_find ht
    have n6 : ¬ b6 = b := hn_b6.2.2.ne_find ht
    have m4 : ¬ b4 = b_ := h_b4.ne_row hx1
    have m5 : ¬ b5 = b_ := hn_b5.2.ne_row hx1
    have m6 : ¬ b6 = b_ := hn_b6.2.2.ne_row hx1
    have hin := hZ.inn z (List.mem_of_getElem? hz)
    have hrok := (hX.ok z.nf (List.mem_map_of_mem (List.mem_of_getElem? hz))).2.2
    simp (dsimp := false) (maxSteps := 4000000) only [hi1, enc_len, enc_scal, lput_enc, take_enc, hn_b4, hr_b4, hn_b5, hr_b5, hn_b6, hr_b6, go_sem, ↓reduceIte, Nat.reduceEqDiff, Nat.reduceLT, Nat.reduceLeDiff, Nat.reduceAdd, Nat.reduceMul, Nat.reduceSub, reduceCtorEq, Int.reduceToNat, Int.reduceLT, Int.reduceLE, Int.reduceEq, Int.reduceNe, Int.reduceBEq, Nat.reduceBEq, Int.reduceBNe, Nat.reduceBNe, Int.reduceAdd, Int.reduceSub, Int.reduceMul, Int.reduceNeg]
    refine AWp.genp [.pu, .pu, .pu, .rd, .pu, .pu, .pu, .rd, .pu, .rd, .pu, .rd, .rd, .ch, .pu, .pu, .pu, .pu, .al, .al, .ch, .ch, .pu] [0, 1, 3, 7, 0, 31, 63, 127, 0, 256, 0, 1024, 0, 8191, 16383, 32767, 32767, 32767, 0, 0, 851967, 1966079, 4194303] [0, 1, 2, 3, 4, 5, 6, 7, 8, 9, 10, 11, 12, 13, 14, 15, 16, 17, 18, 19, 20, 21, 22] 24 (_) mixed (by kernel_rfl) (AH.le_refl _) ?_; rw [nd_eq]; simp (dsimp := false) only [prm_nil, prm_eq, pm_some, List.getElem?_cons_zero, List.getElem?_cons_succ, ↓reduceIte, Nat.reduceEqDiff, Nat.reduceLT, Nat.reduceLeDiff, Nat.reduceAdd, Nat.reduceMul, Nat.reduceSub, reduceCtorEq, Int.reduceToNat, Int.reduceLT, Int.reduceLE, Int.reduceEq, Int.reduceNe, Int.reduceBEq, Nat.reduceBEq, Int.reduceBNe, Nat.reduceBNe, Int.reduceAdd, Int.reduceSub, Int.reduceMul, Int.reduceNeg]
    obtain ⟨_, _, _, _, hrec0, _⟩ := agood_in hg
    obtain ⟨rc, rfl⟩ : ∃ rc : Nat, rec = rc := ⟨rec.toNat, by omega⟩
    simp (dsimp := false) (maxSteps := 4000000) only [r0, hlt, hi0, hx1, n4, n5, n6, m4, m5, m6, enc_len, enc_scal, lput_enc, take_enc, hn_b4, hr_b4, hn_b5, hr_b5, hn_b6, hr_b6, go_sem, ↓reduceIte, Nat.reduceEqDiff, Nat.reduceLT, Nat.reduceLeDiff, Nat.reduceAdd, Nat.reduceMul, Nat.reduceSub, reduceCtorEq, Int.reduceToNat, Int.reduceLT, Int.reduceLE, Int.reduceEq, Int.reduceNe, Int.reduceBEq, Nat.reduceBEq, Int.reduceBNe, Nat.reduceBNe, Int.reduceAdd, Int.reduceSub, Int.reduceMul, Int.reduceNeg]
    by_cases hmay : mayF z.p z.R op rc = 0
    · have hc := fun H1 (h1 : SlcIn H1 4 z.base z.cap (z.R.map enc)) => RefDo_ok z.p op rc z.R v z.base z.cap H1 h1 hrok hmay
      unfold fv at hc
      
      refine (hc _ (((hin.add (by simp only [fresh_add, ne_eq, hn_b4, not_false_eq_true, and_self] : Fresh _ b4)).add (by simp only [fresh_add, ne_eq, hn_b5, not_false_eq_true, and_self] : Fresh _ b5)).add (by simp only [fresh_add, ne_eq, hn_b6, not_false_eq_true, and_self] : Fresh _ b6))).mono ?_; rintro _ _ ⟨b8, c8, bs, h_b8, rfl, hc8, hbs, rfl⟩
      have hn_b8 := h_b8; (try simp only [fresh_add, fresh_set, ne_eq] at hn_b8); have hr_b8 := hn_b8; (try simp only [@eq_comm Nat b8] at hr_b8)
      simp (dsimp := false) (maxSteps := 4000000) only [enc_len, enc_scal, lput_enc, take_enc, hn_b4, hr_b4, hn_b5, hr_b5, hn_b6, hr_b6, hn_b8, hr_b8, go_sem, ↓reduceIte, Nat.reduceEqDiff, Nat.reduceLT, Nat.reduceLeDiff, Nat.reduceAdd, Nat.reduceMul, Nat.reduceSub, reduceCtorEq, Int.reduceToNat, Int.reduceLT, Int.reduceLE, Int.reduceEq, Int.reduceNe, Int.reduceBEq, Nat.reduceBEq, Int.reduceBNe, Nat.reduceBNe, Int.reduceAdd, Int.reduceSub, Int.reduceMul, Int.reduceNeg]
      refine ⟨AH.le_add (AH.le_refl _) h_b8.2, ?_⟩
      refine AllB.mk fun b9 h_b9 => ?_; have hn_b9 := h_b9; (try simp only [fresh_add, fresh_set, ne_eq] at hn_b9); have hr_b9 := hn_b9; (try simp only [@eq_comm Nat b9] at hr_b9); simp (dsimp := false) (maxSteps := 4000000) only [enc_len, enc_scal, lput_enc, take_enc, hn_b4, hr_b4, hn_b5, hr_b5, hn_b6, hr_b6, hn_b8, hr_b8, hn_b9, hr_b9, go_sem, ↓reduceIte, Nat.reduceEqDiff, Nat.reduceLT, Nat.reduceLeDiff, Nat.reduceAdd, Nat.reduceMul, Nat.reduceSub, reduceCtorEq, Int.reduceToNat, Int.reduceLT, Int.reduceLE, Int.reduceEq, Int.reduceNe, Int.reduceBEq, Nat.reduceBEq, Int.reduceBNe, Nat.reduceBNe, Int.reduceAdd, Int.reduceSub, Int.reduceMul, Int.reduceNeg]
      refine AllB.mk fun b10 h_b10 => ?_; have hn_b10 := h_b10; (try simp only [fresh_add, fresh_set, ne_eq] at hn_b10); have hr_b10 := hn_b10; (try simp only [@eq_comm Nat b10] at hr_b10); simp (dsimp := false) (maxSteps := 4000000) only [enc_len, enc_scal, lput_enc, take_enc, hn_b4, hr_b4, hn_b5, hr_b5, hn_b6, hr_b6, hn_b8, hr_b8, hn_b9, hr_b9, hn_b10, hr_b10, go_sem, ↓reduceIte, Nat.reduceEqDiff, Nat.reduceLT, Nat.reduceLeDiff, Nat.reduceAdd, Nat.reduceMul, Nat.reduceSub, reduceCtorEq, Int.reduceToNat, Int.reduceLT, Int.reduceLE, Int.reduceEq, Int.reduceNe, Int.reduceBEq, Nat.reduceBEq, Int.reduceBNe, Nat.reduceBNe, Int.reduceAdd, Int.reduceSub, Int.reduceMul, Int.reduceNeg]
      (repeat (refine And.intro (by (repeat (first | exact AH.le_refl _ | refine AH.le_add ?_ ?_)); all_goals (first | exact AH.le_refl _ | (show AH.find _ _ = _; simp only [find_add_self, find_add_ne, find_fresh, fresh_add, fresh_set, ne_eq, not_false_eq_true, true_and, and_true, and_self, enc_len, enc_scal, lput_enc, take_enc, hn_b4, hr_b4, hn_b5, hr_b5, hn_b6, hr_b6, hn_b8, hr_b8, hn_b9, hr_b9, hn_b10, hr_b10]))) ?_; (try simp (dsimp := false) (maxSteps := 4000000) only [enc_len, enc_scal, lput_enc, take_enc, hn_b4, hr_b4, hn_b5, hr_b5, hn_b6, hr_b6, hn_b8, hr_b8, hn_b9, hr_b9, hn_b10, hr_b10, go_sem, ↓reduceIte, Nat.reduceEqDiff, Nat.reduceLT, Nat.reduceLeDiff, Nat.reduceAdd, Nat.reduceMul, Nat.reduceSub, reduceCtorEq, Int.reduceToNat, Int.reduceLT, Int.reduceLE, Int.reduceEq, Int.reduceNe, Int.reduceBEq, Nat.reduceBEq, Int.reduceBNe, Nat.reduceBNe, Int.reduceAdd, Int.reduceSub, Int.reduceMul, Int.reduceNeg])))
      have hd8 := hn_b8.2.2.2
      obtain ⟨w, hwv⟩ : ∃ w, (doR z.R op rc v).getD rc zr = w := ⟨_, rfl⟩
      obtain ⟨T, hT⟩ : ∃ T, ((((((H.add b4 (.cells [.int .i64 op, .int .i64 fl, .int .i64 rc] 24 3)).add b5 (.cells (enc v) 26 4)).add b6 (.cells [.int .u8 0, .int .u8 0, .int .u8 0, .int .u8 0] 26 4)).add b8 (.cells ((doR z.R op rc v).map enc).flatten 26 bs)).add b9 (.cells [.int .i64 z.p, .slice (some ⟨b8, 0, none⟩) z.R.length c8] 72 2)).add b10 (.cells (enc w) 26 4)) = T := ⟨_, rfl⟩
      have kT : Keep H T fun _ => False := hT ▸ (((((Keep.refl.nw h_b4).nw h_b5).nw h_b6).nw (by simp only [fresh_add, ne_eq, hn_b8, not_false_eq_true, and_self])).nw (by simp only [fresh_add, ne_eq, hn_b9, not_false_eq_true, and_self])).nw (by simp only [fresh_add, ne_eq, hn_b10, not_false_eq_true, and_self])
      have t6 : T.find b6 = some (.cells [.int .u8 0, .int .u8 0, .int .u8 0, .int .u8 0] 26 4) := by rw [← hT]; (show AH.find _ _ = _; simp only [find_add_self, find_add_ne, find_fresh, fresh_add, fresh_set, ne_eq, not_false_eq_true, true_and, and_true, and_self, enc_len, enc_scal, lput_enc, take_enc, hn_b4, hr_b4, hn_b5, hr_b5, hn_b6, hr_b6, hn_b8, hr_b8, hn_b9, hr_b9, hn_b10, hr_b10])
      have t8 : T.find b8 = some (.cells ((doR z.R op rc v).map enc).flatten 26 bs) := by rw [← hT]; (show AH.find _ _ = _; simp only [find_add_self, find_add_ne, find_fresh, fresh_add, fresh_set, ne_eq, not_false_eq_true, true_and, and_true, and_self, enc_len, enc_scal, lput_enc, take_enc, hn_b4, hr_b4, hn_b5, hr_b5, hn_b6, hr_b6, hn_b8, hr_b8, hn_b9, hr_b9, hn_b10, hr_b10])
      have t9 : T.find b9 = some (.cells [.int .i64 z.p, .slice (some ⟨b8, 0, none⟩) z.R.length c8] 72 2) := by rw [← hT]; (show AH.find _ _ = _; simp only [find_add_self, find_add_ne, find_fresh, fresh_add, fresh_set, ne_eq, not_false_eq_true, true_and, and_true, and_self, enc_len, enc_scal, lput_enc, take_enc, hn_b4, hr_b4, hn_b5, hr_b5, hn_b6, hr_b6, hn_b8, hr_b8, hn_b9, hr_b9, hn_b10, hr_b10])
      have t10 : T.find b10 = some (.cells (enc w) 26 4) := by rw [← hT]; (show AH.find _ _ = _; simp only [find_add_self, find_add_ne, find_fresh, fresh_add, fresh_set, ne_eq, not_false_eq_true, true_and, and_true, and_self, enc_len, enc_scal, lput_enc, take_enc, hn_b4, hr_b4, hn_b5, hr_b5, hn_b6, hr_b6, hn_b8, hr_b8, hn_b9, hr_b9, hn_b10, hr_b10])
      have tb := kT.find (fun h => h) ht
      have hZT := hZ.keep kT fun _ _ h => h
      have p6 : ¬ b6 = b := n6
      have p8 : ¬ b8 = b := hd8.ne_find ht
      have p9 : ¬ b9 = b := hn_b9.2.2.2.2.ne_find ht
      have p10 : ¬ b10 = b := hn_b10.2.2.2.2.2.ne_find ht
      have hf6 : Fresh H b6 := hn_b6.2.2
      have p68 : b6 ≠ b8 := fun e => hn_b8.1 e.symm
      rw [hwv, hT]
      clear hT h_b4 h_b5 h_b6 h_b8 h_b9 h_b10 hn_b4 hn_b5 hn_b6 hn_b8 hn_b9 hn_b10 hr_b4 hr_b5 hr_b6 hr_b8 hr_b9 hr_b10 m4 m5 m6 n4 n5 n6
      
      refine AllB.mk fun bl h_bl => ?_
      have kl : Keep T (T.add bl (.cells [] 74 0)) fun _ => False := Keep.add h_bl
      have rT : (T.add bl (.cells [] 74 0)).rd ⟨b, 0, none⟩ = some (.slice (some ⟨b_, o, none⟩) Z.length zc) := by rw [rd_find (kl.find (fun h => h) tb)]; rfl
      simp (dsimp := false) (maxSteps := 4000000) only [rT, enc_len, enc_scal, lput_enc, take_enc, go_sem, ↓reduceIte, Nat.reduceEqDiff, Nat.reduceLT, Nat.reduceLeDiff, Nat.reduceAdd, Nat.reduceMul, Nat.reduceSub, reduceCtorEq, Int.reduceToNat, Int.reduceLT, Int.reduceLE, Int.reduceEq, Int.reduceNe, Int.reduceBEq, Nat.reduceBEq, Int.reduceBNe, Nat.reduceBNe, Int.reduceAdd, Int.reduceSub, Int.reduceMul, Int.reduceNeg]
      refine APD.growS (H0 := T) (m := Z.length) (R := []) (R' := Z.map encN) (OwnS.new h_bl (AH.le_refl _) rfl rfl rfl (by simp) (by simp)) kl.all se_22 rfl (by decide) (by decide) (by rw [Tryz.underlying22]; rfl) rfl (by simp) (hZT.keep kl fun _ _ h => h).out (rowsN Z) (scalN Z) (by omega) fun base' cap' A hO' hK' hN' => ?_
      refine ⟨A, AH.le_refl _, ?_⟩
      rw [List.nil_append] at hO'
      rw [Nat.zero_add]
      have kA : Keep T A fun _ => False := kl.ow hK' fun b ⟨a, ha, e⟩ => by cases ha; exact e ▸ h_bl
      obtain ⟨bb, bs', rfl, hbb, hbs', hfb⟩ : ∃ bb bs', base' = some ⟨bb, 0, none⟩ ∧ A.find bb = some (.cells (Z.map encN).flatten 74 bs') ∧ cap' * 3 ≤ bs' ∧ Fresh T bb := by
        rcases hO'.at_ with ⟨_, h, _⟩ | ⟨b', bs, h, hfd, h2, h3⟩
        · rw [List.map_eq_nil_iff] at h; subst h; simp at hilt
        · exact ⟨b', bs, h, hfd, h2, h3⟩
      have hcl : Z.length ≤ cap' := by have := hO'.le; simpa using this
      have ab := kA.find (fun h => h) tb
      have q0 : bb ≠ b := hfb.ne_find tb
      have q6 : bb ≠ b6 := hfb.ne_find t6
      have q8 : bb ≠ b8 := hfb.ne_find t8
      have q9 : bb ≠ b9 := hfb.ne_find t9
      have q10 : bb ≠ b10 := hfb.ne_find t10
      obtain ⟨A2, hA2⟩ : ∃ A2, A.set b (.cells [.slice (some ⟨bb, 0, none⟩) Z.length cap', .int .i64 den] 49 2) = A2 := ⟨_, rfl⟩
      have k2 : Keep A A2 (· = b) := hA2 ▸ Keep.set
      have hw1 : A.wrs b 0 [.slice (some ⟨bb, 0, none⟩) Z.length cap'] = some A2 := by rw [← hA2]; simp [AH.wrs, ab, lput, scal]
      have ab2 : A2.find b = some (.cells [.slice (some ⟨bb, 0, none⟩) Z.length cap', .int .i64 den] 49 2) := by rw [← hA2, find_set, if_pos rfl]
      have hbb2 := k2.find q0 hbb
      obtain ⟨z', hz'⟩ : ∃ z' : RF, z' = ⟨z.n, z.p, some ⟨b8, 0, none⟩, c8, doR z.R op rc v⟩ := ⟨_, rfl⟩
      have hdl : z'.R.length = z.R.length := by rw [hz']; exact doR_len ..
      obtain ⟨A3, hA3⟩ : ∃ A3, A2.set bb (.cells ((Z.set i z').map encN).flatten 74 bs') = A3 := ⟨_, rfl⟩
      have k3 : Keep A2 A3 (· = bb) := hA3 ▸ Keep.set
      have hfl : (Z.map encN).flatten.length = Z.length * 3 := by rw [flat_len (rowsN Z), List.length_map]
      have hput : lput (Z.map encN).flatten (i * 3 + 1) [.int .i64 z.p, .slice (some ⟨b8, 0, none⟩) z.R.length c8] = ((Z.set i z').map encN).flatten := by
        rw [List.map_set, ← flat_lput (rowsN Z) i (encN z') (by simpa using hilt) rfl]
        have e0 : (Z.map encN).flatten[i * 3 + 0]? = some (.int .i64 z.n) := flat_get (rowsN Z) i 0 (encN z) _ (Go.AX.map_get hz) rfl
        rw [Nat.add_zero] at e0
        have e1 : (Z.map encN).flatten.set (i * 3) (.int .i64 z.n) = (Z.map encN).flatten := by
          apply List.ext_getElem?
          intro j
          rw [List.getElem?_set]
          by_cases e : i * 3 = j
          · subst e; rw [if_pos rfl, if_pos (Go.AX.lt_of_get e0)]; exact e0.symm
          · rw [if_neg e]
        have e2 : encN z' = [.int .i64 z.n, .int .i64 z.p, .slice (some ⟨b8, 0, none⟩) z.R.length c8] := by
          rw [encN, hdl, hz']
        rw [e2, show lput (Z.map encN).flatten (i * 3) [.int .i64 z.n, .int .i64 z.p, .slice (some ⟨b8, 0, none⟩) z.R.length c8] = lput ((Z.map encN).flatten.set (i * 3) (.int .i64 z.n)) (i * 3 + 1) [.int .i64 z.p, .slice (some ⟨b8, 0, none⟩) z.R.length c8] from rfl, e1]
      have hw2 : A2.wrs bb (i * 3 + 1) [.int .i64 z.p, .slice (some ⟨b8, 0, none⟩) z.R.length c8] = some A3 := by
        unfold AH.wrs
        rw [hbb2]
        simp only
        rw [if_pos ⟨by rw [hfl]; simp only [List.length_cons, List.length_nil]; omega, by rw [hfl]; omega, rfl⟩, hput, hA3]
      obtain ⟨A4, hA4⟩ : ∃ A4, A3.set b6 (.cells (enc w) 26 4) = A4 := ⟨_, rfl⟩
      have k4 : Keep A3 A4 (· = b6) := hA4 ▸ Keep.set
      have g6 := k3.find (Ne.symm q6) (k2.find p6 (kA.find (fun h => h) t6))
      have g10 := k3.find (Ne.symm q10) (k2.find p10 (kA.find (fun h => h) t10))
      have hw3 : A3.wrs b6 0 (enc w) = some A4 := by rw [← hA4]; simp [AH.wrs, g6, enc, lput, scal]
      have r2 : A2.rd ⟨b, 0, none⟩ = some (.slice (some ⟨bb, 0, none⟩) Z.length cap') := by rw [rd_find ab2]; rfl
      have w9 : A2.row b9 0 2 = some [.int .i64 z.p, .slice (some ⟨b8, 0, none⟩) z.R.length c8] := row_find (k2.find p9 (kA.find (fun h => h) t9)) (by simp)
      have w10 : A3.row b10 0 4 = some (enc w) := row_find g10 (by simp [enc])
      have g6' : A4.find b6 = some (.cells (enc w) 26 4) := by rw [← hA4, find_set, if_pos rfl]
      have w6 : A4.row b6 0 4 = some (enc w) := row_find g6' (by simp [enc])
      simp (dsimp := false) (maxSteps := 4000000) only [hw1, enc_len, enc_scal, lput_enc, take_enc, go_sem, ↓reduceIte, Nat.reduceEqDiff, Nat.reduceLT, Nat.reduceLeDiff, Nat.reduceAdd, Nat.reduceMul, Nat.reduceSub, reduceCtorEq, Int.reduceToNat, Int.reduceLT, Int.reduceLE, Int.reduceEq, Int.reduceNe, Int.reduceBEq, Nat.reduceBEq, Int.reduceBNe, Nat.reduceBNe, Int.reduceAdd, Int.reduceSub, Int.reduceMul, Int.reduceNeg]
      refine AWp.gen [.pu, .pu, .pu, .rd, .pu, .rd, .pu, .pu, .ch] [0, 1, 3, 7, 0, 0, 63, 127, 255] 0 (_) mixed (by kernel_rfl) (AH.le_refl _) ?_
      simp (dsimp := false) (maxSteps := 4000000) only [r2, w9, hlt, hi0, hw2, w10, hw3, w6, enc_len, enc_scal, lput_enc, take_enc, go_sem, ↓reduceIte, Nat.reduceEqDiff, Nat.reduceLT, Nat.reduceLeDiff, Nat.reduceAdd, Nat.reduceMul, Nat.reduceSub, reduceCtorEq, Int.reduceToNat, Int.reduceLT, Int.reduceLE, Int.reduceEq, Int.reduceNe, Int.reduceBEq, Nat.reduceBEq, Int.reduceBNe, Nat.reduceBNe, Int.reduceAdd, Int.reduceSub, Int.reduceMul, Int.reduceNeg]
      have hKall : Keep H A4 (· = b) := ((((kT.trans kA).mono fun _ h => h.elim).trans k2).then k3 fun x e => .inr (e ▸ kT.fr hfb)).then k4 fun x e => .inr (e ▸ hf6)
      have h256 : z.R.length ≤ 256 := (goodF_len (hX.ok z.nf (List.mem_map_of_mem (List.mem_of_getElem? hz))).2.1).2
      have a4b : A4.find b = some (.cells [.slice (some ⟨bb, 0, none⟩) Z.length cap', .int .i64 den] 49 2) := k4.find (Ne.symm p6) (k3.find (Ne.symm q0) ab2)
      have a4bb : A4.find bb = some (.cells ((Z.set i z').map encN).flatten 74 bs') := k4.find q6 (by rw [← hA3, find_set, if_pos rfl])
      have a4b8 : A4.find b8 = some (.cells ((doR z.R op rc v).map enc).flatten 26 bs) := k4.find (Ne.symm p68) (k3.find (Ne.symm q8) (k2.find p8 (kA.find (fun h => h) t8)))
      have hN := (((hZT.keep kA fun _ _ h => h).keep k2 fun x hx e => hnb (e ▸ hx)).keep k3 fun x hx e => hk x hx (e ▸ kT.fr hfb)).keep k4 fun x hx e => hk x hx (e ▸ hf6)
      have h0 : doE (Z.map RF.nf) op fl rc = 0 := he.trans hmay
      refine ⟨A4, AH.le_refl _, Z.set i z', fun x => rd x ∨ x = bb ∨ x = b8, ?_, ?_, ⟨some ⟨bb, 0, none⟩, cap', ?_, ⟨?_, fun x hx => ?_, ?_, fun x hx => ?_⟩, ?_, .inr ⟨bb, 0, rfl⟩, ?_⟩, hKall, ?_⟩
      · rw [doV, doW, if_pos h0, hl, h0, ← hwv]; rfl
      · rw [doX, if_pos h0, hl, List.map_set]
        have := set_rp (X := Z.map RF.nf) (k := i) (x := z.nf) (f := doF (z.p, z.R) op rc v) (by rw [List.getElem?_map, hz]; rfl) hX.kd
        rw [← hn]
        rw [hz']
        exact this
      · rw [List.length_set, doD, if_neg (by rw [h0]; decide)]; exact a4b
      · exact SlcIn.of_find a4bb (rowsN _) (by rw [List.length_map, List.length_set]; exact hcl) (by rw [List.length_map, List.length_set]; omega)
      · rcases List.mem_or_eq_of_mem_set hx with hx | rfl
        · exact hN.inn x hx
        · rw [hz']
          refine SlcIn.of_find a4b8 (rows4 _) ?_ ?_
          · rw [List.length_map, doR_len]; exact hc8
          · rw [List.length_map, doR_len]; omega
      · exact .inr fun a ha => by cases ha; exact .inr (.inl rfl)
      · rcases List.mem_or_eq_of_mem_set hx with hx | rfl
        · exact (hN.r2 x hx).imp id fun h a ha => .inl (h a ha)
        · exact .inr fun a ha => by rw [hz'] at ha; cases ha; exact .inr (.inr rfl)
      · rintro (h | h | h)
        · exact hnb h
        · exact q0 h.symm
        · exact p8 h.symm
      · rintro x (h | h | h) hf
        · exact hk x h (hKall.fresh hf fun e => hnb (e ▸ h))
        · subst h; exact hf.ne_find a4bb rfl
        · subst h; exact hf.ne_find a4b8 rfl
      · rintro x (h | h | h)
        · exact .inl h
        · subst h; exact .inr (kT.fr hfb)
        · subst h; exact .inr hd8
      
    · have hc := fun H1 (h1 : SlcIn H1 4 z.base z.cap (z.R.map enc)) => RefDo_bad z.p op rc z.R v z.base z.cap H1 h1 hmay
      unfold fv at hc
      
      refine (hc _ (((hin.add (by simp only [fresh_add, ne_eq, hn_b4, not_false_eq_true, and_self] : Fresh _ b4)).add (by simp only [fresh_add, ne_eq, hn_b5, not_false_eq_true, and_self] : Fresh _ b5)).add (by simp only [fresh_add, ne_eq, hn_b6, not_false_eq_true, and_self] : Fresh _ b6))).mono ?_; rintro _ _ ⟨rfl, rfl⟩
      simp (dsimp := false) (maxSteps := 4000000) only [dbad, enc_len, enc_scal, lput_enc, take_enc, hn_b4, hr_b4, hn_b5, hr_b5, hn_b6, hr_b6, go_sem, ↓reduceIte, Nat.reduceEqDiff, Nat.reduceLT, Nat.reduceLeDiff, Nat.reduceAdd, Nat.reduceMul, Nat.reduceSub, reduceCtorEq, Int.reduceToNat, Int.reduceLT, Int.reduceLE, Int.reduceEq, Int.reduceNe, Int.reduceBEq, Nat.reduceBEq, Int.reduceBNe, Nat.reduceBNe, Int.reduceAdd, Int.reduceSub, Int.reduceMul, Int.reduceNeg]
      refine AllB.mk fun b9 h_b9 => ?_; have hn_b9 := h_b9; (try simp only [fresh_add, fresh_set, ne_eq] at hn_b9); have hr_b9 := hn_b9; (try simp only [@eq_comm Nat b9] at hr_b9); simp (dsimp := false) (maxSteps := 4000000) only [enc_len, enc_scal, lput_enc, take_enc, hn_b4, hr_b4, hn_b5, hr_b5, hn_b6, hr_b6, hn_b9, hr_b9, go_sem, ↓reduceIte, Nat.reduceEqDiff, Nat.reduceLT, Nat.reduceLeDiff, Nat.reduceAdd, Nat.reduceMul, Nat.reduceSub, reduceCtorEq, Int.reduceToNat, Int.reduceLT, Int.reduceLE, Int.reduceEq, Int.reduceNe, Int.reduceBEq, Nat.reduceBEq, Int.reduceBNe, Nat.reduceBNe, Int.reduceAdd, Int.reduceSub, Int.reduceMul, Int.reduceNeg]
      refine AllB.mk fun b10 h_b10 => ?_; have hn_b10 := h_b10; (try simp only [fresh_add, fresh_set, ne_eq] at hn_b10); have hr_b10 := hn_b10; (try simp only [@eq_comm Nat b10] at hr_b10); simp (dsimp := false) (maxSteps := 4000000) only [enc_len, enc_scal, lput_enc, take_enc, hn_b4, hr_b4, hn_b5, hr_b5, hn_b6, hr_b6, hn_b9, hr_b9, hn_b10, hr_b10, go_sem, ↓reduceIte, Nat.reduceEqDiff, Nat.reduceLT, Nat.reduceLeDiff, Nat.reduceAdd, Nat.reduceMul, Nat.reduceSub, reduceCtorEq, Int.reduceToNat, Int.reduceLT, Int.reduceLE, Int.reduceEq, Int.reduceNe, Int.reduceBEq, Nat.reduceBEq, Int.reduceBNe, Nat.reduceBNe, Int.reduceAdd, Int.reduceSub, Int.reduceMul, Int.reduceNeg]
      have n9 : ¬ b9 = b := hn_b9.2.2.2.ne_find ht
      have n10 : ¬ b10 = b := hn_b10.2.2.2.2.ne_find ht
      by_cases e5 : mayF z.p z.R op rc = 5
      · have hw : H.wrs b 1 [.int .i64 (IntKind.i64.wrap (den + 1))] = some (H.set b (.cells [.slice (some ⟨b_, o, none⟩) Z.length zc, .int .i64 (IntKind.i64.wrap (den + 1))] 49 2)) := by
          simp [AH.wrs, ht, lput, scal]
        have hset : Keep H (H.set b (.cells [.slice (some ⟨b_, o, none⟩) Z.length zc, .int .i64 (IntKind.i64.wrap (den + 1))] 49 2)) (· = b) := Keep.set
        have hdr : ∀ x, rd x → ¬ x = b := fun x hx e => hnb (e ▸ hx)
        (repeat (refine And.intro (by (repeat (first | exact AH.le_refl _ | refine AH.le_add ?_ ?_)); all_goals (first | exact AH.le_refl _ | (show AH.find _ _ = _; simp only [find_add_self, find_add_ne, find_fresh, fresh_add, fresh_set, ne_eq, not_false_eq_true, true_and, and_true, and_self, enc_len, enc_scal, lput_enc, take_enc, hn_b4, hr_b4, hn_b5, hr_b5, hn_b6, hr_b6, hn_b9, hr_b9, hn_b10, hr_b10]))) ?_; (try simp (dsimp := false) (maxSteps := 4000000) only [hmay, e5, r1, n4, n5, n6, n9, n10, hw, enc_len, enc_scal, lput_enc, take_enc, hn_b4, hr_b4, hn_b5, hr_b5, hn_b6, hr_b6, hn_b9, hr_b9, hn_b10, hr_b10, go_sem, ↓reduceIte, Nat.reduceEqDiff, Nat.reduceLT, Nat.reduceLeDiff, Nat.reduceAdd, Nat.reduceMul, Nat.reduceSub, reduceCtorEq, Int.reduceToNat, Int.reduceLT, Int.reduceLE, Int.reduceEq, Int.reduceNe, Int.reduceBEq, Nat.reduceBEq, Int.reduceBNe, Nat.reduceBNe, Int.reduceAdd, Int.reduceSub, Int.reduceMul, Int.reduceNeg])))
        
        exact bad (e := 5) (den' := IntKind.i64.wrap (den + 1)) (H' := H.set b (.cells [.slice (some ⟨b_, o, none⟩) Z.length zc, .int .i64 (IntKind.i64.wrap (den + 1))] 49 2)) (he.trans e5) (by decide) (by rw [doD, if_pos (he.trans e5)]) ⟨some ⟨b_, o, none⟩, zc, by rw [find_set, if_pos rfl], hZ.keep hset hdr, hnb, .inr ⟨b_, o, rfl⟩, hk.keep hset hdr⟩ hset (by (repeat (first | exact AH.le_refl _ | refine AH.le_add ?_ ?_)); all_goals (first | exact AH.le_refl _ | (show AH.find _ _ = _; simp only [find_add_self, find_add_ne, find_fresh, fresh_add, fresh_set, ne_eq, not_false_eq_true, true_and, and_true, and_self, enc_len, n4, n5, n6, n9, n10, hn_b4, hr_b4, hn_b5, hr_b5, hn_b6, hr_b6, hn_b9, hr_b9, hn_b10, hr_b10])))
        
      · (repeat (refine And.intro (by (repeat (first | exact AH.le_refl _ | refine AH.le_add ?_ ?_)); all_goals (first | exact AH.le_refl _ | (show AH.find _ _ = _; simp only [find_add_self, find_add_ne, find_fresh, fresh_add, fresh_set, ne_eq, not_false_eq_true, true_and, and_true, and_self, enc_len, enc_scal, lput_enc, take_enc, hn_b4, hr_b4, hn_b5, hr_b5, hn_b6, hr_b6, hn_b9, hr_b9, hn_b10, hr_b10]))) ?_; (try simp (dsimp := false) (maxSteps := 4000000) only [hmay, e5, enc_len, enc_scal, lput_enc, take_enc, hn_b4, hr_b4, hn_b5, hr_b5, hn_b6, hr_b6, hn_b9, hr_b9, hn_b10, hr_b10, go_sem, ↓reduceIte, Nat.reduceEqDiff, Nat.reduceLT, Nat.reduceLeDiff, Nat.reduceAdd, Nat.reduceMul, Nat.reduceSub, reduceCtorEq, Int.reduceToNat, Int.reduceLT, Int.reduceLE, Int.reduceEq, Int.reduceNe, Int.reduceBEq, Nat.reduceBEq, Int.reduceBNe, Nat.reduceBNe, Int.reduceAdd, Int.reduceSub, Int.reduceMul, Int.reduceNeg])))
        exact bad (H' := H) he hmay (by rw [doD, he, if_neg e5]) h Keep.refl (AH.le_add (AH.le_add (AH.le_add (AH.le_add (AH.le_add (AH.le_refl _) ((by simp only [enc_len, enc_scal, lput_enc, take_enc, fresh_add, fresh_set, ne_eq, hn_b4, not_false_eq_true, and_self] : Fresh _ b4).2)) ((by simp only [enc_len, enc_scal, lput_enc, take_enc, fresh_add, fresh_set, ne_eq, hn_b5, not_false_eq_true, and_self] : Fresh _ b5).2)) ((by simp only [enc_len, enc_scal, lput_enc, take_enc, fresh_add, fresh_set, ne_eq, hn_b6, not_false_eq_true, and_self] : Fresh _ b6).2)) ((by simp only [enc_len, enc_scal, lput_enc, take_enc, fresh_add, fresh_set, ne_eq, hn_b9, not_false_eq_true, and_self] : Fresh _ b9).2)) ((by simp only [enc_len, enc_scal, lput_enc, take_enc, fresh_add, fresh_set, ne_eq, hn_b10, not_false_eq_true, and_self] : Fresh _ b10).2))
      
    
end Go.Proofs.YtamlipffhimfmaaGreatDoor.Ifs
