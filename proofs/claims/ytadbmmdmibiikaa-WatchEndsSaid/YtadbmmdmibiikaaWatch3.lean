/- The reference's two masters: New, silent, Crash, Restart, Round: what each comes to. -/
import Derived.Test.YtadbmmdmibiikaaWatch2
namespace Go.Proofs.Ytadbmmdmibiikaa.Watch
set_option linter.unusedSimpArgs false
set_option linter.unusedVariables false
open Go Go.AX Go.Proofs Ty
set_option maxHeartbeats 4000000
set_option maxRecDepth 10000

structure Rr where
  r0 : Int
  r1 : Int
  t0 : Int
  t1 : Int
  now : Int
  last : Int
def rc (r : Rr) : List Value := [.int .i64 r.r0, .int .i64 r.r1, .int .i64 r.t0, .int .i64 r.t1, .int .i64 r.now, .int .i64 r.last]
theorem rc_len (r : Rr) : (rc r).length = 6 := rfl
structure Rr.Ok (r : Rr) : Prop where
  a : 0 ≤ r.t0 ∧ r.t0 ≤ r.now
  b : 0 ≤ r.t1 ∧ r.t1 ≤ r.now
  c : 0 ≤ r.last ∧ r.last ≤ r.now
  d : r.now ≤ 1000000
abbrev AtR (H : AH) (b : Nat) (r : Rr) : Prop := H.find b = some (.cells (rc r) 79 6)
abbrev putR (H : AH) (b : Nat) (r : Rr) : AH := (H.del b).add b (.cells (rc r) 79 6)

theorem RNew_c (H : AH) : ACalls Try.prog 35 #[] H (fun v H' => ∃ b, Fresh H b ∧ v = .pointer (some ⟨b, 0, none⟩) ∧ H' = H.add b (.cells (rc ⟨1, 2, 0, 0, 0, 0⟩) 79 6)) := by
  refine ACalls.enter2 Try.func35 rfl Try.ntmps35 Try.results35 (by simp) ?_; simp (dsimp := false) (maxSteps := 4000000) only [go_sem, ↓reduceIte, Nat.reduceEqDiff, Nat.reduceLT, Nat.reduceLeDiff, Nat.reduceAdd, Nat.reduceMul, Nat.reduceSub, reduceCtorEq, Int.reduceToNat, Int.reduceLT, Int.reduceLE, Int.reduceEq, Int.reduceNe, Int.reduceBEq, Nat.reduceBEq, Int.reduceBNe, Nat.reduceBNe, Int.reduceAdd, Int.reduceSub, Int.reduceMul, Int.reduceNeg]
  refine AllB.mk fun b1 h_b1 => ?_; have hn_b1 := h_b1; (try simp only [fresh_add, fresh_set, ne_eq] at hn_b1); have hr_b1 := hn_b1; (try simp only [@eq_comm Nat b1] at hr_b1); simp (dsimp := false) (maxSteps := 4000000) only [hn_b1, hr_b1, go_sem, ↓reduceIte, Nat.reduceEqDiff, Nat.reduceLT, Nat.reduceLeDiff, Nat.reduceAdd, Nat.reduceMul, Nat.reduceSub, reduceCtorEq, Int.reduceToNat, Int.reduceLT, Int.reduceLE, Int.reduceEq, Int.reduceNe, Int.reduceBEq, Nat.reduceBEq, Int.reduceBNe, Nat.reduceBNe, Int.reduceAdd, Int.reduceSub, Int.reduceMul, Int.reduceNeg]
  exact ⟨_, AH.le_refl _, b1, h_b1, rfl, rfl⟩

def sil (r : Rr) (n : Nat) : Int := r.now - (if r.last > (if n = 0 then r.t0 else r.t1) then r.last else (if n = 0 then r.t0 else r.t1))
theorem silent_c (r : Rr) (hr : r.Ok) (n : Nat) (h : n < 2) (b : Nat) (H : AH) (hq : AtR H b r) : ACalls Try.prog 79 #[.pointer (some ⟨b, 0, none⟩), .int .i64 n] H (fun v H' => v = .int .i64 (sil r n) ∧ H = H') := by
  have h2 : H.rd ⟨b, 2, none⟩ = some (.int .i64 r.t0) := rd_find hq
  have h3 : H.rd ⟨b, 3, none⟩ = some (.int .i64 r.t1) := rd_find hq
  have h4 : H.rd ⟨b, 4, none⟩ = some (.int .i64 r.now) := rd_find hq
  have h5 : H.rd ⟨b, 5, none⟩ = some (.int .i64 r.last) := rd_find hq
  obtain ⟨⟨a1, a2⟩, ⟨b1, b2⟩, ⟨c1, c2⟩, d⟩ := hr
  have e0 : IntKind.i64.wrap (r.now - r.t0) = r.now - r.t0 := i64_eq (by omega) (by omega)
  have e1 : IntKind.i64.wrap (r.now - r.t1) = r.now - r.t1 := i64_eq (by omega) (by omega)
  have e2 : IntKind.i64.wrap (r.now - r.last) = r.now - r.last := i64_eq (by omega) (by omega)
  obtain rfl | rfl : n = 0 ∨ n = 1 := by omega
  · by_cases a : r.t0 < r.last
    · refine ACalls.enter2 Try.func79 rfl Try.ntmps79 Try.results79 (by simp) ?_; simp (dsimp := false) (maxSteps := 4000000) only [h2, h3, h4, h5, e0, e1, e2, a, go_sem, ↓reduceIte, Nat.reduceEqDiff, Nat.reduceLT, Nat.reduceLeDiff, Nat.reduceAdd, Nat.reduceMul, Nat.reduceSub, reduceCtorEq, Int.reduceToNat, Int.reduceLT, Int.reduceLE, Int.reduceEq, Int.reduceNe, Int.reduceBEq, Nat.reduceBEq, Int.reduceBNe, Nat.reduceBNe, Int.reduceAdd, Int.reduceSub, Int.reduceMul, Int.reduceNeg]
      exact ⟨H, (AH.le_refl _), (by first | exact ⟨by simp [sil, a], rfl⟩ | rfl)⟩
    · refine ACalls.enter2 Try.func79 rfl Try.ntmps79 Try.results79 (by simp) ?_; simp (dsimp := false) (maxSteps := 4000000) only [h2, h3, h4, h5, e0, e1, e2, a, go_sem, ↓reduceIte, Nat.reduceEqDiff, Nat.reduceLT, Nat.reduceLeDiff, Nat.reduceAdd, Nat.reduceMul, Nat.reduceSub, reduceCtorEq, Int.reduceToNat, Int.reduceLT, Int.reduceLE, Int.reduceEq, Int.reduceNe, Int.reduceBEq, Nat.reduceBEq, Int.reduceBNe, Nat.reduceBNe, Int.reduceAdd, Int.reduceSub, Int.reduceMul, Int.reduceNeg]
      exact ⟨H, (AH.le_refl _), (by first | exact ⟨by simp [sil, a], rfl⟩ | rfl)⟩
  · by_cases a : r.t1 < r.last
    · refine ACalls.enter2 Try.func79 rfl Try.ntmps79 Try.results79 (by simp) ?_; simp (dsimp := false) (maxSteps := 4000000) only [h2, h3, h4, h5, e0, e1, e2, a, go_sem, ↓reduceIte, Nat.reduceEqDiff, Nat.reduceLT, Nat.reduceLeDiff, Nat.reduceAdd, Nat.reduceMul, Nat.reduceSub, reduceCtorEq, Int.reduceToNat, Int.reduceLT, Int.reduceLE, Int.reduceEq, Int.reduceNe, Int.reduceBEq, Nat.reduceBEq, Int.reduceBNe, Nat.reduceBNe, Int.reduceAdd, Int.reduceSub, Int.reduceMul, Int.reduceNeg]
      exact ⟨H, (AH.le_refl _), (by first | exact ⟨by simp [sil, a], rfl⟩ | rfl)⟩
    · refine ACalls.enter2 Try.func79 rfl Try.ntmps79 Try.results79 (by simp) ?_; simp (dsimp := false) (maxSteps := 4000000) only [h2, h3, h4, h5, e0, e1, e2, a, go_sem, ↓reduceIte, Nat.reduceEqDiff, Nat.reduceLT, Nat.reduceLeDiff, Nat.reduceAdd, Nat.reduceMul, Nat.reduceSub, reduceCtorEq, Int.reduceToNat, Int.reduceLT, Int.reduceLE, Int.reduceEq, Int.reduceNe, Int.reduceBEq, Nat.reduceBEq, Int.reduceBNe, Nat.reduceBNe, Int.reduceAdd, Int.reduceSub, Int.reduceMul, Int.reduceNeg]
      exact ⟨H, (AH.le_refl _), (by first | exact ⟨by simp [sil, a], rfl⟩ | rfl)⟩

def roleR (r : Rr) (n : Nat) : Int := if n = 0 then r.r0 else r.r1
def crashR (r : Rr) (n : Nat) : Rr := if roleR r n = 4 then r else if n = 0 then { r with r0 := 4 } else { r with r1 := 4 }
def restartR (r : Rr) (n : Nat) : Rr := if roleR r n = 4 then (if n = 0 then { r with r0 := 3, t0 := r.now } else { r with r1 := 3, t1 := r.now }) else r
theorem RCrash_c (p : Rr) (n : Nat) (h : n < 2) (b : Nat) (H : AH) (hq : AtR H b p) : ACalls Try.prog 37 #[.pointer (some ⟨b, 0, none⟩), .int .i64 n] H (fun v H' => v = .int .i64 (if roleR p n = 4 then 10 else 0) ∧ putR H b (crashR p n) = H') := by
  refine ACalls.at hq ?_
  obtain ⟨r0, r1, t0, t1, now, last⟩ := p
  obtain rfl | rfl : n = 0 ∨ n = 1 := by omega
  · by_cases a : r0 = 4
    · subst a
      refine ACalls.enter2 Try.func37 rfl Try.ntmps37 Try.results37 (by simp) ?_; simp (dsimp := false) (maxSteps := 4000000) only [rc, go_sem, ↓reduceIte, Nat.reduceEqDiff, Nat.reduceLT, Nat.reduceLeDiff, Nat.reduceAdd, Nat.reduceMul, Nat.reduceSub, reduceCtorEq, Int.reduceToNat, Int.reduceLT, Int.reduceLE, Int.reduceEq, Int.reduceNe, Int.reduceBEq, Nat.reduceBEq, Int.reduceBNe, Nat.reduceBNe, Int.reduceAdd, Int.reduceSub, Int.reduceMul, Int.reduceNeg]
      exact ⟨_, AH.le_refl _, by simp [roleR], by simp [crashR, roleR, rc, putR]⟩
    · refine ACalls.enter2 Try.func37 rfl Try.ntmps37 Try.results37 (by simp) ?_; simp (dsimp := false) (maxSteps := 4000000) only [rc, a, go_sem, ↓reduceIte, Nat.reduceEqDiff, Nat.reduceLT, Nat.reduceLeDiff, Nat.reduceAdd, Nat.reduceMul, Nat.reduceSub, reduceCtorEq, Int.reduceToNat, Int.reduceLT, Int.reduceLE, Int.reduceEq, Int.reduceNe, Int.reduceBEq, Nat.reduceBEq, Int.reduceBNe, Nat.reduceBNe, Int.reduceAdd, Int.reduceSub, Int.reduceMul, Int.reduceNeg]
      exact ⟨_, AH.le_refl _, by simp [roleR, a], by simp [crashR, roleR, rc, putR, a]⟩
  · by_cases a : r1 = 4
    · subst a
      refine ACalls.enter2 Try.func37 rfl Try.ntmps37 Try.results37 (by simp) ?_; simp (dsimp := false) (maxSteps := 4000000) only [rc, go_sem, ↓reduceIte, Nat.reduceEqDiff, Nat.reduceLT, Nat.reduceLeDiff, Nat.reduceAdd, Nat.reduceMul, Nat.reduceSub, reduceCtorEq, Int.reduceToNat, Int.reduceLT, Int.reduceLE, Int.reduceEq, Int.reduceNe, Int.reduceBEq, Nat.reduceBEq, Int.reduceBNe, Nat.reduceBNe, Int.reduceAdd, Int.reduceSub, Int.reduceMul, Int.reduceNeg]
      exact ⟨_, AH.le_refl _, by simp [roleR], by simp [crashR, roleR, rc, putR]⟩
    · refine ACalls.enter2 Try.func37 rfl Try.ntmps37 Try.results37 (by simp) ?_; simp (dsimp := false) (maxSteps := 4000000) only [rc, a, go_sem, ↓reduceIte, Nat.reduceEqDiff, Nat.reduceLT, Nat.reduceLeDiff, Nat.reduceAdd, Nat.reduceMul, Nat.reduceSub, reduceCtorEq, Int.reduceToNat, Int.reduceLT, Int.reduceLE, Int.reduceEq, Int.reduceNe, Int.reduceBEq, Nat.reduceBEq, Int.reduceBNe, Nat.reduceBNe, Int.reduceAdd, Int.reduceSub, Int.reduceMul, Int.reduceNeg]
      exact ⟨_, AH.le_refl _, by simp [roleR, a], by simp [crashR, roleR, rc, putR, a]⟩
theorem RCrash_out (n : Int) (h : n < 0 ∨ 2 ≤ n) (b : Nat) (H : AH) : ACalls Try.prog 37 #[.pointer (some ⟨b, 0, none⟩), .int .i64 n] H (fun v H' => v = .int .i64 1 ∧ H = H') := by
  have h0 : ¬ n = 0 := by omega
  have h1 : ¬ n = 1 := by omega
  refine ACalls.enter2 Try.func37 rfl Try.ntmps37 Try.results37 (by simp) ?_; simp (dsimp := false) (maxSteps := 4000000) only [h0, h1, go_sem, ↓reduceIte, Nat.reduceEqDiff, Nat.reduceLT, Nat.reduceLeDiff, Nat.reduceAdd, Nat.reduceMul, Nat.reduceSub, reduceCtorEq, Int.reduceToNat, Int.reduceLT, Int.reduceLE, Int.reduceEq, Int.reduceNe, Int.reduceBEq, Nat.reduceBEq, Int.reduceBNe, Nat.reduceBNe, Int.reduceAdd, Int.reduceSub, Int.reduceMul, Int.reduceNeg]
  exact ⟨H, (AH.le_refl _), (by first | exact ⟨rfl, rfl⟩ | rfl)⟩
theorem RRestart_c (p : Rr) (n : Nat) (h : n < 2) (b : Nat) (H : AH) (hq : AtR H b p) : ACalls Try.prog 39 #[.pointer (some ⟨b, 0, none⟩), .int .i64 n] H (fun v H' => v = .int .i64 (if roleR p n = 4 then 0 else 10) ∧ putR H b (restartR p n) = H') := by
  refine ACalls.at hq ?_
  obtain ⟨r0, r1, t0, t1, now, last⟩ := p
  obtain rfl | rfl : n = 0 ∨ n = 1 := by omega
  · by_cases a : r0 = 4
    · subst a
      refine ACalls.enter2 Try.func39 rfl Try.ntmps39 Try.results39 (by simp) ?_; simp (dsimp := false) (maxSteps := 4000000) only [rc, go_sem, ↓reduceIte, Nat.reduceEqDiff, Nat.reduceLT, Nat.reduceLeDiff, Nat.reduceAdd, Nat.reduceMul, Nat.reduceSub, reduceCtorEq, Int.reduceToNat, Int.reduceLT, Int.reduceLE, Int.reduceEq, Int.reduceNe, Int.reduceBEq, Nat.reduceBEq, Int.reduceBNe, Nat.reduceBNe, Int.reduceAdd, Int.reduceSub, Int.reduceMul, Int.reduceNeg]
      refine AWp.gen [.pu, .pu, .pu, .pu, .pu, .pu, .pu, .rd, .pu, .pu, .pu, .ch, .pu, .pu, .pu, .ch] [0, 0, 0, 0, 0, 16, 48, 112, 1, 257, 1011, 2035, 4, 4100, 16383, 32767] 0 (_) mixed (by kernel_rfl) (AH.le_refl _) ?_
      simp (dsimp := false) (maxSteps := 4000000) only [rc, go_sem, ↓reduceIte, Nat.reduceEqDiff, Nat.reduceLT, Nat.reduceLeDiff, Nat.reduceAdd, Nat.reduceMul, Nat.reduceSub, reduceCtorEq, Int.reduceToNat, Int.reduceLT, Int.reduceLE, Int.reduceEq, Int.reduceNe, Int.reduceBEq, Nat.reduceBEq, Int.reduceBNe, Nat.reduceBNe, Int.reduceAdd, Int.reduceSub, Int.reduceMul, Int.reduceNeg]
      exact ⟨_, AH.le_refl _, by simp [roleR], by simp [restartR, roleR, rc, putR]⟩
    · refine ACalls.enter2 Try.func39 rfl Try.ntmps39 Try.results39 (by simp) ?_; simp (dsimp := false) (maxSteps := 4000000) only [rc, a, go_sem, ↓reduceIte, Nat.reduceEqDiff, Nat.reduceLT, Nat.reduceLeDiff, Nat.reduceAdd, Nat.reduceMul, Nat.reduceSub, reduceCtorEq, Int.reduceToNat, Int.reduceLT, Int.reduceLE, Int.reduceEq, Int.reduceNe, Int.reduceBEq, Nat.reduceBEq, Int.reduceBNe, Nat.reduceBNe, Int.reduceAdd, Int.reduceSub, Int.reduceMul, Int.reduceNeg]
      exact ⟨_, AH.le_refl _, by simp [roleR, a], by simp [restartR, roleR, rc, putR, a]⟩
  · by_cases a : r1 = 4
    · subst a
      refine ACalls.enter2 Try.func39 rfl Try.ntmps39 Try.results39 (by simp) ?_; simp (dsimp := false) (maxSteps := 4000000) only [rc, go_sem, ↓reduceIte, Nat.reduceEqDiff, Nat.reduceLT, Nat.reduceLeDiff, Nat.reduceAdd, Nat.reduceMul, Nat.reduceSub, reduceCtorEq, Int.reduceToNat, Int.reduceLT, Int.reduceLE, Int.reduceEq, Int.reduceNe, Int.reduceBEq, Nat.reduceBEq, Int.reduceBNe, Nat.reduceBNe, Int.reduceAdd, Int.reduceSub, Int.reduceMul, Int.reduceNeg]
      refine AWp.gen [.pu, .pu, .pu, .pu, .pu, .pu, .pu, .rd, .pu, .pu, .pu, .ch, .pu, .pu, .pu, .ch] [0, 0, 0, 0, 0, 16, 48, 112, 1, 257, 1011, 2035, 4, 4100, 16383, 32767] 0 (_) mixed (by kernel_rfl) (AH.le_refl _) ?_
      simp (dsimp := false) (maxSteps := 4000000) only [rc, go_sem, ↓reduceIte, Nat.reduceEqDiff, Nat.reduceLT, Nat.reduceLeDiff, Nat.reduceAdd, Nat.reduceMul, Nat.reduceSub, reduceCtorEq, Int.reduceToNat, Int.reduceLT, Int.reduceLE, Int.reduceEq, Int.reduceNe, Int.reduceBEq, Nat.reduceBEq, Int.reduceBNe, Nat.reduceBNe, Int.reduceAdd, Int.reduceSub, Int.reduceMul, Int.reduceNeg]
      exact ⟨_, AH.le_refl _, by simp [roleR], by simp [restartR, roleR, rc, putR]⟩
    · refine ACalls.enter2 Try.func39 rfl Try.ntmps39 Try.results39 (by simp) ?_; simp (dsimp := false) (maxSteps := 4000000) only [rc, a, go_sem, ↓reduceIte, Nat.reduceEqDiff, Nat.reduceLT, Nat.reduceLeDiff, Nat.reduceAdd, Nat.reduceMul, Nat.reduceSub, reduceCtorEq, Int.reduceToNat, Int.reduceLT, Int.reduceLE, Int.reduceEq, Int.reduceNe, Int.reduceBEq, Nat.reduceBEq, Int.reduceBNe, Nat.reduceBNe, Int.reduceAdd, Int.reduceSub, Int.reduceMul, Int.reduceNeg]
      exact ⟨_, AH.le_refl _, by simp [roleR, a], by simp [restartR, roleR, rc, putR, a]⟩
theorem RRestart_out (n : Int) (h : n < 0 ∨ 2 ≤ n) (b : Nat) (H : AH) : ACalls Try.prog 39 #[.pointer (some ⟨b, 0, none⟩), .int .i64 n] H (fun v H' => v = .int .i64 1 ∧ H = H') := by
  have h0 : ¬ n = 0 := by omega
  have h1 : ¬ n = 1 := by omega
  refine ACalls.enter2 Try.func39 rfl Try.ntmps39 Try.results39 (by simp) ?_; simp (dsimp := false) (maxSteps := 4000000) only [h0, h1, go_sem, ↓reduceIte, Nat.reduceEqDiff, Nat.reduceLT, Nat.reduceLeDiff, Nat.reduceAdd, Nat.reduceMul, Nat.reduceSub, reduceCtorEq, Int.reduceToNat, Int.reduceLT, Int.reduceLE, Int.reduceEq, Int.reduceNe, Int.reduceBEq, Nat.reduceBEq, Int.reduceBNe, Nat.reduceBNe, Int.reduceAdd, Int.reduceSub, Int.reduceMul, Int.reduceNeg]
  exact ⟨H, (AH.le_refl _), (by first | exact ⟨rfl, rfl⟩ | rfl)⟩
end Go.Proofs.Ytadbmmdmibiikaa.Watch
