/- WatchEnds, as a call. -/
import Derived.Test.YtadbmmdmibiikaaWatch8
namespace Go.Proofs.Ytadbmmdmibiikaa.Watch
set_option linter.unusedSimpArgs false
set_option linter.unusedVariables false
open Go Go.AX Go.Proofs Ty
set_option maxHeartbeats 4000000
set_option maxRecDepth 10000

structure Rl (p : Pr) : Prop where
  a : p.r0 = 1 ∨ p.r0 = 2 ∨ p.r0 = 3 ∨ p.r0 = 4
  b : p.r1 = 1 ∨ p.r1 = 2 ∨ p.r1 = 3 ∨ p.r1 = 4
  j : ¬ (p.r0 = 1 ∧ p.r1 = 1)
theorem t0P_r (p : Pr) : ((t0P p).r0 = 1 ∨ (t0P p).r0 = p.r0) ∧ (t0P p).r1 = p.r1 := by
  unfold t0P; split
  · exact ⟨.inl rfl, rfl⟩
  · exact ⟨.inr rfl, rfl⟩
theorem t1P_r (p q : Pr) : (t1P p q).r0 = q.r0 ∧ ((t1P p q).r1 = 1 ∨ (t1P p q).r1 = q.r1) := by
  unfold t1P; split
  · exact ⟨rfl, .inl rfl⟩
  · exact ⟨rfl, .inr rfl⟩
theorem fin0_r (q : Pr) (o : Int) : ((fin0 q o).r0 = 2 ∨ (fin0 q o).r0 = q.r0) ∧ (fin0 q o).r1 = q.r1 := by
  unfold fin0; split
  · exact ⟨.inr rfl, rfl⟩
  · refine ⟨?_, rfl⟩
    simp only; split
    · exact .inl rfl
    · exact .inr rfl
theorem fin1_r (q : Pr) (o : Int) : (fin1 q o).r0 = q.r0 ∧ ((fin1 q o).r1 = 2 ∨ (fin1 q o).r1 = q.r1) := by
  unfold fin1; split
  · exact ⟨rfl, .inr rfl⟩
  · refine ⟨rfl, ?_⟩
    simp only; split
    · exact .inl rfl
    · exact .inr rfl
theorem Rl.round {p : Pr} (h : Rl p) : Rl (roundP p) := by
  obtain ⟨a, b, j⟩ := h
  have h0 := t0P_r p
  have h1 := t1P_r p (t0P p)
  have h2 := fin0_r (tkP p) (act (tkP p))
  have h3 := fin1_r (fin0 (tkP p) (act (tkP p))) (act (tkP p))
  rw [show t1P p (t0P p) = tkP p from rfl] at h1
  rw [show fin1 (fin0 (tkP p) (act (tkP p))) (act (tkP p)) = roundP p from rfl] at h3
  refine ⟨by omega, by omega, ?_⟩
  rcases one_round p j with ⟨_, n0, n1, e, _, _⟩ | ⟨_, g0, g1, _, _⟩ | ⟨_, g0, g1, _, _⟩
  · rw [e]; exact j
  · exact fun h => g1 h.2
  · exact fun h => g1 h.1
theorem Rl.crash {p : Pr} (h : Rl p) (n : Nat) : Rl (crashP p n) := by
  obtain ⟨a, b, j⟩ := h
  unfold crashP setP
  split
  · exact ⟨a, b, j⟩
  · split
    · exact ⟨by simp, b, by simp⟩
    · exact ⟨a, by simp, by simp⟩
theorem Rl.restart {p : Pr} (h : Rl p) (n : Nat) : Rl (restartP p n) := by
  obtain ⟨a, b, j⟩ := h
  unfold restartP setP
  split
  · split
    · exact ⟨by simp, b, by simp⟩
    · exact ⟨a, by simp, by simp⟩
  · exact ⟨a, b, j⟩
theorem Bd.up {p : Pr} {i : Int} (h : Bd p i) : Bd p (i + 1) := ⟨by have := h.a; omega, by have := h.b; omega⟩

structure StE where
  i : Nat
  p : Pr
structure InvE (L : List Deed) (t : StE) : Prop where
  i1 : t.i ≤ L.length
  i2 : t.i ≤ 120
  rl : Rl t.p
  bd : Bd t.p t.i
/-- So many silent rounds, and nobody has opened one. -/
structure Inv2 (m : Nat) (p : Pr) : Prop where
  k : m ≤ 10
  rl : Rl p
  up : ¬ (p.r0 = 4 ∧ p.r1 = 4)
  s0 : p.r0 = 2 ∨ p.r0 = 3 → m ≤ p.s0
  s1 : p.r1 = 2 ∨ p.r1 = 3 → m ≤ p.s1
  bd : Bd p (200 + m)
theorem Inv2.step {k : Nat} {p : Pr} (h : Inv2 k p) (ho : act (tkP p) = -1) : Inv2 (k + 1) (roundP p) ∧ k + 1 ≤ 10 ∧ (p.r0 = 2 ∨ p.r1 = 2 → k + 1 ≤ 4) ∧ (roundP p).r0 = p.r0 ∧ (roundP p).r1 = p.r1 := by
  have hr := h.rl.round
  have hb := h.bd.round (by omega)
  obtain ⟨hk, rl, up, s0, s1, bd⟩ := h
  rcases one_round p rl.j with ⟨_, n0, n1, e, w0, w1⟩ | ⟨o, _⟩ | ⟨o, _⟩
  · have v0 : ¬ ((p.r0 = 2 ∧ 4 ≤ p.s0) ∨ (p.r0 = 3 ∧ 8 + 0 ≤ p.s0)) := fun h => by rw [(wt_iff _ _ _).2 h] at w0; cases w0
    have v1 : ¬ ((p.r1 = 2 ∧ 4 ≤ p.s1) ∨ (p.r1 = 3 ∧ 8 + 1 ≤ p.s1)) := fun h => by rw [(wt_iff _ _ _).2 h] at w1; cases w1
    have ra := rl.a
    have rb := rl.b
    have hk10 : k + 1 ≤ 10 := by
      rcases ra with x | x | x | x
      · exact absurd x n0
      · have := s0 (.inl x); omega
      · have := s0 (.inr x); omega
      · rcases rb with y | y | y | y
        · exact absurd y n1
        · have := s1 (.inl y); omega
        · have := s1 (.inr y); omega
        · exact absurd ⟨x, y⟩ up
    refine ⟨⟨hk10, hr, by rw [e]; exact up, fun h => ?_, fun h => ?_, ?_⟩, hk10, fun h => ?_, by rw [e], by rw [e]⟩
    · rw [e] at h ⊢; have := s0 h; simp only; omega
    · rw [e] at h ⊢; have := s1 h; simp only; omega
    · exact ⟨by have := hb.a; omega, by have := hb.b; omega⟩
    · rcases h with x | x
      · have := s0 (.inl x); omega
      · have := s1 (.inl x); omega
  · rw [o] at ho; cases ho
  · rw [o] at ho; cases ho
theorem open_again {p : Pr} (h : Rl p) (ho : act (tkP p) ≠ -1) : act (tkP p) = 0 ∨ act (tkP p) = 1 := by
  rcases one_round p h.j with ⟨o, _⟩ | ⟨o, _⟩ | ⟨o, _⟩
  · exact absurd o ho
  · exact .inl o
  · exact .inr o
theorem stays_open {p : Pr} (h : Rl p) (ho : act (tkP p) ≠ -1) : act (tkP (roundP p)) ≠ -1 := fun hx => by
  rcases one_round p h.j with ⟨o, _⟩ | ⟨o, g0, g1, _, _⟩ | ⟨o, g0, g1, _, _⟩
  · exact ho o
  · rcases one_round (roundP p) h.round.j with ⟨_, n0, _⟩ | ⟨o2, _⟩ | ⟨o2, _⟩
    · exact n0 g0
    · rw [o2] at hx; cases hx
    · rw [o2] at hx; cases hx
  · rcases one_round (roundP p) h.round.j with ⟨_, _, n0, _⟩ | ⟨o2, _⟩ | ⟨o2, _⟩
    · exact n0 g0
    · rw [o2] at hx; cases hx
    · rw [o2] at hx; cases hx

theorem Round_nil (H : AH) : ACalls Try.prog 40 #[.pointer none] H (fun v H' => v = .int .i64 (-1) ∧ H = H') := by
  refine ACalls.enter2 Try.func40 rfl Try.ntmps40 Try.results40 (by simp) ?_; simp (dsimp := false) (maxSteps := 4000000) only [go_sem, ↓reduceIte, Nat.reduceEqDiff, Nat.reduceLT, Nat.reduceLeDiff, Nat.reduceAdd, Nat.reduceMul, Nat.reduceSub, reduceCtorEq, Int.reduceToNat, Int.reduceLT, Int.reduceLE, Int.reduceEq, Int.reduceNe, Int.reduceBEq, Nat.reduceBEq, Int.reduceBNe, Nat.reduceBNe, Int.reduceAdd, Int.reduceSub, Int.reduceMul, Int.reduceNeg]
  exact ⟨H, (AH.le_refl _), (by first | exact ⟨rfl, rfl⟩ | rfl)⟩

theorem WatchEnds_c (L : List Deed) (base : Option Addr) (cap : Nat) (H : AH) (hs : SlcIn H 2 base cap (L.map encD)) (hw : ∀ s ∈ L, (Lit.int .u8 s.kind).wf = true) :
    ACalls Try.prog 8 #[.slice base L.length cap] H (fun v H' => v = .bool true ∧ H = H') := by
  have hle := hs.le
  have hbig := hs.big
  simp only [List.length_map] at hle
  refine ACalls.enter2 Try.func8 rfl Try.ntmps8 Try.results8 (by simp) ?_; simp (dsimp := false) (maxSteps := 4000000) only [go_sem, ↓reduceIte, Nat.reduceEqDiff, Nat.reduceLT, Nat.reduceLeDiff, Nat.reduceAdd, Nat.reduceMul, Nat.reduceSub, reduceCtorEq, Int.reduceToNat, Int.reduceLT, Int.reduceLE, Int.reduceEq, Int.reduceNe, Int.reduceBEq, Nat.reduceBEq, Int.reduceBNe, Nat.reduceBNe, Int.reduceAdd, Int.reduceSub, Int.reduceMul, Int.reduceNeg]
  refine (New_c _).mono ?_; rintro _ _ ⟨bp, h_bp, rfl, rfl⟩; have hn_bp := h_bp; (try simp only [fresh_add, fresh_set, ne_eq] at hn_bp); have hr_bp := hn_bp; (try simp only [@eq_comm Nat bp] at hr_bp)
  simp (dsimp := false) (maxSteps := 4000000) only [hn_bp, hr_bp, go_sem, ↓reduceIte, Nat.reduceEqDiff, Nat.reduceLT, Nat.reduceLeDiff, Nat.reduceAdd, Nat.reduceMul, Nat.reduceSub, reduceCtorEq, Int.reduceToNat, Int.reduceLT, Int.reduceLE, Int.reduceEq, Int.reduceNe, Int.reduceBEq, Nat.reduceBEq, Int.reduceBNe, Nat.reduceBNe, Int.reduceAdd, Int.reduceSub, Int.reduceMul, Int.reduceNeg]
  have fp : Fresh H bp := h_bp
  refine AWp.loopo (ι := StE) (InvE L) (fun t => [(4, .int .i64 t.i), (3, .pointer (some ⟨bp, 0, none⟩)), (0, .slice base L.length cap)])
    (fun t => H.add bp (.cells (pc t.p) 127 4)) (fun t => L.length - t.i) ⟨0, ⟨1, 0, 2, 0⟩⟩
    ⟨by simp, by simp, ⟨by simp, by simp, by simp⟩, ⟨by simp, by simp⟩⟩ (FrLe.of_lks ?_) (AH.le_refl _) fun t hi Q again out => ?_
  · simp (dsimp := false) (maxSteps := 4000000) only [hn_bp, hr_bp, go_sem, ↓reduceIte, Nat.reduceEqDiff, Nat.reduceLT, Nat.reduceLeDiff, Nat.reduceAdd, Nat.reduceMul, Nat.reduceSub, reduceCtorEq, Int.reduceToNat, Int.reduceLT, Int.reduceLE, Int.reduceEq, Int.reduceNe, Int.reduceBEq, Nat.reduceBEq, Int.reduceBNe, Nat.reduceBNe, Int.reduceAdd, Int.reduceSub, Int.reduceMul, Int.reduceNeg]
  · clear hn_bp hr_bp h_bp
    
    obtain ⟨i, p⟩ := t
    obtain ⟨i1, i2, rl, bd⟩ := hi
    simp only at i1 i2 rl bd
    have e1 := i64_succ (i := i) (by omega)
    have hle2 : ∀ k1, H.le (H.add bp k1) := fun k1 => AH.le_add (AH.le_refl _) fp.2
    
    by_cases hrun : (i : Int) < L.length ∧ (i : Int) < 120
    · obtain ⟨h, h120⟩ := hrun
      obtain ⟨d, hx⟩ := get_some (l := L) (i := i) (by omega)
      obtain ⟨b, o, rfl, hrow, hrd⟩ := hs.get (map_get (f := encD) hx)
      have hk := byte_wf (hw d (List.mem_of_getElem? hx))
      have hkind := hrd 0 _ rfl
      have hn := hrd 1 _ rfl
      rw [Nat.add_zero] at hkind
      generalize d.n = n at hn
      generalize d.kind = kd at hkind hk
      have nb1 : ¬ bp = b := fp.ne_row hrow
      have ek : kd.tmod 5 = kd % 5 := Int.tmod_eq_emod_of_nonneg hk.1
      have h3 : kd % 5 = 0 ∨ kd % 5 = 1 ∨ (¬ kd % 5 = 0 ∧ ¬ kd % 5 = 1) := by omega
      rcases h3 with k0 | k1 | ⟨k0, k1⟩
      · simp (dsimp := false) (maxSteps := 4000000) only [h, h120, hkind, hn, nb1, ek, k0, fp, go_sem, ↓reduceIte, Nat.reduceEqDiff, Nat.reduceLT, Nat.reduceLeDiff, Nat.reduceAdd, Nat.reduceMul, Nat.reduceSub, reduceCtorEq, Int.reduceToNat, Int.reduceLT, Int.reduceLE, Int.reduceEq, Int.reduceNe, Int.reduceBEq, Nat.reduceBEq, Int.reduceBNe, Nat.reduceBNe, Int.reduceAdd, Int.reduceSub, Int.reduceMul, Int.reduceNeg]
        rcases three n with e | e | hn2
        · subst e
          have rl2 := rl.crash 0
          have bd2 := (bd.crash (by omega) 0).1
          refine ACalls.mono (Crash_c p 0 (by decide) bp _ ?_) ?_; (show AH.find _ _ = _; simp only [find_add_self, find_add_ne, find_fresh, fresh_add, ne_eq, not_false_eq_true, true_and, and_true, and_self, fp]); rintro _ _ ⟨rfl, hH_⟩; (try simp only [put, del_add_self, del_add_ne, del_del, del_fresh, fresh_add, ne_eq, not_false_eq_true, true_and, and_true, and_self, fp] at hH_); subst hH_
          simp (dsimp := false) (maxSteps := 4000000) only [e1, fp, go_sem, ↓reduceIte, Nat.reduceEqDiff, Nat.reduceLT, Nat.reduceLeDiff, Nat.reduceAdd, Nat.reduceMul, Nat.reduceSub, reduceCtorEq, Int.reduceToNat, Int.reduceLT, Int.reduceLE, Int.reduceEq, Int.reduceNe, Int.reduceBEq, Nat.reduceBEq, Int.reduceBNe, Nat.reduceBNe, Int.reduceAdd, Int.reduceSub, Int.reduceMul, Int.reduceNeg]
          exact again ⟨i + 1, crashP p 0⟩ _ _ ⟨by simp only; omega, by simp only; omega, rl2, by simpa using bd2⟩ (FrLe.of_lks (by simp (dsimp := false) (maxSteps := 4000000) only [fp, go_sem, ↓reduceIte, Nat.reduceEqDiff, Nat.reduceLT, Nat.reduceLeDiff, Nat.reduceAdd, Nat.reduceMul, Nat.reduceSub, reduceCtorEq, Int.reduceToNat, Int.reduceLT, Int.reduceLE, Int.reduceEq, Int.reduceNe, Int.reduceBEq, Nat.reduceBEq, Int.reduceBNe, Nat.reduceBNe, Int.reduceAdd, Int.reduceSub, Int.reduceMul, Int.reduceNeg])) (by refine AH.le_cons ?_ ?_; (show AH.find _ _ = _; simp only [find_add_self, find_add_ne, find_fresh, fresh_add, ne_eq, not_false_eq_true, true_and, and_true, and_self, fp]); (repeat (first | exact AH.le_refl _ | refine AH.le_add ?_ ?_)); all_goals (first | exact AH.le_refl _ | (show AH.find _ _ = _; simp only [find_add_self, find_add_ne, find_fresh, fresh_add, ne_eq, not_false_eq_true, true_and, and_true, and_self, fp]))) (by simp only; omega)
        · subst e
          have rl2 := rl.crash 1
          have bd2 := (bd.crash (by omega) 1).1
          refine ACalls.mono (Crash_c p 1 (by decide) bp _ ?_) ?_; (show AH.find _ _ = _; simp only [find_add_self, find_add_ne, find_fresh, fresh_add, ne_eq, not_false_eq_true, true_and, and_true, and_self, fp]); rintro _ _ ⟨rfl, hH_⟩; (try simp only [put, del_add_self, del_add_ne, del_del, del_fresh, fresh_add, ne_eq, not_false_eq_true, true_and, and_true, and_self, fp] at hH_); subst hH_
          simp (dsimp := false) (maxSteps := 4000000) only [e1, fp, go_sem, ↓reduceIte, Nat.reduceEqDiff, Nat.reduceLT, Nat.reduceLeDiff, Nat.reduceAdd, Nat.reduceMul, Nat.reduceSub, reduceCtorEq, Int.reduceToNat, Int.reduceLT, Int.reduceLE, Int.reduceEq, Int.reduceNe, Int.reduceBEq, Nat.reduceBEq, Int.reduceBNe, Nat.reduceBNe, Int.reduceAdd, Int.reduceSub, Int.reduceMul, Int.reduceNeg]
          exact again ⟨i + 1, crashP p 1⟩ _ _ ⟨by simp only; omega, by simp only; omega, rl2, by simpa using bd2⟩ (FrLe.of_lks (by simp (dsimp := false) (maxSteps := 4000000) only [fp, go_sem, ↓reduceIte, Nat.reduceEqDiff, Nat.reduceLT, Nat.reduceLeDiff, Nat.reduceAdd, Nat.reduceMul, Nat.reduceSub, reduceCtorEq, Int.reduceToNat, Int.reduceLT, Int.reduceLE, Int.reduceEq, Int.reduceNe, Int.reduceBEq, Nat.reduceBEq, Int.reduceBNe, Nat.reduceBNe, Int.reduceAdd, Int.reduceSub, Int.reduceMul, Int.reduceNeg])) (by refine AH.le_cons ?_ ?_; (show AH.find _ _ = _; simp only [find_add_self, find_add_ne, find_fresh, fresh_add, ne_eq, not_false_eq_true, true_and, and_true, and_self, fp]); (repeat (first | exact AH.le_refl _ | refine AH.le_add ?_ ?_)); all_goals (first | exact AH.le_refl _ | (show AH.find _ _ = _; simp only [find_add_self, find_add_ne, find_fresh, fresh_add, ne_eq, not_false_eq_true, true_and, and_true, and_self, fp]))) (by simp only; omega)
        · have rl2 := rl
          have bd2 := bd.up
          refine (Crash_out n hn2 bp _).mono ?_; rintro _ _ ⟨rfl, rfl⟩
          simp (dsimp := false) (maxSteps := 4000000) only [e1, fp, go_sem, ↓reduceIte, Nat.reduceEqDiff, Nat.reduceLT, Nat.reduceLeDiff, Nat.reduceAdd, Nat.reduceMul, Nat.reduceSub, reduceCtorEq, Int.reduceToNat, Int.reduceLT, Int.reduceLE, Int.reduceEq, Int.reduceNe, Int.reduceBEq, Nat.reduceBEq, Int.reduceBNe, Nat.reduceBNe, Int.reduceAdd, Int.reduceSub, Int.reduceMul, Int.reduceNeg]
          exact again ⟨i + 1, p⟩ _ _ ⟨by simp only; omega, by simp only; omega, rl2, by simpa using bd2⟩ (FrLe.of_lks (by simp (dsimp := false) (maxSteps := 4000000) only [fp, go_sem, ↓reduceIte, Nat.reduceEqDiff, Nat.reduceLT, Nat.reduceLeDiff, Nat.reduceAdd, Nat.reduceMul, Nat.reduceSub, reduceCtorEq, Int.reduceToNat, Int.reduceLT, Int.reduceLE, Int.reduceEq, Int.reduceNe, Int.reduceBEq, Nat.reduceBEq, Int.reduceBNe, Nat.reduceBNe, Int.reduceAdd, Int.reduceSub, Int.reduceMul, Int.reduceNeg])) (by refine AH.le_cons ?_ ?_; (show AH.find _ _ = _; simp only [find_add_self, find_add_ne, find_fresh, fresh_add, ne_eq, not_false_eq_true, true_and, and_true, and_self, fp]); (repeat (first | exact AH.le_refl _ | refine AH.le_add ?_ ?_)); all_goals (first | exact AH.le_refl _ | (show AH.find _ _ = _; simp only [find_add_self, find_add_ne, find_fresh, fresh_add, ne_eq, not_false_eq_true, true_and, and_true, and_self, fp]))) (by simp only; omega)
      · have k0 : ¬ kd % 5 = 0 := by omega
        simp (dsimp := false) (maxSteps := 4000000) only [h, h120, hkind, hn, nb1, ek, k0, k1, fp, go_sem, ↓reduceIte, Nat.reduceEqDiff, Nat.reduceLT, Nat.reduceLeDiff, Nat.reduceAdd, Nat.reduceMul, Nat.reduceSub, reduceCtorEq, Int.reduceToNat, Int.reduceLT, Int.reduceLE, Int.reduceEq, Int.reduceNe, Int.reduceBEq, Nat.reduceBEq, Int.reduceBNe, Nat.reduceBNe, Int.reduceAdd, Int.reduceSub, Int.reduceMul, Int.reduceNeg]
        rcases three n with e | e | hn2
        · subst e
          have rl2 := rl.restart 0
          have bd2 := (bd.crash (by omega) 0).2
          refine ACalls.mono (Restart_c p 0 (by decide) bp _ ?_) ?_; (show AH.find _ _ = _; simp only [find_add_self, find_add_ne, find_fresh, fresh_add, ne_eq, not_false_eq_true, true_and, and_true, and_self, fp]); rintro _ _ ⟨rfl, hH_⟩; (try simp only [put, del_add_self, del_add_ne, del_del, del_fresh, fresh_add, ne_eq, not_false_eq_true, true_and, and_true, and_self, fp] at hH_); subst hH_
          simp (dsimp := false) (maxSteps := 4000000) only [e1, fp, go_sem, ↓reduceIte, Nat.reduceEqDiff, Nat.reduceLT, Nat.reduceLeDiff, Nat.reduceAdd, Nat.reduceMul, Nat.reduceSub, reduceCtorEq, Int.reduceToNat, Int.reduceLT, Int.reduceLE, Int.reduceEq, Int.reduceNe, Int.reduceBEq, Nat.reduceBEq, Int.reduceBNe, Nat.reduceBNe, Int.reduceAdd, Int.reduceSub, Int.reduceMul, Int.reduceNeg]
          exact again ⟨i + 1, restartP p 0⟩ _ _ ⟨by simp only; omega, by simp only; omega, rl2, by simpa using bd2⟩ (FrLe.of_lks (by simp (dsimp := false) (maxSteps := 4000000) only [fp, go_sem, ↓reduceIte, Nat.reduceEqDiff, Nat.reduceLT, Nat.reduceLeDiff, Nat.reduceAdd, Nat.reduceMul, Nat.reduceSub, reduceCtorEq, Int.reduceToNat, Int.reduceLT, Int.reduceLE, Int.reduceEq, Int.reduceNe, Int.reduceBEq, Nat.reduceBEq, Int.reduceBNe, Nat.reduceBNe, Int.reduceAdd, Int.reduceSub, Int.reduceMul, Int.reduceNeg])) (by refine AH.le_cons ?_ ?_; (show AH.find _ _ = _; simp only [find_add_self, find_add_ne, find_fresh, fresh_add, ne_eq, not_false_eq_true, true_and, and_true, and_self, fp]); (repeat (first | exact AH.le_refl _ | refine AH.le_add ?_ ?_)); all_goals (first | exact AH.le_refl _ | (show AH.find _ _ = _; simp only [find_add_self, find_add_ne, find_fresh, fresh_add, ne_eq, not_false_eq_true, true_and, and_true, and_self, fp]))) (by simp only; omega)
        · subst e
          have rl2 := rl.restart 1
          have bd2 := (bd.crash (by omega) 1).2
          refine ACalls.mono (Restart_c p 1 (by decide) bp _ ?_) ?_; (show AH.find _ _ = _; simp only [find_add_self, find_add_ne, find_fresh, fresh_add, ne_eq, not_false_eq_true, true_and, and_true, and_self, fp]); rintro _ _ ⟨rfl, hH_⟩; (try simp only [put, del_add_self, del_add_ne, del_del, del_fresh, fresh_add, ne_eq, not_false_eq_true, true_and, and_true, and_self, fp] at hH_); subst hH_
          simp (dsimp := false) (maxSteps := 4000000) only [e1, fp, go_sem, ↓reduceIte, Nat.reduceEqDiff, Nat.reduceLT, Nat.reduceLeDiff, Nat.reduceAdd, Nat.reduceMul, Nat.reduceSub, reduceCtorEq, Int.reduceToNat, Int.reduceLT, Int.reduceLE, Int.reduceEq, Int.reduceNe, Int.reduceBEq, Nat.reduceBEq, Int.reduceBNe, Nat.reduceBNe, Int.reduceAdd, Int.reduceSub, Int.reduceMul, Int.reduceNeg]
          exact again ⟨i + 1, restartP p 1⟩ _ _ ⟨by simp only; omega, by simp only; omega, rl2, by simpa using bd2⟩ (FrLe.of_lks (by simp (dsimp := false) (maxSteps := 4000000) only [fp, go_sem, ↓reduceIte, Nat.reduceEqDiff, Nat.reduceLT, Nat.reduceLeDiff, Nat.reduceAdd, Nat.reduceMul, Nat.reduceSub, reduceCtorEq, Int.reduceToNat, Int.reduceLT, Int.reduceLE, Int.reduceEq, Int.reduceNe, Int.reduceBEq, Nat.reduceBEq, Int.reduceBNe, Nat.reduceBNe, Int.reduceAdd, Int.reduceSub, Int.reduceMul, Int.reduceNeg])) (by refine AH.le_cons ?_ ?_; (show AH.find _ _ = _; simp only [find_add_self, find_add_ne, find_fresh, fresh_add, ne_eq, not_false_eq_true, true_and, and_true, and_self, fp]); (repeat (first | exact AH.le_refl _ | refine AH.le_add ?_ ?_)); all_goals (first | exact AH.le_refl _ | (show AH.find _ _ = _; simp only [find_add_self, find_add_ne, find_fresh, fresh_add, ne_eq, not_false_eq_true, true_and, and_true, and_self, fp]))) (by simp only; omega)
        · have rl2 := rl
          have bd2 := bd.up
          refine (Restart_out n hn2 bp _).mono ?_; rintro _ _ ⟨rfl, rfl⟩
          simp (dsimp := false) (maxSteps := 4000000) only [e1, fp, go_sem, ↓reduceIte, Nat.reduceEqDiff, Nat.reduceLT, Nat.reduceLeDiff, Nat.reduceAdd, Nat.reduceMul, Nat.reduceSub, reduceCtorEq, Int.reduceToNat, Int.reduceLT, Int.reduceLE, Int.reduceEq, Int.reduceNe, Int.reduceBEq, Nat.reduceBEq, Int.reduceBNe, Nat.reduceBNe, Int.reduceAdd, Int.reduceSub, Int.reduceMul, Int.reduceNeg]
          exact again ⟨i + 1, p⟩ _ _ ⟨by simp only; omega, by simp only; omega, rl2, by simpa using bd2⟩ (FrLe.of_lks (by simp (dsimp := false) (maxSteps := 4000000) only [fp, go_sem, ↓reduceIte, Nat.reduceEqDiff, Nat.reduceLT, Nat.reduceLeDiff, Nat.reduceAdd, Nat.reduceMul, Nat.reduceSub, reduceCtorEq, Int.reduceToNat, Int.reduceLT, Int.reduceLE, Int.reduceEq, Int.reduceNe, Int.reduceBEq, Nat.reduceBEq, Int.reduceBNe, Nat.reduceBNe, Int.reduceAdd, Int.reduceSub, Int.reduceMul, Int.reduceNeg])) (by refine AH.le_cons ?_ ?_; (show AH.find _ _ = _; simp only [find_add_self, find_add_ne, find_fresh, fresh_add, ne_eq, not_false_eq_true, true_and, and_true, and_self, fp]); (repeat (first | exact AH.le_refl _ | refine AH.le_add ?_ ?_)); all_goals (first | exact AH.le_refl _ | (show AH.find _ _ = _; simp only [find_add_self, find_add_ne, find_fresh, fresh_add, ne_eq, not_false_eq_true, true_and, and_true, and_self, fp]))) (by simp only; omega)
      · simp (dsimp := false) (maxSteps := 4000000) only [h, h120, hkind, hn, nb1, ek, k0, k1, fp, go_sem, ↓reduceIte, Nat.reduceEqDiff, Nat.reduceLT, Nat.reduceLeDiff, Nat.reduceAdd, Nat.reduceMul, Nat.reduceSub, reduceCtorEq, Int.reduceToNat, Int.reduceLT, Int.reduceLE, Int.reduceEq, Int.reduceNe, Int.reduceBEq, Nat.reduceBEq, Int.reduceBNe, Nat.reduceBNe, Int.reduceAdd, Int.reduceSub, Int.reduceMul, Int.reduceNeg]
        have rl2 := rl.round
        have bd2 := bd.round (by omega)
        refine ACalls.mono (Round_c p (by have a := bd.a; have b := bd.b; omega) bp _ ?_) ?_; (show AH.find _ _ = _; simp only [find_add_self, find_add_ne, find_fresh, fresh_add, ne_eq, not_false_eq_true, true_and, and_true, and_self, fp]); rintro _ _ ⟨rfl, hH_⟩; (try simp only [put, del_add_self, del_add_ne, del_del, del_fresh, fresh_add, ne_eq, not_false_eq_true, true_and, and_true, and_self, fp] at hH_); subst hH_
        simp (dsimp := false) (maxSteps := 4000000) only [e1, fp, go_sem, ↓reduceIte, Nat.reduceEqDiff, Nat.reduceLT, Nat.reduceLeDiff, Nat.reduceAdd, Nat.reduceMul, Nat.reduceSub, reduceCtorEq, Int.reduceToNat, Int.reduceLT, Int.reduceLE, Int.reduceEq, Int.reduceNe, Int.reduceBEq, Nat.reduceBEq, Int.reduceBNe, Nat.reduceBNe, Int.reduceAdd, Int.reduceSub, Int.reduceMul, Int.reduceNeg]
        exact again ⟨i + 1, roundP p⟩ _ _ ⟨by simp only; omega, by simp only; omega, rl2, by simpa using bd2⟩ (FrLe.of_lks (by simp (dsimp := false) (maxSteps := 4000000) only [fp, go_sem, ↓reduceIte, Nat.reduceEqDiff, Nat.reduceLT, Nat.reduceLeDiff, Nat.reduceAdd, Nat.reduceMul, Nat.reduceSub, reduceCtorEq, Int.reduceToNat, Int.reduceLT, Int.reduceLE, Int.reduceEq, Int.reduceNe, Int.reduceBEq, Nat.reduceBEq, Int.reduceBNe, Nat.reduceBNe, Int.reduceAdd, Int.reduceSub, Int.reduceMul, Int.reduceNeg])) (by refine AH.le_cons ?_ ?_; (show AH.find _ _ = _; simp only [find_add_self, find_add_ne, find_fresh, fresh_add, ne_eq, not_false_eq_true, true_and, and_true, and_self, fp]); (repeat (first | exact AH.le_refl _ | refine AH.le_add ?_ ?_)); all_goals (first | exact AH.le_refl _ | (show AH.find _ _ = _; simp only [find_add_self, find_add_ne, find_fresh, fresh_add, ne_eq, not_false_eq_true, true_and, and_true, and_self, fp]))) (by simp only; omega)
    · by_cases h : (i : Int) < L.length
      · have h120 : ¬ (i : Int) < 120 := fun e => hrun ⟨h, e⟩
        simp (dsimp := false) (maxSteps := 4000000) only [h, h120, fp, go_sem, ↓reduceIte, Nat.reduceEqDiff, Nat.reduceLT, Nat.reduceLeDiff, Nat.reduceAdd, Nat.reduceMul, Nat.reduceSub, reduceCtorEq, Int.reduceToNat, Int.reduceLT, Int.reduceLE, Int.reduceEq, Int.reduceNe, Int.reduceBEq, Nat.reduceBEq, Int.reduceBNe, Nat.reduceBNe, Int.reduceAdd, Int.reduceSub, Int.reduceMul, Int.reduceNeg]
        refine out _ _ _ (by simp) ?_
        simp (dsimp := false) (maxSteps := 4000000) only [fp, go_sem, ↓reduceIte, Nat.reduceEqDiff, Nat.reduceLT, Nat.reduceLeDiff, Nat.reduceAdd, Nat.reduceMul, Nat.reduceSub, reduceCtorEq, Int.reduceToNat, Int.reduceLT, Int.reduceLE, Int.reduceEq, Int.reduceNe, Int.reduceBEq, Nat.reduceBEq, Int.reduceBNe, Nat.reduceBNe, Int.reduceAdd, Int.reduceSub, Int.reduceMul, Int.reduceNeg]
        refine (Role_c p 0 (by decide) bp _ (find_add_self _ _ _)).mono ?_; rintro _ _ ⟨rfl, rfl⟩
        by_cases d0 : p.r0 = 4
        · rw [show role p 0 = 4 from d0]
          simp (dsimp := false) (maxSteps := 4000000) only [fp, go_sem, ↓reduceIte, Nat.reduceEqDiff, Nat.reduceLT, Nat.reduceLeDiff, Nat.reduceAdd, Nat.reduceMul, Nat.reduceSub, reduceCtorEq, Int.reduceToNat, Int.reduceLT, Int.reduceLE, Int.reduceEq, Int.reduceNe, Int.reduceBEq, Nat.reduceBEq, Int.reduceBNe, Nat.reduceBNe, Int.reduceAdd, Int.reduceSub, Int.reduceMul, Int.reduceNeg]
          refine (Role_c p 1 (by decide) bp _ (find_add_self _ _ _)).mono ?_; rintro _ _ ⟨rfl, rfl⟩
          by_cases d1 : p.r1 = 4
          · rw [show role p 1 = 4 from d1]
            simp (dsimp := false) (maxSteps := 4000000) only [fp, go_sem, ↓reduceIte, Nat.reduceEqDiff, Nat.reduceLT, Nat.reduceLeDiff, Nat.reduceAdd, Nat.reduceMul, Nat.reduceSub, reduceCtorEq, Int.reduceToNat, Int.reduceLT, Int.reduceLE, Int.reduceEq, Int.reduceNe, Int.reduceBEq, Nat.reduceBEq, Int.reduceBNe, Nat.reduceBNe, Int.reduceAdd, Int.reduceSub, Int.reduceMul, Int.reduceNeg]
            refine (awake19_c _).mono ?_; rintro _ _ ⟨rfl, rfl⟩
            simp (dsimp := false) (maxSteps := 4000000) only [fp, go_sem, ↓reduceIte, Nat.reduceEqDiff, Nat.reduceLT, Nat.reduceLeDiff, Nat.reduceAdd, Nat.reduceMul, Nat.reduceSub, reduceCtorEq, Int.reduceToNat, Int.reduceLT, Int.reduceLE, Int.reduceEq, Int.reduceNe, Int.reduceBEq, Nat.reduceBEq, Int.reduceBNe, Nat.reduceBNe, Int.reduceAdd, Int.reduceSub, Int.reduceMul, Int.reduceNeg]
            refine ACalls.mono (Round_c p (by have a := bd.a; have b := bd.b; omega) bp _ ?_) ?_; (show AH.find _ _ = _; simp only [find_add_self, find_add_ne, find_fresh, fresh_add, ne_eq, not_false_eq_true, true_and, and_true, and_self, fp]); rintro _ _ ⟨rfl, hH_⟩; (try simp only [put, del_add_self, del_add_ne, del_del, del_fresh, fresh_add, ne_eq, not_false_eq_true, true_and, and_true, and_self, fp] at hH_); subst hH_
            have hm : act (tkP p) = -1 := by
              rcases one_round p rl.j with ⟨o, _⟩ | ⟨_, _, _, _, g⟩ | ⟨_, _, _, _, g⟩
              · exact o
              · rw [d0] at g; simp at g
              · rw [d1] at g; simp at g
            rw [hm]
            simp (dsimp := false) (maxSteps := 4000000) only [fp, go_sem, ↓reduceIte, Nat.reduceEqDiff, Nat.reduceLT, Nat.reduceLeDiff, Nat.reduceAdd, Nat.reduceMul, Nat.reduceSub, reduceCtorEq, Int.reduceToNat, Int.reduceLT, Int.reduceLE, Int.reduceEq, Int.reduceNe, Int.reduceBEq, Nat.reduceBEq, Int.reduceBNe, Nat.reduceBNe, Int.reduceAdd, Int.reduceSub, Int.reduceMul, Int.reduceNeg]
            exact ⟨H, hle2 _, rfl⟩
          · have d1' : ¬ role p 1 = 4 := d1
            have up : ¬ (p.r0 = 4 ∧ p.r1 = 4) := fun hh => d1 hh.2
            simp (dsimp := false) (maxSteps := 4000000) only [d1', fp, go_sem, ↓reduceIte, Nat.reduceEqDiff, Nat.reduceLT, Nat.reduceLeDiff, Nat.reduceAdd, Nat.reduceMul, Nat.reduceSub, reduceCtorEq, Int.reduceToNat, Int.reduceLT, Int.reduceLE, Int.reduceEq, Int.reduceNe, Int.reduceBEq, Nat.reduceBEq, Int.reduceBNe, Nat.reduceBNe, Int.reduceAdd, Int.reduceSub, Int.reduceMul, Int.reduceNeg]
            refine (Role_c p 0 (by decide) bp _ (find_add_self _ _ _)).mono ?_; rintro _ _ ⟨rfl, rfl⟩
            by_cases s0 : p.r0 = 2
            · have sh : p.r0 = 2 ∨ p.r1 = 2 := .inl s0
              rw [show role p 0 = 2 from s0]
              simp (dsimp := false) (maxSteps := 4000000) only [fp, go_sem, ↓reduceIte, Nat.reduceEqDiff, Nat.reduceLT, Nat.reduceLeDiff, Nat.reduceAdd, Nat.reduceMul, Nat.reduceSub, reduceCtorEq, Int.reduceToNat, Int.reduceLT, Int.reduceLE, Int.reduceEq, Int.reduceNe, Int.reduceBEq, Nat.reduceBEq, Int.reduceBNe, Nat.reduceBNe, Int.reduceAdd, Int.reduceSub, Int.reduceMul, Int.reduceNeg]
              refine AWp.loopo (ι := Nat × Pr) (fun t => Inv2 t.1 t.2 ∧ (t.2.r0 = 2 ∨ t.2.r1 = 2)) (fun t => [(6, .int .i64 t.1), (5, .bool true), (3, .pointer (some ⟨bp, 0, none⟩))])
                (fun t => H.add bp (.cells (pc t.2) 127 4)) (fun t => 10 - t.1) (0, p) ⟨⟨by simp only; omega, rl, up, fun _ => by have := bd.a; simp only; omega, fun _ => by have := bd.b; simp only; omega, ⟨by have := bd.a; simp only; omega, by have := bd.b; simp only; omega⟩⟩, sh⟩ (FrLe.of_lks ?_) (AH.le_refl _) fun t hi2 Q2 again2 out2 => ?_
              · simp (dsimp := false) (maxSteps := 4000000) only [fp, go_sem, ↓reduceIte, Nat.reduceEqDiff, Nat.reduceLT, Nat.reduceLeDiff, Nat.reduceAdd, Nat.reduceMul, Nat.reduceSub, reduceCtorEq, Int.reduceToNat, Int.reduceLT, Int.reduceLE, Int.reduceEq, Int.reduceNe, Int.reduceBEq, Nat.reduceBEq, Int.reduceBNe, Nat.reduceBNe, Int.reduceAdd, Int.reduceSub, Int.reduceMul, Int.reduceNeg]
              · obtain ⟨k, q⟩ := t
                obtain ⟨iv, sh2⟩ := hi2
                simp only at iv sh2 ⊢
                simp (dsimp := false) (maxSteps := 4000000) only [fp, go_sem, ↓reduceIte, Nat.reduceEqDiff, Nat.reduceLT, Nat.reduceLeDiff, Nat.reduceAdd, Nat.reduceMul, Nat.reduceSub, reduceCtorEq, Int.reduceToNat, Int.reduceLT, Int.reduceLE, Int.reduceEq, Int.reduceNe, Int.reduceBEq, Nat.reduceBEq, Int.reduceBNe, Nat.reduceBNe, Int.reduceAdd, Int.reduceSub, Int.reduceMul, Int.reduceNeg]
                have hstep := iv.step
                refine ACalls.mono (Round_c q (by have a := iv.bd.a; have b := iv.bd.b; have c := iv.k; omega) bp _ ?_) ?_; (show AH.find _ _ = _; simp only [find_add_self, find_add_ne, find_fresh, fresh_add, ne_eq, not_false_eq_true, true_and, and_true, and_self, fp]); rintro _ _ ⟨rfl, hH_⟩; (try simp only [put, del_add_self, del_add_ne, del_del, del_fresh, fresh_add, ne_eq, not_false_eq_true, true_and, and_true, and_self, fp] at hH_); subst hH_
                by_cases ho : act (tkP q) = -1
                · obtain ⟨iv2, hk10, hk4, q0, q1⟩ := hstep ho
                  have ek := i64_succ (i := k) (by omega)
                  have l10 : ¬ (10 : Int) < ((k + 1 : Nat) : Int) := by omega
                  rw [ho]
                  have l4 : ¬ (4 : Int) < ((k + 1 : Nat) : Int) := by have := hk4 sh2; omega
                  simp (dsimp := false) (maxSteps := 4000000) only [ek, l10, l4, fp, go_sem, ↓reduceIte, Nat.reduceEqDiff, Nat.reduceLT, Nat.reduceLeDiff, Nat.reduceAdd, Nat.reduceMul, Nat.reduceSub, reduceCtorEq, Int.reduceToNat, Int.reduceLT, Int.reduceLE, Int.reduceEq, Int.reduceNe, Int.reduceBEq, Nat.reduceBEq, Int.reduceBNe, Nat.reduceBNe, Int.reduceAdd, Int.reduceSub, Int.reduceMul, Int.reduceNeg]
                  exact again2 (k + 1, roundP q) _ _ ⟨iv2, by rw [q0, q1]; exact sh2⟩ (FrLe.of_lks (by simp (dsimp := false) (maxSteps := 4000000) only [fp, go_sem, ↓reduceIte, Nat.reduceEqDiff, Nat.reduceLT, Nat.reduceLeDiff, Nat.reduceAdd, Nat.reduceMul, Nat.reduceSub, reduceCtorEq, Int.reduceToNat, Int.reduceLT, Int.reduceLE, Int.reduceEq, Int.reduceNe, Int.reduceBEq, Nat.reduceBEq, Int.reduceBNe, Nat.reduceBNe, Int.reduceAdd, Int.reduceSub, Int.reduceMul, Int.reduceNeg])) (AH.le_refl _) (by simp only; omega)
                · have rl2 := iv.rl.round
                  have hop := open_again iv.rl ho
                  have hst := open_again rl2 (stays_open iv.rl ho)
                  have hb := iv.bd.round (by omega)
                  have hk := iv.k
                  have hge : ¬ act (tkP q) < 0 := by omega
                  have hge2 : (0 : Int) ≤ act (tkP (roundP q)) := by omega
                  simp (dsimp := false) (maxSteps := 4000000) only [hge, fp, go_sem, ↓reduceIte, Nat.reduceEqDiff, Nat.reduceLT, Nat.reduceLeDiff, Nat.reduceAdd, Nat.reduceMul, Nat.reduceSub, reduceCtorEq, Int.reduceToNat, Int.reduceLT, Int.reduceLE, Int.reduceEq, Int.reduceNe, Int.reduceBEq, Nat.reduceBEq, Int.reduceBNe, Nat.reduceBNe, Int.reduceAdd, Int.reduceSub, Int.reduceMul, Int.reduceNeg]
                  refine out2 _ _ _ (by simp) ?_
                  simp (dsimp := false) (maxSteps := 4000000) only [fp, go_sem, ↓reduceIte, Nat.reduceEqDiff, Nat.reduceLT, Nat.reduceLeDiff, Nat.reduceAdd, Nat.reduceMul, Nat.reduceSub, reduceCtorEq, Int.reduceToNat, Int.reduceLT, Int.reduceLE, Int.reduceEq, Int.reduceNe, Int.reduceBEq, Nat.reduceBEq, Int.reduceBNe, Nat.reduceBNe, Int.reduceAdd, Int.reduceSub, Int.reduceMul, Int.reduceNeg]
                  refine (awake19_c _).mono ?_; rintro _ _ ⟨rfl, rfl⟩
                  simp (dsimp := false) (maxSteps := 4000000) only [fp, go_sem, ↓reduceIte, Nat.reduceEqDiff, Nat.reduceLT, Nat.reduceLeDiff, Nat.reduceAdd, Nat.reduceMul, Nat.reduceSub, reduceCtorEq, Int.reduceToNat, Int.reduceLT, Int.reduceLE, Int.reduceEq, Int.reduceNe, Int.reduceBEq, Nat.reduceBEq, Int.reduceBNe, Nat.reduceBNe, Int.reduceAdd, Int.reduceSub, Int.reduceMul, Int.reduceNeg]
                  refine ACalls.mono (Round_c (roundP q) (by have a := hb.a; have b := hb.b; omega) bp _ ?_) ?_; (show AH.find _ _ = _; simp only [find_add_self, find_add_ne, find_fresh, fresh_add, ne_eq, not_false_eq_true, true_and, and_true, and_self, fp]); rintro _ _ ⟨rfl, hH_⟩; (try simp only [put, del_add_self, del_add_ne, del_del, del_fresh, fresh_add, ne_eq, not_false_eq_true, true_and, and_true, and_self, fp] at hH_); subst hH_
                  simp (dsimp := false) (maxSteps := 4000000) only [hge2, fp, go_sem, ↓reduceIte, Nat.reduceEqDiff, Nat.reduceLT, Nat.reduceLeDiff, Nat.reduceAdd, Nat.reduceMul, Nat.reduceSub, reduceCtorEq, Int.reduceToNat, Int.reduceLT, Int.reduceLE, Int.reduceEq, Int.reduceNe, Int.reduceBEq, Nat.reduceBEq, Int.reduceBNe, Nat.reduceBNe, Int.reduceAdd, Int.reduceSub, Int.reduceMul, Int.reduceNeg]
                  refine (Round_nil _).mono ?_; rintro _ _ ⟨rfl, rfl⟩
                  simp (dsimp := false) (maxSteps := 4000000) only [fp, go_sem, ↓reduceIte, Nat.reduceEqDiff, Nat.reduceLT, Nat.reduceLeDiff, Nat.reduceAdd, Nat.reduceMul, Nat.reduceSub, reduceCtorEq, Int.reduceToNat, Int.reduceLT, Int.reduceLE, Int.reduceEq, Int.reduceNe, Int.reduceBEq, Nat.reduceBEq, Int.reduceBNe, Nat.reduceBNe, Int.reduceAdd, Int.reduceSub, Int.reduceMul, Int.reduceNeg]
                  refine (Crash_nil 0 _).mono ?_; rintro _ _ ⟨rfl, rfl⟩
                  simp (dsimp := false) (maxSteps := 4000000) only [fp, go_sem, ↓reduceIte, Nat.reduceEqDiff, Nat.reduceLT, Nat.reduceLeDiff, Nat.reduceAdd, Nat.reduceMul, Nat.reduceSub, reduceCtorEq, Int.reduceToNat, Int.reduceLT, Int.reduceLE, Int.reduceEq, Int.reduceNe, Int.reduceBEq, Nat.reduceBEq, Int.reduceBNe, Nat.reduceBNe, Int.reduceAdd, Int.reduceSub, Int.reduceMul, Int.reduceNeg]
                  refine (Restart_nil 0 _).mono ?_; rintro _ _ ⟨rfl, rfl⟩
                  simp (dsimp := false) (maxSteps := 4000000) only [fp, go_sem, ↓reduceIte, Nat.reduceEqDiff, Nat.reduceLT, Nat.reduceLeDiff, Nat.reduceAdd, Nat.reduceMul, Nat.reduceSub, reduceCtorEq, Int.reduceToNat, Int.reduceLT, Int.reduceLE, Int.reduceEq, Int.reduceNe, Int.reduceBEq, Nat.reduceBEq, Int.reduceBNe, Nat.reduceBNe, Int.reduceAdd, Int.reduceSub, Int.reduceMul, Int.reduceNeg]
                  refine (Role_nil 0 _).mono ?_; rintro _ _ ⟨rfl, rfl⟩
                  simp (dsimp := false) (maxSteps := 4000000) only [fp, go_sem, ↓reduceIte, Nat.reduceEqDiff, Nat.reduceLT, Nat.reduceLeDiff, Nat.reduceAdd, Nat.reduceMul, Nat.reduceSub, reduceCtorEq, Int.reduceToNat, Int.reduceLT, Int.reduceLE, Int.reduceEq, Int.reduceNe, Int.reduceBEq, Nat.reduceBEq, Int.reduceBNe, Nat.reduceBNe, Int.reduceAdd, Int.reduceSub, Int.reduceMul, Int.reduceNeg]
                  exact ⟨H, hle2 _, rfl⟩
            · have s0' : ¬ role p 0 = 2 := s0
              simp (dsimp := false) (maxSteps := 4000000) only [s0', fp, go_sem, ↓reduceIte, Nat.reduceEqDiff, Nat.reduceLT, Nat.reduceLeDiff, Nat.reduceAdd, Nat.reduceMul, Nat.reduceSub, reduceCtorEq, Int.reduceToNat, Int.reduceLT, Int.reduceLE, Int.reduceEq, Int.reduceNe, Int.reduceBEq, Nat.reduceBEq, Int.reduceBNe, Nat.reduceBNe, Int.reduceAdd, Int.reduceSub, Int.reduceMul, Int.reduceNeg]
              refine (Role_c p 1 (by decide) bp _ (find_add_self _ _ _)).mono ?_; rintro _ _ ⟨rfl, rfl⟩
              by_cases s1 : p.r1 = 2
              · have sh : p.r0 = 2 ∨ p.r1 = 2 := .inr s1
                rw [show role p 1 = 2 from s1]
                simp (dsimp := false) (maxSteps := 4000000) only [fp, go_sem, ↓reduceIte, Nat.reduceEqDiff, Nat.reduceLT, Nat.reduceLeDiff, Nat.reduceAdd, Nat.reduceMul, Nat.reduceSub, reduceCtorEq, Int.reduceToNat, Int.reduceLT, Int.reduceLE, Int.reduceEq, Int.reduceNe, Int.reduceBEq, Nat.reduceBEq, Int.reduceBNe, Nat.reduceBNe, Int.reduceAdd, Int.reduceSub, Int.reduceMul, Int.reduceNeg]
                refine AWp.loopo (ι := Nat × Pr) (fun t => Inv2 t.1 t.2 ∧ (t.2.r0 = 2 ∨ t.2.r1 = 2)) (fun t => [(6, .int .i64 t.1), (5, .bool true), (3, .pointer (some ⟨bp, 0, none⟩))])
                  (fun t => H.add bp (.cells (pc t.2) 127 4)) (fun t => 10 - t.1) (0, p) ⟨⟨by simp only; omega, rl, up, fun _ => by have := bd.a; simp only; omega, fun _ => by have := bd.b; simp only; omega, ⟨by have := bd.a; simp only; omega, by have := bd.b; simp only; omega⟩⟩, sh⟩ (FrLe.of_lks ?_) (AH.le_refl _) fun t hi2 Q2 again2 out2 => ?_
                · simp (dsimp := false) (maxSteps := 4000000) only [fp, go_sem, ↓reduceIte, Nat.reduceEqDiff, Nat.reduceLT, Nat.reduceLeDiff, Nat.reduceAdd, Nat.reduceMul, Nat.reduceSub, reduceCtorEq, Int.reduceToNat, Int.reduceLT, Int.reduceLE, Int.reduceEq, Int.reduceNe, Int.reduceBEq, Nat.reduceBEq, Int.reduceBNe, Nat.reduceBNe, Int.reduceAdd, Int.reduceSub, Int.reduceMul, Int.reduceNeg]
                · obtain ⟨k, q⟩ := t
                  obtain ⟨iv, sh2⟩ := hi2
                  simp only at iv sh2 ⊢
                  simp (dsimp := false) (maxSteps := 4000000) only [fp, go_sem, ↓reduceIte, Nat.reduceEqDiff, Nat.reduceLT, Nat.reduceLeDiff, Nat.reduceAdd, Nat.reduceMul, Nat.reduceSub, reduceCtorEq, Int.reduceToNat, Int.reduceLT, Int.reduceLE, Int.reduceEq, Int.reduceNe, Int.reduceBEq, Nat.reduceBEq, Int.reduceBNe, Nat.reduceBNe, Int.reduceAdd, Int.reduceSub, Int.reduceMul, Int.reduceNeg]
                  have hstep := iv.step
                  refine ACalls.mono (Round_c q (by have a := iv.bd.a; have b := iv.bd.b; have c := iv.k; omega) bp _ ?_) ?_; (show AH.find _ _ = _; simp only [find_add_self, find_add_ne, find_fresh, fresh_add, ne_eq, not_false_eq_true, true_and, and_true, and_self, fp]); rintro _ _ ⟨rfl, hH_⟩; (try simp only [put, del_add_self, del_add_ne, del_del, del_fresh, fresh_add, ne_eq, not_false_eq_true, true_and, and_true, and_self, fp] at hH_); subst hH_
                  by_cases ho : act (tkP q) = -1
                  · obtain ⟨iv2, hk10, hk4, q0, q1⟩ := hstep ho
                    have ek := i64_succ (i := k) (by omega)
                    have l10 : ¬ (10 : Int) < ((k + 1 : Nat) : Int) := by omega
                    rw [ho]
                    have l4 : ¬ (4 : Int) < ((k + 1 : Nat) : Int) := by have := hk4 sh2; omega
                    simp (dsimp := false) (maxSteps := 4000000) only [ek, l10, l4, fp, go_sem, ↓reduceIte, Nat.reduceEqDiff, Nat.reduceLT, Nat.reduceLeDiff, Nat.reduceAdd, Nat.reduceMul, Nat.reduceSub, reduceCtorEq, Int.reduceToNat, Int.reduceLT, Int.reduceLE, Int.reduceEq, Int.reduceNe, Int.reduceBEq, Nat.reduceBEq, Int.reduceBNe, Nat.reduceBNe, Int.reduceAdd, Int.reduceSub, Int.reduceMul, Int.reduceNeg]
                    exact again2 (k + 1, roundP q) _ _ ⟨iv2, by rw [q0, q1]; exact sh2⟩ (FrLe.of_lks (by simp (dsimp := false) (maxSteps := 4000000) only [fp, go_sem, ↓reduceIte, Nat.reduceEqDiff, Nat.reduceLT, Nat.reduceLeDiff, Nat.reduceAdd, Nat.reduceMul, Nat.reduceSub, reduceCtorEq, Int.reduceToNat, Int.reduceLT, Int.reduceLE, Int.reduceEq, Int.reduceNe, Int.reduceBEq, Nat.reduceBEq, Int.reduceBNe, Nat.reduceBNe, Int.reduceAdd, Int.reduceSub, Int.reduceMul, Int.reduceNeg])) (AH.le_refl _) (by simp only; omega)
                  · have rl2 := iv.rl.round
                    have hop := open_again iv.rl ho
                    have hst := open_again rl2 (stays_open iv.rl ho)
                    have hb := iv.bd.round (by omega)
                    have hk := iv.k
                    have hge : ¬ act (tkP q) < 0 := by omega
                    have hge2 : (0 : Int) ≤ act (tkP (roundP q)) := by omega
                    simp (dsimp := false) (maxSteps := 4000000) only [hge, fp, go_sem, ↓reduceIte, Nat.reduceEqDiff, Nat.reduceLT, Nat.reduceLeDiff, Nat.reduceAdd, Nat.reduceMul, Nat.reduceSub, reduceCtorEq, Int.reduceToNat, Int.reduceLT, Int.reduceLE, Int.reduceEq, Int.reduceNe, Int.reduceBEq, Nat.reduceBEq, Int.reduceBNe, Nat.reduceBNe, Int.reduceAdd, Int.reduceSub, Int.reduceMul, Int.reduceNeg]
                    refine out2 _ _ _ (by simp) ?_
                    simp (dsimp := false) (maxSteps := 4000000) only [fp, go_sem, ↓reduceIte, Nat.reduceEqDiff, Nat.reduceLT, Nat.reduceLeDiff, Nat.reduceAdd, Nat.reduceMul, Nat.reduceSub, reduceCtorEq, Int.reduceToNat, Int.reduceLT, Int.reduceLE, Int.reduceEq, Int.reduceNe, Int.reduceBEq, Nat.reduceBEq, Int.reduceBNe, Nat.reduceBNe, Int.reduceAdd, Int.reduceSub, Int.reduceMul, Int.reduceNeg]
                    refine (awake19_c _).mono ?_; rintro _ _ ⟨rfl, rfl⟩
                    simp (dsimp := false) (maxSteps := 4000000) only [fp, go_sem, ↓reduceIte, Nat.reduceEqDiff, Nat.reduceLT, Nat.reduceLeDiff, Nat.reduceAdd, Nat.reduceMul, Nat.reduceSub, reduceCtorEq, Int.reduceToNat, Int.reduceLT, Int.reduceLE, Int.reduceEq, Int.reduceNe, Int.reduceBEq, Nat.reduceBEq, Int.reduceBNe, Nat.reduceBNe, Int.reduceAdd, Int.reduceSub, Int.reduceMul, Int.reduceNeg]
                    refine ACalls.mono (Round_c (roundP q) (by have a := hb.a; have b := hb.b; omega) bp _ ?_) ?_; (show AH.find _ _ = _; simp only [find_add_self, find_add_ne, find_fresh, fresh_add, ne_eq, not_false_eq_true, true_and, and_true, and_self, fp]); rintro _ _ ⟨rfl, hH_⟩; (try simp only [put, del_add_self, del_add_ne, del_del, del_fresh, fresh_add, ne_eq, not_false_eq_true, true_and, and_true, and_self, fp] at hH_); subst hH_
                    simp (dsimp := false) (maxSteps := 4000000) only [hge2, fp, go_sem, ↓reduceIte, Nat.reduceEqDiff, Nat.reduceLT, Nat.reduceLeDiff, Nat.reduceAdd, Nat.reduceMul, Nat.reduceSub, reduceCtorEq, Int.reduceToNat, Int.reduceLT, Int.reduceLE, Int.reduceEq, Int.reduceNe, Int.reduceBEq, Nat.reduceBEq, Int.reduceBNe, Nat.reduceBNe, Int.reduceAdd, Int.reduceSub, Int.reduceMul, Int.reduceNeg]
                    refine (Round_nil _).mono ?_; rintro _ _ ⟨rfl, rfl⟩
                    simp (dsimp := false) (maxSteps := 4000000) only [fp, go_sem, ↓reduceIte, Nat.reduceEqDiff, Nat.reduceLT, Nat.reduceLeDiff, Nat.reduceAdd, Nat.reduceMul, Nat.reduceSub, reduceCtorEq, Int.reduceToNat, Int.reduceLT, Int.reduceLE, Int.reduceEq, Int.reduceNe, Int.reduceBEq, Nat.reduceBEq, Int.reduceBNe, Nat.reduceBNe, Int.reduceAdd, Int.reduceSub, Int.reduceMul, Int.reduceNeg]
                    refine (Crash_nil 0 _).mono ?_; rintro _ _ ⟨rfl, rfl⟩
                    simp (dsimp := false) (maxSteps := 4000000) only [fp, go_sem, ↓reduceIte, Nat.reduceEqDiff, Nat.reduceLT, Nat.reduceLeDiff, Nat.reduceAdd, Nat.reduceMul, Nat.reduceSub, reduceCtorEq, Int.reduceToNat, Int.reduceLT, Int.reduceLE, Int.reduceEq, Int.reduceNe, Int.reduceBEq, Nat.reduceBEq, Int.reduceBNe, Nat.reduceBNe, Int.reduceAdd, Int.reduceSub, Int.reduceMul, Int.reduceNeg]
                    refine (Restart_nil 0 _).mono ?_; rintro _ _ ⟨rfl, rfl⟩
                    simp (dsimp := false) (maxSteps := 4000000) only [fp, go_sem, ↓reduceIte, Nat.reduceEqDiff, Nat.reduceLT, Nat.reduceLeDiff, Nat.reduceAdd, Nat.reduceMul, Nat.reduceSub, reduceCtorEq, Int.reduceToNat, Int.reduceLT, Int.reduceLE, Int.reduceEq, Int.reduceNe, Int.reduceBEq, Nat.reduceBEq, Int.reduceBNe, Nat.reduceBNe, Int.reduceAdd, Int.reduceSub, Int.reduceMul, Int.reduceNeg]
                    refine (Role_nil 0 _).mono ?_; rintro _ _ ⟨rfl, rfl⟩
                    simp (dsimp := false) (maxSteps := 4000000) only [fp, go_sem, ↓reduceIte, Nat.reduceEqDiff, Nat.reduceLT, Nat.reduceLeDiff, Nat.reduceAdd, Nat.reduceMul, Nat.reduceSub, reduceCtorEq, Int.reduceToNat, Int.reduceLT, Int.reduceLE, Int.reduceEq, Int.reduceNe, Int.reduceBEq, Nat.reduceBEq, Int.reduceBNe, Nat.reduceBNe, Int.reduceAdd, Int.reduceSub, Int.reduceMul, Int.reduceNeg]
                    exact ⟨H, hle2 _, rfl⟩
              · have s1' : ¬ role p 1 = 2 := s1
                simp (dsimp := false) (maxSteps := 4000000) only [s1', fp, go_sem, ↓reduceIte, Nat.reduceEqDiff, Nat.reduceLT, Nat.reduceLeDiff, Nat.reduceAdd, Nat.reduceMul, Nat.reduceSub, reduceCtorEq, Int.reduceToNat, Int.reduceLT, Int.reduceLE, Int.reduceEq, Int.reduceNe, Int.reduceBEq, Nat.reduceBEq, Int.reduceBNe, Nat.reduceBNe, Int.reduceAdd, Int.reduceSub, Int.reduceMul, Int.reduceNeg]
                refine AWp.loopo (ι := Nat × Pr) (fun t => Inv2 t.1 t.2) (fun t => [(6, .int .i64 t.1), (5, .bool false), (3, .pointer (some ⟨bp, 0, none⟩))])
                  (fun t => H.add bp (.cells (pc t.2) 127 4)) (fun t => 10 - t.1) (0, p) ⟨by simp only; omega, rl, up, fun _ => by have := bd.a; simp only; omega, fun _ => by have := bd.b; simp only; omega, ⟨by have := bd.a; simp only; omega, by have := bd.b; simp only; omega⟩⟩ (FrLe.of_lks ?_) (AH.le_refl _) fun t hi2 Q2 again2 out2 => ?_
                · simp (dsimp := false) (maxSteps := 4000000) only [fp, go_sem, ↓reduceIte, Nat.reduceEqDiff, Nat.reduceLT, Nat.reduceLeDiff, Nat.reduceAdd, Nat.reduceMul, Nat.reduceSub, reduceCtorEq, Int.reduceToNat, Int.reduceLT, Int.reduceLE, Int.reduceEq, Int.reduceNe, Int.reduceBEq, Nat.reduceBEq, Int.reduceBNe, Nat.reduceBNe, Int.reduceAdd, Int.reduceSub, Int.reduceMul, Int.reduceNeg]
                  exact congrArg Value.bool (beq_eq_false_iff_ne.2 s1')
                · obtain ⟨k, q⟩ := t
                  have iv := hi2
                  simp only at iv ⊢
                  simp (dsimp := false) (maxSteps := 4000000) only [fp, go_sem, ↓reduceIte, Nat.reduceEqDiff, Nat.reduceLT, Nat.reduceLeDiff, Nat.reduceAdd, Nat.reduceMul, Nat.reduceSub, reduceCtorEq, Int.reduceToNat, Int.reduceLT, Int.reduceLE, Int.reduceEq, Int.reduceNe, Int.reduceBEq, Nat.reduceBEq, Int.reduceBNe, Nat.reduceBNe, Int.reduceAdd, Int.reduceSub, Int.reduceMul, Int.reduceNeg]
                  have hstep := iv.step
                  refine ACalls.mono (Round_c q (by have a := iv.bd.a; have b := iv.bd.b; have c := iv.k; omega) bp _ ?_) ?_; (show AH.find _ _ = _; simp only [find_add_self, find_add_ne, find_fresh, fresh_add, ne_eq, not_false_eq_true, true_and, and_true, and_self, fp]); rintro _ _ ⟨rfl, hH_⟩; (try simp only [put, del_add_self, del_add_ne, del_del, del_fresh, fresh_add, ne_eq, not_false_eq_true, true_and, and_true, and_self, fp] at hH_); subst hH_
                  by_cases ho : act (tkP q) = -1
                  · obtain ⟨iv2, hk10, hk4, q0, q1⟩ := hstep ho
                    have ek := i64_succ (i := k) (by omega)
                    have l10 : ¬ (10 : Int) < ((k + 1 : Nat) : Int) := by omega
                    rw [ho]
                    simp (dsimp := false) (maxSteps := 4000000) only [ek, l10, fp, go_sem, ↓reduceIte, Nat.reduceEqDiff, Nat.reduceLT, Nat.reduceLeDiff, Nat.reduceAdd, Nat.reduceMul, Nat.reduceSub, reduceCtorEq, Int.reduceToNat, Int.reduceLT, Int.reduceLE, Int.reduceEq, Int.reduceNe, Int.reduceBEq, Nat.reduceBEq, Int.reduceBNe, Nat.reduceBNe, Int.reduceAdd, Int.reduceSub, Int.reduceMul, Int.reduceNeg]
                    exact again2 (k + 1, roundP q) _ _ iv2 (FrLe.of_lks (by simp (dsimp := false) (maxSteps := 4000000) only [fp, go_sem, ↓reduceIte, Nat.reduceEqDiff, Nat.reduceLT, Nat.reduceLeDiff, Nat.reduceAdd, Nat.reduceMul, Nat.reduceSub, reduceCtorEq, Int.reduceToNat, Int.reduceLT, Int.reduceLE, Int.reduceEq, Int.reduceNe, Int.reduceBEq, Nat.reduceBEq, Int.reduceBNe, Nat.reduceBNe, Int.reduceAdd, Int.reduceSub, Int.reduceMul, Int.reduceNeg])) (AH.le_refl _) (by simp only; omega)
                  · have rl2 := iv.rl.round
                    have hop := open_again iv.rl ho
                    have hst := open_again rl2 (stays_open iv.rl ho)
                    have hb := iv.bd.round (by omega)
                    have hk := iv.k
                    have hge : ¬ act (tkP q) < 0 := by omega
                    have hge2 : (0 : Int) ≤ act (tkP (roundP q)) := by omega
                    simp (dsimp := false) (maxSteps := 4000000) only [hge, fp, go_sem, ↓reduceIte, Nat.reduceEqDiff, Nat.reduceLT, Nat.reduceLeDiff, Nat.reduceAdd, Nat.reduceMul, Nat.reduceSub, reduceCtorEq, Int.reduceToNat, Int.reduceLT, Int.reduceLE, Int.reduceEq, Int.reduceNe, Int.reduceBEq, Nat.reduceBEq, Int.reduceBNe, Nat.reduceBNe, Int.reduceAdd, Int.reduceSub, Int.reduceMul, Int.reduceNeg]
                    refine out2 _ _ _ (by simp) ?_
                    simp (dsimp := false) (maxSteps := 4000000) only [fp, go_sem, ↓reduceIte, Nat.reduceEqDiff, Nat.reduceLT, Nat.reduceLeDiff, Nat.reduceAdd, Nat.reduceMul, Nat.reduceSub, reduceCtorEq, Int.reduceToNat, Int.reduceLT, Int.reduceLE, Int.reduceEq, Int.reduceNe, Int.reduceBEq, Nat.reduceBEq, Int.reduceBNe, Nat.reduceBNe, Int.reduceAdd, Int.reduceSub, Int.reduceMul, Int.reduceNeg]
                    refine (awake19_c _).mono ?_; rintro _ _ ⟨rfl, rfl⟩
                    simp (dsimp := false) (maxSteps := 4000000) only [fp, go_sem, ↓reduceIte, Nat.reduceEqDiff, Nat.reduceLT, Nat.reduceLeDiff, Nat.reduceAdd, Nat.reduceMul, Nat.reduceSub, reduceCtorEq, Int.reduceToNat, Int.reduceLT, Int.reduceLE, Int.reduceEq, Int.reduceNe, Int.reduceBEq, Nat.reduceBEq, Int.reduceBNe, Nat.reduceBNe, Int.reduceAdd, Int.reduceSub, Int.reduceMul, Int.reduceNeg]
                    refine ACalls.mono (Round_c (roundP q) (by have a := hb.a; have b := hb.b; omega) bp _ ?_) ?_; (show AH.find _ _ = _; simp only [find_add_self, find_add_ne, find_fresh, fresh_add, ne_eq, not_false_eq_true, true_and, and_true, and_self, fp]); rintro _ _ ⟨rfl, hH_⟩; (try simp only [put, del_add_self, del_add_ne, del_del, del_fresh, fresh_add, ne_eq, not_false_eq_true, true_and, and_true, and_self, fp] at hH_); subst hH_
                    simp (dsimp := false) (maxSteps := 4000000) only [hge2, fp, go_sem, ↓reduceIte, Nat.reduceEqDiff, Nat.reduceLT, Nat.reduceLeDiff, Nat.reduceAdd, Nat.reduceMul, Nat.reduceSub, reduceCtorEq, Int.reduceToNat, Int.reduceLT, Int.reduceLE, Int.reduceEq, Int.reduceNe, Int.reduceBEq, Nat.reduceBEq, Int.reduceBNe, Nat.reduceBNe, Int.reduceAdd, Int.reduceSub, Int.reduceMul, Int.reduceNeg]
                    refine (Round_nil _).mono ?_; rintro _ _ ⟨rfl, rfl⟩
                    simp (dsimp := false) (maxSteps := 4000000) only [fp, go_sem, ↓reduceIte, Nat.reduceEqDiff, Nat.reduceLT, Nat.reduceLeDiff, Nat.reduceAdd, Nat.reduceMul, Nat.reduceSub, reduceCtorEq, Int.reduceToNat, Int.reduceLT, Int.reduceLE, Int.reduceEq, Int.reduceNe, Int.reduceBEq, Nat.reduceBEq, Int.reduceBNe, Nat.reduceBNe, Int.reduceAdd, Int.reduceSub, Int.reduceMul, Int.reduceNeg]
                    refine (Crash_nil 0 _).mono ?_; rintro _ _ ⟨rfl, rfl⟩
                    simp (dsimp := false) (maxSteps := 4000000) only [fp, go_sem, ↓reduceIte, Nat.reduceEqDiff, Nat.reduceLT, Nat.reduceLeDiff, Nat.reduceAdd, Nat.reduceMul, Nat.reduceSub, reduceCtorEq, Int.reduceToNat, Int.reduceLT, Int.reduceLE, Int.reduceEq, Int.reduceNe, Int.reduceBEq, Nat.reduceBEq, Int.reduceBNe, Nat.reduceBNe, Int.reduceAdd, Int.reduceSub, Int.reduceMul, Int.reduceNeg]
                    refine (Restart_nil 0 _).mono ?_; rintro _ _ ⟨rfl, rfl⟩
                    simp (dsimp := false) (maxSteps := 4000000) only [fp, go_sem, ↓reduceIte, Nat.reduceEqDiff, Nat.reduceLT, Nat.reduceLeDiff, Nat.reduceAdd, Nat.reduceMul, Nat.reduceSub, reduceCtorEq, Int.reduceToNat, Int.reduceLT, Int.reduceLE, Int.reduceEq, Int.reduceNe, Int.reduceBEq, Nat.reduceBEq, Int.reduceBNe, Nat.reduceBNe, Int.reduceAdd, Int.reduceSub, Int.reduceMul, Int.reduceNeg]
                    refine (Role_nil 0 _).mono ?_; rintro _ _ ⟨rfl, rfl⟩
                    simp (dsimp := false) (maxSteps := 4000000) only [fp, go_sem, ↓reduceIte, Nat.reduceEqDiff, Nat.reduceLT, Nat.reduceLeDiff, Nat.reduceAdd, Nat.reduceMul, Nat.reduceSub, reduceCtorEq, Int.reduceToNat, Int.reduceLT, Int.reduceLE, Int.reduceEq, Int.reduceNe, Int.reduceBEq, Nat.reduceBEq, Int.reduceBNe, Nat.reduceBNe, Int.reduceAdd, Int.reduceSub, Int.reduceMul, Int.reduceNeg]
                    exact ⟨H, hle2 _, rfl⟩
        · have d0' : ¬ role p 0 = 4 := d0
          have up : ¬ (p.r0 = 4 ∧ p.r1 = 4) := fun hh => d0 hh.1
          simp (dsimp := false) (maxSteps := 4000000) only [d0', fp, go_sem, ↓reduceIte, Nat.reduceEqDiff, Nat.reduceLT, Nat.reduceLeDiff, Nat.reduceAdd, Nat.reduceMul, Nat.reduceSub, reduceCtorEq, Int.reduceToNat, Int.reduceLT, Int.reduceLE, Int.reduceEq, Int.reduceNe, Int.reduceBEq, Nat.reduceBEq, Int.reduceBNe, Nat.reduceBNe, Int.reduceAdd, Int.reduceSub, Int.reduceMul, Int.reduceNeg]
          refine (Role_c p 0 (by decide) bp _ (find_add_self _ _ _)).mono ?_; rintro _ _ ⟨rfl, rfl⟩
          by_cases s0 : p.r0 = 2
          · have sh : p.r0 = 2 ∨ p.r1 = 2 := .inl s0
            rw [show role p 0 = 2 from s0]
            simp (dsimp := false) (maxSteps := 4000000) only [fp, go_sem, ↓reduceIte, Nat.reduceEqDiff, Nat.reduceLT, Nat.reduceLeDiff, Nat.reduceAdd, Nat.reduceMul, Nat.reduceSub, reduceCtorEq, Int.reduceToNat, Int.reduceLT, Int.reduceLE, Int.reduceEq, Int.reduceNe, Int.reduceBEq, Nat.reduceBEq, Int.reduceBNe, Nat.reduceBNe, Int.reduceAdd, Int.reduceSub, Int.reduceMul, Int.reduceNeg]
            refine AWp.loopo (ι := Nat × Pr) (fun t => Inv2 t.1 t.2 ∧ (t.2.r0 = 2 ∨ t.2.r1 = 2)) (fun t => [(6, .int .i64 t.1), (5, .bool true), (3, .pointer (some ⟨bp, 0, none⟩))])
              (fun t => H.add bp (.cells (pc t.2) 127 4)) (fun t => 10 - t.1) (0, p) ⟨⟨by simp only; omega, rl, up, fun _ => by have := bd.a; simp only; omega, fun _ => by have := bd.b; simp only; omega, ⟨by have := bd.a; simp only; omega, by have := bd.b; simp only; omega⟩⟩, sh⟩ (FrLe.of_lks ?_) (AH.le_refl _) fun t hi2 Q2 again2 out2 => ?_
            · simp (dsimp := false) (maxSteps := 4000000) only [fp, go_sem, ↓reduceIte, Nat.reduceEqDiff, Nat.reduceLT, Nat.reduceLeDiff, Nat.reduceAdd, Nat.reduceMul, Nat.reduceSub, reduceCtorEq, Int.reduceToNat, Int.reduceLT, Int.reduceLE, Int.reduceEq, Int.reduceNe, Int.reduceBEq, Nat.reduceBEq, Int.reduceBNe, Nat.reduceBNe, Int.reduceAdd, Int.reduceSub, Int.reduceMul, Int.reduceNeg]
            · obtain ⟨k, q⟩ := t
              obtain ⟨iv, sh2⟩ := hi2
              simp only at iv sh2 ⊢
              simp (dsimp := false) (maxSteps := 4000000) only [fp, go_sem, ↓reduceIte, Nat.reduceEqDiff, Nat.reduceLT, Nat.reduceLeDiff, Nat.reduceAdd, Nat.reduceMul, Nat.reduceSub, reduceCtorEq, Int.reduceToNat, Int.reduceLT, Int.reduceLE, Int.reduceEq, Int.reduceNe, Int.reduceBEq, Nat.reduceBEq, Int.reduceBNe, Nat.reduceBNe, Int.reduceAdd, Int.reduceSub, Int.reduceMul, Int.reduceNeg]
              have hstep := iv.step
              refine ACalls.mono (Round_c q (by have a := iv.bd.a; have b := iv.bd.b; have c := iv.k; omega) bp _ ?_) ?_; (show AH.find _ _ = _; simp only [find_add_self, find_add_ne, find_fresh, fresh_add, ne_eq, not_false_eq_true, true_and, and_true, and_self, fp]); rintro _ _ ⟨rfl, hH_⟩; (try simp only [put, del_add_self, del_add_ne, del_del, del_fresh, fresh_add, ne_eq, not_false_eq_true, true_and, and_true, and_self, fp] at hH_); subst hH_
              by_cases ho : act (tkP q) = -1
              · obtain ⟨iv2, hk10, hk4, q0, q1⟩ := hstep ho
                have ek := i64_succ (i := k) (by omega)
                have l10 : ¬ (10 : Int) < ((k + 1 : Nat) : Int) := by omega
                rw [ho]
                have l4 : ¬ (4 : Int) < ((k + 1 : Nat) : Int) := by have := hk4 sh2; omega
                simp (dsimp := false) (maxSteps := 4000000) only [ek, l10, l4, fp, go_sem, ↓reduceIte, Nat.reduceEqDiff, Nat.reduceLT, Nat.reduceLeDiff, Nat.reduceAdd, Nat.reduceMul, Nat.reduceSub, reduceCtorEq, Int.reduceToNat, Int.reduceLT, Int.reduceLE, Int.reduceEq, Int.reduceNe, Int.reduceBEq, Nat.reduceBEq, Int.reduceBNe, Nat.reduceBNe, Int.reduceAdd, Int.reduceSub, Int.reduceMul, Int.reduceNeg]
                exact again2 (k + 1, roundP q) _ _ ⟨iv2, by rw [q0, q1]; exact sh2⟩ (FrLe.of_lks (by simp (dsimp := false) (maxSteps := 4000000) only [fp, go_sem, ↓reduceIte, Nat.reduceEqDiff, Nat.reduceLT, Nat.reduceLeDiff, Nat.reduceAdd, Nat.reduceMul, Nat.reduceSub, reduceCtorEq, Int.reduceToNat, Int.reduceLT, Int.reduceLE, Int.reduceEq, Int.reduceNe, Int.reduceBEq, Nat.reduceBEq, Int.reduceBNe, Nat.reduceBNe, Int.reduceAdd, Int.reduceSub, Int.reduceMul, Int.reduceNeg])) (AH.le_refl _) (by simp only; omega)
              · have rl2 := iv.rl.round
                have hop := open_again iv.rl ho
                have hst := open_again rl2 (stays_open iv.rl ho)
                have hb := iv.bd.round (by omega)
                have hk := iv.k
                have hge : ¬ act (tkP q) < 0 := by omega
                have hge2 : (0 : Int) ≤ act (tkP (roundP q)) := by omega
                simp (dsimp := false) (maxSteps := 4000000) only [hge, fp, go_sem, ↓reduceIte, Nat.reduceEqDiff, Nat.reduceLT, Nat.reduceLeDiff, Nat.reduceAdd, Nat.reduceMul, Nat.reduceSub, reduceCtorEq, Int.reduceToNat, Int.reduceLT, Int.reduceLE, Int.reduceEq, Int.reduceNe, Int.reduceBEq, Nat.reduceBEq, Int.reduceBNe, Nat.reduceBNe, Int.reduceAdd, Int.reduceSub, Int.reduceMul, Int.reduceNeg]
                refine out2 _ _ _ (by simp) ?_
                simp (dsimp := false) (maxSteps := 4000000) only [fp, go_sem, ↓reduceIte, Nat.reduceEqDiff, Nat.reduceLT, Nat.reduceLeDiff, Nat.reduceAdd, Nat.reduceMul, Nat.reduceSub, reduceCtorEq, Int.reduceToNat, Int.reduceLT, Int.reduceLE, Int.reduceEq, Int.reduceNe, Int.reduceBEq, Nat.reduceBEq, Int.reduceBNe, Nat.reduceBNe, Int.reduceAdd, Int.reduceSub, Int.reduceMul, Int.reduceNeg]
                refine (awake19_c _).mono ?_; rintro _ _ ⟨rfl, rfl⟩
                simp (dsimp := false) (maxSteps := 4000000) only [fp, go_sem, ↓reduceIte, Nat.reduceEqDiff, Nat.reduceLT, Nat.reduceLeDiff, Nat.reduceAdd, Nat.reduceMul, Nat.reduceSub, reduceCtorEq, Int.reduceToNat, Int.reduceLT, Int.reduceLE, Int.reduceEq, Int.reduceNe, Int.reduceBEq, Nat.reduceBEq, Int.reduceBNe, Nat.reduceBNe, Int.reduceAdd, Int.reduceSub, Int.reduceMul, Int.reduceNeg]
                refine ACalls.mono (Round_c (roundP q) (by have a := hb.a; have b := hb.b; omega) bp _ ?_) ?_; (show AH.find _ _ = _; simp only [find_add_self, find_add_ne, find_fresh, fresh_add, ne_eq, not_false_eq_true, true_and, and_true, and_self, fp]); rintro _ _ ⟨rfl, hH_⟩; (try simp only [put, del_add_self, del_add_ne, del_del, del_fresh, fresh_add, ne_eq, not_false_eq_true, true_and, and_true, and_self, fp] at hH_); subst hH_
                simp (dsimp := false) (maxSteps := 4000000) only [hge2, fp, go_sem, ↓reduceIte, Nat.reduceEqDiff, Nat.reduceLT, Nat.reduceLeDiff, Nat.reduceAdd, Nat.reduceMul, Nat.reduceSub, reduceCtorEq, Int.reduceToNat, Int.reduceLT, Int.reduceLE, Int.reduceEq, Int.reduceNe, Int.reduceBEq, Nat.reduceBEq, Int.reduceBNe, Nat.reduceBNe, Int.reduceAdd, Int.reduceSub, Int.reduceMul, Int.reduceNeg]
                refine (Round_nil _).mono ?_; rintro _ _ ⟨rfl, rfl⟩
                simp (dsimp := false) (maxSteps := 4000000) only [fp, go_sem, ↓reduceIte, Nat.reduceEqDiff, Nat.reduceLT, Nat.reduceLeDiff, Nat.reduceAdd, Nat.reduceMul, Nat.reduceSub, reduceCtorEq, Int.reduceToNat, Int.reduceLT, Int.reduceLE, Int.reduceEq, Int.reduceNe, Int.reduceBEq, Nat.reduceBEq, Int.reduceBNe, Nat.reduceBNe, Int.reduceAdd, Int.reduceSub, Int.reduceMul, Int.reduceNeg]
                refine (Crash_nil 0 _).mono ?_; rintro _ _ ⟨rfl, rfl⟩
                simp (dsimp := false) (maxSteps := 4000000) only [fp, go_sem, ↓reduceIte, Nat.reduceEqDiff, Nat.reduceLT, Nat.reduceLeDiff, Nat.reduceAdd, Nat.reduceMul, Nat.reduceSub, reduceCtorEq, Int.reduceToNat, Int.reduceLT, Int.reduceLE, Int.reduceEq, Int.reduceNe, Int.reduceBEq, Nat.reduceBEq, Int.reduceBNe, Nat.reduceBNe, Int.reduceAdd, Int.reduceSub, Int.reduceMul, Int.reduceNeg]
                refine (Restart_nil 0 _).mono ?_; rintro _ _ ⟨rfl, rfl⟩
                simp (dsimp := false) (maxSteps := 4000000) only [fp, go_sem, ↓reduceIte, Nat.reduceEqDiff, Nat.reduceLT, Nat.reduceLeDiff, Nat.reduceAdd, Nat.reduceMul, Nat.reduceSub, reduceCtorEq, Int.reduceToNat, Int.reduceLT, Int.reduceLE, Int.reduceEq, Int.reduceNe, Int.reduceBEq, Nat.reduceBEq, Int.reduceBNe, Nat.reduceBNe, Int.reduceAdd, Int.reduceSub, Int.reduceMul, Int.reduceNeg]
                refine (Role_nil 0 _).mono ?_; rintro _ _ ⟨rfl, rfl⟩
                simp (dsimp := false) (maxSteps := 4000000) only [fp, go_sem, ↓reduceIte, Nat.reduceEqDiff, Nat.reduceLT, Nat.reduceLeDiff, Nat.reduceAdd, Nat.reduceMul, Nat.reduceSub, reduceCtorEq, Int.reduceToNat, Int.reduceLT, Int.reduceLE, Int.reduceEq, Int.reduceNe, Int.reduceBEq, Nat.reduceBEq, Int.reduceBNe, Nat.reduceBNe, Int.reduceAdd, Int.reduceSub, Int.reduceMul, Int.reduceNeg]
                exact ⟨H, hle2 _, rfl⟩
          · have s0' : ¬ role p 0 = 2 := s0
            simp (dsimp := false) (maxSteps := 4000000) only [s0', fp, go_sem, ↓reduceIte, Nat.reduceEqDiff, Nat.reduceLT, Nat.reduceLeDiff, Nat.reduceAdd, Nat.reduceMul, Nat.reduceSub, reduceCtorEq, Int.reduceToNat, Int.reduceLT, Int.reduceLE, Int.reduceEq, Int.reduceNe, Int.reduceBEq, Nat.reduceBEq, Int.reduceBNe, Nat.reduceBNe, Int.reduceAdd, Int.reduceSub, Int.reduceMul, Int.reduceNeg]
            refine (Role_c p 1 (by decide) bp _ (find_add_self _ _ _)).mono ?_; rintro _ _ ⟨rfl, rfl⟩
            by_cases s1 : p.r1 = 2
            · have sh : p.r0 = 2 ∨ p.r1 = 2 := .inr s1
              rw [show role p 1 = 2 from s1]
              simp (dsimp := false) (maxSteps := 4000000) only [fp, go_sem, ↓reduceIte, Nat.reduceEqDiff, Nat.reduceLT, Nat.reduceLeDiff, Nat.reduceAdd, Nat.reduceMul, Nat.reduceSub, reduceCtorEq, Int.reduceToNat, Int.reduceLT, Int.reduceLE, Int.reduceEq, Int.reduceNe, Int.reduceBEq, Nat.reduceBEq, Int.reduceBNe, Nat.reduceBNe, Int.reduceAdd, Int.reduceSub, Int.reduceMul, Int.reduceNeg]
              refine AWp.loopo (ι := Nat × Pr) (fun t => Inv2 t.1 t.2 ∧ (t.2.r0 = 2 ∨ t.2.r1 = 2)) (fun t => [(6, .int .i64 t.1), (5, .bool true), (3, .pointer (some ⟨bp, 0, none⟩))])
                (fun t => H.add bp (.cells (pc t.2) 127 4)) (fun t => 10 - t.1) (0, p) ⟨⟨by simp only; omega, rl, up, fun _ => by have := bd.a; simp only; omega, fun _ => by have := bd.b; simp only; omega, ⟨by have := bd.a; simp only; omega, by have := bd.b; simp only; omega⟩⟩, sh⟩ (FrLe.of_lks ?_) (AH.le_refl _) fun t hi2 Q2 again2 out2 => ?_
              · simp (dsimp := false) (maxSteps := 4000000) only [fp, go_sem, ↓reduceIte, Nat.reduceEqDiff, Nat.reduceLT, Nat.reduceLeDiff, Nat.reduceAdd, Nat.reduceMul, Nat.reduceSub, reduceCtorEq, Int.reduceToNat, Int.reduceLT, Int.reduceLE, Int.reduceEq, Int.reduceNe, Int.reduceBEq, Nat.reduceBEq, Int.reduceBNe, Nat.reduceBNe, Int.reduceAdd, Int.reduceSub, Int.reduceMul, Int.reduceNeg]
              · obtain ⟨k, q⟩ := t
                obtain ⟨iv, sh2⟩ := hi2
                simp only at iv sh2 ⊢
                simp (dsimp := false) (maxSteps := 4000000) only [fp, go_sem, ↓reduceIte, Nat.reduceEqDiff, Nat.reduceLT, Nat.reduceLeDiff, Nat.reduceAdd, Nat.reduceMul, Nat.reduceSub, reduceCtorEq, Int.reduceToNat, Int.reduceLT, Int.reduceLE, Int.reduceEq, Int.reduceNe, Int.reduceBEq, Nat.reduceBEq, Int.reduceBNe, Nat.reduceBNe, Int.reduceAdd, Int.reduceSub, Int.reduceMul, Int.reduceNeg]
                have hstep := iv.step
                refine ACalls.mono (Round_c q (by have a := iv.bd.a; have b := iv.bd.b; have c := iv.k; omega) bp _ ?_) ?_; (show AH.find _ _ = _; simp only [find_add_self, find_add_ne, find_fresh, fresh_add, ne_eq, not_false_eq_true, true_and, and_true, and_self, fp]); rintro _ _ ⟨rfl, hH_⟩; (try simp only [put, del_add_self, del_add_ne, del_del, del_fresh, fresh_add, ne_eq, not_false_eq_true, true_and, and_true, and_self, fp] at hH_); subst hH_
                by_cases ho : act (tkP q) = -1
                · obtain ⟨iv2, hk10, hk4, q0, q1⟩ := hstep ho
                  have ek := i64_succ (i := k) (by omega)
                  have l10 : ¬ (10 : Int) < ((k + 1 : Nat) : Int) := by omega
                  rw [ho]
                  have l4 : ¬ (4 : Int) < ((k + 1 : Nat) : Int) := by have := hk4 sh2; omega
                  simp (dsimp := false) (maxSteps := 4000000) only [ek, l10, l4, fp, go_sem, ↓reduceIte, Nat.reduceEqDiff, Nat.reduceLT, Nat.reduceLeDiff, Nat.reduceAdd, Nat.reduceMul, Nat.reduceSub, reduceCtorEq, Int.reduceToNat, Int.reduceLT, Int.reduceLE, Int.reduceEq, Int.reduceNe, Int.reduceBEq, Nat.reduceBEq, Int.reduceBNe, Nat.reduceBNe, Int.reduceAdd, Int.reduceSub, Int.reduceMul, Int.reduceNeg]
                  exact again2 (k + 1, roundP q) _ _ ⟨iv2, by rw [q0, q1]; exact sh2⟩ (FrLe.of_lks (by simp (dsimp := false) (maxSteps := 4000000) only [fp, go_sem, ↓reduceIte, Nat.reduceEqDiff, Nat.reduceLT, Nat.reduceLeDiff, Nat.reduceAdd, Nat.reduceMul, Nat.reduceSub, reduceCtorEq, Int.reduceToNat, Int.reduceLT, Int.reduceLE, Int.reduceEq, Int.reduceNe, Int.reduceBEq, Nat.reduceBEq, Int.reduceBNe, Nat.reduceBNe, Int.reduceAdd, Int.reduceSub, Int.reduceMul, Int.reduceNeg])) (AH.le_refl _) (by simp only; omega)
                · have rl2 := iv.rl.round
                  have hop := open_again iv.rl ho
                  have hst := open_again rl2 (stays_open iv.rl ho)
                  have hb := iv.bd.round (by omega)
                  have hk := iv.k
                  have hge : ¬ act (tkP q) < 0 := by omega
                  have hge2 : (0 : Int) ≤ act (tkP (roundP q)) := by omega
                  simp (dsimp := false) (maxSteps := 4000000) only [hge, fp, go_sem, ↓reduceIte, Nat.reduceEqDiff, Nat.reduceLT, Nat.reduceLeDiff, Nat.reduceAdd, Nat.reduceMul, Nat.reduceSub, reduceCtorEq, Int.reduceToNat, Int.reduceLT, Int.reduceLE, Int.reduceEq, Int.reduceNe, Int.reduceBEq, Nat.reduceBEq, Int.reduceBNe, Nat.reduceBNe, Int.reduceAdd, Int.reduceSub, Int.reduceMul, Int.reduceNeg]
                  refine out2 _ _ _ (by simp) ?_
                  simp (dsimp := false) (maxSteps := 4000000) only [fp, go_sem, ↓reduceIte, Nat.reduceEqDiff, Nat.reduceLT, Nat.reduceLeDiff, Nat.reduceAdd, Nat.reduceMul, Nat.reduceSub, reduceCtorEq, Int.reduceToNat, Int.reduceLT, Int.reduceLE, Int.reduceEq, Int.reduceNe, Int.reduceBEq, Nat.reduceBEq, Int.reduceBNe, Nat.reduceBNe, Int.reduceAdd, Int.reduceSub, Int.reduceMul, Int.reduceNeg]
                  refine (awake19_c _).mono ?_; rintro _ _ ⟨rfl, rfl⟩
                  simp (dsimp := false) (maxSteps := 4000000) only [fp, go_sem, ↓reduceIte, Nat.reduceEqDiff, Nat.reduceLT, Nat.reduceLeDiff, Nat.reduceAdd, Nat.reduceMul, Nat.reduceSub, reduceCtorEq, Int.reduceToNat, Int.reduceLT, Int.reduceLE, Int.reduceEq, Int.reduceNe, Int.reduceBEq, Nat.reduceBEq, Int.reduceBNe, Nat.reduceBNe, Int.reduceAdd, Int.reduceSub, Int.reduceMul, Int.reduceNeg]
                  refine ACalls.mono (Round_c (roundP q) (by have a := hb.a; have b := hb.b; omega) bp _ ?_) ?_; (show AH.find _ _ = _; simp only [find_add_self, find_add_ne, find_fresh, fresh_add, ne_eq, not_false_eq_true, true_and, and_true, and_self, fp]); rintro _ _ ⟨rfl, hH_⟩; (try simp only [put, del_add_self, del_add_ne, del_del, del_fresh, fresh_add, ne_eq, not_false_eq_true, true_and, and_true, and_self, fp] at hH_); subst hH_
                  simp (dsimp := false) (maxSteps := 4000000) only [hge2, fp, go_sem, ↓reduceIte, Nat.reduceEqDiff, Nat.reduceLT, Nat.reduceLeDiff, Nat.reduceAdd, Nat.reduceMul, Nat.reduceSub, reduceCtorEq, Int.reduceToNat, Int.reduceLT, Int.reduceLE, Int.reduceEq, Int.reduceNe, Int.reduceBEq, Nat.reduceBEq, Int.reduceBNe, Nat.reduceBNe, Int.reduceAdd, Int.reduceSub, Int.reduceMul, Int.reduceNeg]
                  refine (Round_nil _).mono ?_; rintro _ _ ⟨rfl, rfl⟩
                  simp (dsimp := false) (maxSteps := 4000000) only [fp, go_sem, ↓reduceIte, Nat.reduceEqDiff, Nat.reduceLT, Nat.reduceLeDiff, Nat.reduceAdd, Nat.reduceMul, Nat.reduceSub, reduceCtorEq, Int.reduceToNat, Int.reduceLT, Int.reduceLE, Int.reduceEq, Int.reduceNe, Int.reduceBEq, Nat.reduceBEq, Int.reduceBNe, Nat.reduceBNe, Int.reduceAdd, Int.reduceSub, Int.reduceMul, Int.reduceNeg]
                  refine (Crash_nil 0 _).mono ?_; rintro _ _ ⟨rfl, rfl⟩
                  simp (dsimp := false) (maxSteps := 4000000) only [fp, go_sem, ↓reduceIte, Nat.reduceEqDiff, Nat.reduceLT, Nat.reduceLeDiff, Nat.reduceAdd, Nat.reduceMul, Nat.reduceSub, reduceCtorEq, Int.reduceToNat, Int.reduceLT, Int.reduceLE, Int.reduceEq, Int.reduceNe, Int.reduceBEq, Nat.reduceBEq, Int.reduceBNe, Nat.reduceBNe, Int.reduceAdd, Int.reduceSub, Int.reduceMul, Int.reduceNeg]
                  refine (Restart_nil 0 _).mono ?_; rintro _ _ ⟨rfl, rfl⟩
                  simp (dsimp := false) (maxSteps := 4000000) only [fp, go_sem, ↓reduceIte, Nat.reduceEqDiff, Nat.reduceLT, Nat.reduceLeDiff, Nat.reduceAdd, Nat.reduceMul, Nat.reduceSub, reduceCtorEq, Int.reduceToNat, Int.reduceLT, Int.reduceLE, Int.reduceEq, Int.reduceNe, Int.reduceBEq, Nat.reduceBEq, Int.reduceBNe, Nat.reduceBNe, Int.reduceAdd, Int.reduceSub, Int.reduceMul, Int.reduceNeg]
                  refine (Role_nil 0 _).mono ?_; rintro _ _ ⟨rfl, rfl⟩
                  simp (dsimp := false) (maxSteps := 4000000) only [fp, go_sem, ↓reduceIte, Nat.reduceEqDiff, Nat.reduceLT, Nat.reduceLeDiff, Nat.reduceAdd, Nat.reduceMul, Nat.reduceSub, reduceCtorEq, Int.reduceToNat, Int.reduceLT, Int.reduceLE, Int.reduceEq, Int.reduceNe, Int.reduceBEq, Nat.reduceBEq, Int.reduceBNe, Nat.reduceBNe, Int.reduceAdd, Int.reduceSub, Int.reduceMul, Int.reduceNeg]
                  exact ⟨H, hle2 _, rfl⟩
            · have s1' : ¬ role p 1 = 2 := s1
              simp (dsimp := false) (maxSteps := 4000000) only [s1', fp, go_sem, ↓reduceIte, Nat.reduceEqDiff, Nat.reduceLT, Nat.reduceLeDiff, Nat.reduceAdd, Nat.reduceMul, Nat.reduceSub, reduceCtorEq, Int.reduceToNat, Int.reduceLT, Int.reduceLE, Int.reduceEq, Int.reduceNe, Int.reduceBEq, Nat.reduceBEq, Int.reduceBNe, Nat.reduceBNe, Int.reduceAdd, Int.reduceSub, Int.reduceMul, Int.reduceNeg]
              refine AWp.loopo (ι := Nat × Pr) (fun t => Inv2 t.1 t.2) (fun t => [(6, .int .i64 t.1), (5, .bool false), (3, .pointer (some ⟨bp, 0, none⟩))])
                (fun t => H.add bp (.cells (pc t.2) 127 4)) (fun t => 10 - t.1) (0, p) ⟨by simp only; omega, rl, up, fun _ => by have := bd.a; simp only; omega, fun _ => by have := bd.b; simp only; omega, ⟨by have := bd.a; simp only; omega, by have := bd.b; simp only; omega⟩⟩ (FrLe.of_lks ?_) (AH.le_refl _) fun t hi2 Q2 again2 out2 => ?_
              · simp (dsimp := false) (maxSteps := 4000000) only [fp, go_sem, ↓reduceIte, Nat.reduceEqDiff, Nat.reduceLT, Nat.reduceLeDiff, Nat.reduceAdd, Nat.reduceMul, Nat.reduceSub, reduceCtorEq, Int.reduceToNat, Int.reduceLT, Int.reduceLE, Int.reduceEq, Int.reduceNe, Int.reduceBEq, Nat.reduceBEq, Int.reduceBNe, Nat.reduceBNe, Int.reduceAdd, Int.reduceSub, Int.reduceMul, Int.reduceNeg]
                exact congrArg Value.bool (beq_eq_false_iff_ne.2 s1')
              · obtain ⟨k, q⟩ := t
                have iv := hi2
                simp only at iv ⊢
                simp (dsimp := false) (maxSteps := 4000000) only [fp, go_sem, ↓reduceIte, Nat.reduceEqDiff, Nat.reduceLT, Nat.reduceLeDiff, Nat.reduceAdd, Nat.reduceMul, Nat.reduceSub, reduceCtorEq, Int.reduceToNat, Int.reduceLT, Int.reduceLE, Int.reduceEq, Int.reduceNe, Int.reduceBEq, Nat.reduceBEq, Int.reduceBNe, Nat.reduceBNe, Int.reduceAdd, Int.reduceSub, Int.reduceMul, Int.reduceNeg]
                have hstep := iv.step
                refine ACalls.mono (Round_c q (by have a := iv.bd.a; have b := iv.bd.b; have c := iv.k; omega) bp _ ?_) ?_; (show AH.find _ _ = _; simp only [find_add_self, find_add_ne, find_fresh, fresh_add, ne_eq, not_false_eq_true, true_and, and_true, and_self, fp]); rintro _ _ ⟨rfl, hH_⟩; (try simp only [put, del_add_self, del_add_ne, del_del, del_fresh, fresh_add, ne_eq, not_false_eq_true, true_and, and_true, and_self, fp] at hH_); subst hH_
                by_cases ho : act (tkP q) = -1
                · obtain ⟨iv2, hk10, hk4, q0, q1⟩ := hstep ho
                  have ek := i64_succ (i := k) (by omega)
                  have l10 : ¬ (10 : Int) < ((k + 1 : Nat) : Int) := by omega
                  rw [ho]
                  simp (dsimp := false) (maxSteps := 4000000) only [ek, l10, fp, go_sem, ↓reduceIte, Nat.reduceEqDiff, Nat.reduceLT, Nat.reduceLeDiff, Nat.reduceAdd, Nat.reduceMul, Nat.reduceSub, reduceCtorEq, Int.reduceToNat, Int.reduceLT, Int.reduceLE, Int.reduceEq, Int.reduceNe, Int.reduceBEq, Nat.reduceBEq, Int.reduceBNe, Nat.reduceBNe, Int.reduceAdd, Int.reduceSub, Int.reduceMul, Int.reduceNeg]
                  exact again2 (k + 1, roundP q) _ _ iv2 (FrLe.of_lks (by simp (dsimp := false) (maxSteps := 4000000) only [fp, go_sem, ↓reduceIte, Nat.reduceEqDiff, Nat.reduceLT, Nat.reduceLeDiff, Nat.reduceAdd, Nat.reduceMul, Nat.reduceSub, reduceCtorEq, Int.reduceToNat, Int.reduceLT, Int.reduceLE, Int.reduceEq, Int.reduceNe, Int.reduceBEq, Nat.reduceBEq, Int.reduceBNe, Nat.reduceBNe, Int.reduceAdd, Int.reduceSub, Int.reduceMul, Int.reduceNeg])) (AH.le_refl _) (by simp only; omega)
                · have rl2 := iv.rl.round
                  have hop := open_again iv.rl ho
                  have hst := open_again rl2 (stays_open iv.rl ho)
                  have hb := iv.bd.round (by omega)
                  have hk := iv.k
                  have hge : ¬ act (tkP q) < 0 := by omega
                  have hge2 : (0 : Int) ≤ act (tkP (roundP q)) := by omega
                  simp (dsimp := false) (maxSteps := 4000000) only [hge, fp, go_sem, ↓reduceIte, Nat.reduceEqDiff, Nat.reduceLT, Nat.reduceLeDiff, Nat.reduceAdd, Nat.reduceMul, Nat.reduceSub, reduceCtorEq, Int.reduceToNat, Int.reduceLT, Int.reduceLE, Int.reduceEq, Int.reduceNe, Int.reduceBEq, Nat.reduceBEq, Int.reduceBNe, Nat.reduceBNe, Int.reduceAdd, Int.reduceSub, Int.reduceMul, Int.reduceNeg]
                  refine out2 _ _ _ (by simp) ?_
                  simp (dsimp := false) (maxSteps := 4000000) only [fp, go_sem, ↓reduceIte, Nat.reduceEqDiff, Nat.reduceLT, Nat.reduceLeDiff, Nat.reduceAdd, Nat.reduceMul, Nat.reduceSub, reduceCtorEq, Int.reduceToNat, Int.reduceLT, Int.reduceLE, Int.reduceEq, Int.reduceNe, Int.reduceBEq, Nat.reduceBEq, Int.reduceBNe, Nat.reduceBNe, Int.reduceAdd, Int.reduceSub, Int.reduceMul, Int.reduceNeg]
                  refine (awake19_c _).mono ?_; rintro _ _ ⟨rfl, rfl⟩
                  simp (dsimp := false) (maxSteps := 4000000) only [fp, go_sem, ↓reduceIte, Nat.reduceEqDiff, Nat.reduceLT, Nat.reduceLeDiff, Nat.reduceAdd, Nat.reduceMul, Nat.reduceSub, reduceCtorEq, Int.reduceToNat, Int.reduceLT, Int.reduceLE, Int.reduceEq, Int.reduceNe, Int.reduceBEq, Nat.reduceBEq, Int.reduceBNe, Nat.reduceBNe, Int.reduceAdd, Int.reduceSub, Int.reduceMul, Int.reduceNeg]
                  refine ACalls.mono (Round_c (roundP q) (by have a := hb.a; have b := hb.b; omega) bp _ ?_) ?_; (show AH.find _ _ = _; simp only [find_add_self, find_add_ne, find_fresh, fresh_add, ne_eq, not_false_eq_true, true_and, and_true, and_self, fp]); rintro _ _ ⟨rfl, hH_⟩; (try simp only [put, del_add_self, del_add_ne, del_del, del_fresh, fresh_add, ne_eq, not_false_eq_true, true_and, and_true, and_self, fp] at hH_); subst hH_
                  simp (dsimp := false) (maxSteps := 4000000) only [hge2, fp, go_sem, ↓reduceIte, Nat.reduceEqDiff, Nat.reduceLT, Nat.reduceLeDiff, Nat.reduceAdd, Nat.reduceMul, Nat.reduceSub, reduceCtorEq, Int.reduceToNat, Int.reduceLT, Int.reduceLE, Int.reduceEq, Int.reduceNe, Int.reduceBEq, Nat.reduceBEq, Int.reduceBNe, Nat.reduceBNe, Int.reduceAdd, Int.reduceSub, Int.reduceMul, Int.reduceNeg]
                  refine (Round_nil _).mono ?_; rintro _ _ ⟨rfl, rfl⟩
                  simp (dsimp := false) (maxSteps := 4000000) only [fp, go_sem, ↓reduceIte, Nat.reduceEqDiff, Nat.reduceLT, Nat.reduceLeDiff, Nat.reduceAdd, Nat.reduceMul, Nat.reduceSub, reduceCtorEq, Int.reduceToNat, Int.reduceLT, Int.reduceLE, Int.reduceEq, Int.reduceNe, Int.reduceBEq, Nat.reduceBEq, Int.reduceBNe, Nat.reduceBNe, Int.reduceAdd, Int.reduceSub, Int.reduceMul, Int.reduceNeg]
                  refine (Crash_nil 0 _).mono ?_; rintro _ _ ⟨rfl, rfl⟩
                  simp (dsimp := false) (maxSteps := 4000000) only [fp, go_sem, ↓reduceIte, Nat.reduceEqDiff, Nat.reduceLT, Nat.reduceLeDiff, Nat.reduceAdd, Nat.reduceMul, Nat.reduceSub, reduceCtorEq, Int.reduceToNat, Int.reduceLT, Int.reduceLE, Int.reduceEq, Int.reduceNe, Int.reduceBEq, Nat.reduceBEq, Int.reduceBNe, Nat.reduceBNe, Int.reduceAdd, Int.reduceSub, Int.reduceMul, Int.reduceNeg]
                  refine (Restart_nil 0 _).mono ?_; rintro _ _ ⟨rfl, rfl⟩
                  simp (dsimp := false) (maxSteps := 4000000) only [fp, go_sem, ↓reduceIte, Nat.reduceEqDiff, Nat.reduceLT, Nat.reduceLeDiff, Nat.reduceAdd, Nat.reduceMul, Nat.reduceSub, reduceCtorEq, Int.reduceToNat, Int.reduceLT, Int.reduceLE, Int.reduceEq, Int.reduceNe, Int.reduceBEq, Nat.reduceBEq, Int.reduceBNe, Nat.reduceBNe, Int.reduceAdd, Int.reduceSub, Int.reduceMul, Int.reduceNeg]
                  refine (Role_nil 0 _).mono ?_; rintro _ _ ⟨rfl, rfl⟩
                  simp (dsimp := false) (maxSteps := 4000000) only [fp, go_sem, ↓reduceIte, Nat.reduceEqDiff, Nat.reduceLT, Nat.reduceLeDiff, Nat.reduceAdd, Nat.reduceMul, Nat.reduceSub, reduceCtorEq, Int.reduceToNat, Int.reduceLT, Int.reduceLE, Int.reduceEq, Int.reduceNe, Int.reduceBEq, Nat.reduceBEq, Int.reduceBNe, Nat.reduceBNe, Int.reduceAdd, Int.reduceSub, Int.reduceMul, Int.reduceNeg]
                  exact ⟨H, hle2 _, rfl⟩
      · simp (dsimp := false) (maxSteps := 4000000) only [h, fp, go_sem, ↓reduceIte, Nat.reduceEqDiff, Nat.reduceLT, Nat.reduceLeDiff, Nat.reduceAdd, Nat.reduceMul, Nat.reduceSub, reduceCtorEq, Int.reduceToNat, Int.reduceLT, Int.reduceLE, Int.reduceEq, Int.reduceNe, Int.reduceBEq, Nat.reduceBEq, Int.reduceBNe, Nat.reduceBNe, Int.reduceAdd, Int.reduceSub, Int.reduceMul, Int.reduceNeg]
        refine out _ _ _ (by simp) ?_
        simp (dsimp := false) (maxSteps := 4000000) only [fp, go_sem, ↓reduceIte, Nat.reduceEqDiff, Nat.reduceLT, Nat.reduceLeDiff, Nat.reduceAdd, Nat.reduceMul, Nat.reduceSub, reduceCtorEq, Int.reduceToNat, Int.reduceLT, Int.reduceLE, Int.reduceEq, Int.reduceNe, Int.reduceBEq, Nat.reduceBEq, Int.reduceBNe, Nat.reduceBNe, Int.reduceAdd, Int.reduceSub, Int.reduceMul, Int.reduceNeg]
        refine (Role_c p 0 (by decide) bp _ (find_add_self _ _ _)).mono ?_; rintro _ _ ⟨rfl, rfl⟩
        by_cases d0 : p.r0 = 4
        · rw [show role p 0 = 4 from d0]
          simp (dsimp := false) (maxSteps := 4000000) only [fp, go_sem, ↓reduceIte, Nat.reduceEqDiff, Nat.reduceLT, Nat.reduceLeDiff, Nat.reduceAdd, Nat.reduceMul, Nat.reduceSub, reduceCtorEq, Int.reduceToNat, Int.reduceLT, Int.reduceLE, Int.reduceEq, Int.reduceNe, Int.reduceBEq, Nat.reduceBEq, Int.reduceBNe, Nat.reduceBNe, Int.reduceAdd, Int.reduceSub, Int.reduceMul, Int.reduceNeg]
          refine (Role_c p 1 (by decide) bp _ (find_add_self _ _ _)).mono ?_; rintro _ _ ⟨rfl, rfl⟩
          by_cases d1 : p.r1 = 4
          · rw [show role p 1 = 4 from d1]
            simp (dsimp := false) (maxSteps := 4000000) only [fp, go_sem, ↓reduceIte, Nat.reduceEqDiff, Nat.reduceLT, Nat.reduceLeDiff, Nat.reduceAdd, Nat.reduceMul, Nat.reduceSub, reduceCtorEq, Int.reduceToNat, Int.reduceLT, Int.reduceLE, Int.reduceEq, Int.reduceNe, Int.reduceBEq, Nat.reduceBEq, Int.reduceBNe, Nat.reduceBNe, Int.reduceAdd, Int.reduceSub, Int.reduceMul, Int.reduceNeg]
            refine (awake19_c _).mono ?_; rintro _ _ ⟨rfl, rfl⟩
            simp (dsimp := false) (maxSteps := 4000000) only [fp, go_sem, ↓reduceIte, Nat.reduceEqDiff, Nat.reduceLT, Nat.reduceLeDiff, Nat.reduceAdd, Nat.reduceMul, Nat.reduceSub, reduceCtorEq, Int.reduceToNat, Int.reduceLT, Int.reduceLE, Int.reduceEq, Int.reduceNe, Int.reduceBEq, Nat.reduceBEq, Int.reduceBNe, Nat.reduceBNe, Int.reduceAdd, Int.reduceSub, Int.reduceMul, Int.reduceNeg]
            refine ACalls.mono (Round_c p (by have a := bd.a; have b := bd.b; omega) bp _ ?_) ?_; (show AH.find _ _ = _; simp only [find_add_self, find_add_ne, find_fresh, fresh_add, ne_eq, not_false_eq_true, true_and, and_true, and_self, fp]); rintro _ _ ⟨rfl, hH_⟩; (try simp only [put, del_add_self, del_add_ne, del_del, del_fresh, fresh_add, ne_eq, not_false_eq_true, true_and, and_true, and_self, fp] at hH_); subst hH_
            have hm : act (tkP p) = -1 := by
              rcases one_round p rl.j with ⟨o, _⟩ | ⟨_, _, _, _, g⟩ | ⟨_, _, _, _, g⟩
              · exact o
              · rw [d0] at g; simp at g
              · rw [d1] at g; simp at g
            rw [hm]
            simp (dsimp := false) (maxSteps := 4000000) only [fp, go_sem, ↓reduceIte, Nat.reduceEqDiff, Nat.reduceLT, Nat.reduceLeDiff, Nat.reduceAdd, Nat.reduceMul, Nat.reduceSub, reduceCtorEq, Int.reduceToNat, Int.reduceLT, Int.reduceLE, Int.reduceEq, Int.reduceNe, Int.reduceBEq, Nat.reduceBEq, Int.reduceBNe, Nat.reduceBNe, Int.reduceAdd, Int.reduceSub, Int.reduceMul, Int.reduceNeg]
            exact ⟨H, hle2 _, rfl⟩
          · have d1' : ¬ role p 1 = 4 := d1
            have up : ¬ (p.r0 = 4 ∧ p.r1 = 4) := fun hh => d1 hh.2
            simp (dsimp := false) (maxSteps := 4000000) only [d1', fp, go_sem, ↓reduceIte, Nat.reduceEqDiff, Nat.reduceLT, Nat.reduceLeDiff, Nat.reduceAdd, Nat.reduceMul, Nat.reduceSub, reduceCtorEq, Int.reduceToNat, Int.reduceLT, Int.reduceLE, Int.reduceEq, Int.reduceNe, Int.reduceBEq, Nat.reduceBEq, Int.reduceBNe, Nat.reduceBNe, Int.reduceAdd, Int.reduceSub, Int.reduceMul, Int.reduceNeg]
            refine (Role_c p 0 (by decide) bp _ (find_add_self _ _ _)).mono ?_; rintro _ _ ⟨rfl, rfl⟩
            by_cases s0 : p.r0 = 2
            · have sh : p.r0 = 2 ∨ p.r1 = 2 := .inl s0
              rw [show role p 0 = 2 from s0]
              simp (dsimp := false) (maxSteps := 4000000) only [fp, go_sem, ↓reduceIte, Nat.reduceEqDiff, Nat.reduceLT, Nat.reduceLeDiff, Nat.reduceAdd, Nat.reduceMul, Nat.reduceSub, reduceCtorEq, Int.reduceToNat, Int.reduceLT, Int.reduceLE, Int.reduceEq, Int.reduceNe, Int.reduceBEq, Nat.reduceBEq, Int.reduceBNe, Nat.reduceBNe, Int.reduceAdd, Int.reduceSub, Int.reduceMul, Int.reduceNeg]
              refine AWp.loopo (ι := Nat × Pr) (fun t => Inv2 t.1 t.2 ∧ (t.2.r0 = 2 ∨ t.2.r1 = 2)) (fun t => [(6, .int .i64 t.1), (5, .bool true), (3, .pointer (some ⟨bp, 0, none⟩))])
                (fun t => H.add bp (.cells (pc t.2) 127 4)) (fun t => 10 - t.1) (0, p) ⟨⟨by simp only; omega, rl, up, fun _ => by have := bd.a; simp only; omega, fun _ => by have := bd.b; simp only; omega, ⟨by have := bd.a; simp only; omega, by have := bd.b; simp only; omega⟩⟩, sh⟩ (FrLe.of_lks ?_) (AH.le_refl _) fun t hi2 Q2 again2 out2 => ?_
              · simp (dsimp := false) (maxSteps := 4000000) only [fp, go_sem, ↓reduceIte, Nat.reduceEqDiff, Nat.reduceLT, Nat.reduceLeDiff, Nat.reduceAdd, Nat.reduceMul, Nat.reduceSub, reduceCtorEq, Int.reduceToNat, Int.reduceLT, Int.reduceLE, Int.reduceEq, Int.reduceNe, Int.reduceBEq, Nat.reduceBEq, Int.reduceBNe, Nat.reduceBNe, Int.reduceAdd, Int.reduceSub, Int.reduceMul, Int.reduceNeg]
              · obtain ⟨k, q⟩ := t
                obtain ⟨iv, sh2⟩ := hi2
                simp only at iv sh2 ⊢
                simp (dsimp := false) (maxSteps := 4000000) only [fp, go_sem, ↓reduceIte, Nat.reduceEqDiff, Nat.reduceLT, Nat.reduceLeDiff, Nat.reduceAdd, Nat.reduceMul, Nat.reduceSub, reduceCtorEq, Int.reduceToNat, Int.reduceLT, Int.reduceLE, Int.reduceEq, Int.reduceNe, Int.reduceBEq, Nat.reduceBEq, Int.reduceBNe, Nat.reduceBNe, Int.reduceAdd, Int.reduceSub, Int.reduceMul, Int.reduceNeg]
                have hstep := iv.step
                refine ACalls.mono (Round_c q (by have a := iv.bd.a; have b := iv.bd.b; have c := iv.k; omega) bp _ ?_) ?_; (show AH.find _ _ = _; simp only [find_add_self, find_add_ne, find_fresh, fresh_add, ne_eq, not_false_eq_true, true_and, and_true, and_self, fp]); rintro _ _ ⟨rfl, hH_⟩; (try simp only [put, del_add_self, del_add_ne, del_del, del_fresh, fresh_add, ne_eq, not_false_eq_true, true_and, and_true, and_self, fp] at hH_); subst hH_
                by_cases ho : act (tkP q) = -1
                · obtain ⟨iv2, hk10, hk4, q0, q1⟩ := hstep ho
                  have ek := i64_succ (i := k) (by omega)
                  have l10 : ¬ (10 : Int) < ((k + 1 : Nat) : Int) := by omega
                  rw [ho]
                  have l4 : ¬ (4 : Int) < ((k + 1 : Nat) : Int) := by have := hk4 sh2; omega
                  simp (dsimp := false) (maxSteps := 4000000) only [ek, l10, l4, fp, go_sem, ↓reduceIte, Nat.reduceEqDiff, Nat.reduceLT, Nat.reduceLeDiff, Nat.reduceAdd, Nat.reduceMul, Nat.reduceSub, reduceCtorEq, Int.reduceToNat, Int.reduceLT, Int.reduceLE, Int.reduceEq, Int.reduceNe, Int.reduceBEq, Nat.reduceBEq, Int.reduceBNe, Nat.reduceBNe, Int.reduceAdd, Int.reduceSub, Int.reduceMul, Int.reduceNeg]
                  exact again2 (k + 1, roundP q) _ _ ⟨iv2, by rw [q0, q1]; exact sh2⟩ (FrLe.of_lks (by simp (dsimp := false) (maxSteps := 4000000) only [fp, go_sem, ↓reduceIte, Nat.reduceEqDiff, Nat.reduceLT, Nat.reduceLeDiff, Nat.reduceAdd, Nat.reduceMul, Nat.reduceSub, reduceCtorEq, Int.reduceToNat, Int.reduceLT, Int.reduceLE, Int.reduceEq, Int.reduceNe, Int.reduceBEq, Nat.reduceBEq, Int.reduceBNe, Nat.reduceBNe, Int.reduceAdd, Int.reduceSub, Int.reduceMul, Int.reduceNeg])) (AH.le_refl _) (by simp only; omega)
                · have rl2 := iv.rl.round
                  have hop := open_again iv.rl ho
                  have hst := open_again rl2 (stays_open iv.rl ho)
                  have hb := iv.bd.round (by omega)
                  have hk := iv.k
                  have hge : ¬ act (tkP q) < 0 := by omega
                  have hge2 : (0 : Int) ≤ act (tkP (roundP q)) := by omega
                  simp (dsimp := false) (maxSteps := 4000000) only [hge, fp, go_sem, ↓reduceIte, Nat.reduceEqDiff, Nat.reduceLT, Nat.reduceLeDiff, Nat.reduceAdd, Nat.reduceMul, Nat.reduceSub, reduceCtorEq, Int.reduceToNat, Int.reduceLT, Int.reduceLE, Int.reduceEq, Int.reduceNe, Int.reduceBEq, Nat.reduceBEq, Int.reduceBNe, Nat.reduceBNe, Int.reduceAdd, Int.reduceSub, Int.reduceMul, Int.reduceNeg]
                  refine out2 _ _ _ (by simp) ?_
                  simp (dsimp := false) (maxSteps := 4000000) only [fp, go_sem, ↓reduceIte, Nat.reduceEqDiff, Nat.reduceLT, Nat.reduceLeDiff, Nat.reduceAdd, Nat.reduceMul, Nat.reduceSub, reduceCtorEq, Int.reduceToNat, Int.reduceLT, Int.reduceLE, Int.reduceEq, Int.reduceNe, Int.reduceBEq, Nat.reduceBEq, Int.reduceBNe, Nat.reduceBNe, Int.reduceAdd, Int.reduceSub, Int.reduceMul, Int.reduceNeg]
                  refine (awake19_c _).mono ?_; rintro _ _ ⟨rfl, rfl⟩
                  simp (dsimp := false) (maxSteps := 4000000) only [fp, go_sem, ↓reduceIte, Nat.reduceEqDiff, Nat.reduceLT, Nat.reduceLeDiff, Nat.reduceAdd, Nat.reduceMul, Nat.reduceSub, reduceCtorEq, Int.reduceToNat, Int.reduceLT, Int.reduceLE, Int.reduceEq, Int.reduceNe, Int.reduceBEq, Nat.reduceBEq, Int.reduceBNe, Nat.reduceBNe, Int.reduceAdd, Int.reduceSub, Int.reduceMul, Int.reduceNeg]
                  refine ACalls.mono (Round_c (roundP q) (by have a := hb.a; have b := hb.b; omega) bp _ ?_) ?_; (show AH.find _ _ = _; simp only [find_add_self, find_add_ne, find_fresh, fresh_add, ne_eq, not_false_eq_true, true_and, and_true, and_self, fp]); rintro _ _ ⟨rfl, hH_⟩; (try simp only [put, del_add_self, del_add_ne, del_del, del_fresh, fresh_add, ne_eq, not_false_eq_true, true_and, and_true, and_self, fp] at hH_); subst hH_
                  simp (dsimp := false) (maxSteps := 4000000) only [hge2, fp, go_sem, ↓reduceIte, Nat.reduceEqDiff, Nat.reduceLT, Nat.reduceLeDiff, Nat.reduceAdd, Nat.reduceMul, Nat.reduceSub, reduceCtorEq, Int.reduceToNat, Int.reduceLT, Int.reduceLE, Int.reduceEq, Int.reduceNe, Int.reduceBEq, Nat.reduceBEq, Int.reduceBNe, Nat.reduceBNe, Int.reduceAdd, Int.reduceSub, Int.reduceMul, Int.reduceNeg]
                  refine (Round_nil _).mono ?_; rintro _ _ ⟨rfl, rfl⟩
                  simp (dsimp := false) (maxSteps := 4000000) only [fp, go_sem, ↓reduceIte, Nat.reduceEqDiff, Nat.reduceLT, Nat.reduceLeDiff, Nat.reduceAdd, Nat.reduceMul, Nat.reduceSub, reduceCtorEq, Int.reduceToNat, Int.reduceLT, Int.reduceLE, Int.reduceEq, Int.reduceNe, Int.reduceBEq, Nat.reduceBEq, Int.reduceBNe, Nat.reduceBNe, Int.reduceAdd, Int.reduceSub, Int.reduceMul, Int.reduceNeg]
                  refine (Crash_nil 0 _).mono ?_; rintro _ _ ⟨rfl, rfl⟩
                  simp (dsimp := false) (maxSteps := 4000000) only [fp, go_sem, ↓reduceIte, Nat.reduceEqDiff, Nat.reduceLT, Nat.reduceLeDiff, Nat.reduceAdd, Nat.reduceMul, Nat.reduceSub, reduceCtorEq, Int.reduceToNat, Int.reduceLT, Int.reduceLE, Int.reduceEq, Int.reduceNe, Int.reduceBEq, Nat.reduceBEq, Int.reduceBNe, Nat.reduceBNe, Int.reduceAdd, Int.reduceSub, Int.reduceMul, Int.reduceNeg]
                  refine (Restart_nil 0 _).mono ?_; rintro _ _ ⟨rfl, rfl⟩
                  simp (dsimp := false) (maxSteps := 4000000) only [fp, go_sem, ↓reduceIte, Nat.reduceEqDiff, Nat.reduceLT, Nat.reduceLeDiff, Nat.reduceAdd, Nat.reduceMul, Nat.reduceSub, reduceCtorEq, Int.reduceToNat, Int.reduceLT, Int.reduceLE, Int.reduceEq, Int.reduceNe, Int.reduceBEq, Nat.reduceBEq, Int.reduceBNe, Nat.reduceBNe, Int.reduceAdd, Int.reduceSub, Int.reduceMul, Int.reduceNeg]
                  refine (Role_nil 0 _).mono ?_; rintro _ _ ⟨rfl, rfl⟩
                  simp (dsimp := false) (maxSteps := 4000000) only [fp, go_sem, ↓reduceIte, Nat.reduceEqDiff, Nat.reduceLT, Nat.reduceLeDiff, Nat.reduceAdd, Nat.reduceMul, Nat.reduceSub, reduceCtorEq, Int.reduceToNat, Int.reduceLT, Int.reduceLE, Int.reduceEq, Int.reduceNe, Int.reduceBEq, Nat.reduceBEq, Int.reduceBNe, Nat.reduceBNe, Int.reduceAdd, Int.reduceSub, Int.reduceMul, Int.reduceNeg]
                  exact ⟨H, hle2 _, rfl⟩
            · have s0' : ¬ role p 0 = 2 := s0
              simp (dsimp := false) (maxSteps := 4000000) only [s0', fp, go_sem, ↓reduceIte, Nat.reduceEqDiff, Nat.reduceLT, Nat.reduceLeDiff, Nat.reduceAdd, Nat.reduceMul, Nat.reduceSub, reduceCtorEq, Int.reduceToNat, Int.reduceLT, Int.reduceLE, Int.reduceEq, Int.reduceNe, Int.reduceBEq, Nat.reduceBEq, Int.reduceBNe, Nat.reduceBNe, Int.reduceAdd, Int.reduceSub, Int.reduceMul, Int.reduceNeg]
              refine (Role_c p 1 (by decide) bp _ (find_add_self _ _ _)).mono ?_; rintro _ _ ⟨rfl, rfl⟩
              by_cases s1 : p.r1 = 2
              · have sh : p.r0 = 2 ∨ p.r1 = 2 := .inr s1
                rw [show role p 1 = 2 from s1]
                simp (dsimp := false) (maxSteps := 4000000) only [fp, go_sem, ↓reduceIte, Nat.reduceEqDiff, Nat.reduceLT, Nat.reduceLeDiff, Nat.reduceAdd, Nat.reduceMul, Nat.reduceSub, reduceCtorEq, Int.reduceToNat, Int.reduceLT, Int.reduceLE, Int.reduceEq, Int.reduceNe, Int.reduceBEq, Nat.reduceBEq, Int.reduceBNe, Nat.reduceBNe, Int.reduceAdd, Int.reduceSub, Int.reduceMul, Int.reduceNeg]
                refine AWp.loopo (ι := Nat × Pr) (fun t => Inv2 t.1 t.2 ∧ (t.2.r0 = 2 ∨ t.2.r1 = 2)) (fun t => [(6, .int .i64 t.1), (5, .bool true), (3, .pointer (some ⟨bp, 0, none⟩))])
                  (fun t => H.add bp (.cells (pc t.2) 127 4)) (fun t => 10 - t.1) (0, p) ⟨⟨by simp only; omega, rl, up, fun _ => by have := bd.a; simp only; omega, fun _ => by have := bd.b; simp only; omega, ⟨by have := bd.a; simp only; omega, by have := bd.b; simp only; omega⟩⟩, sh⟩ (FrLe.of_lks ?_) (AH.le_refl _) fun t hi2 Q2 again2 out2 => ?_
                · simp (dsimp := false) (maxSteps := 4000000) only [fp, go_sem, ↓reduceIte, Nat.reduceEqDiff, Nat.reduceLT, Nat.reduceLeDiff, Nat.reduceAdd, Nat.reduceMul, Nat.reduceSub, reduceCtorEq, Int.reduceToNat, Int.reduceLT, Int.reduceLE, Int.reduceEq, Int.reduceNe, Int.reduceBEq, Nat.reduceBEq, Int.reduceBNe, Nat.reduceBNe, Int.reduceAdd, Int.reduceSub, Int.reduceMul, Int.reduceNeg]
                · obtain ⟨k, q⟩ := t
                  obtain ⟨iv, sh2⟩ := hi2
                  simp only at iv sh2 ⊢
                  simp (dsimp := false) (maxSteps := 4000000) only [fp, go_sem, ↓reduceIte, Nat.reduceEqDiff, Nat.reduceLT, Nat.reduceLeDiff, Nat.reduceAdd, Nat.reduceMul, Nat.reduceSub, reduceCtorEq, Int.reduceToNat, Int.reduceLT, Int.reduceLE, Int.reduceEq, Int.reduceNe, Int.reduceBEq, Nat.reduceBEq, Int.reduceBNe, Nat.reduceBNe, Int.reduceAdd, Int.reduceSub, Int.reduceMul, Int.reduceNeg]
                  have hstep := iv.step
                  refine ACalls.mono (Round_c q (by have a := iv.bd.a; have b := iv.bd.b; have c := iv.k; omega) bp _ ?_) ?_; (show AH.find _ _ = _; simp only [find_add_self, find_add_ne, find_fresh, fresh_add, ne_eq, not_false_eq_true, true_and, and_true, and_self, fp]); rintro _ _ ⟨rfl, hH_⟩; (try simp only [put, del_add_self, del_add_ne, del_del, del_fresh, fresh_add, ne_eq, not_false_eq_true, true_and, and_true, and_self, fp] at hH_); subst hH_
                  by_cases ho : act (tkP q) = -1
                  · obtain ⟨iv2, hk10, hk4, q0, q1⟩ := hstep ho
                    have ek := i64_succ (i := k) (by omega)
                    have l10 : ¬ (10 : Int) < ((k + 1 : Nat) : Int) := by omega
                    rw [ho]
                    have l4 : ¬ (4 : Int) < ((k + 1 : Nat) : Int) := by have := hk4 sh2; omega
                    simp (dsimp := false) (maxSteps := 4000000) only [ek, l10, l4, fp, go_sem, ↓reduceIte, Nat.reduceEqDiff, Nat.reduceLT, Nat.reduceLeDiff, Nat.reduceAdd, Nat.reduceMul, Nat.reduceSub, reduceCtorEq, Int.reduceToNat, Int.reduceLT, Int.reduceLE, Int.reduceEq, Int.reduceNe, Int.reduceBEq, Nat.reduceBEq, Int.reduceBNe, Nat.reduceBNe, Int.reduceAdd, Int.reduceSub, Int.reduceMul, Int.reduceNeg]
                    exact again2 (k + 1, roundP q) _ _ ⟨iv2, by rw [q0, q1]; exact sh2⟩ (FrLe.of_lks (by simp (dsimp := false) (maxSteps := 4000000) only [fp, go_sem, ↓reduceIte, Nat.reduceEqDiff, Nat.reduceLT, Nat.reduceLeDiff, Nat.reduceAdd, Nat.reduceMul, Nat.reduceSub, reduceCtorEq, Int.reduceToNat, Int.reduceLT, Int.reduceLE, Int.reduceEq, Int.reduceNe, Int.reduceBEq, Nat.reduceBEq, Int.reduceBNe, Nat.reduceBNe, Int.reduceAdd, Int.reduceSub, Int.reduceMul, Int.reduceNeg])) (AH.le_refl _) (by simp only; omega)
                  · have rl2 := iv.rl.round
                    have hop := open_again iv.rl ho
                    have hst := open_again rl2 (stays_open iv.rl ho)
                    have hb := iv.bd.round (by omega)
                    have hk := iv.k
                    have hge : ¬ act (tkP q) < 0 := by omega
                    have hge2 : (0 : Int) ≤ act (tkP (roundP q)) := by omega
                    simp (dsimp := false) (maxSteps := 4000000) only [hge, fp, go_sem, ↓reduceIte, Nat.reduceEqDiff, Nat.reduceLT, Nat.reduceLeDiff, Nat.reduceAdd, Nat.reduceMul, Nat.reduceSub, reduceCtorEq, Int.reduceToNat, Int.reduceLT, Int.reduceLE, Int.reduceEq, Int.reduceNe, Int.reduceBEq, Nat.reduceBEq, Int.reduceBNe, Nat.reduceBNe, Int.reduceAdd, Int.reduceSub, Int.reduceMul, Int.reduceNeg]
                    refine out2 _ _ _ (by simp) ?_
                    simp (dsimp := false) (maxSteps := 4000000) only [fp, go_sem, ↓reduceIte, Nat.reduceEqDiff, Nat.reduceLT, Nat.reduceLeDiff, Nat.reduceAdd, Nat.reduceMul, Nat.reduceSub, reduceCtorEq, Int.reduceToNat, Int.reduceLT, Int.reduceLE, Int.reduceEq, Int.reduceNe, Int.reduceBEq, Nat.reduceBEq, Int.reduceBNe, Nat.reduceBNe, Int.reduceAdd, Int.reduceSub, Int.reduceMul, Int.reduceNeg]
                    refine (awake19_c _).mono ?_; rintro _ _ ⟨rfl, rfl⟩
                    simp (dsimp := false) (maxSteps := 4000000) only [fp, go_sem, ↓reduceIte, Nat.reduceEqDiff, Nat.reduceLT, Nat.reduceLeDiff, Nat.reduceAdd, Nat.reduceMul, Nat.reduceSub, reduceCtorEq, Int.reduceToNat, Int.reduceLT, Int.reduceLE, Int.reduceEq, Int.reduceNe, Int.reduceBEq, Nat.reduceBEq, Int.reduceBNe, Nat.reduceBNe, Int.reduceAdd, Int.reduceSub, Int.reduceMul, Int.reduceNeg]
                    refine ACalls.mono (Round_c (roundP q) (by have a := hb.a; have b := hb.b; omega) bp _ ?_) ?_; (show AH.find _ _ = _; simp only [find_add_self, find_add_ne, find_fresh, fresh_add, ne_eq, not_false_eq_true, true_and, and_true, and_self, fp]); rintro _ _ ⟨rfl, hH_⟩; (try simp only [put, del_add_self, del_add_ne, del_del, del_fresh, fresh_add, ne_eq, not_false_eq_true, true_and, and_true, and_self, fp] at hH_); subst hH_
                    simp (dsimp := false) (maxSteps := 4000000) only [hge2, fp, go_sem, ↓reduceIte, Nat.reduceEqDiff, Nat.reduceLT, Nat.reduceLeDiff, Nat.reduceAdd, Nat.reduceMul, Nat.reduceSub, reduceCtorEq, Int.reduceToNat, Int.reduceLT, Int.reduceLE, Int.reduceEq, Int.reduceNe, Int.reduceBEq, Nat.reduceBEq, Int.reduceBNe, Nat.reduceBNe, Int.reduceAdd, Int.reduceSub, Int.reduceMul, Int.reduceNeg]
                    refine (Round_nil _).mono ?_; rintro _ _ ⟨rfl, rfl⟩
                    simp (dsimp := false) (maxSteps := 4000000) only [fp, go_sem, ↓reduceIte, Nat.reduceEqDiff, Nat.reduceLT, Nat.reduceLeDiff, Nat.reduceAdd, Nat.reduceMul, Nat.reduceSub, reduceCtorEq, Int.reduceToNat, Int.reduceLT, Int.reduceLE, Int.reduceEq, Int.reduceNe, Int.reduceBEq, Nat.reduceBEq, Int.reduceBNe, Nat.reduceBNe, Int.reduceAdd, Int.reduceSub, Int.reduceMul, Int.reduceNeg]
                    refine (Crash_nil 0 _).mono ?_; rintro _ _ ⟨rfl, rfl⟩
                    simp (dsimp := false) (maxSteps := 4000000) only [fp, go_sem, ↓reduceIte, Nat.reduceEqDiff, Nat.reduceLT, Nat.reduceLeDiff, Nat.reduceAdd, Nat.reduceMul, Nat.reduceSub, reduceCtorEq, Int.reduceToNat, Int.reduceLT, Int.reduceLE, Int.reduceEq, Int.reduceNe, Int.reduceBEq, Nat.reduceBEq, Int.reduceBNe, Nat.reduceBNe, Int.reduceAdd, Int.reduceSub, Int.reduceMul, Int.reduceNeg]
                    refine (Restart_nil 0 _).mono ?_; rintro _ _ ⟨rfl, rfl⟩
                    simp (dsimp := false) (maxSteps := 4000000) only [fp, go_sem, ↓reduceIte, Nat.reduceEqDiff, Nat.reduceLT, Nat.reduceLeDiff, Nat.reduceAdd, Nat.reduceMul, Nat.reduceSub, reduceCtorEq, Int.reduceToNat, Int.reduceLT, Int.reduceLE, Int.reduceEq, Int.reduceNe, Int.reduceBEq, Nat.reduceBEq, Int.reduceBNe, Nat.reduceBNe, Int.reduceAdd, Int.reduceSub, Int.reduceMul, Int.reduceNeg]
                    refine (Role_nil 0 _).mono ?_; rintro _ _ ⟨rfl, rfl⟩
                    simp (dsimp := false) (maxSteps := 4000000) only [fp, go_sem, ↓reduceIte, Nat.reduceEqDiff, Nat.reduceLT, Nat.reduceLeDiff, Nat.reduceAdd, Nat.reduceMul, Nat.reduceSub, reduceCtorEq, Int.reduceToNat, Int.reduceLT, Int.reduceLE, Int.reduceEq, Int.reduceNe, Int.reduceBEq, Nat.reduceBEq, Int.reduceBNe, Nat.reduceBNe, Int.reduceAdd, Int.reduceSub, Int.reduceMul, Int.reduceNeg]
                    exact ⟨H, hle2 _, rfl⟩
              · have s1' : ¬ role p 1 = 2 := s1
                simp (dsimp := false) (maxSteps := 4000000) only [s1', fp, go_sem, ↓reduceIte, Nat.reduceEqDiff, Nat.reduceLT, Nat.reduceLeDiff, Nat.reduceAdd, Nat.reduceMul, Nat.reduceSub, reduceCtorEq, Int.reduceToNat, Int.reduceLT, Int.reduceLE, Int.reduceEq, Int.reduceNe, Int.reduceBEq, Nat.reduceBEq, Int.reduceBNe, Nat.reduceBNe, Int.reduceAdd, Int.reduceSub, Int.reduceMul, Int.reduceNeg]
                refine AWp.loopo (ι := Nat × Pr) (fun t => Inv2 t.1 t.2) (fun t => [(6, .int .i64 t.1), (5, .bool false), (3, .pointer (some ⟨bp, 0, none⟩))])
                  (fun t => H.add bp (.cells (pc t.2) 127 4)) (fun t => 10 - t.1) (0, p) ⟨by simp only; omega, rl, up, fun _ => by have := bd.a; simp only; omega, fun _ => by have := bd.b; simp only; omega, ⟨by have := bd.a; simp only; omega, by have := bd.b; simp only; omega⟩⟩ (FrLe.of_lks ?_) (AH.le_refl _) fun t hi2 Q2 again2 out2 => ?_
                · simp (dsimp := false) (maxSteps := 4000000) only [fp, go_sem, ↓reduceIte, Nat.reduceEqDiff, Nat.reduceLT, Nat.reduceLeDiff, Nat.reduceAdd, Nat.reduceMul, Nat.reduceSub, reduceCtorEq, Int.reduceToNat, Int.reduceLT, Int.reduceLE, Int.reduceEq, Int.reduceNe, Int.reduceBEq, Nat.reduceBEq, Int.reduceBNe, Nat.reduceBNe, Int.reduceAdd, Int.reduceSub, Int.reduceMul, Int.reduceNeg]
                  exact congrArg Value.bool (beq_eq_false_iff_ne.2 s1')
                · obtain ⟨k, q⟩ := t
                  have iv := hi2
                  simp only at iv ⊢
                  simp (dsimp := false) (maxSteps := 4000000) only [fp, go_sem, ↓reduceIte, Nat.reduceEqDiff, Nat.reduceLT, Nat.reduceLeDiff, Nat.reduceAdd, Nat.reduceMul, Nat.reduceSub, reduceCtorEq, Int.reduceToNat, Int.reduceLT, Int.reduceLE, Int.reduceEq, Int.reduceNe, Int.reduceBEq, Nat.reduceBEq, Int.reduceBNe, Nat.reduceBNe, Int.reduceAdd, Int.reduceSub, Int.reduceMul, Int.reduceNeg]
                  have hstep := iv.step
                  refine ACalls.mono (Round_c q (by have a := iv.bd.a; have b := iv.bd.b; have c := iv.k; omega) bp _ ?_) ?_; (show AH.find _ _ = _; simp only [find_add_self, find_add_ne, find_fresh, fresh_add, ne_eq, not_false_eq_true, true_and, and_true, and_self, fp]); rintro _ _ ⟨rfl, hH_⟩; (try simp only [put, del_add_self, del_add_ne, del_del, del_fresh, fresh_add, ne_eq, not_false_eq_true, true_and, and_true, and_self, fp] at hH_); subst hH_
                  by_cases ho : act (tkP q) = -1
                  · obtain ⟨iv2, hk10, hk4, q0, q1⟩ := hstep ho
                    have ek := i64_succ (i := k) (by omega)
                    have l10 : ¬ (10 : Int) < ((k + 1 : Nat) : Int) := by omega
                    rw [ho]
                    simp (dsimp := false) (maxSteps := 4000000) only [ek, l10, fp, go_sem, ↓reduceIte, Nat.reduceEqDiff, Nat.reduceLT, Nat.reduceLeDiff, Nat.reduceAdd, Nat.reduceMul, Nat.reduceSub, reduceCtorEq, Int.reduceToNat, Int.reduceLT, Int.reduceLE, Int.reduceEq, Int.reduceNe, Int.reduceBEq, Nat.reduceBEq, Int.reduceBNe, Nat.reduceBNe, Int.reduceAdd, Int.reduceSub, Int.reduceMul, Int.reduceNeg]
                    exact again2 (k + 1, roundP q) _ _ iv2 (FrLe.of_lks (by simp (dsimp := false) (maxSteps := 4000000) only [fp, go_sem, ↓reduceIte, Nat.reduceEqDiff, Nat.reduceLT, Nat.reduceLeDiff, Nat.reduceAdd, Nat.reduceMul, Nat.reduceSub, reduceCtorEq, Int.reduceToNat, Int.reduceLT, Int.reduceLE, Int.reduceEq, Int.reduceNe, Int.reduceBEq, Nat.reduceBEq, Int.reduceBNe, Nat.reduceBNe, Int.reduceAdd, Int.reduceSub, Int.reduceMul, Int.reduceNeg])) (AH.le_refl _) (by simp only; omega)
                  · have rl2 := iv.rl.round
                    have hop := open_again iv.rl ho
                    have hst := open_again rl2 (stays_open iv.rl ho)
                    have hb := iv.bd.round (by omega)
                    have hk := iv.k
                    have hge : ¬ act (tkP q) < 0 := by omega
                    have hge2 : (0 : Int) ≤ act (tkP (roundP q)) := by omega
                    simp (dsimp := false) (maxSteps := 4000000) only [hge, fp, go_sem, ↓reduceIte, Nat.reduceEqDiff, Nat.reduceLT, Nat.reduceLeDiff, Nat.reduceAdd, Nat.reduceMul, Nat.reduceSub, reduceCtorEq, Int.reduceToNat, Int.reduceLT, Int.reduceLE, Int.reduceEq, Int.reduceNe, Int.reduceBEq, Nat.reduceBEq, Int.reduceBNe, Nat.reduceBNe, Int.reduceAdd, Int.reduceSub, Int.reduceMul, Int.reduceNeg]
                    refine out2 _ _ _ (by simp) ?_
                    simp (dsimp := false) (maxSteps := 4000000) only [fp, go_sem, ↓reduceIte, Nat.reduceEqDiff, Nat.reduceLT, Nat.reduceLeDiff, Nat.reduceAdd, Nat.reduceMul, Nat.reduceSub, reduceCtorEq, Int.reduceToNat, Int.reduceLT, Int.reduceLE, Int.reduceEq, Int.reduceNe, Int.reduceBEq, Nat.reduceBEq, Int.reduceBNe, Nat.reduceBNe, Int.reduceAdd, Int.reduceSub, Int.reduceMul, Int.reduceNeg]
                    refine (awake19_c _).mono ?_; rintro _ _ ⟨rfl, rfl⟩
                    simp (dsimp := false) (maxSteps := 4000000) only [fp, go_sem, ↓reduceIte, Nat.reduceEqDiff, Nat.reduceLT, Nat.reduceLeDiff, Nat.reduceAdd, Nat.reduceMul, Nat.reduceSub, reduceCtorEq, Int.reduceToNat, Int.reduceLT, Int.reduceLE, Int.reduceEq, Int.reduceNe, Int.reduceBEq, Nat.reduceBEq, Int.reduceBNe, Nat.reduceBNe, Int.reduceAdd, Int.reduceSub, Int.reduceMul, Int.reduceNeg]
                    refine ACalls.mono (Round_c (roundP q) (by have a := hb.a; have b := hb.b; omega) bp _ ?_) ?_; (show AH.find _ _ = _; simp only [find_add_self, find_add_ne, find_fresh, fresh_add, ne_eq, not_false_eq_true, true_and, and_true, and_self, fp]); rintro _ _ ⟨rfl, hH_⟩; (try simp only [put, del_add_self, del_add_ne, del_del, del_fresh, fresh_add, ne_eq, not_false_eq_true, true_and, and_true, and_self, fp] at hH_); subst hH_
                    simp (dsimp := false) (maxSteps := 4000000) only [hge2, fp, go_sem, ↓reduceIte, Nat.reduceEqDiff, Nat.reduceLT, Nat.reduceLeDiff, Nat.reduceAdd, Nat.reduceMul, Nat.reduceSub, reduceCtorEq, Int.reduceToNat, Int.reduceLT, Int.reduceLE, Int.reduceEq, Int.reduceNe, Int.reduceBEq, Nat.reduceBEq, Int.reduceBNe, Nat.reduceBNe, Int.reduceAdd, Int.reduceSub, Int.reduceMul, Int.reduceNeg]
                    refine (Round_nil _).mono ?_; rintro _ _ ⟨rfl, rfl⟩
                    simp (dsimp := false) (maxSteps := 4000000) only [fp, go_sem, ↓reduceIte, Nat.reduceEqDiff, Nat.reduceLT, Nat.reduceLeDiff, Nat.reduceAdd, Nat.reduceMul, Nat.reduceSub, reduceCtorEq, Int.reduceToNat, Int.reduceLT, Int.reduceLE, Int.reduceEq, Int.reduceNe, Int.reduceBEq, Nat.reduceBEq, Int.reduceBNe, Nat.reduceBNe, Int.reduceAdd, Int.reduceSub, Int.reduceMul, Int.reduceNeg]
                    refine (Crash_nil 0 _).mono ?_; rintro _ _ ⟨rfl, rfl⟩
                    simp (dsimp := false) (maxSteps := 4000000) only [fp, go_sem, ↓reduceIte, Nat.reduceEqDiff, Nat.reduceLT, Nat.reduceLeDiff, Nat.reduceAdd, Nat.reduceMul, Nat.reduceSub, reduceCtorEq, Int.reduceToNat, Int.reduceLT, Int.reduceLE, Int.reduceEq, Int.reduceNe, Int.reduceBEq, Nat.reduceBEq, Int.reduceBNe, Nat.reduceBNe, Int.reduceAdd, Int.reduceSub, Int.reduceMul, Int.reduceNeg]
                    refine (Restart_nil 0 _).mono ?_; rintro _ _ ⟨rfl, rfl⟩
                    simp (dsimp := false) (maxSteps := 4000000) only [fp, go_sem, ↓reduceIte, Nat.reduceEqDiff, Nat.reduceLT, Nat.reduceLeDiff, Nat.reduceAdd, Nat.reduceMul, Nat.reduceSub, reduceCtorEq, Int.reduceToNat, Int.reduceLT, Int.reduceLE, Int.reduceEq, Int.reduceNe, Int.reduceBEq, Nat.reduceBEq, Int.reduceBNe, Nat.reduceBNe, Int.reduceAdd, Int.reduceSub, Int.reduceMul, Int.reduceNeg]
                    refine (Role_nil 0 _).mono ?_; rintro _ _ ⟨rfl, rfl⟩
                    simp (dsimp := false) (maxSteps := 4000000) only [fp, go_sem, ↓reduceIte, Nat.reduceEqDiff, Nat.reduceLT, Nat.reduceLeDiff, Nat.reduceAdd, Nat.reduceMul, Nat.reduceSub, reduceCtorEq, Int.reduceToNat, Int.reduceLT, Int.reduceLE, Int.reduceEq, Int.reduceNe, Int.reduceBEq, Nat.reduceBEq, Int.reduceBNe, Nat.reduceBNe, Int.reduceAdd, Int.reduceSub, Int.reduceMul, Int.reduceNeg]
                    exact ⟨H, hle2 _, rfl⟩
        · have d0' : ¬ role p 0 = 4 := d0
          have up : ¬ (p.r0 = 4 ∧ p.r1 = 4) := fun hh => d0 hh.1
          simp (dsimp := false) (maxSteps := 4000000) only [d0', fp, go_sem, ↓reduceIte, Nat.reduceEqDiff, Nat.reduceLT, Nat.reduceLeDiff, Nat.reduceAdd, Nat.reduceMul, Nat.reduceSub, reduceCtorEq, Int.reduceToNat, Int.reduceLT, Int.reduceLE, Int.reduceEq, Int.reduceNe, Int.reduceBEq, Nat.reduceBEq, Int.reduceBNe, Nat.reduceBNe, Int.reduceAdd, Int.reduceSub, Int.reduceMul, Int.reduceNeg]
          refine (Role_c p 0 (by decide) bp _ (find_add_self _ _ _)).mono ?_; rintro _ _ ⟨rfl, rfl⟩
          by_cases s0 : p.r0 = 2
          · have sh : p.r0 = 2 ∨ p.r1 = 2 := .inl s0
            rw [show role p 0 = 2 from s0]
            simp (dsimp := false) (maxSteps := 4000000) only [fp, go_sem, ↓reduceIte, Nat.reduceEqDiff, Nat.reduceLT, Nat.reduceLeDiff, Nat.reduceAdd, Nat.reduceMul, Nat.reduceSub, reduceCtorEq, Int.reduceToNat, Int.reduceLT, Int.reduceLE, Int.reduceEq, Int.reduceNe, Int.reduceBEq, Nat.reduceBEq, Int.reduceBNe, Nat.reduceBNe, Int.reduceAdd, Int.reduceSub, Int.reduceMul, Int.reduceNeg]
            refine AWp.loopo (ι := Nat × Pr) (fun t => Inv2 t.1 t.2 ∧ (t.2.r0 = 2 ∨ t.2.r1 = 2)) (fun t => [(6, .int .i64 t.1), (5, .bool true), (3, .pointer (some ⟨bp, 0, none⟩))])
              (fun t => H.add bp (.cells (pc t.2) 127 4)) (fun t => 10 - t.1) (0, p) ⟨⟨by simp only; omega, rl, up, fun _ => by have := bd.a; simp only; omega, fun _ => by have := bd.b; simp only; omega, ⟨by have := bd.a; simp only; omega, by have := bd.b; simp only; omega⟩⟩, sh⟩ (FrLe.of_lks ?_) (AH.le_refl _) fun t hi2 Q2 again2 out2 => ?_
            · simp (dsimp := false) (maxSteps := 4000000) only [fp, go_sem, ↓reduceIte, Nat.reduceEqDiff, Nat.reduceLT, Nat.reduceLeDiff, Nat.reduceAdd, Nat.reduceMul, Nat.reduceSub, reduceCtorEq, Int.reduceToNat, Int.reduceLT, Int.reduceLE, Int.reduceEq, Int.reduceNe, Int.reduceBEq, Nat.reduceBEq, Int.reduceBNe, Nat.reduceBNe, Int.reduceAdd, Int.reduceSub, Int.reduceMul, Int.reduceNeg]
            · obtain ⟨k, q⟩ := t
              obtain ⟨iv, sh2⟩ := hi2
              simp only at iv sh2 ⊢
              simp (dsimp := false) (maxSteps := 4000000) only [fp, go_sem, ↓reduceIte, Nat.reduceEqDiff, Nat.reduceLT, Nat.reduceLeDiff, Nat.reduceAdd, Nat.reduceMul, Nat.reduceSub, reduceCtorEq, Int.reduceToNat, Int.reduceLT, Int.reduceLE, Int.reduceEq, Int.reduceNe, Int.reduceBEq, Nat.reduceBEq, Int.reduceBNe, Nat.reduceBNe, Int.reduceAdd, Int.reduceSub, Int.reduceMul, Int.reduceNeg]
              have hstep := iv.step
              refine ACalls.mono (Round_c q (by have a := iv.bd.a; have b := iv.bd.b; have c := iv.k; omega) bp _ ?_) ?_; (show AH.find _ _ = _; simp only [find_add_self, find_add_ne, find_fresh, fresh_add, ne_eq, not_false_eq_true, true_and, and_true, and_self, fp]); rintro _ _ ⟨rfl, hH_⟩; (try simp only [put, del_add_self, del_add_ne, del_del, del_fresh, fresh_add, ne_eq, not_false_eq_true, true_and, and_true, and_self, fp] at hH_); subst hH_
              by_cases ho : act (tkP q) = -1
              · obtain ⟨iv2, hk10, hk4, q0, q1⟩ := hstep ho
                have ek := i64_succ (i := k) (by omega)
                have l10 : ¬ (10 : Int) < ((k + 1 : Nat) : Int) := by omega
                rw [ho]
                have l4 : ¬ (4 : Int) < ((k + 1 : Nat) : Int) := by have := hk4 sh2; omega
                simp (dsimp := false) (maxSteps := 4000000) only [ek, l10, l4, fp, go_sem, ↓reduceIte, Nat.reduceEqDiff, Nat.reduceLT, Nat.reduceLeDiff, Nat.reduceAdd, Nat.reduceMul, Nat.reduceSub, reduceCtorEq, Int.reduceToNat, Int.reduceLT, Int.reduceLE, Int.reduceEq, Int.reduceNe, Int.reduceBEq, Nat.reduceBEq, Int.reduceBNe, Nat.reduceBNe, Int.reduceAdd, Int.reduceSub, Int.reduceMul, Int.reduceNeg]
                exact again2 (k + 1, roundP q) _ _ ⟨iv2, by rw [q0, q1]; exact sh2⟩ (FrLe.of_lks (by simp (dsimp := false) (maxSteps := 4000000) only [fp, go_sem, ↓reduceIte, Nat.reduceEqDiff, Nat.reduceLT, Nat.reduceLeDiff, Nat.reduceAdd, Nat.reduceMul, Nat.reduceSub, reduceCtorEq, Int.reduceToNat, Int.reduceLT, Int.reduceLE, Int.reduceEq, Int.reduceNe, Int.reduceBEq, Nat.reduceBEq, Int.reduceBNe, Nat.reduceBNe, Int.reduceAdd, Int.reduceSub, Int.reduceMul, Int.reduceNeg])) (AH.le_refl _) (by simp only; omega)
              · have rl2 := iv.rl.round
                have hop := open_again iv.rl ho
                have hst := open_again rl2 (stays_open iv.rl ho)
                have hb := iv.bd.round (by omega)
                have hk := iv.k
                have hge : ¬ act (tkP q) < 0 := by omega
                have hge2 : (0 : Int) ≤ act (tkP (roundP q)) := by omega
                simp (dsimp := false) (maxSteps := 4000000) only [hge, fp, go_sem, ↓reduceIte, Nat.reduceEqDiff, Nat.reduceLT, Nat.reduceLeDiff, Nat.reduceAdd, Nat.reduceMul, Nat.reduceSub, reduceCtorEq, Int.reduceToNat, Int.reduceLT, Int.reduceLE, Int.reduceEq, Int.reduceNe, Int.reduceBEq, Nat.reduceBEq, Int.reduceBNe, Nat.reduceBNe, Int.reduceAdd, Int.reduceSub, Int.reduceMul, Int.reduceNeg]
                refine out2 _ _ _ (by simp) ?_
                simp (dsimp := false) (maxSteps := 4000000) only [fp, go_sem, ↓reduceIte, Nat.reduceEqDiff, Nat.reduceLT, Nat.reduceLeDiff, Nat.reduceAdd, Nat.reduceMul, Nat.reduceSub, reduceCtorEq, Int.reduceToNat, Int.reduceLT, Int.reduceLE, Int.reduceEq, Int.reduceNe, Int.reduceBEq, Nat.reduceBEq, Int.reduceBNe, Nat.reduceBNe, Int.reduceAdd, Int.reduceSub, Int.reduceMul, Int.reduceNeg]
                refine (awake19_c _).mono ?_; rintro _ _ ⟨rfl, rfl⟩
                simp (dsimp := false) (maxSteps := 4000000) only [fp, go_sem, ↓reduceIte, Nat.reduceEqDiff, Nat.reduceLT, Nat.reduceLeDiff, Nat.reduceAdd, Nat.reduceMul, Nat.reduceSub, reduceCtorEq, Int.reduceToNat, Int.reduceLT, Int.reduceLE, Int.reduceEq, Int.reduceNe, Int.reduceBEq, Nat.reduceBEq, Int.reduceBNe, Nat.reduceBNe, Int.reduceAdd, Int.reduceSub, Int.reduceMul, Int.reduceNeg]
                refine ACalls.mono (Round_c (roundP q) (by have a := hb.a; have b := hb.b; omega) bp _ ?_) ?_; (show AH.find _ _ = _; simp only [find_add_self, find_add_ne, find_fresh, fresh_add, ne_eq, not_false_eq_true, true_and, and_true, and_self, fp]); rintro _ _ ⟨rfl, hH_⟩; (try simp only [put, del_add_self, del_add_ne, del_del, del_fresh, fresh_add, ne_eq, not_false_eq_true, true_and, and_true, and_self, fp] at hH_); subst hH_
                simp (dsimp := false) (maxSteps := 4000000) only [hge2, fp, go_sem, ↓reduceIte, Nat.reduceEqDiff, Nat.reduceLT, Nat.reduceLeDiff, Nat.reduceAdd, Nat.reduceMul, Nat.reduceSub, reduceCtorEq, Int.reduceToNat, Int.reduceLT, Int.reduceLE, Int.reduceEq, Int.reduceNe, Int.reduceBEq, Nat.reduceBEq, Int.reduceBNe, Nat.reduceBNe, Int.reduceAdd, Int.reduceSub, Int.reduceMul, Int.reduceNeg]
                refine (Round_nil _).mono ?_; rintro _ _ ⟨rfl, rfl⟩
                simp (dsimp := false) (maxSteps := 4000000) only [fp, go_sem, ↓reduceIte, Nat.reduceEqDiff, Nat.reduceLT, Nat.reduceLeDiff, Nat.reduceAdd, Nat.reduceMul, Nat.reduceSub, reduceCtorEq, Int.reduceToNat, Int.reduceLT, Int.reduceLE, Int.reduceEq, Int.reduceNe, Int.reduceBEq, Nat.reduceBEq, Int.reduceBNe, Nat.reduceBNe, Int.reduceAdd, Int.reduceSub, Int.reduceMul, Int.reduceNeg]
                refine (Crash_nil 0 _).mono ?_; rintro _ _ ⟨rfl, rfl⟩
                simp (dsimp := false) (maxSteps := 4000000) only [fp, go_sem, ↓reduceIte, Nat.reduceEqDiff, Nat.reduceLT, Nat.reduceLeDiff, Nat.reduceAdd, Nat.reduceMul, Nat.reduceSub, reduceCtorEq, Int.reduceToNat, Int.reduceLT, Int.reduceLE, Int.reduceEq, Int.reduceNe, Int.reduceBEq, Nat.reduceBEq, Int.reduceBNe, Nat.reduceBNe, Int.reduceAdd, Int.reduceSub, Int.reduceMul, Int.reduceNeg]
                refine (Restart_nil 0 _).mono ?_; rintro _ _ ⟨rfl, rfl⟩
                simp (dsimp := false) (maxSteps := 4000000) only [fp, go_sem, ↓reduceIte, Nat.reduceEqDiff, Nat.reduceLT, Nat.reduceLeDiff, Nat.reduceAdd, Nat.reduceMul, Nat.reduceSub, reduceCtorEq, Int.reduceToNat, Int.reduceLT, Int.reduceLE, Int.reduceEq, Int.reduceNe, Int.reduceBEq, Nat.reduceBEq, Int.reduceBNe, Nat.reduceBNe, Int.reduceAdd, Int.reduceSub, Int.reduceMul, Int.reduceNeg]
                refine (Role_nil 0 _).mono ?_; rintro _ _ ⟨rfl, rfl⟩
                simp (dsimp := false) (maxSteps := 4000000) only [fp, go_sem, ↓reduceIte, Nat.reduceEqDiff, Nat.reduceLT, Nat.reduceLeDiff, Nat.reduceAdd, Nat.reduceMul, Nat.reduceSub, reduceCtorEq, Int.reduceToNat, Int.reduceLT, Int.reduceLE, Int.reduceEq, Int.reduceNe, Int.reduceBEq, Nat.reduceBEq, Int.reduceBNe, Nat.reduceBNe, Int.reduceAdd, Int.reduceSub, Int.reduceMul, Int.reduceNeg]
                exact ⟨H, hle2 _, rfl⟩
          · have s0' : ¬ role p 0 = 2 := s0
            simp (dsimp := false) (maxSteps := 4000000) only [s0', fp, go_sem, ↓reduceIte, Nat.reduceEqDiff, Nat.reduceLT, Nat.reduceLeDiff, Nat.reduceAdd, Nat.reduceMul, Nat.reduceSub, reduceCtorEq, Int.reduceToNat, Int.reduceLT, Int.reduceLE, Int.reduceEq, Int.reduceNe, Int.reduceBEq, Nat.reduceBEq, Int.reduceBNe, Nat.reduceBNe, Int.reduceAdd, Int.reduceSub, Int.reduceMul, Int.reduceNeg]
            refine (Role_c p 1 (by decide) bp _ (find_add_self _ _ _)).mono ?_; rintro _ _ ⟨rfl, rfl⟩
            by_cases s1 : p.r1 = 2
            · have sh : p.r0 = 2 ∨ p.r1 = 2 := .inr s1
              rw [show role p 1 = 2 from s1]
              simp (dsimp := false) (maxSteps := 4000000) only [fp, go_sem, ↓reduceIte, Nat.reduceEqDiff, Nat.reduceLT, Nat.reduceLeDiff, Nat.reduceAdd, Nat.reduceMul, Nat.reduceSub, reduceCtorEq, Int.reduceToNat, Int.reduceLT, Int.reduceLE, Int.reduceEq, Int.reduceNe, Int.reduceBEq, Nat.reduceBEq, Int.reduceBNe, Nat.reduceBNe, Int.reduceAdd, Int.reduceSub, Int.reduceMul, Int.reduceNeg]
              refine AWp.loopo (ι := Nat × Pr) (fun t => Inv2 t.1 t.2 ∧ (t.2.r0 = 2 ∨ t.2.r1 = 2)) (fun t => [(6, .int .i64 t.1), (5, .bool true), (3, .pointer (some ⟨bp, 0, none⟩))])
                (fun t => H.add bp (.cells (pc t.2) 127 4)) (fun t => 10 - t.1) (0, p) ⟨⟨by simp only; omega, rl, up, fun _ => by have := bd.a; simp only; omega, fun _ => by have := bd.b; simp only; omega, ⟨by have := bd.a; simp only; omega, by have := bd.b; simp only; omega⟩⟩, sh⟩ (FrLe.of_lks ?_) (AH.le_refl _) fun t hi2 Q2 again2 out2 => ?_
              · simp (dsimp := false) (maxSteps := 4000000) only [fp, go_sem, ↓reduceIte, Nat.reduceEqDiff, Nat.reduceLT, Nat.reduceLeDiff, Nat.reduceAdd, Nat.reduceMul, Nat.reduceSub, reduceCtorEq, Int.reduceToNat, Int.reduceLT, Int.reduceLE, Int.reduceEq, Int.reduceNe, Int.reduceBEq, Nat.reduceBEq, Int.reduceBNe, Nat.reduceBNe, Int.reduceAdd, Int.reduceSub, Int.reduceMul, Int.reduceNeg]
              · obtain ⟨k, q⟩ := t
                obtain ⟨iv, sh2⟩ := hi2
                simp only at iv sh2 ⊢
                simp (dsimp := false) (maxSteps := 4000000) only [fp, go_sem, ↓reduceIte, Nat.reduceEqDiff, Nat.reduceLT, Nat.reduceLeDiff, Nat.reduceAdd, Nat.reduceMul, Nat.reduceSub, reduceCtorEq, Int.reduceToNat, Int.reduceLT, Int.reduceLE, Int.reduceEq, Int.reduceNe, Int.reduceBEq, Nat.reduceBEq, Int.reduceBNe, Nat.reduceBNe, Int.reduceAdd, Int.reduceSub, Int.reduceMul, Int.reduceNeg]
                have hstep := iv.step
                refine ACalls.mono (Round_c q (by have a := iv.bd.a; have b := iv.bd.b; have c := iv.k; omega) bp _ ?_) ?_; (show AH.find _ _ = _; simp only [find_add_self, find_add_ne, find_fresh, fresh_add, ne_eq, not_false_eq_true, true_and, and_true, and_self, fp]); rintro _ _ ⟨rfl, hH_⟩; (try simp only [put, del_add_self, del_add_ne, del_del, del_fresh, fresh_add, ne_eq, not_false_eq_true, true_and, and_true, and_self, fp] at hH_); subst hH_
                by_cases ho : act (tkP q) = -1
                · obtain ⟨iv2, hk10, hk4, q0, q1⟩ := hstep ho
                  have ek := i64_succ (i := k) (by omega)
                  have l10 : ¬ (10 : Int) < ((k + 1 : Nat) : Int) := by omega
                  rw [ho]
                  have l4 : ¬ (4 : Int) < ((k + 1 : Nat) : Int) := by have := hk4 sh2; omega
                  simp (dsimp := false) (maxSteps := 4000000) only [ek, l10, l4, fp, go_sem, ↓reduceIte, Nat.reduceEqDiff, Nat.reduceLT, Nat.reduceLeDiff, Nat.reduceAdd, Nat.reduceMul, Nat.reduceSub, reduceCtorEq, Int.reduceToNat, Int.reduceLT, Int.reduceLE, Int.reduceEq, Int.reduceNe, Int.reduceBEq, Nat.reduceBEq, Int.reduceBNe, Nat.reduceBNe, Int.reduceAdd, Int.reduceSub, Int.reduceMul, Int.reduceNeg]
                  exact again2 (k + 1, roundP q) _ _ ⟨iv2, by rw [q0, q1]; exact sh2⟩ (FrLe.of_lks (by simp (dsimp := false) (maxSteps := 4000000) only [fp, go_sem, ↓reduceIte, Nat.reduceEqDiff, Nat.reduceLT, Nat.reduceLeDiff, Nat.reduceAdd, Nat.reduceMul, Nat.reduceSub, reduceCtorEq, Int.reduceToNat, Int.reduceLT, Int.reduceLE, Int.reduceEq, Int.reduceNe, Int.reduceBEq, Nat.reduceBEq, Int.reduceBNe, Nat.reduceBNe, Int.reduceAdd, Int.reduceSub, Int.reduceMul, Int.reduceNeg])) (AH.le_refl _) (by simp only; omega)
                · have rl2 := iv.rl.round
                  have hop := open_again iv.rl ho
                  have hst := open_again rl2 (stays_open iv.rl ho)
                  have hb := iv.bd.round (by omega)
                  have hk := iv.k
                  have hge : ¬ act (tkP q) < 0 := by omega
                  have hge2 : (0 : Int) ≤ act (tkP (roundP q)) := by omega
                  simp (dsimp := false) (maxSteps := 4000000) only [hge, fp, go_sem, ↓reduceIte, Nat.reduceEqDiff, Nat.reduceLT, Nat.reduceLeDiff, Nat.reduceAdd, Nat.reduceMul, Nat.reduceSub, reduceCtorEq, Int.reduceToNat, Int.reduceLT, Int.reduceLE, Int.reduceEq, Int.reduceNe, Int.reduceBEq, Nat.reduceBEq, Int.reduceBNe, Nat.reduceBNe, Int.reduceAdd, Int.reduceSub, Int.reduceMul, Int.reduceNeg]
                  refine out2 _ _ _ (by simp) ?_
                  simp (dsimp := false) (maxSteps := 4000000) only [fp, go_sem, ↓reduceIte, Nat.reduceEqDiff, Nat.reduceLT, Nat.reduceLeDiff, Nat.reduceAdd, Nat.reduceMul, Nat.reduceSub, reduceCtorEq, Int.reduceToNat, Int.reduceLT, Int.reduceLE, Int.reduceEq, Int.reduceNe, Int.reduceBEq, Nat.reduceBEq, Int.reduceBNe, Nat.reduceBNe, Int.reduceAdd, Int.reduceSub, Int.reduceMul, Int.reduceNeg]
                  refine (awake19_c _).mono ?_; rintro _ _ ⟨rfl, rfl⟩
                  simp (dsimp := false) (maxSteps := 4000000) only [fp, go_sem, ↓reduceIte, Nat.reduceEqDiff, Nat.reduceLT, Nat.reduceLeDiff, Nat.reduceAdd, Nat.reduceMul, Nat.reduceSub, reduceCtorEq, Int.reduceToNat, Int.reduceLT, Int.reduceLE, Int.reduceEq, Int.reduceNe, Int.reduceBEq, Nat.reduceBEq, Int.reduceBNe, Nat.reduceBNe, Int.reduceAdd, Int.reduceSub, Int.reduceMul, Int.reduceNeg]
                  refine ACalls.mono (Round_c (roundP q) (by have a := hb.a; have b := hb.b; omega) bp _ ?_) ?_; (show AH.find _ _ = _; simp only [find_add_self, find_add_ne, find_fresh, fresh_add, ne_eq, not_false_eq_true, true_and, and_true, and_self, fp]); rintro _ _ ⟨rfl, hH_⟩; (try simp only [put, del_add_self, del_add_ne, del_del, del_fresh, fresh_add, ne_eq, not_false_eq_true, true_and, and_true, and_self, fp] at hH_); subst hH_
                  simp (dsimp := false) (maxSteps := 4000000) only [hge2, fp, go_sem, ↓reduceIte, Nat.reduceEqDiff, Nat.reduceLT, Nat.reduceLeDiff, Nat.reduceAdd, Nat.reduceMul, Nat.reduceSub, reduceCtorEq, Int.reduceToNat, Int.reduceLT, Int.reduceLE, Int.reduceEq, Int.reduceNe, Int.reduceBEq, Nat.reduceBEq, Int.reduceBNe, Nat.reduceBNe, Int.reduceAdd, Int.reduceSub, Int.reduceMul, Int.reduceNeg]
                  refine (Round_nil _).mono ?_; rintro _ _ ⟨rfl, rfl⟩
                  simp (dsimp := false) (maxSteps := 4000000) only [fp, go_sem, ↓reduceIte, Nat.reduceEqDiff, Nat.reduceLT, Nat.reduceLeDiff, Nat.reduceAdd, Nat.reduceMul, Nat.reduceSub, reduceCtorEq, Int.reduceToNat, Int.reduceLT, Int.reduceLE, Int.reduceEq, Int.reduceNe, Int.reduceBEq, Nat.reduceBEq, Int.reduceBNe, Nat.reduceBNe, Int.reduceAdd, Int.reduceSub, Int.reduceMul, Int.reduceNeg]
                  refine (Crash_nil 0 _).mono ?_; rintro _ _ ⟨rfl, rfl⟩
                  simp (dsimp := false) (maxSteps := 4000000) only [fp, go_sem, ↓reduceIte, Nat.reduceEqDiff, Nat.reduceLT, Nat.reduceLeDiff, Nat.reduceAdd, Nat.reduceMul, Nat.reduceSub, reduceCtorEq, Int.reduceToNat, Int.reduceLT, Int.reduceLE, Int.reduceEq, Int.reduceNe, Int.reduceBEq, Nat.reduceBEq, Int.reduceBNe, Nat.reduceBNe, Int.reduceAdd, Int.reduceSub, Int.reduceMul, Int.reduceNeg]
                  refine (Restart_nil 0 _).mono ?_; rintro _ _ ⟨rfl, rfl⟩
                  simp (dsimp := false) (maxSteps := 4000000) only [fp, go_sem, ↓reduceIte, Nat.reduceEqDiff, Nat.reduceLT, Nat.reduceLeDiff, Nat.reduceAdd, Nat.reduceMul, Nat.reduceSub, reduceCtorEq, Int.reduceToNat, Int.reduceLT, Int.reduceLE, Int.reduceEq, Int.reduceNe, Int.reduceBEq, Nat.reduceBEq, Int.reduceBNe, Nat.reduceBNe, Int.reduceAdd, Int.reduceSub, Int.reduceMul, Int.reduceNeg]
                  refine (Role_nil 0 _).mono ?_; rintro _ _ ⟨rfl, rfl⟩
                  simp (dsimp := false) (maxSteps := 4000000) only [fp, go_sem, ↓reduceIte, Nat.reduceEqDiff, Nat.reduceLT, Nat.reduceLeDiff, Nat.reduceAdd, Nat.reduceMul, Nat.reduceSub, reduceCtorEq, Int.reduceToNat, Int.reduceLT, Int.reduceLE, Int.reduceEq, Int.reduceNe, Int.reduceBEq, Nat.reduceBEq, Int.reduceBNe, Nat.reduceBNe, Int.reduceAdd, Int.reduceSub, Int.reduceMul, Int.reduceNeg]
                  exact ⟨H, hle2 _, rfl⟩
            · have s1' : ¬ role p 1 = 2 := s1
              simp (dsimp := false) (maxSteps := 4000000) only [s1', fp, go_sem, ↓reduceIte, Nat.reduceEqDiff, Nat.reduceLT, Nat.reduceLeDiff, Nat.reduceAdd, Nat.reduceMul, Nat.reduceSub, reduceCtorEq, Int.reduceToNat, Int.reduceLT, Int.reduceLE, Int.reduceEq, Int.reduceNe, Int.reduceBEq, Nat.reduceBEq, Int.reduceBNe, Nat.reduceBNe, Int.reduceAdd, Int.reduceSub, Int.reduceMul, Int.reduceNeg]
              refine AWp.loopo (ι := Nat × Pr) (fun t => Inv2 t.1 t.2) (fun t => [(6, .int .i64 t.1), (5, .bool false), (3, .pointer (some ⟨bp, 0, none⟩))])
                (fun t => H.add bp (.cells (pc t.2) 127 4)) (fun t => 10 - t.1) (0, p) ⟨by simp only; omega, rl, up, fun _ => by have := bd.a; simp only; omega, fun _ => by have := bd.b; simp only; omega, ⟨by have := bd.a; simp only; omega, by have := bd.b; simp only; omega⟩⟩ (FrLe.of_lks ?_) (AH.le_refl _) fun t hi2 Q2 again2 out2 => ?_
              · simp (dsimp := false) (maxSteps := 4000000) only [fp, go_sem, ↓reduceIte, Nat.reduceEqDiff, Nat.reduceLT, Nat.reduceLeDiff, Nat.reduceAdd, Nat.reduceMul, Nat.reduceSub, reduceCtorEq, Int.reduceToNat, Int.reduceLT, Int.reduceLE, Int.reduceEq, Int.reduceNe, Int.reduceBEq, Nat.reduceBEq, Int.reduceBNe, Nat.reduceBNe, Int.reduceAdd, Int.reduceSub, Int.reduceMul, Int.reduceNeg]
                exact congrArg Value.bool (beq_eq_false_iff_ne.2 s1')
              · obtain ⟨k, q⟩ := t
                have iv := hi2
                simp only at iv ⊢
                simp (dsimp := false) (maxSteps := 4000000) only [fp, go_sem, ↓reduceIte, Nat.reduceEqDiff, Nat.reduceLT, Nat.reduceLeDiff, Nat.reduceAdd, Nat.reduceMul, Nat.reduceSub, reduceCtorEq, Int.reduceToNat, Int.reduceLT, Int.reduceLE, Int.reduceEq, Int.reduceNe, Int.reduceBEq, Nat.reduceBEq, Int.reduceBNe, Nat.reduceBNe, Int.reduceAdd, Int.reduceSub, Int.reduceMul, Int.reduceNeg]
                have hstep := iv.step
                refine ACalls.mono (Round_c q (by have a := iv.bd.a; have b := iv.bd.b; have c := iv.k; omega) bp _ ?_) ?_; (show AH.find _ _ = _; simp only [find_add_self, find_add_ne, find_fresh, fresh_add, ne_eq, not_false_eq_true, true_and, and_true, and_self, fp]); rintro _ _ ⟨rfl, hH_⟩; (try simp only [put, del_add_self, del_add_ne, del_del, del_fresh, fresh_add, ne_eq, not_false_eq_true, true_and, and_true, and_self, fp] at hH_); subst hH_
                by_cases ho : act (tkP q) = -1
                · obtain ⟨iv2, hk10, hk4, q0, q1⟩ := hstep ho
                  have ek := i64_succ (i := k) (by omega)
                  have l10 : ¬ (10 : Int) < ((k + 1 : Nat) : Int) := by omega
                  rw [ho]
                  simp (dsimp := false) (maxSteps := 4000000) only [ek, l10, fp, go_sem, ↓reduceIte, Nat.reduceEqDiff, Nat.reduceLT, Nat.reduceLeDiff, Nat.reduceAdd, Nat.reduceMul, Nat.reduceSub, reduceCtorEq, Int.reduceToNat, Int.reduceLT, Int.reduceLE, Int.reduceEq, Int.reduceNe, Int.reduceBEq, Nat.reduceBEq, Int.reduceBNe, Nat.reduceBNe, Int.reduceAdd, Int.reduceSub, Int.reduceMul, Int.reduceNeg]
                  exact again2 (k + 1, roundP q) _ _ iv2 (FrLe.of_lks (by simp (dsimp := false) (maxSteps := 4000000) only [fp, go_sem, ↓reduceIte, Nat.reduceEqDiff, Nat.reduceLT, Nat.reduceLeDiff, Nat.reduceAdd, Nat.reduceMul, Nat.reduceSub, reduceCtorEq, Int.reduceToNat, Int.reduceLT, Int.reduceLE, Int.reduceEq, Int.reduceNe, Int.reduceBEq, Nat.reduceBEq, Int.reduceBNe, Nat.reduceBNe, Int.reduceAdd, Int.reduceSub, Int.reduceMul, Int.reduceNeg])) (AH.le_refl _) (by simp only; omega)
                · have rl2 := iv.rl.round
                  have hop := open_again iv.rl ho
                  have hst := open_again rl2 (stays_open iv.rl ho)
                  have hb := iv.bd.round (by omega)
                  have hk := iv.k
                  have hge : ¬ act (tkP q) < 0 := by omega
                  have hge2 : (0 : Int) ≤ act (tkP (roundP q)) := by omega
                  simp (dsimp := false) (maxSteps := 4000000) only [hge, fp, go_sem, ↓reduceIte, Nat.reduceEqDiff, Nat.reduceLT, Nat.reduceLeDiff, Nat.reduceAdd, Nat.reduceMul, Nat.reduceSub, reduceCtorEq, Int.reduceToNat, Int.reduceLT, Int.reduceLE, Int.reduceEq, Int.reduceNe, Int.reduceBEq, Nat.reduceBEq, Int.reduceBNe, Nat.reduceBNe, Int.reduceAdd, Int.reduceSub, Int.reduceMul, Int.reduceNeg]
                  refine out2 _ _ _ (by simp) ?_
                  simp (dsimp := false) (maxSteps := 4000000) only [fp, go_sem, ↓reduceIte, Nat.reduceEqDiff, Nat.reduceLT, Nat.reduceLeDiff, Nat.reduceAdd, Nat.reduceMul, Nat.reduceSub, reduceCtorEq, Int.reduceToNat, Int.reduceLT, Int.reduceLE, Int.reduceEq, Int.reduceNe, Int.reduceBEq, Nat.reduceBEq, Int.reduceBNe, Nat.reduceBNe, Int.reduceAdd, Int.reduceSub, Int.reduceMul, Int.reduceNeg]
                  refine (awake19_c _).mono ?_; rintro _ _ ⟨rfl, rfl⟩
                  simp (dsimp := false) (maxSteps := 4000000) only [fp, go_sem, ↓reduceIte, Nat.reduceEqDiff, Nat.reduceLT, Nat.reduceLeDiff, Nat.reduceAdd, Nat.reduceMul, Nat.reduceSub, reduceCtorEq, Int.reduceToNat, Int.reduceLT, Int.reduceLE, Int.reduceEq, Int.reduceNe, Int.reduceBEq, Nat.reduceBEq, Int.reduceBNe, Nat.reduceBNe, Int.reduceAdd, Int.reduceSub, Int.reduceMul, Int.reduceNeg]
                  refine ACalls.mono (Round_c (roundP q) (by have a := hb.a; have b := hb.b; omega) bp _ ?_) ?_; (show AH.find _ _ = _; simp only [find_add_self, find_add_ne, find_fresh, fresh_add, ne_eq, not_false_eq_true, true_and, and_true, and_self, fp]); rintro _ _ ⟨rfl, hH_⟩; (try simp only [put, del_add_self, del_add_ne, del_del, del_fresh, fresh_add, ne_eq, not_false_eq_true, true_and, and_true, and_self, fp] at hH_); subst hH_
                  simp (dsimp := false) (maxSteps := 4000000) only [hge2, fp, go_sem, ↓reduceIte, Nat.reduceEqDiff, Nat.reduceLT, Nat.reduceLeDiff, Nat.reduceAdd, Nat.reduceMul, Nat.reduceSub, reduceCtorEq, Int.reduceToNat, Int.reduceLT, Int.reduceLE, Int.reduceEq, Int.reduceNe, Int.reduceBEq, Nat.reduceBEq, Int.reduceBNe, Nat.reduceBNe, Int.reduceAdd, Int.reduceSub, Int.reduceMul, Int.reduceNeg]
                  refine (Round_nil _).mono ?_; rintro _ _ ⟨rfl, rfl⟩
                  simp (dsimp := false) (maxSteps := 4000000) only [fp, go_sem, ↓reduceIte, Nat.reduceEqDiff, Nat.reduceLT, Nat.reduceLeDiff, Nat.reduceAdd, Nat.reduceMul, Nat.reduceSub, reduceCtorEq, Int.reduceToNat, Int.reduceLT, Int.reduceLE, Int.reduceEq, Int.reduceNe, Int.reduceBEq, Nat.reduceBEq, Int.reduceBNe, Nat.reduceBNe, Int.reduceAdd, Int.reduceSub, Int.reduceMul, Int.reduceNeg]
                  refine (Crash_nil 0 _).mono ?_; rintro _ _ ⟨rfl, rfl⟩
                  simp (dsimp := false) (maxSteps := 4000000) only [fp, go_sem, ↓reduceIte, Nat.reduceEqDiff, Nat.reduceLT, Nat.reduceLeDiff, Nat.reduceAdd, Nat.reduceMul, Nat.reduceSub, reduceCtorEq, Int.reduceToNat, Int.reduceLT, Int.reduceLE, Int.reduceEq, Int.reduceNe, Int.reduceBEq, Nat.reduceBEq, Int.reduceBNe, Nat.reduceBNe, Int.reduceAdd, Int.reduceSub, Int.reduceMul, Int.reduceNeg]
                  refine (Restart_nil 0 _).mono ?_; rintro _ _ ⟨rfl, rfl⟩
                  simp (dsimp := false) (maxSteps := 4000000) only [fp, go_sem, ↓reduceIte, Nat.reduceEqDiff, Nat.reduceLT, Nat.reduceLeDiff, Nat.reduceAdd, Nat.reduceMul, Nat.reduceSub, reduceCtorEq, Int.reduceToNat, Int.reduceLT, Int.reduceLE, Int.reduceEq, Int.reduceNe, Int.reduceBEq, Nat.reduceBEq, Int.reduceBNe, Nat.reduceBNe, Int.reduceAdd, Int.reduceSub, Int.reduceMul, Int.reduceNeg]
                  refine (Role_nil 0 _).mono ?_; rintro _ _ ⟨rfl, rfl⟩
                  simp (dsimp := false) (maxSteps := 4000000) only [fp, go_sem, ↓reduceIte, Nat.reduceEqDiff, Nat.reduceLT, Nat.reduceLeDiff, Nat.reduceAdd, Nat.reduceMul, Nat.reduceSub, reduceCtorEq, Int.reduceToNat, Int.reduceLT, Int.reduceLE, Int.reduceEq, Int.reduceNe, Int.reduceBEq, Nat.reduceBEq, Int.reduceBNe, Nat.reduceBNe, Int.reduceAdd, Int.reduceSub, Int.reduceMul, Int.reduceNeg]
                  exact ⟨H, hle2 _, rfl⟩
end Go.Proofs.Ytadbmmdmibiikaa.Watch
