/- WatchDoes, as a call. -/
import Derived.Test.YtadbmmdmibiikaaWatch6
namespace Go.Proofs.Ytadbmmdmibiikaa.Watch
set_option linter.unusedSimpArgs false
set_option linter.unusedVariables false
open Go Go.AX Go.Proofs Ty
set_option maxHeartbeats 4000000
set_option maxRecDepth 10000

structure Deed where
  kind : Int
  n : Int
def encD (d : Deed) : List Value := [.int .u8 d.kind, .int .i64 d.n]
theorem map_get {α : Type} {f : α → List Value} {L : List α} {i : Nat} {s : α} (h : L[i]? = some s) : (L.map f)[i]? = some (f s) := by rw [List.getElem?_map, h]; rfl
structure StW where
  i : Nat
  p : Pr
  r : Rr
structure InvW (L : List Deed) (t : StW) : Prop where
  i1 : t.i ≤ L.length
  i2 : t.i ≤ 120
  rel : Rel t.p t.r
  ok : t.r.Ok
  now : t.r.now ≤ t.i
  bd : Bd t.p t.i
theorem three (n : Int) : n = 0 ∨ n = 1 ∨ (n < 0 ∨ 2 ≤ n) := by omega

theorem WatchDoes_c (L : List Deed) (base : Option Addr) (cap : Nat) (H : AH) (hs : SlcIn H 2 base cap (L.map encD)) (hw : ∀ s ∈ L, (Lit.int .u8 s.kind).wf = true) :
    ACalls Try.prog 6 #[.slice base L.length cap] H (fun v H' => v = .bool true ∧ H = H') := by
  have hle := hs.le
  have hbig := hs.big
  simp only [List.length_map] at hle
  refine ACalls.enter2 Try.func6 rfl Try.ntmps6 Try.results6 (by simp) ?_; simp (dsimp := false) (maxSteps := 4000000) only [go_sem, ↓reduceIte, Nat.reduceEqDiff, Nat.reduceLT, Nat.reduceLeDiff, Nat.reduceAdd, Nat.reduceMul, Nat.reduceSub, reduceCtorEq, Int.reduceToNat, Int.reduceLT, Int.reduceLE, Int.reduceEq, Int.reduceNe, Int.reduceBEq, Nat.reduceBEq, Int.reduceBNe, Nat.reduceBNe, Int.reduceAdd, Int.reduceSub, Int.reduceMul, Int.reduceNeg]
  refine (New_c _).mono ?_; rintro _ _ ⟨bp, h_bp, rfl, rfl⟩; have hn_bp := h_bp; (try simp only [fresh_add, fresh_set, ne_eq] at hn_bp); have hr_bp := hn_bp; (try simp only [@eq_comm Nat bp] at hr_bp)
  simp (dsimp := false) (maxSteps := 4000000) only [hn_bp, hr_bp, go_sem, ↓reduceIte, Nat.reduceEqDiff, Nat.reduceLT, Nat.reduceLeDiff, Nat.reduceAdd, Nat.reduceMul, Nat.reduceSub, reduceCtorEq, Int.reduceToNat, Int.reduceLT, Int.reduceLE, Int.reduceEq, Int.reduceNe, Int.reduceBEq, Nat.reduceBEq, Int.reduceBNe, Nat.reduceBNe, Int.reduceAdd, Int.reduceSub, Int.reduceMul, Int.reduceNeg]
  refine (RNew_c _).mono ?_; rintro _ _ ⟨br, h_br, rfl, rfl⟩; have hn_br := h_br; (try simp only [fresh_add, fresh_set, ne_eq] at hn_br); have hr_br := hn_br; (try simp only [@eq_comm Nat br] at hr_br)
  simp (dsimp := false) (maxSteps := 4000000) only [hn_bp, hr_bp, hn_br, hr_br, go_sem, ↓reduceIte, Nat.reduceEqDiff, Nat.reduceLT, Nat.reduceLeDiff, Nat.reduceAdd, Nat.reduceMul, Nat.reduceSub, reduceCtorEq, Int.reduceToNat, Int.reduceLT, Int.reduceLE, Int.reduceEq, Int.reduceNe, Int.reduceBEq, Nat.reduceBEq, Int.reduceBNe, Nat.reduceBNe, Int.reduceAdd, Int.reduceSub, Int.reduceMul, Int.reduceNeg]
  have hpr : ¬ bp = br := hr_br.1
  have hrp : ¬ br = bp := hn_br.1
  have hfp : Fresh H bp := h_bp
  have hfr : Fresh H br := hn_br.2
  refine AWp.loopo (ι := StW) (InvW L) (fun t => [(5, .int .i64 t.i), (3, .pointer (some ⟨bp, 0, none⟩)), (4, .pointer (some ⟨br, 0, none⟩)), (0, .slice base L.length cap)])
    (fun t => (H.add bp (.cells (pc t.p) 127 4)).add br (.cells (rc t.r) 79 6)) (fun t => L.length - t.i) ⟨0, ⟨1, 0, 2, 0⟩, ⟨1, 2, 0, 0, 0, 0⟩⟩ ⟨by simp, by simp, ⟨rfl, rfl, fun h => by simp at h, fun _ => rfl⟩, ⟨by simp, by simp, by simp, by simp⟩, by simp, ⟨by simp, by simp⟩⟩ (FrLe.of_lks ?_) (AH.le_refl _) fun t hi Q again out => ?_
  · simp (dsimp := false) (maxSteps := 4000000) only [hn_bp, hr_bp, hn_br, hr_br, go_sem, ↓reduceIte, Nat.reduceEqDiff, Nat.reduceLT, Nat.reduceLeDiff, Nat.reduceAdd, Nat.reduceMul, Nat.reduceSub, reduceCtorEq, Int.reduceToNat, Int.reduceLT, Int.reduceLE, Int.reduceEq, Int.reduceNe, Int.reduceBEq, Nat.reduceBEq, Int.reduceBNe, Nat.reduceBNe, Int.reduceAdd, Int.reduceSub, Int.reduceMul, Int.reduceNeg]
  · clear hn_br hr_br h_br hn_bp hr_bp h_bp
    
    obtain ⟨i, p, r⟩ := t
    obtain ⟨i1, i2, rel, ok, now, bd⟩ := hi
    simp only at i1 i2 rel ok now bd
    have e1 := i64_succ (i := i) (by omega)
    have hle2 : H.le ((H.add bp (.cells (pc p) 127 4)).add br (.cells (rc r) 79 6)) := AH.le_add (AH.le_add (AH.le_refl _) hfp.2) (by rw [find_add, if_neg hrp]; exact hfr.2)
    have fG : ∀ k, Fresh (H.add bp k) br := fun k => by rw [fresh_add]; exact ⟨hrp, hfr⟩
    
    by_cases hrun : (i : Int) < L.length ∧ (i : Int) < 120
    · obtain ⟨h, h120⟩ := hrun
      obtain ⟨d, hx⟩ := get_some (l := L) (i := i) (by omega)
      obtain ⟨b, o, rfl, hrow, hrd⟩ := hs.get (map_get (f := encD) hx)
      have hk := byte_wf (hw d (List.mem_of_getElem? hx))
      have hkind := hrd 0 _ rfl
      have hn := hrd 1 _ rfl
      rw [Nat.add_zero] at hkind
      generalize d.n = n at hn
      generalize d.kind = kd at hkind hk
      have hb0 := row_mono (k := .cells (pc p) 127 4) hfp hrow
      have nb1 : ¬ bp = b := hfp.ne_row hrow
      have nb2 : ¬ br = b := hfr.ne_row hrow
      have ek : kd.tmod 5 = kd % 5 := Int.tmod_eq_emod_of_nonneg hk.1
      have h3 : kd % 5 = 0 ∨ kd % 5 = 1 ∨ (¬ kd % 5 = 0 ∧ ¬ kd % 5 = 1) := by omega
      refine h3.elim (fun k0 => ?kA) (fun h3 => h3.elim (fun k1 => ?kB) (fun k01 => ?kC))
      case' kA =>
        simp (dsimp := false) (maxSteps := 4000000) only [h, h120, hkind, hn, nb1, nb2, ek, k0, hfp, hfr, hpr, hrp, go_sem, ↓reduceIte, Nat.reduceEqDiff, Nat.reduceLT, Nat.reduceLeDiff, Nat.reduceAdd, Nat.reduceMul, Nat.reduceSub, reduceCtorEq, Int.reduceToNat, Int.reduceLT, Int.reduceLE, Int.reduceEq, Int.reduceNe, Int.reduceBEq, Nat.reduceBEq, Int.reduceBNe, Nat.reduceBNe, Int.reduceAdd, Int.reduceSub, Int.reduceMul, Int.reduceNeg]
        refine AWp.gen [.pu, .pu, .pu, .pu, .pu, .rd, .ch, .pu, .pu, .pu, .pu, .pu, .rd, .ch, .pu] [0, 0, 0, 6, 14, 30, 63, 0, 0, 0, 768, 1792, 3840, 8191, 16383] 7 (H) mixed (by kernel_rfl) (hle2) ?_
        simp (dsimp := false) (maxSteps := 4000000) only [h, hn, hfp, hfr, hpr, hrp, go_sem, ↓reduceIte, Nat.reduceEqDiff, Nat.reduceLT, Nat.reduceLeDiff, Nat.reduceAdd, Nat.reduceMul, Nat.reduceSub, reduceCtorEq, Int.reduceToNat, Int.reduceLT, Int.reduceLE, Int.reduceEq, Int.reduceNe, Int.reduceBEq, Nat.reduceBEq, Int.reduceBNe, Nat.reduceBNe, Int.reduceAdd, Int.reduceSub, Int.reduceMul, Int.reduceNeg]
        refine (three n).elim (fun e => ?a0) (fun hh => hh.elim (fun e => ?a1) (fun hn2 => ?a2))
        case' a0 =>
          subst e
          obtain ⟨ro, cr, co, cn, rr, ro2, rn⟩ := rel_crash rel ok 0 (by decide)
          have bd2 := (bd.crash (by omega) 0).1
          refine (Crash_c p 0 (by decide) bp _ ((find_add_ne _ hrp _).trans (find_add_self _ _ _))).mono ?_; rintro _ _ ⟨rfl, hH_⟩; simp only [put, hfp, hfr, hpr, hrp, del_add_self, del_add_ne, del_del, del_fresh, ne_eq, not_false_eq_true, true_and, and_true, and_self] at hH_; subst hH_
          simp (dsimp := false) (maxSteps := 4000000) only [h, hn, hfp, hfr, hpr, hrp, go_sem, ↓reduceIte, Nat.reduceEqDiff, Nat.reduceLT, Nat.reduceLeDiff, Nat.reduceAdd, Nat.reduceMul, Nat.reduceSub, reduceCtorEq, Int.reduceToNat, Int.reduceLT, Int.reduceLE, Int.reduceEq, Int.reduceNe, Int.reduceBEq, Nat.reduceBEq, Int.reduceBNe, Nat.reduceBNe, Int.reduceAdd, Int.reduceSub, Int.reduceMul, Int.reduceNeg]
          refine ⟨AH.le_add (AH.le_add (AH.le_refl _) hfr.2) (by rw [find_add, if_neg hpr]; exact hfp.2), ?_⟩
          refine (RCrash_c r 0 (by decide) br _ ((find_add_ne _ hpr _).trans (find_add_self _ _ _))).mono ?_; rintro _ _ ⟨rfl, hH_⟩; simp only [putR, hfp, hfr, hpr, hrp, del_add_self, del_add_ne, del_del, del_fresh, ne_eq, not_false_eq_true, true_and, and_true, and_self] at hH_; subst hH_
          rw [ro]
          simp (dsimp := false) (maxSteps := 4000000) only [hfp, hfr, hpr, hrp, go_sem, ↓reduceIte, Nat.reduceEqDiff, Nat.reduceLT, Nat.reduceLeDiff, Nat.reduceAdd, Nat.reduceMul, Nat.reduceSub, reduceCtorEq, Int.reduceToNat, Int.reduceLT, Int.reduceLE, Int.reduceEq, Int.reduceNe, Int.reduceBEq, Nat.reduceBEq, Int.reduceBNe, Nat.reduceBNe, Int.reduceAdd, Int.reduceSub, Int.reduceMul, Int.reduceNeg]
          have rel2 := cr
          have ok2 := co
          have now3 : (crashR r 0).now ≤ i + 1 := by omega
          clear ro cr co cn rr ro2 rn rel ok now bd
          generalize crashP p 0 = p2 at rel2 bd2 ⊢
          generalize crashR r 0 = r2 at rel2 ok2 now3 ⊢
        case' a1 =>
          subst e
          obtain ⟨ro, cr, co, cn, rr, ro2, rn⟩ := rel_crash rel ok 1 (by decide)
          have bd2 := (bd.crash (by omega) 1).1
          refine (Crash_c p 1 (by decide) bp _ ((find_add_ne _ hrp _).trans (find_add_self _ _ _))).mono ?_; rintro _ _ ⟨rfl, hH_⟩; simp only [put, hfp, hfr, hpr, hrp, del_add_self, del_add_ne, del_del, del_fresh, ne_eq, not_false_eq_true, true_and, and_true, and_self] at hH_; subst hH_
          simp (dsimp := false) (maxSteps := 4000000) only [h, hn, hfp, hfr, hpr, hrp, go_sem, ↓reduceIte, Nat.reduceEqDiff, Nat.reduceLT, Nat.reduceLeDiff, Nat.reduceAdd, Nat.reduceMul, Nat.reduceSub, reduceCtorEq, Int.reduceToNat, Int.reduceLT, Int.reduceLE, Int.reduceEq, Int.reduceNe, Int.reduceBEq, Nat.reduceBEq, Int.reduceBNe, Nat.reduceBNe, Int.reduceAdd, Int.reduceSub, Int.reduceMul, Int.reduceNeg]
          refine ⟨AH.le_add (AH.le_add (AH.le_refl _) hfr.2) (by rw [find_add, if_neg hpr]; exact hfp.2), ?_⟩
          refine (RCrash_c r 1 (by decide) br _ ((find_add_ne _ hpr _).trans (find_add_self _ _ _))).mono ?_; rintro _ _ ⟨rfl, hH_⟩; simp only [putR, hfp, hfr, hpr, hrp, del_add_self, del_add_ne, del_del, del_fresh, ne_eq, not_false_eq_true, true_and, and_true, and_self] at hH_; subst hH_
          rw [ro]
          simp (dsimp := false) (maxSteps := 4000000) only [hfp, hfr, hpr, hrp, go_sem, ↓reduceIte, Nat.reduceEqDiff, Nat.reduceLT, Nat.reduceLeDiff, Nat.reduceAdd, Nat.reduceMul, Nat.reduceSub, reduceCtorEq, Int.reduceToNat, Int.reduceLT, Int.reduceLE, Int.reduceEq, Int.reduceNe, Int.reduceBEq, Nat.reduceBEq, Int.reduceBNe, Nat.reduceBNe, Int.reduceAdd, Int.reduceSub, Int.reduceMul, Int.reduceNeg]
          have rel2 := cr
          have ok2 := co
          have now3 : (crashR r 1).now ≤ i + 1 := by omega
          clear ro cr co cn rr ro2 rn rel ok now bd
          generalize crashP p 1 = p2 at rel2 bd2 ⊢
          generalize crashR r 1 = r2 at rel2 ok2 now3 ⊢
        case' a2 =>
          refine (Crash_out n hn2 bp _).mono ?_; rintro _ _ ⟨rfl, rfl⟩
          simp (dsimp := false) (maxSteps := 4000000) only [hle2, h, hn, hfp, hfr, hpr, hrp, go_sem, ↓reduceIte, Nat.reduceEqDiff, Nat.reduceLT, Nat.reduceLeDiff, Nat.reduceAdd, Nat.reduceMul, Nat.reduceSub, reduceCtorEq, Int.reduceToNat, Int.reduceLT, Int.reduceLE, Int.reduceEq, Int.reduceNe, Int.reduceBEq, Nat.reduceBEq, Int.reduceBNe, Nat.reduceBNe, Int.reduceAdd, Int.reduceSub, Int.reduceMul, Int.reduceNeg]
          refine (RCrash_out n hn2 br _).mono ?_; rintro _ _ ⟨rfl, rfl⟩
          simp (dsimp := false) (maxSteps := 4000000) only [hle2, hfp, hfr, hpr, hrp, go_sem, ↓reduceIte, Nat.reduceEqDiff, Nat.reduceLT, Nat.reduceLeDiff, Nat.reduceAdd, Nat.reduceMul, Nat.reduceSub, reduceCtorEq, Int.reduceToNat, Int.reduceLT, Int.reduceLE, Int.reduceEq, Int.reduceNe, Int.reduceBEq, Nat.reduceBEq, Int.reduceBNe, Nat.reduceBNe, Int.reduceAdd, Int.reduceSub, Int.reduceMul, Int.reduceNeg]
          have rel2 := rel
          have ok2 := ok
          have now3 : r.now ≤ i + 1 := by omega
          have bd2 : Bd p (i + 1) := ⟨by obtain ⟨a, b⟩ := bd; omega, by obtain ⟨a, b⟩ := bd; omega⟩
          clear rel ok now bd
          generalize p = p2 at rel2 bd2 ⊢
          generalize r = r2 at rel2 ok2 now3 ⊢
      case' kB =>
        have k0 : ¬ kd % 5 = 0 := by omega
        simp (dsimp := false) (maxSteps := 4000000) only [h, h120, hkind, hn, nb1, nb2, ek, k0, k1, hfp, hfr, hpr, hrp, go_sem, ↓reduceIte, Nat.reduceEqDiff, Nat.reduceLT, Nat.reduceLeDiff, Nat.reduceAdd, Nat.reduceMul, Nat.reduceSub, reduceCtorEq, Int.reduceToNat, Int.reduceLT, Int.reduceLE, Int.reduceEq, Int.reduceNe, Int.reduceBEq, Nat.reduceBEq, Int.reduceBNe, Nat.reduceBNe, Int.reduceAdd, Int.reduceSub, Int.reduceMul, Int.reduceNeg]
        refine AWp.gen [.pu, .pu, .pu, .pu, .pu, .rd, .ch, .pu, .pu, .pu, .pu, .pu, .rd, .ch, .pu] [0, 0, 0, 6, 14, 30, 63, 0, 0, 0, 768, 1792, 3840, 8191, 16383] 7 (H) mixed (by kernel_rfl) (hle2) ?_
        simp (dsimp := false) (maxSteps := 4000000) only [h, hn, hfp, hfr, hpr, hrp, go_sem, ↓reduceIte, Nat.reduceEqDiff, Nat.reduceLT, Nat.reduceLeDiff, Nat.reduceAdd, Nat.reduceMul, Nat.reduceSub, reduceCtorEq, Int.reduceToNat, Int.reduceLT, Int.reduceLE, Int.reduceEq, Int.reduceNe, Int.reduceBEq, Nat.reduceBEq, Int.reduceBNe, Nat.reduceBNe, Int.reduceAdd, Int.reduceSub, Int.reduceMul, Int.reduceNeg]
        refine (three n).elim (fun e => ?b0) (fun hh => hh.elim (fun e => ?b1) (fun hn2 => ?b2))
        case' b0 =>
          subst e
          obtain ⟨ro, cr, co, cn, rr, ro2, rn⟩ := rel_crash rel ok 0 (by decide)
          have bd2 := (bd.crash (by omega) 0).2
          refine (Restart_c p 0 (by decide) bp _ ((find_add_ne _ hrp _).trans (find_add_self _ _ _))).mono ?_; rintro _ _ ⟨rfl, hH_⟩; simp only [put, hfp, hfr, hpr, hrp, del_add_self, del_add_ne, del_del, del_fresh, ne_eq, not_false_eq_true, true_and, and_true, and_self] at hH_; subst hH_
          simp (dsimp := false) (maxSteps := 4000000) only [h, hn, hfp, hfr, hpr, hrp, go_sem, ↓reduceIte, Nat.reduceEqDiff, Nat.reduceLT, Nat.reduceLeDiff, Nat.reduceAdd, Nat.reduceMul, Nat.reduceSub, reduceCtorEq, Int.reduceToNat, Int.reduceLT, Int.reduceLE, Int.reduceEq, Int.reduceNe, Int.reduceBEq, Nat.reduceBEq, Int.reduceBNe, Nat.reduceBNe, Int.reduceAdd, Int.reduceSub, Int.reduceMul, Int.reduceNeg]
          refine ⟨AH.le_add (AH.le_add (AH.le_refl _) hfr.2) (by rw [find_add, if_neg hpr]; exact hfp.2), ?_⟩
          refine (RRestart_c r 0 (by decide) br _ ((find_add_ne _ hpr _).trans (find_add_self _ _ _))).mono ?_; rintro _ _ ⟨rfl, hH_⟩; simp only [putR, hfp, hfr, hpr, hrp, del_add_self, del_add_ne, del_del, del_fresh, ne_eq, not_false_eq_true, true_and, and_true, and_self] at hH_; subst hH_
          rw [ro]
          simp (dsimp := false) (maxSteps := 4000000) only [hfp, hfr, hpr, hrp, go_sem, ↓reduceIte, Nat.reduceEqDiff, Nat.reduceLT, Nat.reduceLeDiff, Nat.reduceAdd, Nat.reduceMul, Nat.reduceSub, reduceCtorEq, Int.reduceToNat, Int.reduceLT, Int.reduceLE, Int.reduceEq, Int.reduceNe, Int.reduceBEq, Nat.reduceBEq, Int.reduceBNe, Nat.reduceBNe, Int.reduceAdd, Int.reduceSub, Int.reduceMul, Int.reduceNeg]
          have rel2 := rr
          have ok2 := ro2
          have now3 : (restartR r 0).now ≤ i + 1 := by omega
          clear ro cr co cn rr ro2 rn rel ok now bd
          generalize restartP p 0 = p2 at rel2 bd2 ⊢
          generalize restartR r 0 = r2 at rel2 ok2 now3 ⊢
        case' b1 =>
          subst e
          obtain ⟨ro, cr, co, cn, rr, ro2, rn⟩ := rel_crash rel ok 1 (by decide)
          have bd2 := (bd.crash (by omega) 1).2
          refine (Restart_c p 1 (by decide) bp _ ((find_add_ne _ hrp _).trans (find_add_self _ _ _))).mono ?_; rintro _ _ ⟨rfl, hH_⟩; simp only [put, hfp, hfr, hpr, hrp, del_add_self, del_add_ne, del_del, del_fresh, ne_eq, not_false_eq_true, true_and, and_true, and_self] at hH_; subst hH_
          simp (dsimp := false) (maxSteps := 4000000) only [h, hn, hfp, hfr, hpr, hrp, go_sem, ↓reduceIte, Nat.reduceEqDiff, Nat.reduceLT, Nat.reduceLeDiff, Nat.reduceAdd, Nat.reduceMul, Nat.reduceSub, reduceCtorEq, Int.reduceToNat, Int.reduceLT, Int.reduceLE, Int.reduceEq, Int.reduceNe, Int.reduceBEq, Nat.reduceBEq, Int.reduceBNe, Nat.reduceBNe, Int.reduceAdd, Int.reduceSub, Int.reduceMul, Int.reduceNeg]
          refine ⟨AH.le_add (AH.le_add (AH.le_refl _) hfr.2) (by rw [find_add, if_neg hpr]; exact hfp.2), ?_⟩
          refine (RRestart_c r 1 (by decide) br _ ((find_add_ne _ hpr _).trans (find_add_self _ _ _))).mono ?_; rintro _ _ ⟨rfl, hH_⟩; simp only [putR, hfp, hfr, hpr, hrp, del_add_self, del_add_ne, del_del, del_fresh, ne_eq, not_false_eq_true, true_and, and_true, and_self] at hH_; subst hH_
          rw [ro]
          simp (dsimp := false) (maxSteps := 4000000) only [hfp, hfr, hpr, hrp, go_sem, ↓reduceIte, Nat.reduceEqDiff, Nat.reduceLT, Nat.reduceLeDiff, Nat.reduceAdd, Nat.reduceMul, Nat.reduceSub, reduceCtorEq, Int.reduceToNat, Int.reduceLT, Int.reduceLE, Int.reduceEq, Int.reduceNe, Int.reduceBEq, Nat.reduceBEq, Int.reduceBNe, Nat.reduceBNe, Int.reduceAdd, Int.reduceSub, Int.reduceMul, Int.reduceNeg]
          have rel2 := rr
          have ok2 := ro2
          have now3 : (restartR r 1).now ≤ i + 1 := by omega
          clear ro cr co cn rr ro2 rn rel ok now bd
          generalize restartP p 1 = p2 at rel2 bd2 ⊢
          generalize restartR r 1 = r2 at rel2 ok2 now3 ⊢
        case' b2 =>
          refine (Restart_out n hn2 bp _).mono ?_; rintro _ _ ⟨rfl, rfl⟩
          simp (dsimp := false) (maxSteps := 4000000) only [hle2, h, hn, hfp, hfr, hpr, hrp, go_sem, ↓reduceIte, Nat.reduceEqDiff, Nat.reduceLT, Nat.reduceLeDiff, Nat.reduceAdd, Nat.reduceMul, Nat.reduceSub, reduceCtorEq, Int.reduceToNat, Int.reduceLT, Int.reduceLE, Int.reduceEq, Int.reduceNe, Int.reduceBEq, Nat.reduceBEq, Int.reduceBNe, Nat.reduceBNe, Int.reduceAdd, Int.reduceSub, Int.reduceMul, Int.reduceNeg]
          refine (RRestart_out n hn2 br _).mono ?_; rintro _ _ ⟨rfl, rfl⟩
          simp (dsimp := false) (maxSteps := 4000000) only [hle2, hfp, hfr, hpr, hrp, go_sem, ↓reduceIte, Nat.reduceEqDiff, Nat.reduceLT, Nat.reduceLeDiff, Nat.reduceAdd, Nat.reduceMul, Nat.reduceSub, reduceCtorEq, Int.reduceToNat, Int.reduceLT, Int.reduceLE, Int.reduceEq, Int.reduceNe, Int.reduceBEq, Nat.reduceBEq, Int.reduceBNe, Nat.reduceBNe, Int.reduceAdd, Int.reduceSub, Int.reduceMul, Int.reduceNeg]
          have rel2 := rel
          have ok2 := ok
          have now3 : r.now ≤ i + 1 := by omega
          have bd2 : Bd p (i + 1) := ⟨by obtain ⟨a, b⟩ := bd; omega, by obtain ⟨a, b⟩ := bd; omega⟩
          clear rel ok now bd
          generalize p = p2 at rel2 bd2 ⊢
          generalize r = r2 at rel2 ok2 now3 ⊢
      case' kC =>
        obtain ⟨k0, k1⟩ := k01
        simp (dsimp := false) (maxSteps := 4000000) only [h, h120, hkind, hn, nb1, nb2, ek, k0, k1, hfp, hfr, hpr, hrp, go_sem, ↓reduceIte, Nat.reduceEqDiff, Nat.reduceLT, Nat.reduceLeDiff, Nat.reduceAdd, Nat.reduceMul, Nat.reduceSub, reduceCtorEq, Int.reduceToNat, Int.reduceLT, Int.reduceLE, Int.reduceEq, Int.reduceNe, Int.reduceBEq, Nat.reduceBEq, Int.reduceBNe, Nat.reduceBNe, Int.reduceAdd, Int.reduceSub, Int.reduceMul, Int.reduceNeg]
        obtain ⟨rr1, rel2, ok2, now2⟩ := rel_round rel ok (by omega)
        have bd2 := bd.round (by omega)
        refine (Round_c p (by obtain ⟨a, b⟩ := bd; omega) bp _ ((find_add_ne _ hrp _).trans (find_add_self _ _ _))).mono ?_; rintro _ _ ⟨rfl, hH_⟩; simp only [put, hfp, hfr, hpr, hrp, del_add_self, del_add_ne, del_del, del_fresh, ne_eq, not_false_eq_true, true_and, and_true, and_self] at hH_; subst hH_
        simp (dsimp := false) (maxSteps := 4000000) only [hfp, hfr, hpr, hrp, go_sem, ↓reduceIte, Nat.reduceEqDiff, Nat.reduceLT, Nat.reduceLeDiff, Nat.reduceAdd, Nat.reduceMul, Nat.reduceSub, reduceCtorEq, Int.reduceToNat, Int.reduceLT, Int.reduceLE, Int.reduceEq, Int.reduceNe, Int.reduceBEq, Nat.reduceBEq, Int.reduceBNe, Nat.reduceBNe, Int.reduceAdd, Int.reduceSub, Int.reduceMul, Int.reduceNeg]
        refine (RRound_c r ok (by omega) br _ ((find_add_ne _ hpr _).trans (find_add_self _ _ _))).mono ?_; rintro _ _ ⟨rfl, hH_⟩; simp only [putR, hfp, hfr, hpr, hrp, del_add_self, del_add_ne, del_del, del_fresh, ne_eq, not_false_eq_true, true_and, and_true, and_self] at hH_; subst hH_
        rw [rr1]
        simp (dsimp := false) (maxSteps := 4000000) only [hfp, hfr, hpr, hrp, go_sem, ↓reduceIte, Nat.reduceEqDiff, Nat.reduceLT, Nat.reduceLeDiff, Nat.reduceAdd, Nat.reduceMul, Nat.reduceSub, reduceCtorEq, Int.reduceToNat, Int.reduceLT, Int.reduceLE, Int.reduceEq, Int.reduceNe, Int.reduceBEq, Nat.reduceBEq, Int.reduceBNe, Nat.reduceBNe, Int.reduceAdd, Int.reduceSub, Int.reduceMul, Int.reduceNeg]
        have now3 : (roundR r).now ≤ i + 1 := by omega
        clear rr1 now2 rel ok now bd
        generalize roundP p = p2 at rel2 bd2 ⊢
        generalize roundR r = r2 at rel2 ok2 now3 ⊢
      all_goals
        have ra := rel2.a
        have rb := rel2.b
        have hp2 : At ((H.add bp (.cells (pc p2) 127 4)).add br (.cells (rc r2) 79 6)) bp p2 := (find_add_ne _ hrp _).trans (find_add_self _ _ _)
        refine AWp.gen [.pu, .ch, .pu, .pu, .pu, .pu, .rd, .pu, .pu, .pu, .ch, .pu, .pu, .pu, .pu, .rd, .pu, .pu] [0, 1, 0, 4, 12, 28, 60, 127, 255, 511, 1023, 511, 2559, 6655, 14847, 31231, 65535, 131071] 11 (_) mixed (by kernel_rfl) (AH.le_refl _) ?_
        simp (dsimp := false) (maxSteps := 4000000) only [hfp, hfr, hpr, hrp, go_sem, ↓reduceIte, Nat.reduceEqDiff, Nat.reduceLT, Nat.reduceLeDiff, Nat.reduceAdd, Nat.reduceMul, Nat.reduceSub, reduceCtorEq, Int.reduceToNat, Int.reduceLT, Int.reduceLE, Int.reduceEq, Int.reduceNe, Int.reduceBEq, Nat.reduceBEq, Int.reduceBNe, Nat.reduceBNe, Int.reduceAdd, Int.reduceSub, Int.reduceMul, Int.reduceNeg]
        refine (Role_c p2 0 (by decide) bp _ hp2).mono ?_; rintro _ _ ⟨rfl, rfl⟩
        rw [show role p2 0 = r2.r0 from ra]
        have g0 : (rc r2)[0]? = some (.int .i64 r2.r0) := rfl
        have g1 : (rc r2)[1]? = some (.int .i64 r2.r1) := rfl
        simp (dsimp := false) (maxSteps := 4000000) only [AH.le_refl, g0, g1, hfp, hfr, hpr, hrp, go_sem, ↓reduceIte, Nat.reduceEqDiff, Nat.reduceLT, Nat.reduceLeDiff, Nat.reduceAdd, Nat.reduceMul, Nat.reduceSub, reduceCtorEq, Int.reduceToNat, Int.reduceLT, Int.reduceLE, Int.reduceEq, Int.reduceNe, Int.reduceBEq, Nat.reduceBEq, Int.reduceBNe, Nat.reduceBNe, Int.reduceAdd, Int.reduceSub, Int.reduceMul, Int.reduceNeg]
        refine (Role_c p2 1 (by decide) bp _ hp2).mono ?_; rintro _ _ ⟨rfl, rfl⟩
        rw [show role p2 1 = r2.r1 from rb]
        simp (dsimp := false) (maxSteps := 4000000) only [AH.le_refl, g0, g1, e1, hfp, hfr, hpr, hrp, go_sem, ↓reduceIte, Nat.reduceEqDiff, Nat.reduceLT, Nat.reduceLeDiff, Nat.reduceAdd, Nat.reduceMul, Nat.reduceSub, reduceCtorEq, Int.reduceToNat, Int.reduceLT, Int.reduceLE, Int.reduceEq, Int.reduceNe, Int.reduceBEq, Nat.reduceBEq, Int.reduceBNe, Nat.reduceBNe, Int.reduceAdd, Int.reduceSub, Int.reduceMul, Int.reduceNeg]
        exact again ⟨i + 1, p2, r2⟩ _ _ ⟨by simp only; omega, by simp only; omega, rel2, ok2, by simp only; omega, by simpa using bd2⟩ (FrLe.of_lks (by simp (dsimp := false) (maxSteps := 4000000) only [hfp, hfr, hpr, hrp, go_sem, ↓reduceIte, Nat.reduceEqDiff, Nat.reduceLT, Nat.reduceLeDiff, Nat.reduceAdd, Nat.reduceMul, Nat.reduceSub, reduceCtorEq, Int.reduceToNat, Int.reduceLT, Int.reduceLE, Int.reduceEq, Int.reduceNe, Int.reduceBEq, Nat.reduceBEq, Int.reduceBNe, Nat.reduceBNe, Int.reduceAdd, Int.reduceSub, Int.reduceMul, Int.reduceNeg])) (AH.le_refl _) (by simp only; omega)
    · by_cases h : (i : Int) < L.length
      · have h120 : ¬ (i : Int) < 120 := fun e => hrun ⟨h, e⟩
        simp (dsimp := false) (maxSteps := 4000000) only [h, h120, hfp, hfr, hpr, hrp, go_sem, ↓reduceIte, Nat.reduceEqDiff, Nat.reduceLT, Nat.reduceLeDiff, Nat.reduceAdd, Nat.reduceMul, Nat.reduceSub, reduceCtorEq, Int.reduceToNat, Int.reduceLT, Int.reduceLE, Int.reduceEq, Int.reduceNe, Int.reduceBEq, Nat.reduceBEq, Int.reduceBNe, Nat.reduceBNe, Int.reduceAdd, Int.reduceSub, Int.reduceMul, Int.reduceNeg]
        refine out _ _ _ (by simp) ?_
        simp (dsimp := false) (maxSteps := 4000000) only [hfp, hfr, hpr, hrp, go_sem, ↓reduceIte, Nat.reduceEqDiff, Nat.reduceLT, Nat.reduceLeDiff, Nat.reduceAdd, Nat.reduceMul, Nat.reduceSub, reduceCtorEq, Int.reduceToNat, Int.reduceLT, Int.reduceLE, Int.reduceEq, Int.reduceNe, Int.reduceBEq, Nat.reduceBEq, Int.reduceBNe, Nat.reduceBNe, Int.reduceAdd, Int.reduceSub, Int.reduceMul, Int.reduceNeg]
        refine (awake19_c _).mono ?_; rintro _ _ ⟨rfl, rfl⟩
        simp (dsimp := false) (maxSteps := 4000000) only [hfp, hfr, hpr, hrp, go_sem, ↓reduceIte, Nat.reduceEqDiff, Nat.reduceLT, Nat.reduceLeDiff, Nat.reduceAdd, Nat.reduceMul, Nat.reduceSub, reduceCtorEq, Int.reduceToNat, Int.reduceLT, Int.reduceLE, Int.reduceEq, Int.reduceNe, Int.reduceBEq, Nat.reduceBEq, Int.reduceBNe, Nat.reduceBNe, Int.reduceAdd, Int.reduceSub, Int.reduceMul, Int.reduceNeg]
        refine (Role_out 2 (by decide) bp _).mono ?_; rintro _ _ ⟨rfl, rfl⟩
        simp (dsimp := false) (maxSteps := 4000000) only [hfp, hfr, hpr, hrp, go_sem, ↓reduceIte, Nat.reduceEqDiff, Nat.reduceLT, Nat.reduceLeDiff, Nat.reduceAdd, Nat.reduceMul, Nat.reduceSub, reduceCtorEq, Int.reduceToNat, Int.reduceLT, Int.reduceLE, Int.reduceEq, Int.reduceNe, Int.reduceBEq, Nat.reduceBEq, Int.reduceBNe, Nat.reduceBNe, Int.reduceAdd, Int.reduceSub, Int.reduceMul, Int.reduceNeg]
        refine (Role_out (-1) (by decide) bp _).mono ?_; rintro _ _ ⟨rfl, rfl⟩
        simp (dsimp := false) (maxSteps := 4000000) only [hfp, hfr, hpr, hrp, go_sem, ↓reduceIte, Nat.reduceEqDiff, Nat.reduceLT, Nat.reduceLeDiff, Nat.reduceAdd, Nat.reduceMul, Nat.reduceSub, reduceCtorEq, Int.reduceToNat, Int.reduceLT, Int.reduceLE, Int.reduceEq, Int.reduceNe, Int.reduceBEq, Nat.reduceBEq, Int.reduceBNe, Nat.reduceBNe, Int.reduceAdd, Int.reduceSub, Int.reduceMul, Int.reduceNeg]
        exact ⟨H, hle2, rfl⟩
      · simp (dsimp := false) (maxSteps := 4000000) only [h, hfp, hfr, hpr, hrp, go_sem, ↓reduceIte, Nat.reduceEqDiff, Nat.reduceLT, Nat.reduceLeDiff, Nat.reduceAdd, Nat.reduceMul, Nat.reduceSub, reduceCtorEq, Int.reduceToNat, Int.reduceLT, Int.reduceLE, Int.reduceEq, Int.reduceNe, Int.reduceBEq, Nat.reduceBEq, Int.reduceBNe, Nat.reduceBNe, Int.reduceAdd, Int.reduceSub, Int.reduceMul, Int.reduceNeg]
        refine out _ _ _ (by simp) ?_
        simp (dsimp := false) (maxSteps := 4000000) only [hfp, hfr, hpr, hrp, go_sem, ↓reduceIte, Nat.reduceEqDiff, Nat.reduceLT, Nat.reduceLeDiff, Nat.reduceAdd, Nat.reduceMul, Nat.reduceSub, reduceCtorEq, Int.reduceToNat, Int.reduceLT, Int.reduceLE, Int.reduceEq, Int.reduceNe, Int.reduceBEq, Nat.reduceBEq, Int.reduceBNe, Nat.reduceBNe, Int.reduceAdd, Int.reduceSub, Int.reduceMul, Int.reduceNeg]
        refine (awake19_c _).mono ?_; rintro _ _ ⟨rfl, rfl⟩
        simp (dsimp := false) (maxSteps := 4000000) only [hfp, hfr, hpr, hrp, go_sem, ↓reduceIte, Nat.reduceEqDiff, Nat.reduceLT, Nat.reduceLeDiff, Nat.reduceAdd, Nat.reduceMul, Nat.reduceSub, reduceCtorEq, Int.reduceToNat, Int.reduceLT, Int.reduceLE, Int.reduceEq, Int.reduceNe, Int.reduceBEq, Nat.reduceBEq, Int.reduceBNe, Nat.reduceBNe, Int.reduceAdd, Int.reduceSub, Int.reduceMul, Int.reduceNeg]
        refine (Role_out 2 (by decide) bp _).mono ?_; rintro _ _ ⟨rfl, rfl⟩
        simp (dsimp := false) (maxSteps := 4000000) only [hfp, hfr, hpr, hrp, go_sem, ↓reduceIte, Nat.reduceEqDiff, Nat.reduceLT, Nat.reduceLeDiff, Nat.reduceAdd, Nat.reduceMul, Nat.reduceSub, reduceCtorEq, Int.reduceToNat, Int.reduceLT, Int.reduceLE, Int.reduceEq, Int.reduceNe, Int.reduceBEq, Nat.reduceBEq, Int.reduceBNe, Nat.reduceBNe, Int.reduceAdd, Int.reduceSub, Int.reduceMul, Int.reduceNeg]
        refine (Role_out (-1) (by decide) bp _).mono ?_; rintro _ _ ⟨rfl, rfl⟩
        simp (dsimp := false) (maxSteps := 4000000) only [hfp, hfr, hpr, hrp, go_sem, ↓reduceIte, Nat.reduceEqDiff, Nat.reduceLT, Nat.reduceLeDiff, Nat.reduceAdd, Nat.reduceMul, Nat.reduceSub, reduceCtorEq, Int.reduceToNat, Int.reduceLT, Int.reduceLE, Int.reduceEq, Int.reduceNe, Int.reduceBEq, Nat.reduceBEq, Int.reduceBNe, Nat.reduceBNe, Int.reduceAdd, Int.reduceSub, Int.reduceMul, Int.reduceNeg]
        exact ⟨H, hle2, rfl⟩
end Go.Proofs.Ytadbmmdmibiikaa.Watch
