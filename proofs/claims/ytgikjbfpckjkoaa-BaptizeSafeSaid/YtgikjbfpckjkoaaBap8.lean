/- baptize: the law BaptizeSafe. -/
import Derived.Test.YtgikjbfpckjkoaaBap7
namespace Go.Proofs.Ytgikjbfpckjkoaa.BapN
set_option linter.unusedSimpArgs false
set_option linter.unusedVariables false
open Go Go.AX Go.Proofs Ty
set_option maxHeartbeats 4000000
set_option maxRecDepth 10000

structure Kp (L0 L : List Slv) : Prop where
  good : GoodI L
  len : L.length = L0.length
  at_ : ∀ (i : Nat) (s t : Slv), L0[i]? = some s → L[i]? = some t → t.phys = s.phys ∧ (¬ s.name = 0 → t.name = s.name)
theorem Kp.start {L : List Slv} (h : GoodI L) : Kp L L := ⟨h, rfl, fun i s t h1 h2 => by rw [h1] at h2; cases h2; exact ⟨rfl, fun _ => rfl⟩⟩
theorem Kp.step {L0 L : List Slv} (h : Kp L0 L) {k : Nat} {s : Slv} {n most : Int} (hs : L[k]? = some s) (hs0 : s.name = 0) (hf : freev L most = some n) : Kp L0 (L.set k ⟨s.phys, n⟩) := by
  obtain ⟨n1, n2, n3, n4⟩ := freev_some hf
  have hG := set_at (v := ⟨s.phys, n⟩) hs
  refine ⟨⟨?_, ?_, ?_⟩, ?_, ?_⟩
  · rw [List.length_set]; exact h.good.len
  · intro i t ht
    rw [hG] at ht
    split at ht
    · cases ht; exact ⟨by simp only; omega, n2⟩
    · exact h.good.rng i t ht
  · intro i j a b hij ha hb
    rw [hG] at ha hb
    split at ha
    · rename_i hi
      subst hi
      rw [if_neg (by omega)] at hb
      cases ha
      have := h.good.dis i j s b hij hs hb
      refine ⟨this.1, fun e => ?_⟩
      exact absurd ⟨j, b, hb, e.symm⟩ n3
    · split at hb
      · rename_i hj
        subst hj
        cases hb
        have := h.good.dis i j a s hij ha hs
        refine ⟨this.1, fun e => ?_⟩
        exact absurd ⟨i, a, ha, e⟩ n3
      · exact h.good.dis i j a b hij ha hb
  · rw [List.length_set]; exact h.len
  · intro i a b ha hb
    rw [hG] at hb
    split at hb
    · rename_i hi
      subst hi
      cases hb
      have := h.at_ i a s ha hs
      exact ⟨this.1, fun h0 => by have := this.2 h0; omega⟩
    · exact h.at_ i a b ha hb
theorem done_all {L : List Slv} {D : List Bool} {r : Nat} (hL : rng L) (h : (srch L D r).2.1 = 1) (hg : gone D r = false) : ∀ s ∈ L, ¬ s.name = 0 := by
  intro s hs h0
  have ha : ans L top = true := List.any_eq_true.2 ⟨s, hs, by simp [ansP, h0, (hL s hs).2]⟩
  rw [srch, if_pos (by rw [ha, hg]; rfl)] at h
  split at h <;> simp at h
theorem run_safe {D : List Bool} {most : Int} {L0 : List Slv} : ∀ (f : Nat) (L : List Slv) (r : Nat), mu L D r < f → Kp L0 L → rng L →
    Kp L0 (runF D most f L r).1 ∧ ((runF D most f L r).2.2 = 0 → ∀ s ∈ (runF D most f L r).1, ¬ s.name = 0) ∧ ((runF D most f L r).2.1 ≤ r + 67 * cntZ L + 1 ∨ (runF D most f L r).2.1 ≤ D.length + 66 + 67 * cntZ L + 1)
  | 0, L, r, h, _, _ => by omega
  | f + 1, L, r, h, hK, hr => by
    have hsc := srch_pos L D r
    cases h1 : ((atN L L.length).isSome && (freev L most).isNone) with
    | true =>
      rw [run_full h1]
      exact ⟨hK, fun h => by simp at h, by simp only; omega⟩
    | false =>
      cases h2 : (srch L D r).2.2 with
      | true =>
        obtain ⟨n, k, s, hn, hk, hs0, hp, h66, hset, huN, hcz, hidx⟩ := found_at hK.good.uniq h1 h2
        rw [run_found h1 h2 hn]
        have := run_safe (D := D) (L0 := L0) (most := most) f (setN L (srch L D r).1 n) (r + (srch L D r).2.1 + 1) (by unfold mu at h ⊢; omega) (by rw [hset]; exact hK.step hk hs0 hn) (rng_setN hr _ _)
        exact ⟨this.1, this.2.1, by have := this.2.2; omega⟩
      | false =>
        by_cases h3 : (srch L D r).2.1 = 1 ∧ gone D r = false
        · rw [run_done h1 h2 h3]
          exact ⟨hK, fun _ => done_all hr h3.1 h3.2, by simp only; omega⟩
        · rw [run_lost h1 h2 h3]
          have hlt := mu_lost hr h2 h3
          have hrd := lost_lt hr h2 h3
          have := run_safe (D := D) (L0 := L0) (most := most) f L (r + (srch L D r).2.1) (by omega) hK hr
          exact ⟨this.1, this.2.1, by have := this.2.2; omega⟩
theorem cz_succ {L : List Slv} {i : Nat} {x : Slv} (h : L[i]? = some x) : cntZ (L.take (i + 1)) = cntZ (L.take i) + (if x.name = 0 then 1 else 0) := by
  unfold cntZ
  rw [List.take_add_one, h]
  by_cases hx : x.name = 0 <;> simp [List.countP_append, List.countP_cons, hx]
theorem BaptizeSafe_c (L0 : List Slv) (lb : Option Addr) (lc : Nat) (most : Int) (D0 : List Bool) (db : Option Addr) (dc : Nat) (H : AH) (hs0 : SlcIn H 2 lb lc (L0.map enc)) (hw : ∀ s ∈ L0, (Lit.int .u64 s.phys).wf = true) (hD0 : SlcIn H 1 db dc (D0.map encb)) :
    ACalls Try.prog 7 #[.slice lb L0.length lc, .int .i64 most, .slice db D0.length dc] H (fun v H' => v = .bool true ∧ H = H') := by
  have hs : SlcIn H 2 lb lc ((L0.take 40).map enc) := by rw [List.map_take]; exact hs0.take
  have hD : SlcIn H 1 db dc ((D0.take 600).map encb) := by rw [List.map_take]; exact hD0.take
  have hfew := few_c L0 lb lc H hs0
  have hsome := fun A h => some_c D0 db dc A h
  have hr : rng (L0.take 40) := fun s hs => rng_of hw s (List.mem_of_mem_take hs)
  have hDl : (D0.take 600).length ≤ 600 := by simp; omega
  generalize L0.take 40 = L at hs hfew hr
  generalize D0.take 600 = D at hD hsome hDl
  refine ACalls.enter2 Try.func7 rfl Try.ntmps7 Try.results7 (by simp) ?_; simp (dsimp := false) (maxSteps := 4000000) only [go_sem, ↓reduceIte, Nat.reduceEqDiff, Nat.reduceLT, Nat.reduceLeDiff, Nat.reduceAdd, Nat.reduceMul, Nat.reduceSub, reduceCtorEq, Int.reduceToNat, Int.reduceLT, Int.reduceLE, Int.reduceEq, Int.reduceNe, Int.reduceBEq, Nat.reduceBEq, Int.reduceBNe, Nat.reduceBNe, Int.reduceAdd, Int.reduceSub, Int.reduceMul, Int.reduceNeg]
  refine (hfew).mono ?_; rintro _ _ ⟨rfl, rfl⟩
  simp (dsimp := false) (maxSteps := 4000000) only [go_sem, ↓reduceIte, Nat.reduceEqDiff, Nat.reduceLT, Nat.reduceLeDiff, Nat.reduceAdd, Nat.reduceMul, Nat.reduceSub, reduceCtorEq, Int.reduceToNat, Int.reduceLT, Int.reduceLE, Int.reduceEq, Int.reduceNe, Int.reduceBEq, Nat.reduceBEq, Int.reduceBNe, Nat.reduceBNe, Int.reduceAdd, Int.reduceSub, Int.reduceMul, Int.reduceNeg]
  refine (Good_c L _ _ _ hs).mono ?_; rintro _ _ ⟨rfl, rfl⟩
  cases hg : goodN L with
  | false =>
    simp (dsimp := false) (maxSteps := 4000000) only [go_sem, ↓reduceIte, Nat.reduceEqDiff, Nat.reduceLT, Nat.reduceLeDiff, Nat.reduceAdd, Nat.reduceMul, Nat.reduceSub, reduceCtorEq, Int.reduceToNat, Int.reduceLT, Int.reduceLE, Int.reduceEq, Int.reduceNe, Int.reduceBEq, Nat.reduceBEq, Int.reduceBNe, Nat.reduceBNe, Int.reduceAdd, Int.reduceSub, Int.reduceMul, Int.reduceNeg]
    refine (awake_c _).mono ?_; rintro _ _ ⟨rfl, rfl⟩
    simp (dsimp := false) (maxSteps := 4000000) only [go_sem, ↓reduceIte, Nat.reduceEqDiff, Nat.reduceLT, Nat.reduceLeDiff, Nat.reduceAdd, Nat.reduceMul, Nat.reduceSub, reduceCtorEq, Int.reduceToNat, Int.reduceLT, Int.reduceLE, Int.reduceEq, Int.reduceNe, Int.reduceBEq, Nat.reduceBEq, Int.reduceBNe, Nat.reduceBNe, Int.reduceAdd, Int.reduceSub, Int.reduceMul, Int.reduceNeg]
    exact ⟨H, (AH.le_refl _), (by first | exact ⟨rfl, rfl⟩ | rfl)⟩
  | true =>
    have hG := goodN_iff.1 hg
    have hlen := hG.len
    have hcz : cntZ L ≤ 32 := Nat.le_trans List.countP_le_length hlen
    simp (dsimp := false) (maxSteps := 4000000) only [go_sem, ↓reduceIte, Nat.reduceEqDiff, Nat.reduceLT, Nat.reduceLeDiff, Nat.reduceAdd, Nat.reduceMul, Nat.reduceSub, reduceCtorEq, Int.reduceToNat, Int.reduceLT, Int.reduceLE, Int.reduceEq, Int.reduceNe, Int.reduceBEq, Nat.reduceBEq, Int.reduceBNe, Nat.reduceBNe, Int.reduceAdd, Int.reduceSub, Int.reduceMul, Int.reduceNeg]
    refine (hsome _ hD0).mono ?_; rintro _ _ ⟨rfl, rfl⟩
    simp (dsimp := false) (maxSteps := 4000000) only [go_sem, ↓reduceIte, Nat.reduceEqDiff, Nat.reduceLT, Nat.reduceLeDiff, Nat.reduceAdd, Nat.reduceMul, Nat.reduceSub, reduceCtorEq, Int.reduceToNat, Int.reduceLT, Int.reduceLE, Int.reduceEq, Int.reduceNe, Int.reduceBEq, Nat.reduceBEq, Int.reduceBNe, Nat.reduceBNe, Int.reduceAdd, Int.reduceSub, Int.reduceMul, Int.reduceNeg]
    refine (Run_c L (by omega) hG.uniq hr lb lc most D (by omega) db dc (mu L D 0 + 1) (by omega) _ hs hD).mono ?_; rintro _ A ⟨b1, c1, rfl, s1, K1⟩
    obtain ⟨k1, k2, k3⟩ := run_safe (D := D) (most := most) (L0 := L) (mu L D 0 + 1) L 0 (by omega) (Kp.start hG) hr
    have hsA := hs.keep K1 fun _ _ h => h
    have hD0A := hD0.keep K1 fun _ _ h => h
    have hHA := K1.all
    generalize hR : runF D most (mu L D 0 + 1) L 0 = R at s1 k1 k2 k3 ⊢
    obtain ⟨M, N, E⟩ := R
    dsimp only at s1 k1 k2 k3 ⊢
    have hgM : goodN M = true := goodN_iff.2 k1.good
    have hMl := k1.len
    clear hR K1 hs hD hD0 hfew
    simp (dsimp := false) (maxSteps := 4000000) only [go_sem, ↓reduceIte, Nat.reduceEqDiff, Nat.reduceLT, Nat.reduceLeDiff, Nat.reduceAdd, Nat.reduceMul, Nat.reduceSub, reduceCtorEq, Int.reduceToNat, Int.reduceLT, Int.reduceLE, Int.reduceEq, Int.reduceNe, Int.reduceBEq, Nat.reduceBEq, Int.reduceBNe, Nat.reduceBNe, Int.reduceAdd, Int.reduceSub, Int.reduceMul, Int.reduceNeg]
    refine (Good_c M _ _ _ s1).mono ?_; rintro _ _ ⟨rfl, rfl⟩
    rw [hgM, hMl]
    simp (dsimp := false) (maxSteps := 4000000) only [go_sem, ↓reduceIte, Nat.reduceEqDiff, Nat.reduceLT, Nat.reduceLeDiff, Nat.reduceAdd, Nat.reduceMul, Nat.reduceSub, reduceCtorEq, Int.reduceToNat, Int.reduceLT, Int.reduceLE, Int.reduceEq, Int.reduceNe, Int.reduceBEq, Nat.reduceBEq, Int.reduceBNe, Nat.reduceBNe, Int.reduceAdd, Int.reduceSub, Int.reduceMul, Int.reduceNeg]
    refine AWp.loopo (ι := Nat) (fun i => i ≤ L.length) (fun i => [(12, .int .i64 i), (11, .int .i64 (cntZ (L.take i))), (7, .slice lb L.length lc), (8, .slice b1 L.length c1), (9, .int .i64 N), (10, .int .i64 E), (2, .slice db D0.length dc)])
      (fun _ => A) (fun i => L.length - i) 0 (by omega) (FrLe.of_lks ?_) (AH.le_refl _) fun i hi Q again out => ?_
    · simp (dsimp := false) (maxSteps := 4000000) only [go_sem, ↓reduceIte, Nat.reduceEqDiff, Nat.reduceLT, Nat.reduceLeDiff, Nat.reduceAdd, Nat.reduceMul, Nat.reduceSub, reduceCtorEq, Int.reduceToNat, Int.reduceLT, Int.reduceLE, Int.reduceEq, Int.reduceNe, Int.reduceBEq, Nat.reduceBEq, Int.reduceBNe, Nat.reduceBNe, Int.reduceAdd, Int.reduceSub, Int.reduceMul, Int.reduceNeg]
      rfl
    by_cases h : (i : Int) < L.length
    · obtain ⟨s, hx⟩ := get_some (l := L) (i := i) (by omega)
      obtain ⟨t, ht⟩ := get_some (l := M) (i := i) (by omega)
      obtain ⟨e1, e2⟩ := k1.at_ i s t hx ht
      obtain ⟨b, o, rfl, hrow, hrd⟩ := hsA.get (map_get (f := enc) hx)
      have r0 := hrd 0 _ rfl
      have r1 := hrd 1 _ rfl
      obtain ⟨b', o', rfl, hrow', hrd'⟩ := s1.get (map_get (f := enc) ht)
      have q0 := hrd' 0 _ rfl
      have q1 := hrd' 1 _ rfl
      simp only [Nat.add_zero] at r0 r1 q0 q1
      have ee := i64_succ (i := i) (by omega)
      have ez := cz_succ hx
      have hczi : cntZ (L.take i) ≤ 32 := by
        have h1 : cntZ (L.take i) ≤ (L.take i).length := List.countP_le_length
        rw [List.length_take] at h1; omega
      have hne : E = 0 → ¬ t.name = 0 := fun h0 => k2 h0 t (List.mem_of_getElem? ht)
      have hsn := (hG.rng i s hx).1
      simp (dsimp := false) (maxSteps := 4000000) only [h, go_sem, ↓reduceIte, Nat.reduceEqDiff, Nat.reduceLT, Nat.reduceLeDiff, Nat.reduceAdd, Nat.reduceMul, Nat.reduceSub, reduceCtorEq, Int.reduceToNat, Int.reduceLT, Int.reduceLE, Int.reduceEq, Int.reduceNe, Int.reduceBEq, Nat.reduceBEq, Int.reduceBNe, Nat.reduceBNe, Int.reduceAdd, Int.reduceSub, Int.reduceMul, Int.reduceNeg]
      refine AWp.gen [.pu, .pu, .pu, .pu, .rd, .pu, .pu, .pu, .pu, .rd, .pu, .pu, .pu, .pu, .pu, .pu, .rd, .pu, .pu, .pu, .pu, .pu, .pu, .rd, .pu, .pu, .pu, .pu, .rd, .pu, .pu, .pu, .pu, .pu, .pu, .pu, .pu, .pu, .pu, .pu, .rd, .pu, .pu, .pu] [0, 0, 3, 7, 15, 0, 0, 96, 224, 480, 1023, 2047, 4095, 4095, 16383, 32767, 65535, 131071, 262143, 524287, 524287, 2097151, 4194303, 8388607, 524287, 524287, 50855935, 117964799, 252182527, 536870911, 1073741823, 2147483647, 4294967295, 8589934591, 17179869183, 34359738367, 68719476735, 68719476735, 274877906943, 549755813887, 1099511627775, 2199023255551, 4398046511103, 8796093022207] 0 (_) mixed (by kernel_rfl) (AH.le_refl _) ?_
      have w1 := i64_succ (i := cntZ (L.take i)) (by omega)
      by_cases hE : E = 0
      · have htn := hne hE
        subst hE
        by_cases hs0 : s.name = 0
        · have hs1 : ¬ 0 < s.name := by omega
          rw [if_pos hs0] at ez
          simp (dsimp := false) (maxSteps := 4000000) only [h, r0, r1, q0, q1, e1, hs0, htn, w1, ee, go_sem, ↓reduceIte, Nat.reduceEqDiff, Nat.reduceLT, Nat.reduceLeDiff, Nat.reduceAdd, Nat.reduceMul, Nat.reduceSub, reduceCtorEq, Int.reduceToNat, Int.reduceLT, Int.reduceLE, Int.reduceEq, Int.reduceNe, Int.reduceBEq, Nat.reduceBEq, Int.reduceBNe, Nat.reduceBNe, Int.reduceAdd, Int.reduceSub, Int.reduceMul, Int.reduceNeg]
          refine again (i + 1) _ _ (by omega) (FrLe.of_lks ?_) (AH.le_refl _) (by omega)
          rw [ez]
          simp (dsimp := false) (maxSteps := 4000000) only [go_sem, ↓reduceIte, Nat.reduceEqDiff, Nat.reduceLT, Nat.reduceLeDiff, Nat.reduceAdd, Nat.reduceMul, Nat.reduceSub, reduceCtorEq, Int.reduceToNat, Int.reduceLT, Int.reduceLE, Int.reduceEq, Int.reduceNe, Int.reduceBEq, Nat.reduceBEq, Int.reduceBNe, Nat.reduceBNe, Int.reduceAdd, Int.reduceSub, Int.reduceMul, Int.reduceNeg]
        · have hs1 : 0 < s.name := by omega
          have e2 := e2 hs0
          rw [if_neg hs0] at ez
          simp (dsimp := false) (maxSteps := 4000000) only [h, r0, r1, q0, q1, e1, e2, hs0, hs1, w1, ee, go_sem, ↓reduceIte, Nat.reduceEqDiff, Nat.reduceLT, Nat.reduceLeDiff, Nat.reduceAdd, Nat.reduceMul, Nat.reduceSub, reduceCtorEq, Int.reduceToNat, Int.reduceLT, Int.reduceLE, Int.reduceEq, Int.reduceNe, Int.reduceBEq, Nat.reduceBEq, Int.reduceBNe, Nat.reduceBNe, Int.reduceAdd, Int.reduceSub, Int.reduceMul, Int.reduceNeg]
          refine again (i + 1) _ _ (by omega) (FrLe.of_lks ?_) (AH.le_refl _) (by omega)
          rw [ez]
          simp (dsimp := false) (maxSteps := 4000000) only [go_sem, ↓reduceIte, Nat.reduceEqDiff, Nat.reduceLT, Nat.reduceLeDiff, Nat.reduceAdd, Nat.reduceMul, Nat.reduceSub, reduceCtorEq, Int.reduceToNat, Int.reduceLT, Int.reduceLE, Int.reduceEq, Int.reduceNe, Int.reduceBEq, Nat.reduceBEq, Int.reduceBNe, Nat.reduceBNe, Int.reduceAdd, Int.reduceSub, Int.reduceMul, Int.reduceNeg]
      · by_cases hs0 : s.name = 0
        · have hs1 : ¬ 0 < s.name := by omega
          rw [if_pos hs0] at ez
          simp (dsimp := false) (maxSteps := 4000000) only [h, r0, r1, q0, q1, e1, hs0, hE, w1, ee, go_sem, ↓reduceIte, Nat.reduceEqDiff, Nat.reduceLT, Nat.reduceLeDiff, Nat.reduceAdd, Nat.reduceMul, Nat.reduceSub, reduceCtorEq, Int.reduceToNat, Int.reduceLT, Int.reduceLE, Int.reduceEq, Int.reduceNe, Int.reduceBEq, Nat.reduceBEq, Int.reduceBNe, Nat.reduceBNe, Int.reduceAdd, Int.reduceSub, Int.reduceMul, Int.reduceNeg]
          refine again (i + 1) _ _ (by omega) (FrLe.of_lks ?_) (AH.le_refl _) (by omega)
          rw [ez]
          simp (dsimp := false) (maxSteps := 4000000) only [go_sem, ↓reduceIte, Nat.reduceEqDiff, Nat.reduceLT, Nat.reduceLeDiff, Nat.reduceAdd, Nat.reduceMul, Nat.reduceSub, reduceCtorEq, Int.reduceToNat, Int.reduceLT, Int.reduceLE, Int.reduceEq, Int.reduceNe, Int.reduceBEq, Nat.reduceBEq, Int.reduceBNe, Nat.reduceBNe, Int.reduceAdd, Int.reduceSub, Int.reduceMul, Int.reduceNeg]
        · have hs1 : 0 < s.name := by omega
          have e2 := e2 hs0
          rw [if_neg hs0] at ez
          simp (dsimp := false) (maxSteps := 4000000) only [h, r0, r1, q0, q1, e1, e2, hs0, hs1, hE, w1, ee, go_sem, ↓reduceIte, Nat.reduceEqDiff, Nat.reduceLT, Nat.reduceLeDiff, Nat.reduceAdd, Nat.reduceMul, Nat.reduceSub, reduceCtorEq, Int.reduceToNat, Int.reduceLT, Int.reduceLE, Int.reduceEq, Int.reduceNe, Int.reduceBEq, Nat.reduceBEq, Int.reduceBNe, Nat.reduceBNe, Int.reduceAdd, Int.reduceSub, Int.reduceMul, Int.reduceNeg]
          refine again (i + 1) _ _ (by omega) (FrLe.of_lks ?_) (AH.le_refl _) (by omega)
          rw [ez]
          simp (dsimp := false) (maxSteps := 4000000) only [go_sem, ↓reduceIte, Nat.reduceEqDiff, Nat.reduceLT, Nat.reduceLeDiff, Nat.reduceAdd, Nat.reduceMul, Nat.reduceSub, reduceCtorEq, Int.reduceToNat, Int.reduceLT, Int.reduceLE, Int.reduceEq, Int.reduceNe, Int.reduceBEq, Nat.reduceBEq, Int.reduceBNe, Nat.reduceBNe, Int.reduceAdd, Int.reduceSub, Int.reduceMul, Int.reduceNeg]
    · obtain rfl : i = L.length := by omega
      rw [List.take_length]
      have w1 : IntKind.i64.wrap ((cntZ L : Int) + 1) = (cntZ L : Int) + 1 := i64_eq (by omega) (by omega)
      have w2 : IntKind.i64.wrap (67 * ((cntZ L : Int) + 1)) = 67 * ((cntZ L : Int) + 1) := i64_eq (by omega) (by omega)
      have w3 : IntKind.i64.wrap ((D.length : Int) + 67 * ((cntZ L : Int) + 1)) = (D.length : Int) + 67 * ((cntZ L : Int) + 1) := i64_eq (by omega) (by omega)
      have w4 : IntKind.i64.wrap ((D.length : Int) + 67 * ((cntZ L : Int) + 1) + 1) = (D.length : Int) + 67 * ((cntZ L : Int) + 1) + 1 := i64_eq (by omega) (by omega)
      have hle : (N : Int) ≤ (D.length : Int) + 67 * ((cntZ L : Int) + 1) + 1 := by omega
      simp (dsimp := false) (maxSteps := 4000000) only [h, go_sem, ↓reduceIte, Nat.reduceEqDiff, Nat.reduceLT, Nat.reduceLeDiff, Nat.reduceAdd, Nat.reduceMul, Nat.reduceSub, reduceCtorEq, Int.reduceToNat, Int.reduceLT, Int.reduceLE, Int.reduceEq, Int.reduceNe, Int.reduceBEq, Nat.reduceBEq, Int.reduceBNe, Nat.reduceBNe, Int.reduceAdd, Int.reduceSub, Int.reduceMul, Int.reduceNeg]
      refine out _ _ _ (by simp) ?_
      simp (dsimp := false) (maxSteps := 4000000) only [go_sem, ↓reduceIte, Nat.reduceEqDiff, Nat.reduceLT, Nat.reduceLeDiff, Nat.reduceAdd, Nat.reduceMul, Nat.reduceSub, reduceCtorEq, Int.reduceToNat, Int.reduceLT, Int.reduceLE, Int.reduceEq, Int.reduceNe, Int.reduceBEq, Nat.reduceBEq, Int.reduceBNe, Nat.reduceBNe, Int.reduceAdd, Int.reduceSub, Int.reduceMul, Int.reduceNeg]
      refine (awake_c _).mono ?_; rintro _ _ ⟨rfl, rfl⟩
      simp (dsimp := false) (maxSteps := 4000000) only [go_sem, ↓reduceIte, Nat.reduceEqDiff, Nat.reduceLT, Nat.reduceLeDiff, Nat.reduceAdd, Nat.reduceMul, Nat.reduceSub, reduceCtorEq, Int.reduceToNat, Int.reduceLT, Int.reduceLE, Int.reduceEq, Int.reduceNe, Int.reduceBEq, Nat.reduceBEq, Int.reduceBNe, Nat.reduceBNe, Int.reduceAdd, Int.reduceSub, Int.reduceMul, Int.reduceNeg]
      refine (hsome _ hD0A).mono ?_; rintro _ _ ⟨rfl, rfl⟩
      simp (dsimp := false) (maxSteps := 4000000) only [w1, w2, w3, w4, hle, go_sem, ↓reduceIte, Nat.reduceEqDiff, Nat.reduceLT, Nat.reduceLeDiff, Nat.reduceAdd, Nat.reduceMul, Nat.reduceSub, reduceCtorEq, Int.reduceToNat, Int.reduceLT, Int.reduceLE, Int.reduceEq, Int.reduceNe, Int.reduceBEq, Nat.reduceBEq, Int.reduceBNe, Nat.reduceBNe, Int.reduceAdd, Int.reduceSub, Int.reduceMul, Int.reduceNeg]
      exact ⟨H, hHA, rfl⟩
end Go.Proofs.Ytgikjbfpckjkoaa.BapN
