/- baptize: copies, Answers of both sides, rounds that are lost, the middle of two. -/
import Derived.Test.YtgikjbfpckjkoaaBapN
namespace Go.Proofs.Ytgikjbfpckjkoaa.BapN
set_option linter.unusedSimpArgs false
set_option linter.unusedVariables false
open Go Go.AX Go.Proofs Ty
set_option maxHeartbeats 4000000
set_option maxRecDepth 10000

theorem Clone_o (L : List Slv) (hL : L.length ≤ 1000) (base : Option Addr) (cap : Nat) (H : AH) (hs : SlcIn H 2 base cap (L.map enc)) :
    ACalls Try.prog 63 #[.slice base L.length cap] H (fun v H' => ∃ b c, v = .slice b L.length c ∧ OwnS H H' 66 2 b c (L.map enc) ∧ Keep H H' fun _ => False) := by
  cases base with
  | none =>
    have hL0 : L = [] := by
      cases L with
      | nil => rfl
      | cons s l => obtain ⟨b, o, hb⟩ := hs.at_ 0 (by simp); cases hb
    subst hL0
    refine ACalls.enter2 Try.func63 rfl Try.ntmps63 Try.results63 (by simp) ?_; simp (dsimp := false) (maxSteps := 4000000) only [go_sem, ↓reduceIte, Nat.reduceEqDiff, Nat.reduceLT, Nat.reduceLeDiff, Nat.reduceAdd, Nat.reduceMul, Nat.reduceSub, reduceCtorEq, Int.reduceToNat, Int.reduceLT, Int.reduceLE, Int.reduceEq, Int.reduceNe, Int.reduceBEq, Nat.reduceBEq, Int.reduceBNe, Nat.reduceBNe, Int.reduceAdd, Int.reduceSub, Int.reduceMul, Int.reduceNeg]
    exact ⟨H, AH.le_refl _, none, 0, rfl, OwnS.nil, Keep.refl⟩
  | some a =>
    refine ACalls.enter2 Try.func63 rfl Try.ntmps63 Try.results63 (by simp) ?_; simp (dsimp := false) (maxSteps := 4000000) only [go_sem, ↓reduceIte, Nat.reduceEqDiff, Nat.reduceLT, Nat.reduceLeDiff, Nat.reduceAdd, Nat.reduceMul, Nat.reduceSub, reduceCtorEq, Int.reduceToNat, Int.reduceLT, Int.reduceLE, Int.reduceEq, Int.reduceNe, Int.reduceBEq, Nat.reduceBEq, Int.reduceBNe, Nat.reduceBNe, Int.reduceAdd, Int.reduceSub, Int.reduceMul, Int.reduceNeg]
    refine AllB.mk fun b5 h_b5 => ?_; have hn_b5 := h_b5; (try simp only [fresh_add, fresh_set, ne_eq] at hn_b5); have hr_b5 := hn_b5; (try simp only [@eq_comm Nat b5] at hr_b5); simp (dsimp := false) (maxSteps := 4000000) only [hn_b5, hr_b5, go_sem, ↓reduceIte, Nat.reduceEqDiff, Nat.reduceLT, Nat.reduceLeDiff, Nat.reduceAdd, Nat.reduceMul, Nat.reduceSub, reduceCtorEq, Int.reduceToNat, Int.reduceLT, Int.reduceLE, Int.reduceEq, Int.reduceNe, Int.reduceBEq, Nat.reduceBEq, Int.reduceBNe, Nat.reduceBNe, Int.reduceAdd, Int.reduceSub, Int.reduceMul, Int.reduceNeg]
    have hO : OwnS H (H.add b5 (.cells [] 66 0)) 66 2 (some ⟨b5, 0, none⟩) 0 [] := OwnS.new h_b5 (AH.le_refl _) rfl rfl rfl (by simp) (by simp)
    refine APD.growS (a := some a) (m := L.length) (c := cap) (R' := L.map enc) hO (AH.le_add (AH.le_refl _) ((by simp only [fresh_add, fresh_set, ne_eq, hn_b5, not_false_eq_true, and_self] : Fresh _ b5).2)) se_22 rfl (by decide) (by decide) (by rw [Try.underlying22]; rfl) rfl (by simp) (hs.add h_b5) (rowsS L) (flatS_scal L) (by omega) fun b' c' A hO' hK' hN' => ?_
    refine ⟨_, AH.le_refl _, ?_⟩
    
    simp (dsimp := false) (maxSteps := 4000000) only [Nat.zero_add, go_sem, ↓reduceIte, Nat.reduceEqDiff, Nat.reduceLT, Nat.reduceLeDiff, Nat.reduceAdd, Nat.reduceMul, Nat.reduceSub, reduceCtorEq, Int.reduceToNat, Int.reduceLT, Int.reduceLE, Int.reduceEq, Int.reduceNe, Int.reduceBEq, Nat.reduceBEq, Int.reduceBNe, Nat.reduceBNe, Int.reduceAdd, Int.reduceSub, Int.reduceMul, Int.reduceNeg]
    have hK := (Keep.refl.nw h_b5).ow hK' fun b ⟨a, ha, e⟩ => e ▸ hO.fresh a ha
    exact ⟨A, AH.le_refl _, b', c', rfl, by simpa using hO', hK⟩
def ansP (c : Int) (s : Slv) : Bool := s.name == 0 && decide (s.phys ≤ c)
def ans (L : List Slv) (c : Int) : Bool := L.any (ansP c)
theorem enc_mk (s : Slv) : enc s = [.int .u64 s.phys, .int .i64 s.name] := rfl
theorem ansP_c (s : Slv) (c : Int) (b : Nat) (H : AH) (hb : H.rd ⟨b, 0, none⟩ = some (.int .u64 c)) : ACalls Try.prog 74 (.agg (enc s).toArray :: [.pointer (some ⟨b, 0, none⟩)]).toArray H (fun v H' => v = .bool (ansP c s) ∧ H = H') := by
  refine ACalls.enter2 Try.func74 rfl Try.ntmps74 Try.results74 (by simp) ?_; simp (dsimp := false) (maxSteps := 4000000) only [enc_mk, go_sem, ↓reduceIte, Nat.reduceEqDiff, Nat.reduceLT, Nat.reduceLeDiff, Nat.reduceAdd, Nat.reduceMul, Nat.reduceSub, reduceCtorEq, Int.reduceToNat, Int.reduceLT, Int.reduceLE, Int.reduceEq, Int.reduceNe, Int.reduceBEq, Nat.reduceBEq, Int.reduceBNe, Nat.reduceBNe, Int.reduceAdd, Int.reduceSub, Int.reduceMul, Int.reduceNeg]
  refine AllB.mk fun b2 h_b2 => ?_; have hn_b2 := h_b2; (try simp only [fresh_add, fresh_set, ne_eq] at hn_b2); have hr_b2 := hn_b2; (try simp only [@eq_comm Nat b2] at hr_b2); simp (dsimp := false) (maxSteps := 4000000) only [enc_mk, hn_b2, hr_b2, go_sem, ↓reduceIte, Nat.reduceEqDiff, Nat.reduceLT, Nat.reduceLeDiff, Nat.reduceAdd, Nat.reduceMul, Nat.reduceSub, reduceCtorEq, Int.reduceToNat, Int.reduceLT, Int.reduceLE, Int.reduceEq, Int.reduceNe, Int.reduceBEq, Nat.reduceBEq, Int.reduceBNe, Nat.reduceBNe, Int.reduceAdd, Int.reduceSub, Int.reduceMul, Int.reduceNeg]
  have nr_hb := (Fresh.ne_rd (by simp only [hn_b2] : Fresh H b2) hb)
  by_cases h : s.name = 0
  · simp (dsimp := false) (maxSteps := 4000000) only [hb, nr_hb, h, enc_mk, hn_b2, hr_b2, go_sem, ↓reduceIte, Nat.reduceEqDiff, Nat.reduceLT, Nat.reduceLeDiff, Nat.reduceAdd, Nat.reduceMul, Nat.reduceSub, reduceCtorEq, Int.reduceToNat, Int.reduceLT, Int.reduceLE, Int.reduceEq, Int.reduceNe, Int.reduceBEq, Nat.reduceBEq, Int.reduceBNe, Nat.reduceBNe, Int.reduceAdd, Int.reduceSub, Int.reduceMul, Int.reduceNeg]
    exact ⟨H, (AH.le_add (AH.le_refl _) ((by simp only [fresh_add, fresh_set, ne_eq, hn_b2, not_false_eq_true, and_self] : Fresh _ b2).2)), (by first | exact ⟨by simp [ansP, h], rfl⟩ | rfl)⟩
  · simp (dsimp := false) (maxSteps := 4000000) only [h, enc_mk, hn_b2, hr_b2, go_sem, ↓reduceIte, Nat.reduceEqDiff, Nat.reduceLT, Nat.reduceLeDiff, Nat.reduceAdd, Nat.reduceMul, Nat.reduceSub, reduceCtorEq, Int.reduceToNat, Int.reduceLT, Int.reduceLE, Int.reduceEq, Int.reduceNe, Int.reduceBEq, Nat.reduceBEq, Int.reduceBNe, Nat.reduceBNe, Int.reduceAdd, Int.reduceSub, Int.reduceMul, Int.reduceNeg]
    exact ⟨H, (AH.le_add (AH.le_refl _) ((by simp only [fresh_add, fresh_set, ne_eq, hn_b2, not_false_eq_true, and_self] : Fresh _ b2).2)), (by first | exact ⟨by simp [ansP, h], rfl⟩ | rfl)⟩
theorem Answers_c (L : List Slv) (c : Int) (base : Option Addr) (cap : Nat) (H : AH) (hs : SlcIn H 2 base cap (L.map enc)) :
    ACalls Try.prog 24 #[.slice base L.length cap, .int .u64 c] H (fun v H' => v = .bool (ans L c) ∧ H = H') := by
  refine ACalls.enter2 Try.func24 rfl Try.ntmps24 Try.results24 (by simp) ?_; simp (dsimp := false) (maxSteps := 4000000) only [go_sem, ↓reduceIte, Nat.reduceEqDiff, Nat.reduceLT, Nat.reduceLeDiff, Nat.reduceAdd, Nat.reduceMul, Nat.reduceSub, reduceCtorEq, Int.reduceToNat, Int.reduceLT, Int.reduceLE, Int.reduceEq, Int.reduceNe, Int.reduceBEq, Nat.reduceBEq, Int.reduceBNe, Nat.reduceBNe, Int.reduceAdd, Int.reduceSub, Int.reduceMul, Int.reduceNeg]
  refine AllB.mk fun b3 h_b3 => ?_; have hn_b3 := h_b3; (try simp only [fresh_add, fresh_set, ne_eq] at hn_b3); have hr_b3 := hn_b3; (try simp only [@eq_comm Nat b3] at hr_b3); simp (dsimp := false) (maxSteps := 4000000) only [hn_b3, hr_b3, go_sem, ↓reduceIte, Nat.reduceEqDiff, Nat.reduceLT, Nat.reduceLeDiff, Nat.reduceAdd, Nat.reduceMul, Nat.reduceSub, reduceCtorEq, Int.reduceToNat, Int.reduceLT, Int.reduceLE, Int.reduceEq, Int.reduceNe, Int.reduceBEq, Nat.reduceBEq, Int.reduceBNe, Nat.reduceBNe, Int.reduceAdd, Int.reduceSub, Int.reduceMul, Int.reduceNeg]
  refine (ContainsFunc_c 74 [.pointer (some ⟨b3, 0, none⟩)] (by kernel_rfl) (ansP c) L base cap _ (hs.add h_b3) fun s _ => ansP_c s c b3 _ (by rw [rd_add_self]; rfl)).mono ?_; rintro _ _ ⟨rfl, rfl⟩
  simp (dsimp := false) (maxSteps := 4000000) only [hn_b3, hr_b3, go_sem, ↓reduceIte, Nat.reduceEqDiff, Nat.reduceLT, Nat.reduceLeDiff, Nat.reduceAdd, Nat.reduceMul, Nat.reduceSub, reduceCtorEq, Int.reduceToNat, Int.reduceLT, Int.reduceLE, Int.reduceEq, Int.reduceNe, Int.reduceBEq, Nat.reduceBEq, Int.reduceBNe, Nat.reduceBNe, Int.reduceAdd, Int.reduceSub, Int.reduceMul, Int.reduceNeg]
  exact ⟨H, (AH.le_add (AH.le_refl _) ((by simp only [fresh_add, fresh_set, ne_eq, hn_b3, not_false_eq_true, and_self] : Fresh _ b3).2)), (by first | exact ⟨rfl, rfl⟩ | rfl)⟩
theorem RefAnswers_c (L : List Slv) (c : Int) (base : Option Addr) (cap : Nat) (H : AH) (hs : SlcIn H 2 base cap (L.map enc)) :
    ACalls Try.prog 25 #[.slice base L.length cap, .int .u64 c] H (fun v H' => v = .bool (ans L c) ∧ H = H') := by
  have hbig := hs.big
  simp only [List.length_map] at hbig
  refine ACalls.enter2 Try.func25 rfl Try.ntmps25 Try.results25 (by simp) ?_; simp (dsimp := false) (maxSteps := 4000000) only [go_sem, ↓reduceIte, Nat.reduceEqDiff, Nat.reduceLT, Nat.reduceLeDiff, Nat.reduceAdd, Nat.reduceMul, Nat.reduceSub, reduceCtorEq, Int.reduceToNat, Int.reduceLT, Int.reduceLE, Int.reduceEq, Int.reduceNe, Int.reduceBEq, Nat.reduceBEq, Int.reduceBNe, Nat.reduceBNe, Int.reduceAdd, Int.reduceSub, Int.reduceMul, Int.reduceNeg]
  refine AWp.loopo (ι := Nat) (fun i => i ≤ L.length ∧ ∀ j, j < i → ∀ s, L[j]? = some s → ansP c s = false) (fun i => [(5, .int .i64 i), (0, .slice base L.length cap), (1, .int .u64 c)])
    (fun _ => H) (fun i => L.length - i) 0 ⟨by omega, fun j hj => by omega⟩ (FrLe.of_lks ?_) (AH.le_refl _) fun i hi Q again out => ?_
  · simp (dsimp := false) (maxSteps := 4000000) only [go_sem, ↓reduceIte, Nat.reduceEqDiff, Nat.reduceLT, Nat.reduceLeDiff, Nat.reduceAdd, Nat.reduceMul, Nat.reduceSub, reduceCtorEq, Int.reduceToNat, Int.reduceLT, Int.reduceLE, Int.reduceEq, Int.reduceNe, Int.reduceBEq, Nat.reduceBEq, Int.reduceBNe, Nat.reduceBNe, Int.reduceAdd, Int.reduceSub, Int.reduceMul, Int.reduceNeg]
  obtain ⟨hi, hall⟩ := hi
  by_cases h : (i : Int) < L.length
  · obtain ⟨s, hx⟩ := get_some (l := L) (i := i) (by omega)
    obtain ⟨b, o, rfl, hrow, hrd⟩ := hs.get (map_get (f := enc) hx)
    have r0 := hrd 0 _ rfl
    have r1 := hrd 1 _ rfl
    simp only [Nat.add_zero] at r0 r1
    have ee := i64_succ (i := i) (by omega)
    by_cases h0 : s.name = 0
    · by_cases h1 : s.phys ≤ c
      · have e : ans L c = true := List.any_eq_true.2 ⟨s, List.mem_of_getElem? hx, by simp [ansP, h0, h1]⟩
        simp (dsimp := false) (maxSteps := 4000000) only [h, r0, r1, h0, h1, go_sem, ↓reduceIte, Nat.reduceEqDiff, Nat.reduceLT, Nat.reduceLeDiff, Nat.reduceAdd, Nat.reduceMul, Nat.reduceSub, reduceCtorEq, Int.reduceToNat, Int.reduceLT, Int.reduceLE, Int.reduceEq, Int.reduceNe, Int.reduceBEq, Nat.reduceBEq, Int.reduceBNe, Nat.reduceBNe, Int.reduceAdd, Int.reduceSub, Int.reduceMul, Int.reduceNeg]
        refine out _ _ _ (by simp) ?_
        simp (dsimp := false) (maxSteps := 4000000) only [go_sem, ↓reduceIte, Nat.reduceEqDiff, Nat.reduceLT, Nat.reduceLeDiff, Nat.reduceAdd, Nat.reduceMul, Nat.reduceSub, reduceCtorEq, Int.reduceToNat, Int.reduceLT, Int.reduceLE, Int.reduceEq, Int.reduceNe, Int.reduceBEq, Nat.reduceBEq, Int.reduceBNe, Nat.reduceBNe, Int.reduceAdd, Int.reduceSub, Int.reduceMul, Int.reduceNeg]
        exact ⟨H, (AH.le_refl _), (by first | exact ⟨by rw [e], rfl⟩ | rfl)⟩
      · simp (dsimp := false) (maxSteps := 4000000) only [h, r0, r1, h0, h1, ee, go_sem, ↓reduceIte, Nat.reduceEqDiff, Nat.reduceLT, Nat.reduceLeDiff, Nat.reduceAdd, Nat.reduceMul, Nat.reduceSub, reduceCtorEq, Int.reduceToNat, Int.reduceLT, Int.reduceLE, Int.reduceEq, Int.reduceNe, Int.reduceBEq, Nat.reduceBEq, Int.reduceBNe, Nat.reduceBNe, Int.reduceAdd, Int.reduceSub, Int.reduceMul, Int.reduceNeg]
        refine again (i + 1) _ _ ⟨by omega, fun j hj m hm => ?_⟩ (FrLe.of_lks (by simp (dsimp := false) (maxSteps := 4000000) only [go_sem, ↓reduceIte, Nat.reduceEqDiff, Nat.reduceLT, Nat.reduceLeDiff, Nat.reduceAdd, Nat.reduceMul, Nat.reduceSub, reduceCtorEq, Int.reduceToNat, Int.reduceLT, Int.reduceLE, Int.reduceEq, Int.reduceNe, Int.reduceBEq, Nat.reduceBEq, Int.reduceBNe, Nat.reduceBNe, Int.reduceAdd, Int.reduceSub, Int.reduceMul, Int.reduceNeg])) (AH.le_refl _) (by omega)
        by_cases hji : j = i
        · subst hji; rw [hx] at hm; cases hm; simp [ansP, h1]
        · exact hall j (by omega) m hm
    · simp (dsimp := false) (maxSteps := 4000000) only [h, r1, h0, ee, go_sem, ↓reduceIte, Nat.reduceEqDiff, Nat.reduceLT, Nat.reduceLeDiff, Nat.reduceAdd, Nat.reduceMul, Nat.reduceSub, reduceCtorEq, Int.reduceToNat, Int.reduceLT, Int.reduceLE, Int.reduceEq, Int.reduceNe, Int.reduceBEq, Nat.reduceBEq, Int.reduceBNe, Nat.reduceBNe, Int.reduceAdd, Int.reduceSub, Int.reduceMul, Int.reduceNeg]
      refine again (i + 1) _ _ ⟨by omega, fun j hj m hm => ?_⟩ (FrLe.of_lks (by simp (dsimp := false) (maxSteps := 4000000) only [go_sem, ↓reduceIte, Nat.reduceEqDiff, Nat.reduceLT, Nat.reduceLeDiff, Nat.reduceAdd, Nat.reduceMul, Nat.reduceSub, reduceCtorEq, Int.reduceToNat, Int.reduceLT, Int.reduceLE, Int.reduceEq, Int.reduceNe, Int.reduceBEq, Nat.reduceBEq, Int.reduceBNe, Nat.reduceBNe, Int.reduceAdd, Int.reduceSub, Int.reduceMul, Int.reduceNeg])) (AH.le_refl _) (by omega)
      by_cases hji : j = i
      · subst hji; rw [hx] at hm; cases hm; simp [ansP, h0]
      · exact hall j (by omega) m hm
  · have e : ans L c = false := by
      rw [ans, List.any_eq_false]
      intro s hx
      obtain ⟨j, hj⟩ := List.mem_iff_getElem?.1 hx
      rw [hall j (by have := lt_of_get hj; omega) s hj]; simp
    simp (dsimp := false) (maxSteps := 4000000) only [h, go_sem, ↓reduceIte, Nat.reduceEqDiff, Nat.reduceLT, Nat.reduceLeDiff, Nat.reduceAdd, Nat.reduceMul, Nat.reduceSub, reduceCtorEq, Int.reduceToNat, Int.reduceLT, Int.reduceLE, Int.reduceEq, Int.reduceNe, Int.reduceBEq, Nat.reduceBEq, Int.reduceBNe, Nat.reduceBNe, Int.reduceAdd, Int.reduceSub, Int.reduceMul, Int.reduceNeg]
    refine out _ _ _ (by simp) ?_
    simp (dsimp := false) (maxSteps := 4000000) only [go_sem, ↓reduceIte, Nat.reduceEqDiff, Nat.reduceLT, Nat.reduceLeDiff, Nat.reduceAdd, Nat.reduceMul, Nat.reduceSub, reduceCtorEq, Int.reduceToNat, Int.reduceLT, Int.reduceLE, Int.reduceEq, Int.reduceNe, Int.reduceBEq, Nat.reduceBEq, Int.reduceBNe, Nat.reduceBNe, Int.reduceAdd, Int.reduceSub, Int.reduceMul, Int.reduceNeg]
    exact ⟨H, (AH.le_refl _), (by first | exact ⟨by rw [e], rfl⟩ | rfl)⟩
def encb (x : Bool) : List Value := [.bool x]
def gone (D : List Bool) (r : Nat) : Bool := D.getD r false
theorem gone_at {D : List Bool} {r : Nat} {x : Bool} (h : D[r]? = some x) : gone D r = x := by rw [gone, List.getD_eq_getElem?_getD, h]; rfl
theorem gone_no {D : List Bool} {r : Nat} (h : D.length ≤ r) : gone D r = false := by rw [gone, List.getD_eq_getElem?_getD, List.getElem?_eq_none h]; rfl
theorem gone_c (D : List Bool) (r : Nat) (base : Option Addr) (cap : Nat) (H : AH) (hs : SlcIn H 1 base cap (D.map encb)) :
    ACalls Try.prog 71 #[.slice base D.length cap, .int .i64 r] H (fun v H' => v = .bool (gone D r) ∧ H = H') := by
  refine ACalls.enter2 Try.func71 rfl Try.ntmps71 Try.results71 (by simp) ?_; simp (dsimp := false) (maxSteps := 4000000) only [go_sem, ↓reduceIte, Nat.reduceEqDiff, Nat.reduceLT, Nat.reduceLeDiff, Nat.reduceAdd, Nat.reduceMul, Nat.reduceSub, reduceCtorEq, Int.reduceToNat, Int.reduceLT, Int.reduceLE, Int.reduceEq, Int.reduceNe, Int.reduceBEq, Nat.reduceBEq, Int.reduceBNe, Nat.reduceBNe, Int.reduceAdd, Int.reduceSub, Int.reduceMul, Int.reduceNeg]
  by_cases h : (r : Int) < D.length
  · obtain ⟨x, hx⟩ := get_some (l := D) (i := r) (by omega)
    obtain ⟨b, o, rfl, hrow, hrd⟩ := hs.get (map_get (f := encb) hx)
    have r0 := hrd 0 _ rfl
    simp only [Nat.add_zero, Nat.mul_one] at r0
    simp (dsimp := false) (maxSteps := 4000000) only [h, r0, go_sem, ↓reduceIte, Nat.reduceEqDiff, Nat.reduceLT, Nat.reduceLeDiff, Nat.reduceAdd, Nat.reduceMul, Nat.reduceSub, reduceCtorEq, Int.reduceToNat, Int.reduceLT, Int.reduceLE, Int.reduceEq, Int.reduceNe, Int.reduceBEq, Nat.reduceBEq, Int.reduceBNe, Nat.reduceBNe, Int.reduceAdd, Int.reduceSub, Int.reduceMul, Int.reduceNeg]
    exact ⟨H, (AH.le_refl _), (by first | exact ⟨by rw [gone_at hx], rfl⟩ | rfl)⟩
  · simp (dsimp := false) (maxSteps := 4000000) only [h, go_sem, ↓reduceIte, Nat.reduceEqDiff, Nat.reduceLT, Nat.reduceLeDiff, Nat.reduceAdd, Nat.reduceMul, Nat.reduceSub, reduceCtorEq, Int.reduceToNat, Int.reduceLT, Int.reduceLE, Int.reduceEq, Int.reduceNe, Int.reduceBEq, Nat.reduceBEq, Int.reduceBNe, Nat.reduceBNe, Int.reduceAdd, Int.reduceSub, Int.reduceMul, Int.reduceNeg]
    exact ⟨H, (AH.le_refl _), (by first | exact ⟨by rw [gone_no (by omega)], rfl⟩ | rfl)⟩
theorem u64_eq {x : Int} (h0 : 0 ≤ x) (h1 : x < 18446744073709551616) : IntKind.u64.wrap x = x := by
  rw [show IntKind.u64.wrap x = x % 18446744073709551616 from rfl]; omega
theorem half_c (a b : Int) (a0 : 0 ≤ a) (a1 : a < 18446744073709551616) (b0 : 0 ≤ b) (b1 : b < 18446744073709551616) (H : AH) :
    ACalls Try.prog 72 #[.int .u64 a, .int .u64 b] H (fun v H' => v = .int .u64 ((a + b) / 2) ∧ H = H') := by
  by_cases h : b < a
  · have e1 : IntKind.u64.wrap (a - b) = a - b := u64_eq (by omega) (by omega)
    have e2 : (a - b).tdiv 2 = (a - b) / 2 := Int.tdiv_eq_ediv_of_nonneg (by omega)
    have e3 : IntKind.u64.wrap ((a - b) / 2) = (a - b) / 2 := u64_eq (by omega) (by omega)
    have e4 : IntKind.u64.wrap (b + (a - b) / 2) = (a + b) / 2 := by rw [u64_eq (by omega) (by omega)]; omega
    refine ACalls.enter2 Try.func72 rfl Try.ntmps72 Try.results72 (by simp) ?_; simp (dsimp := false) (maxSteps := 4000000) only [h, e1, e2, e3, e4, go_sem, ↓reduceIte, Nat.reduceEqDiff, Nat.reduceLT, Nat.reduceLeDiff, Nat.reduceAdd, Nat.reduceMul, Nat.reduceSub, reduceCtorEq, Int.reduceToNat, Int.reduceLT, Int.reduceLE, Int.reduceEq, Int.reduceNe, Int.reduceBEq, Nat.reduceBEq, Int.reduceBNe, Nat.reduceBNe, Int.reduceAdd, Int.reduceSub, Int.reduceMul, Int.reduceNeg]
    exact ⟨H, (AH.le_refl _), (by first | exact ⟨rfl, rfl⟩ | rfl)⟩
  · have e1 : IntKind.u64.wrap (b - a) = b - a := u64_eq (by omega) (by omega)
    have e2 : (b - a).tdiv 2 = (b - a) / 2 := Int.tdiv_eq_ediv_of_nonneg (by omega)
    have e3 : IntKind.u64.wrap ((b - a) / 2) = (b - a) / 2 := u64_eq (by omega) (by omega)
    have e4 : IntKind.u64.wrap (a + (b - a) / 2) = (a + b) / 2 := by rw [u64_eq (by omega) (by omega)]; omega
    refine ACalls.enter2 Try.func72 rfl Try.ntmps72 Try.results72 (by simp) ?_; simp (dsimp := false) (maxSteps := 4000000) only [h, e1, e2, e3, e4, go_sem, ↓reduceIte, Nat.reduceEqDiff, Nat.reduceLT, Nat.reduceLeDiff, Nat.reduceAdd, Nat.reduceMul, Nat.reduceSub, reduceCtorEq, Int.reduceToNat, Int.reduceLT, Int.reduceLE, Int.reduceEq, Int.reduceNe, Int.reduceBEq, Nat.reduceBEq, Int.reduceBNe, Nat.reduceBNe, Int.reduceAdd, Int.reduceSub, Int.reduceMul, Int.reduceNeg]
    exact ⟨H, (AH.le_refl _), (by first | exact ⟨rfl, rfl⟩ | rfl)⟩
/-- The master's block. -/
def mst (lb : Option Addr) (ln lc : Nat) (db : Option Addr) (dn dc : Nat) (r : Nat) : ABlk := .cells [.slice lb ln lc, .slice db dn dc, .int .i64 r] 106 3
theorem heard_c (ln : Nat) (lb : Option Addr) (lc : Nat) (D : List Bool) (db : Option Addr) (dc bm r : Nat) (x : Bool) (A : AH) (hm : A.find bm = some (mst lb ln lc db D.length dc r)) (hD : SlcIn A 1 db dc (D.map encb)) (hr : r < 1000000000) :
    ACalls Try.prog 98 #[.pointer (some ⟨bm, 0, none⟩), .bool x] A (fun v H' => v = .bool (x && !gone D r) ∧ (A.del bm).add bm (mst lb ln lc db D.length dc (r + 1)) = H') := by
  have hD' := hD.keep (Keep.top1 hm) fun _ _ h => h
  unfold mst at hm hD' ⊢
  refine ACalls.at hm ?_
  have ee := i64_succ (i := r) (by omega)
  generalize (A.del bm) = B at hD' ⊢
  refine ACalls.enter2 Try.func98 rfl Try.ntmps98 Try.results98 (by simp) ?_; simp (dsimp := false) (maxSteps := 4000000) only [ee, go_sem, ↓reduceIte, Nat.reduceEqDiff, Nat.reduceLT, Nat.reduceLeDiff, Nat.reduceAdd, Nat.reduceMul, Nat.reduceSub, reduceCtorEq, Int.reduceToNat, Int.reduceLT, Int.reduceLE, Int.reduceEq, Int.reduceNe, Int.reduceBEq, Nat.reduceBEq, Int.reduceBNe, Nat.reduceBNe, Int.reduceAdd, Int.reduceSub, Int.reduceMul, Int.reduceNeg]
  refine AWp.gen [.pu, .pu, .pu, .rd, .pu, .pu, .pu, .rd, .pu, .pu, .pu, .pu, .pu, .pu, .rd, .pu, .pu, .pu, .rd, .pu, .rd, .pu, .pu] [0, 1, 3, 7, 0, 16, 48, 112, 240, 511, 1023, 2047, 4095, 8191, 16383, 2047, 34815, 100351, 231423, 524287, 1048575, 2097151, 4194303] 0 (_) mixed (by kernel_rfl) (AH.le_refl _) ?_
  by_cases h : (r : Int) < D.length
  · obtain ⟨y, hx⟩ := get_some (l := D) (i := r) (by omega)
    obtain ⟨b, o, rfl, hrow, hrd⟩ := hD'.get (map_get (f := encb) hx)
    have r0 := hrd 0 _ rfl
    simp only [Nat.add_zero, Nat.mul_one] at r0
    have hg := gone_at hx
    cases x with
    | false =>
      simp (dsimp := false) (maxSteps := 4000000) only [h, r0, ee, go_sem, ↓reduceIte, Nat.reduceEqDiff, Nat.reduceLT, Nat.reduceLeDiff, Nat.reduceAdd, Nat.reduceMul, Nat.reduceSub, reduceCtorEq, Int.reduceToNat, Int.reduceLT, Int.reduceLE, Int.reduceEq, Int.reduceNe, Int.reduceBEq, Nat.reduceBEq, Int.reduceBNe, Nat.reduceBNe, Int.reduceAdd, Int.reduceSub, Int.reduceMul, Int.reduceNeg]
      exact ⟨_, AH.le_refl _, by simp⟩
    | true =>
      simp (dsimp := false) (maxSteps := 4000000) only [h, r0, ee, go_sem, ↓reduceIte, Nat.reduceEqDiff, Nat.reduceLT, Nat.reduceLeDiff, Nat.reduceAdd, Nat.reduceMul, Nat.reduceSub, reduceCtorEq, Int.reduceToNat, Int.reduceLT, Int.reduceLE, Int.reduceEq, Int.reduceNe, Int.reduceBEq, Nat.reduceBEq, Int.reduceBNe, Nat.reduceBNe, Int.reduceAdd, Int.reduceSub, Int.reduceMul, Int.reduceNeg]
      exact ⟨_, AH.le_refl _, by simp [hg]⟩
  · have hg := gone_no (D := D) (r := r) (by omega)
    cases x with
    | false =>
      simp (dsimp := false) (maxSteps := 4000000) only [h, ee, go_sem, ↓reduceIte, Nat.reduceEqDiff, Nat.reduceLT, Nat.reduceLeDiff, Nat.reduceAdd, Nat.reduceMul, Nat.reduceSub, reduceCtorEq, Int.reduceToNat, Int.reduceLT, Int.reduceLE, Int.reduceEq, Int.reduceNe, Int.reduceBEq, Nat.reduceBEq, Int.reduceBNe, Nat.reduceBNe, Int.reduceAdd, Int.reduceSub, Int.reduceMul, Int.reduceNeg]
      exact ⟨_, AH.le_refl _, by simp⟩
    | true =>
      simp (dsimp := false) (maxSteps := 4000000) only [h, ee, go_sem, ↓reduceIte, Nat.reduceEqDiff, Nat.reduceLT, Nat.reduceLeDiff, Nat.reduceAdd, Nat.reduceMul, Nat.reduceSub, reduceCtorEq, Int.reduceToNat, Int.reduceLT, Int.reduceLE, Int.reduceEq, Int.reduceNe, Int.reduceBEq, Nat.reduceBEq, Int.reduceBNe, Nat.reduceBNe, Int.reduceAdd, Int.reduceSub, Int.reduceMul, Int.reduceNeg]
      exact ⟨_, AH.le_refl _, by simp [hg]⟩
end Go.Proofs.Ytgikjbfpckjkoaa.BapN
