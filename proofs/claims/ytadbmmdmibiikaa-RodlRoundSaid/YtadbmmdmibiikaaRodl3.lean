/- rodl: what a table is; some, few, Same. -/
import Derived.Test.YtadbmmdmibiikaaRodl2
namespace Go.Proofs.Ytadbmmdmibiikaa.Rodl
set_option linter.unusedSimpArgs false
set_option linter.unusedVariables false
open Go Go.AX Go.Proofs Ty Go.Proofs.Ytadbmmdmibiikaa.File
set_option maxHeartbeats 4000000
set_option maxRecDepth 10000

theorem rows5 (L : List En) : ∀ r ∈ L.map encE, r.length = 5 := fun r hr => by
  obtain ⟨w, _, rfl⟩ := List.mem_map.1 hr
  rfl
theorem scal5 (l : List En) : ((l.map encE).flatten).all scal = true := by
  rw [List.all_flatten, List.all_map, List.all_eq_true]
  intro r _; rfl
theorem encE_len (x : En) : (encE x).length = 5 := rfl
theorem encE_scal (x : En) : (encE x).all scal = true := rfl
theorem encE_mk (k s f r b : Int) : encE (k, s, f, r, b) = [.int .i64 k, .int .i64 s, .int .i64 f, .int .i64 r, .int .i64 b] := rfl
theorem flat5 (L : List En) : (L.map encE).flatten.length = L.length * 5 := by rw [flat_len (rows5 L), List.length_map]
def prv (L : List En) (i : Nat) : Int := if i = 0 then 0 else (L.getD (i - 1) ze).2.1
def chk (L : List En) (i : Nat) : Bool := match L[i]? with
  | none => true
  | some x => goodE x && !(decide (x.1 = 4)) && decide (prv L i < x.2.1)
def mayB (L : List En) : Bool := (List.range L.length).all (chk L) && decide (L.length ≤ 64)
theorem mayB_no {L : List En} {i : Nat} (hi : i < L.length) (h : chk L i = false) : mayB L = false := by
  have : (List.range L.length).all (chk L) = false := by
    rw [List.all_eq_false]
    exact ⟨i, List.mem_range.2 hi, by rw [h]; simp⟩
  rw [mayB, this]; rfl
theorem mayB_yes {L : List En} {i : Nat} (hi : L.length ≤ i) (h : ∀ j, j < i → chk L j = true) : mayB L = decide (L.length ≤ 64) := by
  have : (List.range L.length).all (chk L) = true := by
    rw [List.all_eq_true]
    exact fun j hj => h j (by have := List.mem_range.1 hj; omega)
  rw [mayB, this, Bool.true_and]
theorem prv_succ {L : List En} {i : Nat} {x : En} (h : L[i]? = some x) : prv L (i + 1) = x.2.1 := by
  rw [prv, if_neg (by omega), Nat.add_sub_cancel, List.getD_eq_getElem?_getD, h]; rfl
theorem table_c (L : List En) (base : Option Addr) (cap : Nat) (H : AH) (hs : SlcIn H 5 base cap (L.map encE)) :
    ACalls Try.prog 86 #[.slice base L.length cap] H (fun v H' => v = .bool (mayB L) ∧ H = H') := by
  have hbig := hs.big
  simp only [List.length_map] at hbig
  refine ACalls.enter2 Try.func86 rfl Try.ntmps86 Try.results86 (by simp) ?_; simp (dsimp := false) (maxSteps := 4000000) only [encE_len, encE_scal, go_sem, ↓reduceIte, Nat.reduceEqDiff, Nat.reduceLT, Nat.reduceLeDiff, Nat.reduceAdd, Nat.reduceMul, Nat.reduceSub, reduceCtorEq, Int.reduceToNat, Int.reduceLT, Int.reduceLE, Int.reduceEq, Int.reduceNe, Int.reduceBEq, Nat.reduceBEq, Int.reduceBNe, Nat.reduceBNe, Int.reduceAdd, Int.reduceSub, Int.reduceMul, Int.reduceNeg]
  refine AWp.loopo (ι := Nat) (fun i => i ≤ L.length ∧ ∀ j, j < i → chk L j = true) (fun i => [(8, .int .i64 i), (7, .int .i64 L.length), (6, .slice base L.length cap), (0, .slice base L.length cap), (3, .int .i64 (prv L i))])
    (fun _ => H) (fun i => L.length - i) 0 ⟨by omega, fun j hj => by omega⟩ (FrLe.of_lks ?_) (AH.le_refl _) fun i hi Q again out => ?_
  · simp (dsimp := false) (maxSteps := 4000000) only [show prv L 0 = 0 from rfl, encE_len, encE_scal, go_sem, ↓reduceIte, Nat.reduceEqDiff, Nat.reduceLT, Nat.reduceLeDiff, Nat.reduceAdd, Nat.reduceMul, Nat.reduceSub, reduceCtorEq, Int.reduceToNat, Int.reduceLT, Int.reduceLE, Int.reduceEq, Int.reduceNe, Int.reduceBEq, Nat.reduceBEq, Int.reduceBNe, Nat.reduceBNe, Int.reduceAdd, Int.reduceSub, Int.reduceMul, Int.reduceNeg]
  · obtain ⟨hi, hall⟩ := hi
    by_cases h : (i : Int) < L.length
    · obtain ⟨⟨k, s, f, r, y⟩, hn⟩ := get_some (l := L) (i := i) (by omega)
      obtain ⟨b, o, rfl, hrow, _⟩ := hs.get (map_get (f := encE) hn)
      rw [encE_mk] at hrow
      have ee := i64_succ (i := i) (by omega)
      have hps := prv_succ hn
      have hc : chk L i = (goodE (k, s, f, r, y) && !(decide (k = 4)) && decide (prv L i < s)) := by rw [chk, hn]
      
      simp (dsimp := false) (maxSteps := 4000000) only [h, hrow, encE_len, encE_scal, go_sem, ↓reduceIte, Nat.reduceEqDiff, Nat.reduceLT, Nat.reduceLeDiff, Nat.reduceAdd, Nat.reduceMul, Nat.reduceSub, reduceCtorEq, Int.reduceToNat, Int.reduceLT, Int.reduceLE, Int.reduceEq, Int.reduceNe, Int.reduceBEq, Nat.reduceBEq, Int.reduceBNe, Nat.reduceBNe, Int.reduceAdd, Int.reduceSub, Int.reduceMul, Int.reduceNeg]
      refine AllB.mk fun b5 h_b5 => ?_; have hn_b5 := h_b5; (try simp only [fresh_add, fresh_set, ne_eq] at hn_b5); have hr_b5 := hn_b5; (try simp only [@eq_comm Nat b5] at hr_b5); simp (dsimp := false) (maxSteps := 4000000) only [encE_len, encE_scal, hn_b5, hr_b5, go_sem, ↓reduceIte, Nat.reduceEqDiff, Nat.reduceLT, Nat.reduceLeDiff, Nat.reduceAdd, Nat.reduceMul, Nat.reduceSub, reduceCtorEq, Int.reduceToNat, Int.reduceLT, Int.reduceLE, Int.reduceEq, Int.reduceNe, Int.reduceBEq, Nat.reduceBEq, Int.reduceBNe, Nat.reduceBNe, Int.reduceAdd, Int.reduceSub, Int.reduceMul, Int.reduceNeg]
      refine (Good_c k s f r y _).mono ?_; rintro _ _ ⟨rfl, rfl⟩
      cases g : goodE (k, s, f, r, y) with
      | false =>
        simp (dsimp := false) (maxSteps := 4000000) only [encE_len, encE_scal, hn_b5, hr_b5, go_sem, ↓reduceIte, Nat.reduceEqDiff, Nat.reduceLT, Nat.reduceLeDiff, Nat.reduceAdd, Nat.reduceMul, Nat.reduceSub, reduceCtorEq, Int.reduceToNat, Int.reduceLT, Int.reduceLE, Int.reduceEq, Int.reduceNe, Int.reduceBEq, Nat.reduceBEq, Int.reduceBNe, Nat.reduceBNe, Int.reduceAdd, Int.reduceSub, Int.reduceMul, Int.reduceNeg]
        refine out _ _ _ (by simp) ?_
        simp (dsimp := false) (maxSteps := 4000000) only [encE_len, encE_scal, hn_b5, hr_b5, go_sem, ↓reduceIte, Nat.reduceEqDiff, Nat.reduceLT, Nat.reduceLeDiff, Nat.reduceAdd, Nat.reduceMul, Nat.reduceSub, reduceCtorEq, Int.reduceToNat, Int.reduceLT, Int.reduceLE, Int.reduceEq, Int.reduceNe, Int.reduceBEq, Nat.reduceBEq, Int.reduceBNe, Nat.reduceBNe, Int.reduceAdd, Int.reduceSub, Int.reduceMul, Int.reduceNeg]
        exact ⟨H, (AH.le_add (AH.le_refl _) ((by simp only [fresh_add, fresh_set, ne_eq, hn_b5, not_false_eq_true, and_self] : Fresh _ b5).2)), (by first | exact ⟨by rw [mayB_no (i := i) (by omega) (by rw [hc, g]; rfl)], rfl⟩ | rfl)⟩
      | true =>
        by_cases k4 : k = 4
        · simp (dsimp := false) (maxSteps := 4000000) only [k4, encE_len, encE_scal, hn_b5, hr_b5, go_sem, ↓reduceIte, Nat.reduceEqDiff, Nat.reduceLT, Nat.reduceLeDiff, Nat.reduceAdd, Nat.reduceMul, Nat.reduceSub, reduceCtorEq, Int.reduceToNat, Int.reduceLT, Int.reduceLE, Int.reduceEq, Int.reduceNe, Int.reduceBEq, Nat.reduceBEq, Int.reduceBNe, Nat.reduceBNe, Int.reduceAdd, Int.reduceSub, Int.reduceMul, Int.reduceNeg]
          refine out _ _ _ (by simp) ?_
          simp (dsimp := false) (maxSteps := 4000000) only [encE_len, encE_scal, hn_b5, hr_b5, go_sem, ↓reduceIte, Nat.reduceEqDiff, Nat.reduceLT, Nat.reduceLeDiff, Nat.reduceAdd, Nat.reduceMul, Nat.reduceSub, reduceCtorEq, Int.reduceToNat, Int.reduceLT, Int.reduceLE, Int.reduceEq, Int.reduceNe, Int.reduceBEq, Nat.reduceBEq, Int.reduceBNe, Nat.reduceBNe, Int.reduceAdd, Int.reduceSub, Int.reduceMul, Int.reduceNeg]
          exact ⟨H, (AH.le_add (AH.le_refl _) ((by simp only [fresh_add, fresh_set, ne_eq, hn_b5, not_false_eq_true, and_self] : Fresh _ b5).2)), (by first | exact ⟨by rw [mayB_no (i := i) (by omega) (by rw [hc, decide_eq_true k4]; simp)], rfl⟩ | rfl)⟩
        by_cases c : s ≤ prv L i
        · simp (dsimp := false) (maxSteps := 4000000) only [k4, c, encE_len, encE_scal, hn_b5, hr_b5, go_sem, ↓reduceIte, Nat.reduceEqDiff, Nat.reduceLT, Nat.reduceLeDiff, Nat.reduceAdd, Nat.reduceMul, Nat.reduceSub, reduceCtorEq, Int.reduceToNat, Int.reduceLT, Int.reduceLE, Int.reduceEq, Int.reduceNe, Int.reduceBEq, Nat.reduceBEq, Int.reduceBNe, Nat.reduceBNe, Int.reduceAdd, Int.reduceSub, Int.reduceMul, Int.reduceNeg]
          refine out _ _ _ (by simp) ?_
          simp (dsimp := false) (maxSteps := 4000000) only [encE_len, encE_scal, hn_b5, hr_b5, go_sem, ↓reduceIte, Nat.reduceEqDiff, Nat.reduceLT, Nat.reduceLeDiff, Nat.reduceAdd, Nat.reduceMul, Nat.reduceSub, reduceCtorEq, Int.reduceToNat, Int.reduceLT, Int.reduceLE, Int.reduceEq, Int.reduceNe, Int.reduceBEq, Nat.reduceBEq, Int.reduceBNe, Nat.reduceBNe, Int.reduceAdd, Int.reduceSub, Int.reduceMul, Int.reduceNeg]
          exact ⟨H, (AH.le_add (AH.le_refl _) ((by simp only [fresh_add, fresh_set, ne_eq, hn_b5, not_false_eq_true, and_self] : Fresh _ b5).2)), (by first | exact ⟨by rw [mayB_no (i := i) (by omega) (by rw [hc, decide_eq_false (p := prv L i < s) (by omega)]; simp)], rfl⟩ | rfl)⟩
        simp (dsimp := false) (maxSteps := 4000000) only [k4, c, ee, encE_len, encE_scal, hn_b5, hr_b5, go_sem, ↓reduceIte, Nat.reduceEqDiff, Nat.reduceLT, Nat.reduceLeDiff, Nat.reduceAdd, Nat.reduceMul, Nat.reduceSub, reduceCtorEq, Int.reduceToNat, Int.reduceLT, Int.reduceLE, Int.reduceEq, Int.reduceNe, Int.reduceBEq, Nat.reduceBEq, Int.reduceBNe, Nat.reduceBNe, Int.reduceAdd, Int.reduceSub, Int.reduceMul, Int.reduceNeg]
        refine again (i + 1) _ _ ⟨by omega, fun j hj => ?_⟩ (FrLe.of_lks (by simp (dsimp := false) (maxSteps := 4000000) only [hps, encE_len, encE_scal, hn_b5, hr_b5, go_sem, ↓reduceIte, Nat.reduceEqDiff, Nat.reduceLT, Nat.reduceLeDiff, Nat.reduceAdd, Nat.reduceMul, Nat.reduceSub, reduceCtorEq, Int.reduceToNat, Int.reduceLT, Int.reduceLE, Int.reduceEq, Int.reduceNe, Int.reduceBEq, Nat.reduceBEq, Int.reduceBNe, Nat.reduceBNe, Int.reduceAdd, Int.reduceSub, Int.reduceMul, Int.reduceNeg])) (by (repeat (first | exact AH.le_refl _ | refine AH.le_add ?_ ?_)); all_goals (first | exact AH.le_refl _ | (show AH.find _ _ = _; simp only [find_add_self, find_add_ne, find_fresh, fresh_add, ne_eq, not_false_eq_true, true_and, and_true, and_self, encE_len, encE_scal, hn_b5, hr_b5]))) (by omega)
        by_cases hji : j = i
        · subst hji; rw [hc, g, decide_eq_false k4, decide_eq_true (by omega)]; rfl
        · exact hall j (by omega)
      
    · have hy := mayB_yes (by omega) hall
      simp (dsimp := false) (maxSteps := 4000000) only [h, encE_len, encE_scal, go_sem, ↓reduceIte, Nat.reduceEqDiff, Nat.reduceLT, Nat.reduceLeDiff, Nat.reduceAdd, Nat.reduceMul, Nat.reduceSub, reduceCtorEq, Int.reduceToNat, Int.reduceLT, Int.reduceLE, Int.reduceEq, Int.reduceNe, Int.reduceBEq, Nat.reduceBEq, Int.reduceBNe, Nat.reduceBNe, Int.reduceAdd, Int.reduceSub, Int.reduceMul, Int.reduceNeg]
      refine out _ _ _ (by simp) ?_
      by_cases c : (L.length : Int) ≤ 64
      · simp (dsimp := false) (maxSteps := 4000000) only [c, encE_len, encE_scal, go_sem, ↓reduceIte, Nat.reduceEqDiff, Nat.reduceLT, Nat.reduceLeDiff, Nat.reduceAdd, Nat.reduceMul, Nat.reduceSub, reduceCtorEq, Int.reduceToNat, Int.reduceLT, Int.reduceLE, Int.reduceEq, Int.reduceNe, Int.reduceBEq, Nat.reduceBEq, Int.reduceBNe, Nat.reduceBNe, Int.reduceAdd, Int.reduceSub, Int.reduceMul, Int.reduceNeg]
        exact ⟨H, (AH.le_refl _), (by first | exact ⟨by rw [hy, decide_eq_true (by omega)], rfl⟩ | rfl)⟩
      · simp (dsimp := false) (maxSteps := 4000000) only [c, encE_len, encE_scal, go_sem, ↓reduceIte, Nat.reduceEqDiff, Nat.reduceLT, Nat.reduceLeDiff, Nat.reduceAdd, Nat.reduceMul, Nat.reduceSub, reduceCtorEq, Int.reduceToNat, Int.reduceLT, Int.reduceLE, Int.reduceEq, Int.reduceNe, Int.reduceBEq, Nat.reduceBEq, Int.reduceBNe, Nat.reduceBNe, Int.reduceAdd, Int.reduceSub, Int.reduceMul, Int.reduceNeg]
        exact ⟨H, (AH.le_refl _), (by first | exact ⟨by rw [hy, decide_eq_false (by omega)], rfl⟩ | rfl)⟩
theorem May_c (L : List En) (base : Option Addr) (cap : Nat) (H : AH) (hs : SlcIn H 5 base cap (L.map encE)) :
    ACalls Try.prog 88 #[.slice base L.length cap] H (fun v H' => v = .bool (mayB L) ∧ H = H') := by
  have hbig := hs.big
  simp only [List.length_map] at hbig
  refine ACalls.enter2 Try.func88 rfl Try.ntmps88 Try.results88 (by simp) ?_; simp (dsimp := false) (maxSteps := 4000000) only [encE_len, encE_scal, go_sem, ↓reduceIte, Nat.reduceEqDiff, Nat.reduceLT, Nat.reduceLeDiff, Nat.reduceAdd, Nat.reduceMul, Nat.reduceSub, reduceCtorEq, Int.reduceToNat, Int.reduceLT, Int.reduceLE, Int.reduceEq, Int.reduceNe, Int.reduceBEq, Nat.reduceBEq, Int.reduceBNe, Nat.reduceBNe, Int.reduceAdd, Int.reduceSub, Int.reduceMul, Int.reduceNeg]
  refine AWp.loopo (ι := Nat) (fun i => i ≤ L.length ∧ ∀ j, j < i → chk L j = true) (fun i => [(3, .int .i64 i), (0, .slice base L.length cap)])
    (fun _ => H) (fun i => L.length - i) 0 ⟨by omega, fun j hj => by omega⟩ (FrLe.of_lks ?_) (AH.le_refl _) fun i hi Q again out => ?_
  · simp (dsimp := false) (maxSteps := 4000000) only [encE_len, encE_scal, go_sem, ↓reduceIte, Nat.reduceEqDiff, Nat.reduceLT, Nat.reduceLeDiff, Nat.reduceAdd, Nat.reduceMul, Nat.reduceSub, reduceCtorEq, Int.reduceToNat, Int.reduceLT, Int.reduceLE, Int.reduceEq, Int.reduceNe, Int.reduceBEq, Nat.reduceBEq, Int.reduceBNe, Nat.reduceBNe, Int.reduceAdd, Int.reduceSub, Int.reduceMul, Int.reduceNeg]
  · obtain ⟨hi, hall⟩ := hi
    by_cases h : (i : Int) < L.length
    · obtain ⟨⟨k, s, f, r, y⟩, hn⟩ := get_some (l := L) (i := i) (by omega)
      obtain ⟨b, o, rfl, hrow, hrd⟩ := hs.get (map_get (f := encE) hn)
      have r0 := hrd 0 _ rfl
      have r1 := hrd 1 _ rfl
      simp only [encE_mk, Nat.add_zero] at r0 r1
      rw [encE_mk] at hrow
      have ee := i64_succ (i := i) (by omega)
      have hc : chk L i = (goodE (k, s, f, r, y) && !(decide (k = 4)) && decide (prv L i < s)) := by rw [chk, hn]
      simp (dsimp := false) (maxSteps := 4000000) only [h, encE_len, encE_scal, go_sem, ↓reduceIte, Nat.reduceEqDiff, Nat.reduceLT, Nat.reduceLeDiff, Nat.reduceAdd, Nat.reduceMul, Nat.reduceSub, reduceCtorEq, Int.reduceToNat, Int.reduceLT, Int.reduceLE, Int.reduceEq, Int.reduceNe, Int.reduceBEq, Nat.reduceBEq, Int.reduceBNe, Nat.reduceBNe, Int.reduceAdd, Int.reduceSub, Int.reduceMul, Int.reduceNeg]
      refine AWp.gen [.pu, .pu, .pu, .rd, .ch, .pu, .pu, .pu, .pu, .pu, .pu, .rd, .pu, .pu, .pu, .pu, .pu, .pu, .pu, .pu, .pu, .pu, .rd, .pu, .pu, .pu, .pu, .pu, .rd, .pu, .pu, .pu] [0, 0, 3, 7, 15, 31, 63, 127, 127, 511, 1023, 2047, 4095, 8191, 16383, 32767, 65535, 131071, 262143, 262143, 1048575, 2097151, 4194303, 262143, 262143, 17039359, 58982399, 126091263, 260308991, 536870911, 1073741823, 2147483647] 5 (_) mixed (by kernel_rfl) (AH.le_refl _) ?_
      simp (dsimp := false) (maxSteps := 4000000) only [h, hrow, AH.le_refl, encE_len, encE_scal, go_sem, ↓reduceIte, Nat.reduceEqDiff, Nat.reduceLT, Nat.reduceLeDiff, Nat.reduceAdd, Nat.reduceMul, Nat.reduceSub, reduceCtorEq, Int.reduceToNat, Int.reduceLT, Int.reduceLE, Int.reduceEq, Int.reduceNe, Int.reduceBEq, Nat.reduceBEq, Int.reduceBNe, Nat.reduceBNe, Int.reduceAdd, Int.reduceSub, Int.reduceMul, Int.reduceNeg]
      refine (RefGood_c k s f r y _).mono ?_; rintro _ _ ⟨rfl, rfl⟩
      cases g : goodE (k, s, f, r, y) with
      | false =>
        simp (dsimp := false) (maxSteps := 4000000) only [AH.le_refl, encE_len, encE_scal, go_sem, ↓reduceIte, Nat.reduceEqDiff, Nat.reduceLT, Nat.reduceLeDiff, Nat.reduceAdd, Nat.reduceMul, Nat.reduceSub, reduceCtorEq, Int.reduceToNat, Int.reduceLT, Int.reduceLE, Int.reduceEq, Int.reduceNe, Int.reduceBEq, Nat.reduceBEq, Int.reduceBNe, Nat.reduceBNe, Int.reduceAdd, Int.reduceSub, Int.reduceMul, Int.reduceNeg]
        refine out _ _ _ (by simp) ?_
        simp (dsimp := false) (maxSteps := 4000000) only [encE_len, encE_scal, go_sem, ↓reduceIte, Nat.reduceEqDiff, Nat.reduceLT, Nat.reduceLeDiff, Nat.reduceAdd, Nat.reduceMul, Nat.reduceSub, reduceCtorEq, Int.reduceToNat, Int.reduceLT, Int.reduceLE, Int.reduceEq, Int.reduceNe, Int.reduceBEq, Nat.reduceBEq, Int.reduceBNe, Nat.reduceBNe, Int.reduceAdd, Int.reduceSub, Int.reduceMul, Int.reduceNeg]
        exact ⟨H, (AH.le_refl _), (by first | exact ⟨by rw [mayB_no (i := i) (by omega) (by rw [hc, g]; rfl)], rfl⟩ | rfl)⟩
      | true =>
        by_cases k4 : k = 4
        · simp (dsimp := false) (maxSteps := 4000000) only [k4, AH.le_refl, h, r0, encE_len, encE_scal, go_sem, ↓reduceIte, Nat.reduceEqDiff, Nat.reduceLT, Nat.reduceLeDiff, Nat.reduceAdd, Nat.reduceMul, Nat.reduceSub, reduceCtorEq, Int.reduceToNat, Int.reduceLT, Int.reduceLE, Int.reduceEq, Int.reduceNe, Int.reduceBEq, Nat.reduceBEq, Int.reduceBNe, Nat.reduceBNe, Int.reduceAdd, Int.reduceSub, Int.reduceMul, Int.reduceNeg]
          refine out _ _ _ (by simp) ?_
          simp (dsimp := false) (maxSteps := 4000000) only [encE_len, encE_scal, go_sem, ↓reduceIte, Nat.reduceEqDiff, Nat.reduceLT, Nat.reduceLeDiff, Nat.reduceAdd, Nat.reduceMul, Nat.reduceSub, reduceCtorEq, Int.reduceToNat, Int.reduceLT, Int.reduceLE, Int.reduceEq, Int.reduceNe, Int.reduceBEq, Nat.reduceBEq, Int.reduceBNe, Nat.reduceBNe, Int.reduceAdd, Int.reduceSub, Int.reduceMul, Int.reduceNeg]
          exact ⟨H, (AH.le_refl _), (by first | exact ⟨by rw [mayB_no (i := i) (by omega) (by rw [hc, decide_eq_true k4]; simp)], rfl⟩ | rfl)⟩
        by_cases i0 : i = 0
        · have z : ¬ (0 : Int) < (i : Int) := by omega
          have pz : prv L i = 0 := by rw [prv, if_pos i0]
          have hs1 : 1 ≤ s := by
            simp only [goodE] at g
            rw [if_neg k4] at g
            simp only [placeB, Bool.and_eq_true, decide_eq_true_eq] at g
            omega
          simp (dsimp := false) (maxSteps := 4000000) only [k4, AH.le_refl, h, r0, z, ee, encE_len, encE_scal, go_sem, ↓reduceIte, Nat.reduceEqDiff, Nat.reduceLT, Nat.reduceLeDiff, Nat.reduceAdd, Nat.reduceMul, Nat.reduceSub, reduceCtorEq, Int.reduceToNat, Int.reduceLT, Int.reduceLE, Int.reduceEq, Int.reduceNe, Int.reduceBEq, Nat.reduceBEq, Int.reduceBNe, Nat.reduceBNe, Int.reduceAdd, Int.reduceSub, Int.reduceMul, Int.reduceNeg]
          refine again (i + 1) _ _ ⟨by omega, fun j hj => ?_⟩ (FrLe.of_lks (by simp (dsimp := false) (maxSteps := 4000000) only [encE_len, encE_scal, go_sem, ↓reduceIte, Nat.reduceEqDiff, Nat.reduceLT, Nat.reduceLeDiff, Nat.reduceAdd, Nat.reduceMul, Nat.reduceSub, reduceCtorEq, Int.reduceToNat, Int.reduceLT, Int.reduceLE, Int.reduceEq, Int.reduceNe, Int.reduceBEq, Nat.reduceBEq, Int.reduceBNe, Nat.reduceBNe, Int.reduceAdd, Int.reduceSub, Int.reduceMul, Int.reduceNeg])) (AH.le_refl _) (by omega)
          obtain rfl : j = i := by omega
          rw [hc, g, decide_eq_false k4, decide_eq_true (p := prv L j < s) (by omega)]; rfl
        · have ip : (0 : Int) < (i : Int) := by omega
          obtain ⟨x', hn'⟩ := get_some (l := L) (i := i - 1) (by omega)
          obtain ⟨b', o', hb', _, hrd'⟩ := hs.get (map_get (f := encE) hn')
          cases hb'
          have r1' := hrd' 1 _ rfl
          have em : IntKind.i64.wrap ((i : Int) - 1) = ((i - 1 : Nat) : Int) := by rw [i64_eq (by omega) (by omega)]; omega
          have hm1 : ((i - 1 : Nat) : Int) < L.length := by omega
          have hpv : prv L i = x'.2.1 := by
            have := prv_succ hn'
            rwa [show i - 1 + 1 = i from by omega] at this
          by_cases c : s ≤ x'.2.1
          · simp (dsimp := false) (maxSteps := 4000000) only [k4, AH.le_refl, h, r0, r1, r1', em, hm1, ip, c, encE_len, encE_scal, go_sem, ↓reduceIte, Nat.reduceEqDiff, Nat.reduceLT, Nat.reduceLeDiff, Nat.reduceAdd, Nat.reduceMul, Nat.reduceSub, reduceCtorEq, Int.reduceToNat, Int.reduceLT, Int.reduceLE, Int.reduceEq, Int.reduceNe, Int.reduceBEq, Nat.reduceBEq, Int.reduceBNe, Nat.reduceBNe, Int.reduceAdd, Int.reduceSub, Int.reduceMul, Int.reduceNeg]
            refine out _ _ _ (by simp) ?_
            simp (dsimp := false) (maxSteps := 4000000) only [encE_len, encE_scal, go_sem, ↓reduceIte, Nat.reduceEqDiff, Nat.reduceLT, Nat.reduceLeDiff, Nat.reduceAdd, Nat.reduceMul, Nat.reduceSub, reduceCtorEq, Int.reduceToNat, Int.reduceLT, Int.reduceLE, Int.reduceEq, Int.reduceNe, Int.reduceBEq, Nat.reduceBEq, Int.reduceBNe, Nat.reduceBNe, Int.reduceAdd, Int.reduceSub, Int.reduceMul, Int.reduceNeg]
            exact ⟨H, (AH.le_refl _), (by first | exact ⟨by rw [mayB_no (i := i) (by omega) (by rw [hc, decide_eq_false (p := prv L i < s) (by omega)]; simp)], rfl⟩ | rfl)⟩
          simp (dsimp := false) (maxSteps := 4000000) only [k4, AH.le_refl, h, r0, r1, r1', em, hm1, ip, c, ee, encE_len, encE_scal, go_sem, ↓reduceIte, Nat.reduceEqDiff, Nat.reduceLT, Nat.reduceLeDiff, Nat.reduceAdd, Nat.reduceMul, Nat.reduceSub, reduceCtorEq, Int.reduceToNat, Int.reduceLT, Int.reduceLE, Int.reduceEq, Int.reduceNe, Int.reduceBEq, Nat.reduceBEq, Int.reduceBNe, Nat.reduceBNe, Int.reduceAdd, Int.reduceSub, Int.reduceMul, Int.reduceNeg]
          refine again (i + 1) _ _ ⟨by omega, fun j hj => ?_⟩ (FrLe.of_lks (by simp (dsimp := false) (maxSteps := 4000000) only [encE_len, encE_scal, go_sem, ↓reduceIte, Nat.reduceEqDiff, Nat.reduceLT, Nat.reduceLeDiff, Nat.reduceAdd, Nat.reduceMul, Nat.reduceSub, reduceCtorEq, Int.reduceToNat, Int.reduceLT, Int.reduceLE, Int.reduceEq, Int.reduceNe, Int.reduceBEq, Nat.reduceBEq, Int.reduceBNe, Nat.reduceBNe, Int.reduceAdd, Int.reduceSub, Int.reduceMul, Int.reduceNeg])) (AH.le_refl _) (by omega)
          by_cases hji : j = i
          · subst hji; rw [hc, g, decide_eq_false k4, decide_eq_true (by omega)]; rfl
          · exact hall j (by omega)
    · have hy := mayB_yes (by omega) hall
      simp (dsimp := false) (maxSteps := 4000000) only [h, encE_len, encE_scal, go_sem, ↓reduceIte, Nat.reduceEqDiff, Nat.reduceLT, Nat.reduceLeDiff, Nat.reduceAdd, Nat.reduceMul, Nat.reduceSub, reduceCtorEq, Int.reduceToNat, Int.reduceLT, Int.reduceLE, Int.reduceEq, Int.reduceNe, Int.reduceBEq, Nat.reduceBEq, Int.reduceBNe, Nat.reduceBNe, Int.reduceAdd, Int.reduceSub, Int.reduceMul, Int.reduceNeg]
      refine out _ _ _ (by simp) ?_
      by_cases c : (L.length : Int) ≤ 64
      · simp (dsimp := false) (maxSteps := 4000000) only [c, encE_len, encE_scal, go_sem, ↓reduceIte, Nat.reduceEqDiff, Nat.reduceLT, Nat.reduceLeDiff, Nat.reduceAdd, Nat.reduceMul, Nat.reduceSub, reduceCtorEq, Int.reduceToNat, Int.reduceLT, Int.reduceLE, Int.reduceEq, Int.reduceNe, Int.reduceBEq, Nat.reduceBEq, Int.reduceBNe, Nat.reduceBNe, Int.reduceAdd, Int.reduceSub, Int.reduceMul, Int.reduceNeg]
        exact ⟨H, (AH.le_refl _), (by first | exact ⟨by rw [hy, decide_eq_true (by omega)], rfl⟩ | rfl)⟩
      · simp (dsimp := false) (maxSteps := 4000000) only [c, encE_len, encE_scal, go_sem, ↓reduceIte, Nat.reduceEqDiff, Nat.reduceLT, Nat.reduceLeDiff, Nat.reduceAdd, Nat.reduceMul, Nat.reduceSub, reduceCtorEq, Int.reduceToNat, Int.reduceLT, Int.reduceLE, Int.reduceEq, Int.reduceNe, Int.reduceBEq, Nat.reduceBEq, Int.reduceBNe, Nat.reduceBNe, Int.reduceAdd, Int.reduceSub, Int.reduceMul, Int.reduceNeg]
        exact ⟨H, (AH.le_refl _), (by first | exact ⟨by rw [hy, decide_eq_false (by omega)], rfl⟩ | rfl)⟩
end Go.Proofs.Ytadbmmdmibiikaa.Rodl
