/- member: the map of slots; the closures; Clone. -/
import Derived.Test.YtgleplakdghaiaaMem1
namespace Go.Proofs.Ytgleplakdghaiaa.Mem
set_option linter.unusedSimpArgs false
set_option linter.unusedVariables false
open Go Go.AX Go.Proofs Ty
set_option maxHeartbeats 4000000
set_option maxRecDepth 10000

def encG (g : Int → Int) (x : Int) : Value × Value := (.int .i64 x, .int .u8 (g x))
abbrev encM : Int → Value × Value := encG fun x => x
theorem mlk_has (g : Int → Int) (x : Int) : ∀ (ks : List Int) (i : Nat), (x ∈ ks ∧ ∃ j, mlk (.int .i64) (.int .i64 x) (ks.map (encG g)) i = some (some (j, .int .u8 (g x)))) ∨ (¬ x ∈ ks ∧ mlk (.int .i64) (.int .i64 x) (ks.map (encG g)) i = some none)
  | [], i => .inr ⟨by simp, rfl⟩
  | y :: r, i => by
    by_cases h : x = y
    · subst h
      exact .inl ⟨by simp, i, by simp [mlk, encG, Instr.sameNow]⟩
    · have hb : (x == y) = false := by simpa using h
      rcases mlk_has g x r (i + 1) with ⟨h1, j, h2⟩ | ⟨h1, h2⟩
      · exact .inl ⟨List.mem_cons_of_mem _ h1, j, by simp [mlk, encG, Instr.sameNow, hb]; exact h2⟩
      · exact .inr ⟨by simp [h, h1], by simp [mlk, encG, Instr.sameNow, hb]; exact h2⟩
def bitS (n : Int) (i : Nat) : Bool := ibits .and .u32 (n.fdiv (2 ^ min i 32)) 1 == 1
def slotK (n : Int) : Nat → List Int
  | 0 => []
  | i + 1 => slotK n i ++ if bitS n i then [(i : Int)] else []
theorem slotK_lt {n : Int} : ∀ {i : Nat} {x : Int}, x ∈ slotK n i → 0 ≤ x ∧ x < i
  | 0, x, h => by cases h
  | i + 1, x, h => by
    rcases List.mem_append.1 h with h | h
    · have := slotK_lt h; omega
    · split at h
      · simp at h; omega
      · cases h
theorem slots_c (n : Int) (hn : 0 ≤ n ∧ n < 4294967296) (H : AH) : ACalls Try.prog 8 #[.int .u32 n] H (fun v H' => ∃ b, v = .map (some b) ∧ Fresh H b ∧ H' = H.add b (.amap ((slotK n 20).map encM))) := by
  refine ACalls.enter2 Try.func8 rfl Try.ntmps8 Try.results8 (by simp) ?_; simp (dsimp := false) (maxSteps := 4000000) only [go_sem, ↓reduceIte, Nat.reduceEqDiff, Nat.reduceLT, Nat.reduceLeDiff, Nat.reduceAdd, Nat.reduceMul, Nat.reduceSub, reduceCtorEq, Int.reduceToNat, Int.reduceLT, Int.reduceLE, Int.reduceEq, Int.reduceNe, Int.reduceBEq, Nat.reduceBEq, Int.reduceBNe, Nat.reduceBNe, Int.reduceAdd, Int.reduceSub, Int.reduceMul, Int.reduceNeg]
  refine AllB.mk fun b5 h_b5 => ?_; have hn_b5 := h_b5; (try simp only [fresh_add, fresh_set, ne_eq] at hn_b5); have hr_b5 := hn_b5; (try simp only [@eq_comm Nat b5] at hr_b5); simp (dsimp := false) (maxSteps := 4000000) only [hn_b5, hr_b5, go_sem, ↓reduceIte, Nat.reduceEqDiff, Nat.reduceLT, Nat.reduceLeDiff, Nat.reduceAdd, Nat.reduceMul, Nat.reduceSub, reduceCtorEq, Int.reduceToNat, Int.reduceLT, Int.reduceLE, Int.reduceEq, Int.reduceNe, Int.reduceBEq, Nat.reduceBEq, Int.reduceBNe, Nat.reduceBNe, Int.reduceAdd, Int.reduceSub, Int.reduceMul, Int.reduceNeg]
  refine AWp.loopo (ι := Nat) (fun i => i ≤ 20) (fun i => [(4, .int .i64 i), (0, .int .u32 n), (3, .map (some b5))])
    (fun i => H.add b5 (.amap ((slotK n i).map encM))) (fun i => 20 - i) 0 (by omega) (FrLe.of_lks ?_) (AH.le_refl _) fun i hi Q again out => ?_
  · simp (dsimp := false) (maxSteps := 4000000) only [hn_b5, hr_b5, go_sem, ↓reduceIte, Nat.reduceEqDiff, Nat.reduceLT, Nat.reduceLeDiff, Nat.reduceAdd, Nat.reduceMul, Nat.reduceSub, reduceCtorEq, Int.reduceToNat, Int.reduceLT, Int.reduceLE, Int.reduceEq, Int.reduceNe, Int.reduceBEq, Nat.reduceBEq, Int.reduceBNe, Nat.reduceBNe, Int.reduceAdd, Int.reduceSub, Int.reduceMul, Int.reduceNeg]
  by_cases h : (i : Int) < 20
  · have ee := i64_succ (i := i) (by omega)
    have e1 : IntKind.u64.wrap (i : Int) = i := u64_eq (by omega) (by omega)
    have e2 : IntKind.u8.wrap (i : Int) = i := by rw [show IntKind.u8.wrap (i : Int) = (i : Int) % 256 from rfl]; omega
    cases hb : bitS n i with
    | true =>
      have hst : slotK n (i + 1) = slotK n i ++ [(i : Int)] := by rw [slotK, hb]; rfl
      have hb' := hb
      unfold bitS at hb'
      have hno : mlk (.int .i64) (.int .i64 (i : Int)) ((slotK n i).map encM) 0 = some none := by
        rcases mlk_has (fun x => x) (i : Int) (slotK n i) 0 with ⟨h1, _⟩ | ⟨_, h2⟩
        · have := slotK_lt h1; omega
        · exact h2
      simp (dsimp := false) (maxSteps := 4000000) only [h, e1, hb', hno, mput_none, e2, ee, hn_b5, hr_b5, go_sem, ↓reduceIte, Nat.reduceEqDiff, Nat.reduceLT, Nat.reduceLeDiff, Nat.reduceAdd, Nat.reduceMul, Nat.reduceSub, reduceCtorEq, Int.reduceToNat, Int.reduceLT, Int.reduceLE, Int.reduceEq, Int.reduceNe, Int.reduceBEq, Nat.reduceBEq, Int.reduceBNe, Nat.reduceBNe, Int.reduceAdd, Int.reduceSub, Int.reduceMul, Int.reduceNeg]
      refine again (i + 1) _ _ (by omega) (FrLe.of_lks (by simp (dsimp := false) (maxSteps := 4000000) only [hn_b5, hr_b5, go_sem, ↓reduceIte, Nat.reduceEqDiff, Nat.reduceLT, Nat.reduceLeDiff, Nat.reduceAdd, Nat.reduceMul, Nat.reduceSub, reduceCtorEq, Int.reduceToNat, Int.reduceLT, Int.reduceLE, Int.reduceEq, Int.reduceNe, Int.reduceBEq, Nat.reduceBEq, Int.reduceBNe, Nat.reduceBNe, Int.reduceAdd, Int.reduceSub, Int.reduceMul, Int.reduceNeg])) ?_ (by omega)
      rw [hst, List.map_append]
      exact AH.le_refl _
    | false =>
      have hst : slotK n (i + 1) = slotK n i := by rw [slotK, hb]; simp
      have hb' := hb
      unfold bitS at hb'
      simp (dsimp := false) (maxSteps := 4000000) only [h, e1, hb', ee, hn_b5, hr_b5, go_sem, ↓reduceIte, Nat.reduceEqDiff, Nat.reduceLT, Nat.reduceLeDiff, Nat.reduceAdd, Nat.reduceMul, Nat.reduceSub, reduceCtorEq, Int.reduceToNat, Int.reduceLT, Int.reduceLE, Int.reduceEq, Int.reduceNe, Int.reduceBEq, Nat.reduceBEq, Int.reduceBNe, Nat.reduceBNe, Int.reduceAdd, Int.reduceSub, Int.reduceMul, Int.reduceNeg]
      refine again (i + 1) _ _ (by omega) (FrLe.of_lks (by simp (dsimp := false) (maxSteps := 4000000) only [hn_b5, hr_b5, go_sem, ↓reduceIte, Nat.reduceEqDiff, Nat.reduceLT, Nat.reduceLeDiff, Nat.reduceAdd, Nat.reduceMul, Nat.reduceSub, reduceCtorEq, Int.reduceToNat, Int.reduceLT, Int.reduceLE, Int.reduceEq, Int.reduceNe, Int.reduceBEq, Nat.reduceBEq, Int.reduceBNe, Nat.reduceBNe, Int.reduceAdd, Int.reduceSub, Int.reduceMul, Int.reduceNeg])) ?_ (by omega)
      rw [hst]
      exact AH.le_refl _
  · obtain rfl : i = 20 := by omega
    simp (dsimp := false) (maxSteps := 4000000) only [h, hn_b5, hr_b5, go_sem, ↓reduceIte, Nat.reduceEqDiff, Nat.reduceLT, Nat.reduceLeDiff, Nat.reduceAdd, Nat.reduceMul, Nat.reduceSub, reduceCtorEq, Int.reduceToNat, Int.reduceLT, Int.reduceLE, Int.reduceEq, Int.reduceNe, Int.reduceBEq, Nat.reduceBEq, Int.reduceBNe, Nat.reduceBNe, Int.reduceAdd, Int.reduceSub, Int.reduceMul, Int.reduceNeg]
    refine out _ _ _ (by simp) ?_
    simp (dsimp := false) (maxSteps := 4000000) only [hn_b5, hr_b5, go_sem, ↓reduceIte, Nat.reduceEqDiff, Nat.reduceLT, Nat.reduceLeDiff, Nat.reduceAdd, Nat.reduceMul, Nat.reduceSub, reduceCtorEq, Int.reduceToNat, Int.reduceLT, Int.reduceLE, Int.reduceEq, Int.reduceNe, Int.reduceBEq, Nat.reduceBEq, Int.reduceBNe, Nat.reduceBNe, Int.reduceAdd, Int.reduceSub, Int.reduceMul, Int.reduceNeg]
    exact ⟨_, AH.le_refl _, b5, rfl, h_b5, rfl⟩
def kd (x : Ent) : Bool := x.1 != 1
theorem kind_c (x : Ent) (H : AH) : ACalls Try.prog 15 ([] ++ [Value.agg (encE x).toArray] ++ ([] : List Value)).toArray H (fun v H' => v = .bool (kd x) ∧ H = H') := by
  obtain ⟨k, s, f, r, b⟩ := x
  show ACalls _ _ #[.agg #[.int .i64 k, .int .i64 s, .int .i64 f, .int .i64 r, .int .i64 b]] _ _
  refine ACalls.enter2 Try.func15 rfl Try.ntmps15 Try.results15 (by simp) ?_; simp (dsimp := false) (maxSteps := 4000000) only [go_sem, ↓reduceIte, Nat.reduceEqDiff, Nat.reduceLT, Nat.reduceLeDiff, Nat.reduceAdd, Nat.reduceMul, Nat.reduceSub, reduceCtorEq, Int.reduceToNat, Int.reduceLT, Int.reduceLE, Int.reduceEq, Int.reduceNe, Int.reduceBEq, Nat.reduceBEq, Int.reduceBNe, Nat.reduceBNe, Int.reduceAdd, Int.reduceSub, Int.reduceMul, Int.reduceNeg]
  refine AllB.mk fun b1 h_b1 => ?_; have hn_b1 := h_b1; (try simp only [fresh_add, fresh_set, ne_eq] at hn_b1); have hr_b1 := hn_b1; (try simp only [@eq_comm Nat b1] at hr_b1); simp (dsimp := false) (maxSteps := 4000000) only [hn_b1, hr_b1, go_sem, ↓reduceIte, Nat.reduceEqDiff, Nat.reduceLT, Nat.reduceLeDiff, Nat.reduceAdd, Nat.reduceMul, Nat.reduceSub, reduceCtorEq, Int.reduceToNat, Int.reduceLT, Int.reduceLE, Int.reduceEq, Int.reduceNe, Int.reduceBEq, Nat.reduceBEq, Int.reduceBNe, Nat.reduceBNe, Int.reduceAdd, Int.reduceSub, Int.reduceMul, Int.reduceNeg]
  exact ⟨H, (AH.le_add (AH.le_refl _) ((by simp only [fresh_add, fresh_set, ne_eq, hn_b1, not_false_eq_true, and_self] : Fresh _ b1).2)), (by first | exact ⟨by simp [kd, bne], rfl⟩ | rfl)⟩
def hd (ks : List Int) (x : Ent) : Bool := decide (x.2.1 ∈ ks)
theorem is_c {g : Int → Int} (ks : List Int) (x : Ent) (bh bm : Nat) (H : AH) (h1 : H.rd ⟨bh, 0, none⟩ = some (.map (some bm))) (h2 : H.find bm = some (.amap (ks.map (encG g)))) :
    ACalls Try.prog 16 ([] ++ [Value.agg (encE x).toArray] ++ [Value.pointer (some ⟨bh, 0, none⟩)]).toArray H (fun v H' => v = .bool (hd ks x) ∧ H = H') := by
  obtain ⟨k, s, f, r, b⟩ := x
  show ACalls _ _ #[.agg #[.int .i64 k, .int .i64 s, .int .i64 f, .int .i64 r, .int .i64 b], .pointer (some ⟨bh, 0, none⟩)] _ _
  have hmp : H.mp bm = some (ks.map (encG g)) := by unfold AH.mp; rw [h2]
  refine ACalls.enter2 Try.func16 rfl Try.ntmps16 Try.results16 (by simp) ?_; simp (dsimp := false) (maxSteps := 4000000) only [go_sem, ↓reduceIte, Nat.reduceEqDiff, Nat.reduceLT, Nat.reduceLeDiff, Nat.reduceAdd, Nat.reduceMul, Nat.reduceSub, reduceCtorEq, Int.reduceToNat, Int.reduceLT, Int.reduceLE, Int.reduceEq, Int.reduceNe, Int.reduceBEq, Nat.reduceBEq, Int.reduceBNe, Nat.reduceBNe, Int.reduceAdd, Int.reduceSub, Int.reduceMul, Int.reduceNeg]
  refine AllB.mk fun b2 h_b2 => ?_; have hn_b2 := h_b2; (try simp only [fresh_add, fresh_set, ne_eq] at hn_b2); have hr_b2 := hn_b2; (try simp only [@eq_comm Nat b2] at hr_b2); simp (dsimp := false) (maxSteps := 4000000) only [hn_b2, hr_b2, go_sem, ↓reduceIte, Nat.reduceEqDiff, Nat.reduceLT, Nat.reduceLeDiff, Nat.reduceAdd, Nat.reduceMul, Nat.reduceSub, reduceCtorEq, Int.reduceToNat, Int.reduceLT, Int.reduceLE, Int.reduceEq, Int.reduceNe, Int.reduceBEq, Nat.reduceBEq, Int.reduceBNe, Nat.reduceBNe, Int.reduceAdd, Int.reduceSub, Int.reduceMul, Int.reduceNeg]
  have nr_h1 := (Fresh.ne_rd (by simp only [hn_b2] : Fresh H b2) h1)
  have hn : ¬ b2 = bm := h_b2.ne_find h2
  rcases mlk_has g s ks 0 with ⟨hin, j, hm⟩ | ⟨hin, hm⟩
  · have e : hd ks (k, s, f, r, b) = true := decide_eq_true hin
    simp (dsimp := false) (maxSteps := 4000000) only [h1, nr_h1, hn, hmp, hm, hn_b2, hr_b2, go_sem, ↓reduceIte, Nat.reduceEqDiff, Nat.reduceLT, Nat.reduceLeDiff, Nat.reduceAdd, Nat.reduceMul, Nat.reduceSub, reduceCtorEq, Int.reduceToNat, Int.reduceLT, Int.reduceLE, Int.reduceEq, Int.reduceNe, Int.reduceBEq, Nat.reduceBEq, Int.reduceBNe, Nat.reduceBNe, Int.reduceAdd, Int.reduceSub, Int.reduceMul, Int.reduceNeg]
    exact ⟨H, (AH.le_add (AH.le_refl _) ((by simp only [fresh_add, fresh_set, ne_eq, hn_b2, not_false_eq_true, and_self] : Fresh _ b2).2)), (by first | exact ⟨by rw [e], rfl⟩ | rfl)⟩
  · have e : hd ks (k, s, f, r, b) = false := decide_eq_false hin
    simp (dsimp := false) (maxSteps := 4000000) only [h1, nr_h1, hn, hmp, hm, hn_b2, hr_b2, go_sem, ↓reduceIte, Nat.reduceEqDiff, Nat.reduceLT, Nat.reduceLeDiff, Nat.reduceAdd, Nat.reduceMul, Nat.reduceSub, reduceCtorEq, Int.reduceToNat, Int.reduceLT, Int.reduceLE, Int.reduceEq, Int.reduceNe, Int.reduceBEq, Nat.reduceBEq, Int.reduceBNe, Nat.reduceBNe, Int.reduceAdd, Int.reduceSub, Int.reduceMul, Int.reduceNeg]
    exact ⟨H, (AH.le_add (AH.le_refl _) ((by simp only [fresh_add, fresh_set, ne_eq, hn_b2, not_false_eq_true, and_self] : Fresh _ b2).2)), (by first | exact ⟨by rw [e], rfl⟩ | rfl)⟩
theorem Clone_c {H : AH} {base : Option Addr} {cap : Nat} {L : List Ent} (hs : SlcIn H 5 base cap (L.map encE)) (hroom : L.length ≤ 3518437208780) :
    ACalls Try.prog 14 #[.slice base L.length cap] H (fun v H' => ∃ b c, v = .slice b L.length c ∧ OwnS H H' 50 5 b c (L.map encE) ∧ Keep H H' fun _ => False) := by
  cases base with
  | none =>
    have hL : L = [] := by
      cases L with
      | nil => rfl
      | cons x L => obtain ⟨b, o, h⟩ := hs.at_ 0 (by simp); cases h
    subst hL
    refine ACalls.enter2 Try.func14 rfl Try.ntmps14 Try.results14 (by simp) ?_; simp (dsimp := false) (maxSteps := 4000000) only [go_sem, ↓reduceIte, Nat.reduceEqDiff, Nat.reduceLT, Nat.reduceLeDiff, Nat.reduceAdd, Nat.reduceMul, Nat.reduceSub, reduceCtorEq, Int.reduceToNat, Int.reduceLT, Int.reduceLE, Int.reduceEq, Int.reduceNe, Int.reduceBEq, Nat.reduceBEq, Int.reduceBNe, Nat.reduceBNe, Int.reduceAdd, Int.reduceSub, Int.reduceMul, Int.reduceNeg]
    exact ⟨H, AH.le_refl _, none, 0, rfl, OwnS.nil, Keep.refl⟩
  | some a =>
    refine ACalls.enter2 Try.func14 rfl Try.ntmps14 Try.results14 (by simp) ?_; simp (dsimp := false) (maxSteps := 4000000) only [go_sem, ↓reduceIte, Nat.reduceEqDiff, Nat.reduceLT, Nat.reduceLeDiff, Nat.reduceAdd, Nat.reduceMul, Nat.reduceSub, reduceCtorEq, Int.reduceToNat, Int.reduceLT, Int.reduceLE, Int.reduceEq, Int.reduceNe, Int.reduceBEq, Nat.reduceBEq, Int.reduceBNe, Nat.reduceBNe, Int.reduceAdd, Int.reduceSub, Int.reduceMul, Int.reduceNeg]
    refine AllB.mk fun b5 h_b5 => ?_
    simp (dsimp := false) (maxSteps := 4000000) only [go_sem, ↓reduceIte, Nat.reduceEqDiff, Nat.reduceLT, Nat.reduceLeDiff, Nat.reduceAdd, Nat.reduceMul, Nat.reduceSub, reduceCtorEq, Int.reduceToNat, Int.reduceLT, Int.reduceLE, Int.reduceEq, Int.reduceNe, Int.reduceBEq, Nat.reduceBEq, Int.reduceBNe, Nat.reduceBNe, Int.reduceAdd, Int.reduceSub, Int.reduceMul, Int.reduceNeg]
    refine APD.growS (H0 := H) (a := some a) (m := L.length) (c := cap) (R := []) (R' := L.map encE) (OwnS.new h_b5 (AH.le_refl _) rfl rfl rfl (by simp) (by simp)) (AH.le_add (AH.le_refl _) h_b5.2) se_51 rfl (by decide) (by decide) (by rw [Try.underlying51]; rfl) rfl (by simp) (hs.add h_b5) (rowsE L) (scalE L) (by omega) fun b' c' A hO' hK' hN' => ?_
    refine ⟨_, AH.le_refl _, ?_⟩
    simp (dsimp := false) (maxSteps := 4000000) only [go_sem, ↓reduceIte, Nat.reduceEqDiff, Nat.reduceLT, Nat.reduceLeDiff, Nat.reduceAdd, Nat.reduceMul, Nat.reduceSub, reduceCtorEq, Int.reduceToNat, Int.reduceLT, Int.reduceLE, Int.reduceEq, Int.reduceNe, Int.reduceBEq, Nat.reduceBEq, Int.reduceBNe, Nat.reduceBNe, Int.reduceAdd, Int.reduceSub, Int.reduceMul, Int.reduceNeg]
    exact ⟨A, AH.le_refl _, b', c', rfl, hO', (Keep.refl.nw h_b5).ow hK' fun b ⟨a, ha, e⟩ => by cases ha; exact e ▸ h_b5⟩
end Go.Proofs.Ytgleplakdghaiaa.Mem
