/- member: Record and the reference's. -/
import Derived.Test.YtgleplakdghaiaaMem3
namespace Go.Proofs.Ytgleplakdghaiaa.Mem
set_option linter.unusedSimpArgs false
set_option linter.unusedVariables false
open Go Go.AX Go.Proofs Ty
set_option maxHeartbeats 4000000
set_option maxRecDepth 10000

structure RefAt (A : AH) (br b1 b2 : Nat) (B : List Bool) (R : List Int) (c1 c2 : Nat) : Prop where
  top : A.find br = some (.cells [.slice (some ⟨b1, 0, none⟩) B.length c1, .slice (some ⟨b2, 0, none⟩) R.length c2] 41 2)
  rowB : ∃ sz, A.find b1 = some (.cells (B.map Value.bool) 4 sz) ∧ B.length ≤ sz
  rowR : ∃ sz, A.find b2 = some (.cells (R.map (Value.int .i64)) 3 sz) ∧ R.length ≤ sz
  n1 : br ≠ b1
  n2 : br ≠ b2
  n12 : b1 ≠ b2
theorem RefAt.rd0 {A : AH} {br b1 b2 c1 c2 : Nat} {B : List Bool} {R : List Int} (h : RefAt A br b1 b2 B R c1 c2) : A.rd ⟨br, 0, none⟩ = some (.slice (some ⟨b1, 0, none⟩) B.length c1) := by rw [rd_find h.top]; rfl
theorem RefAt.rd1 {A : AH} {br b1 b2 c1 c2 : Nat} {B : List Bool} {R : List Int} (h : RefAt A br b1 b2 B R c1 c2) : A.rd ⟨br, 1, none⟩ = some (.slice (some ⟨b2, 0, none⟩) R.length c2) := by rw [rd_find h.top]; rfl
theorem RefAt.rdB {A : AH} {br b1 b2 c1 c2 : Nat} {B : List Bool} {R : List Int} (h : RefAt A br b1 b2 B R c1 c2) {i : Nat} {x : Bool} (hx : B[i]? = some x) : A.rd ⟨b1, i, none⟩ = some (.bool x) := by
  obtain ⟨sz, h1, _⟩ := h.rowB
  rw [rd_find h1, List.getElem?_map, hx]; rfl
theorem RefAt.rdR {A : AH} {br b1 b2 c1 c2 : Nat} {B : List Bool} {R : List Int} (h : RefAt A br b1 b2 B R c1 c2) {i : Nat} {x : Int} (hx : R[i]? = some x) : A.rd ⟨b2, i, none⟩ = some (.int .i64 x) := by
  obtain ⟨sz, h1, _⟩ := h.rowR
  rw [rd_find h1, List.getElem?_map, hx]; rfl
theorem RefAt.keep {A A' : AH} {br b1 b2 c1 c2 : Nat} {B : List Bool} {R : List Int} {ex : Nat → Prop} (h : RefAt A br b1 b2 B R c1 c2) (hk : Keep A A' ex) (h0 : ¬ ex br) (h1 : ¬ ex b1) (h2 : ¬ ex b2) : RefAt A' br b1 b2 B R c1 c2 :=
  ⟨hk.find h0 h.top, by obtain ⟨sz, h3, h4⟩ := h.rowB; exact ⟨sz, hk.find h1 h3, h4⟩, by obtain ⟨sz, h3, h4⟩ := h.rowR; exact ⟨sz, hk.find h2 h3, h4⟩, h.n1, h.n2, h.n12⟩
def isB (M : List Int) : List Bool := M.map fun x => decide (x < 3)
theorem there_is {M : List Int} {i : Nat} (hi : i < M.length) : thereM M i = decide ((isB M)[i]? = some true) := by
  obtain ⟨x, hx⟩ := get_some (l := M) (i := i) hi
  have h1 : (i : Int) < M.length := by omega
  simp [thereM, isB, hx, h1]
theorem Record_c {A : AH} {bm ba : Nat} {M : List Int} (h : MemAt A bm ba M) (hl : M.length ≤ 32) :
    ACalls Try.prog 11 #[.pointer (some ⟨bm, 0, none⟩)] A (fun v H' => v = .agg ((digs (numB (isB M) M.length)).map (Value.int .u8)).toArray ∧ A = H') := by
  have r0 := h.rd0
  have hdl : ∀ x, (digs x).length = 4 := fun _ => rfl
  refine ACalls.enter2 Try.func11 rfl Try.ntmps11 Try.results11 (by simp) ?_; simp (dsimp := false) (maxSteps := 4000000) only [go_sem, ↓reduceIte, Nat.reduceEqDiff, Nat.reduceLT, Nat.reduceLeDiff, Nat.reduceAdd, Nat.reduceMul, Nat.reduceSub, reduceCtorEq, Int.reduceToNat, Int.reduceLT, Int.reduceLE, Int.reduceEq, Int.reduceNe, Int.reduceBEq, Nat.reduceBEq, Int.reduceBNe, Nat.reduceBNe, Int.reduceAdd, Int.reduceSub, Int.reduceMul, Int.reduceNeg]
  
  refine AllB.mk fun b2 h_b2 => ?_
  simp (dsimp := false) (maxSteps := 4000000) only [hdl, go_sem, ↓reduceIte, Nat.reduceEqDiff, Nat.reduceLT, Nat.reduceLeDiff, Nat.reduceAdd, Nat.reduceMul, Nat.reduceSub, reduceCtorEq, Int.reduceToNat, Int.reduceLT, Int.reduceLE, Int.reduceEq, Int.reduceNe, Int.reduceBEq, Nat.reduceBEq, Int.reduceBNe, Nat.reduceBNe, Int.reduceAdd, Int.reduceSub, Int.reduceMul, Int.reduceNeg]
  refine AllB.mk fun b3 h_b3 => ?_
  have k2 := (Keep.refl (H := A) (ex := fun _ => False)).nw (k := .cells [.int .u8 0, .int .u8 0, .int .u8 0, .int .u8 0] 44 4) h_b2
  have hn : ¬ b3 = b2 := h_b3.ne_find (find_add_self _ _ _)
  have hr : ¬ b2 = b3 := fun e => hn e.symm
  have hmt : ∀ i, MemAt ((A.add b2 (.cells [.int .u8 0, .int .u8 0, .int .u8 0, .int .u8 0] 44 4)).add b3 (.cells ((digs (numB (isB M) i)).map (Value.int .u8)) 44 4)) bm ba M := fun i => h.keep (k2.nw h_b3) (fun h => h) (fun h => h)
  have m2 : ¬ b2 = bm := h_b2.ne_find h.top
  have m3 : ¬ b3 = bm := h_b3.ne_find (k2.find (fun h => h) h.top)
  have hfr := fun i => (k2.nw (k := .cells ((digs (numB (isB M) i)).map (Value.int .u8)) 44 4) h_b3).all
  simp (dsimp := false) (maxSteps := 4000000) only [r0, m2, m3, hn, hr, hdl, go_sem, ↓reduceIte, Nat.reduceEqDiff, Nat.reduceLT, Nat.reduceLeDiff, Nat.reduceAdd, Nat.reduceMul, Nat.reduceSub, reduceCtorEq, Int.reduceToNat, Int.reduceLT, Int.reduceLE, Int.reduceEq, Int.reduceNe, Int.reduceBEq, Nat.reduceBEq, Int.reduceBNe, Nat.reduceBNe, Int.reduceAdd, Int.reduceSub, Int.reduceMul, Int.reduceNeg]
  refine AWp.loopo (ι := Nat) (fun i => i ≤ M.length) (fun i => [(13, .int .i64 i), (12, .int .i64 M.length), (0, .pointer (some ⟨bm, 0, none⟩)), (2, .pointer (some ⟨b2, 0, none⟩)), (3, .pointer (some ⟨b3, 0, none⟩))])
    (fun i => (A.add b2 (.cells [.int .u8 0, .int .u8 0, .int .u8 0, .int .u8 0] 44 4)).add b3 (.cells ((digs (numB (isB M) i)).map (Value.int .u8)) 44 4)) (fun i => M.length - i) 0 (by omega) (FrLe.of_lks ?_) (AH.le_refl _) fun i hi Q again out => ?_
  · simp (dsimp := false) (maxSteps := 4000000) only [hdl, go_sem, ↓reduceIte, Nat.reduceEqDiff, Nat.reduceLT, Nat.reduceLeDiff, Nat.reduceAdd, Nat.reduceMul, Nat.reduceSub, reduceCtorEq, Int.reduceToNat, Int.reduceLT, Int.reduceLE, Int.reduceEq, Int.reduceNe, Int.reduceBEq, Nat.reduceBEq, Int.reduceBNe, Nat.reduceBNe, Int.reduceAdd, Int.reduceSub, Int.reduceMul, Int.reduceNeg]
  by_cases hlt : (i : Int) < M.length
  · have ee := i64_succ (i := i) (by omega)
    simp (dsimp := false) (maxSteps := 4000000) only [hlt, hdl, go_sem, ↓reduceIte, Nat.reduceEqDiff, Nat.reduceLT, Nat.reduceLeDiff, Nat.reduceAdd, Nat.reduceMul, Nat.reduceSub, reduceCtorEq, Int.reduceToNat, Int.reduceLT, Int.reduceLE, Int.reduceEq, Int.reduceNe, Int.reduceBEq, Nat.reduceBEq, Int.reduceBNe, Nat.reduceBNe, Int.reduceAdd, Int.reduceSub, Int.reduceMul, Int.reduceNeg]
    refine (There_c (hmt i) i).mono ?_; rintro _ _ ⟨rfl, rfl⟩
    rw [there_is (by omega : i < M.length)]
    by_cases hb : (isB M)[i]? = some true
    · have hst : numB (isB M) (i + 1) = numB (isB M) i + 2 ^ i := by rw [numB, if_pos hb]
      obtain ⟨n0, n1⟩ := numB_bd (isB M) i
      obtain ⟨d1, d2, d3⟩ := dig_step (i := i) (by omega) n0 n1
      have hor := or_put d2 (by omega : i % 8 < 8) d3
      have e1 : IntKind.i64.wrap ((i : Int).tdiv 8) = ((i / 8 : Nat) : Int) := by rw [Int.tdiv_eq_ediv_of_nonneg (by omega), i64_eq (by omega) (by omega)]; omega
      have e2 : IntKind.i64.wrap (3 - ((i / 8 : Nat) : Int)) = ((3 - i / 8 : Nat) : Int) := by rw [i64_eq (by omega) (by omega)]; omega
      have e3 : (i : Int).tmod 8 = ((i % 8 : Nat) : Int) := by rw [Int.tmod_eq_emod_of_nonneg (by omega)]; omega
      have p0 : (0 : Int) ≤ ((3 - i / 8 : Nat) : Int) := by omega
      have p1 : ((3 - i / 8 : Nat) : Int) < 4 := by omega
      have hd : ((digs (numB (isB M) i)).map (Value.int .u8))[3 - i / 8]? = some (.int .u8 ((digs (numB (isB M) i)).getD (3 - i / 8) 0)) := by
        obtain ⟨x, hx⟩ := get_some (l := digs (numB (isB M) i)) (i := 3 - i / 8) (by simp [digs]; omega)
        rw [List.getElem?_map, hx, List.getD_eq_getElem?_getD, hx]; rfl
      simp (dsimp := false) (maxSteps := 4000000) only [hb, decide_true, hdl, go_sem, ↓reduceIte, Nat.reduceEqDiff, Nat.reduceLT, Nat.reduceLeDiff, Nat.reduceAdd, Nat.reduceMul, Nat.reduceSub, reduceCtorEq, Int.reduceToNat, Int.reduceLT, Int.reduceLE, Int.reduceEq, Int.reduceNe, Int.reduceBEq, Nat.reduceBEq, Int.reduceBNe, Nat.reduceBNe, Int.reduceAdd, Int.reduceSub, Int.reduceMul, Int.reduceNeg]
      refine AWp.gen [.pu, .pu, .pu, .pu, .rd, .pu, .pu, .pu, .pu, .pu, .ch] [0, 1, 3, 7, 15, 0, 32, 96, 255, 511, 1023] 0 (_) mixed (by kernel_rfl) (AH.le_refl _) ?_
      simp (dsimp := false) (maxSteps := 4000000) only [e1, e2, e3, p0, p1, (by omega : 3 - i / 8 ≤ 3), hd, hn, hr, AH.le_refl, hor, ee, hdl, go_sem, ↓reduceIte, Nat.reduceEqDiff, Nat.reduceLT, Nat.reduceLeDiff, Nat.reduceAdd, Nat.reduceMul, Nat.reduceSub, reduceCtorEq, Int.reduceToNat, Int.reduceLT, Int.reduceLE, Int.reduceEq, Int.reduceNe, Int.reduceBEq, Nat.reduceBEq, Int.reduceBNe, Nat.reduceBNe, Int.reduceAdd, Int.reduceSub, Int.reduceMul, Int.reduceNeg]
      refine again (i + 1) _ _ (by omega) (FrLe.of_lks (by simp (dsimp := false) (maxSteps := 4000000) only [hdl, go_sem, ↓reduceIte, Nat.reduceEqDiff, Nat.reduceLT, Nat.reduceLeDiff, Nat.reduceAdd, Nat.reduceMul, Nat.reduceSub, reduceCtorEq, Int.reduceToNat, Int.reduceLT, Int.reduceLE, Int.reduceEq, Int.reduceNe, Int.reduceBEq, Nat.reduceBEq, Int.reduceBNe, Nat.reduceBNe, Int.reduceAdd, Int.reduceSub, Int.reduceMul, Int.reduceNeg])) ?_ (by omega)
      rw [hst, d1, List.map_set]
      exact AH.le_refl _
    · have hst : numB (isB M) (i + 1) = numB (isB M) i := by rw [numB, if_neg hb]; omega
      simp (dsimp := false) (maxSteps := 4000000) only [hb, decide_false, ee, hdl, go_sem, ↓reduceIte, Nat.reduceEqDiff, Nat.reduceLT, Nat.reduceLeDiff, Nat.reduceAdd, Nat.reduceMul, Nat.reduceSub, reduceCtorEq, Int.reduceToNat, Int.reduceLT, Int.reduceLE, Int.reduceEq, Int.reduceNe, Int.reduceBEq, Nat.reduceBEq, Int.reduceBNe, Nat.reduceBNe, Int.reduceAdd, Int.reduceSub, Int.reduceMul, Int.reduceNeg]
      refine again (i + 1) _ _ (by omega) (FrLe.of_lks (by simp (dsimp := false) (maxSteps := 4000000) only [hdl, go_sem, ↓reduceIte, Nat.reduceEqDiff, Nat.reduceLT, Nat.reduceLeDiff, Nat.reduceAdd, Nat.reduceMul, Nat.reduceSub, reduceCtorEq, Int.reduceToNat, Int.reduceLT, Int.reduceLE, Int.reduceEq, Int.reduceNe, Int.reduceBEq, Nat.reduceBEq, Int.reduceBNe, Nat.reduceBNe, Int.reduceAdd, Int.reduceSub, Int.reduceMul, Int.reduceNeg])) ?_ (by omega)
      rw [hst]
      exact AH.le_refl _
  · obtain rfl : i = M.length := by omega
    simp (dsimp := false) (maxSteps := 4000000) only [hlt, hdl, go_sem, ↓reduceIte, Nat.reduceEqDiff, Nat.reduceLT, Nat.reduceLeDiff, Nat.reduceAdd, Nat.reduceMul, Nat.reduceSub, reduceCtorEq, Int.reduceToNat, Int.reduceLT, Int.reduceLE, Int.reduceEq, Int.reduceNe, Int.reduceBEq, Nat.reduceBEq, Int.reduceBNe, Nat.reduceBNe, Int.reduceAdd, Int.reduceSub, Int.reduceMul, Int.reduceNeg]
    refine out _ _ _ (by simp) ?_
    simp (dsimp := false) (maxSteps := 4000000) only [hn, hr, hdl, go_sem, ↓reduceIte, Nat.reduceEqDiff, Nat.reduceLT, Nat.reduceLeDiff, Nat.reduceAdd, Nat.reduceMul, Nat.reduceSub, reduceCtorEq, Int.reduceToNat, Int.reduceLT, Int.reduceLE, Int.reduceEq, Int.reduceNe, Int.reduceBEq, Nat.reduceBEq, Int.reduceBNe, Nat.reduceBNe, Int.reduceAdd, Int.reduceSub, Int.reduceMul, Int.reduceNeg]
    exact ⟨A, AH.le_add (AH.le_add (AH.le_refl _) h_b2.2) (by rw [find_add_ne _ hr]; have h9 := h_b3.2; rw [find_add_ne _ hr] at h9; exact h9), rfl⟩
theorem pow33 : ∀ i : Fin 33, (2 : Int) ^ i.val ≤ 4294967296 := by decide
theorem RefRecord_c {A : AH} {br b1 b2 c1 c2 : Nat} {B : List Bool} {R : List Int} (h : RefAt A br b1 b2 B R c1 c2) (hl : B.length ≤ 32) :
    ACalls Try.prog 12 #[.pointer (some ⟨br, 0, none⟩)] A (fun v H' => v = .agg ((digs (numB B B.length)).map (Value.int .u8)).toArray ∧ A = H') := by
  have r0 := h.rd0
  refine ACalls.enter2 Try.func12 rfl Try.ntmps12 Try.results12 (by simp) ?_; simp (dsimp := false) (maxSteps := 4000000) only [go_sem, ↓reduceIte, Nat.reduceEqDiff, Nat.reduceLT, Nat.reduceLeDiff, Nat.reduceAdd, Nat.reduceMul, Nat.reduceSub, reduceCtorEq, Int.reduceToNat, Int.reduceLT, Int.reduceLE, Int.reduceEq, Int.reduceNe, Int.reduceBEq, Nat.reduceBEq, Int.reduceBNe, Nat.reduceBNe, Int.reduceAdd, Int.reduceSub, Int.reduceMul, Int.reduceNeg]
  refine AllB.mk fun bq h_bq => ?_
  have hfind := h_bq.ne_find h.top
  have hbB : ¬ bq = b1 := by obtain ⟨sz, h1, _⟩ := h.rowB; exact h_bq.ne_find h1
  simp (dsimp := false) (maxSteps := 4000000) only [go_sem, ↓reduceIte, Nat.reduceEqDiff, Nat.reduceLT, Nat.reduceLeDiff, Nat.reduceAdd, Nat.reduceMul, Nat.reduceSub, reduceCtorEq, Int.reduceToNat, Int.reduceLT, Int.reduceLE, Int.reduceEq, Int.reduceNe, Int.reduceBEq, Nat.reduceBEq, Int.reduceBNe, Nat.reduceBNe, Int.reduceAdd, Int.reduceSub, Int.reduceMul, Int.reduceNeg]
  refine AWp.loopo (ι := Nat) (fun i => i ≤ B.length) (fun i => [(5, .int .i64 i), (3, .int .u64 (numB B i)), (4, .int .u64 (2 ^ i)), (0, .pointer (some ⟨br, 0, none⟩)), (2, .pointer (some ⟨bq, 0, none⟩))])
    (fun i => A.add bq (.cells [.int .u8 0, .int .u8 0, .int .u8 0, .int .u8 0] 44 4)) (fun i => B.length - i) 0 (by omega) (FrLe.of_lks ?_) (AH.le_refl _) fun i hi Q again out => ?_
  · simp (dsimp := false) (maxSteps := 4000000) only [go_sem, ↓reduceIte, Nat.reduceEqDiff, Nat.reduceLT, Nat.reduceLeDiff, Nat.reduceAdd, Nat.reduceMul, Nat.reduceSub, reduceCtorEq, Int.reduceToNat, Int.reduceLT, Int.reduceLE, Int.reduceEq, Int.reduceNe, Int.reduceBEq, Nat.reduceBEq, Int.reduceBNe, Nat.reduceBNe, Int.reduceAdd, Int.reduceSub, Int.reduceMul, Int.reduceNeg]
    exact ⟨rfl, rfl⟩
  obtain ⟨n0, n1⟩ := numB_bd B i
  have hp32 : (2 : Int) ^ i ≤ 4294967296 := pow33 ⟨i, by omega⟩
  have hpp : (0 : Int) < 2 ^ i := Int.pow_pos (by decide)
  by_cases hlt : (i : Int) < B.length
  · have ee := i64_succ (i := i) (by omega)
    have e2 : IntKind.u64.wrap (2 * 2 ^ i) = 2 ^ (i + 1) := by rw [u64_eq (by omega) (by omega), Int.pow_succ]; omega
    obtain ⟨x, hx⟩ := get_some (l := B) (i := i) (by omega)
    have rB := h.rdB hx
    cases x with
    | true =>
      have hst : numB B (i + 1) = numB B i + 2 ^ i := by rw [numB, if_pos hx]
      have e1 : IntKind.u64.wrap (numB B i + 2 ^ i) = numB B i + 2 ^ i := u64_eq (by omega) (by omega)
      simp (dsimp := false) (maxSteps := 4000000) only [r0, hfind, hbB, hlt, rB, Nat.zero_add, Nat.mul_one, e1, e2, ee, go_sem, ↓reduceIte, Nat.reduceEqDiff, Nat.reduceLT, Nat.reduceLeDiff, Nat.reduceAdd, Nat.reduceMul, Nat.reduceSub, reduceCtorEq, Int.reduceToNat, Int.reduceLT, Int.reduceLE, Int.reduceEq, Int.reduceNe, Int.reduceBEq, Nat.reduceBEq, Int.reduceBNe, Nat.reduceBNe, Int.reduceAdd, Int.reduceSub, Int.reduceMul, Int.reduceNeg]
      refine again (i + 1) _ _ (by omega) (FrLe.of_lks ?_) (AH.le_refl _) (by omega)
      rw [hst]
      simp (dsimp := false) (maxSteps := 4000000) only [go_sem, ↓reduceIte, Nat.reduceEqDiff, Nat.reduceLT, Nat.reduceLeDiff, Nat.reduceAdd, Nat.reduceMul, Nat.reduceSub, reduceCtorEq, Int.reduceToNat, Int.reduceLT, Int.reduceLE, Int.reduceEq, Int.reduceNe, Int.reduceBEq, Nat.reduceBEq, Int.reduceBNe, Nat.reduceBNe, Int.reduceAdd, Int.reduceSub, Int.reduceMul, Int.reduceNeg]
    | false =>
      have hst : numB B (i + 1) = numB B i := by rw [numB, hx]; simp
      simp (dsimp := false) (maxSteps := 4000000) only [r0, hfind, hbB, hlt, rB, Nat.zero_add, Nat.mul_one, e2, ee, go_sem, ↓reduceIte, Nat.reduceEqDiff, Nat.reduceLT, Nat.reduceLeDiff, Nat.reduceAdd, Nat.reduceMul, Nat.reduceSub, reduceCtorEq, Int.reduceToNat, Int.reduceLT, Int.reduceLE, Int.reduceEq, Int.reduceNe, Int.reduceBEq, Nat.reduceBEq, Int.reduceBNe, Nat.reduceBNe, Int.reduceAdd, Int.reduceSub, Int.reduceMul, Int.reduceNeg]
      refine again (i + 1) _ _ (by omega) (FrLe.of_lks ?_) (AH.le_refl _) (by omega)
      rw [hst]
      simp (dsimp := false) (maxSteps := 4000000) only [go_sem, ↓reduceIte, Nat.reduceEqDiff, Nat.reduceLT, Nat.reduceLeDiff, Nat.reduceAdd, Nat.reduceMul, Nat.reduceSub, reduceCtorEq, Int.reduceToNat, Int.reduceLT, Int.reduceLE, Int.reduceEq, Int.reduceNe, Int.reduceBEq, Nat.reduceBEq, Int.reduceBNe, Nat.reduceBNe, Int.reduceAdd, Int.reduceSub, Int.reduceMul, Int.reduceNeg]
  · obtain rfl : i = B.length := by omega
    simp (dsimp := false) (maxSteps := 4000000) only [r0, hfind, hlt, go_sem, ↓reduceIte, Nat.reduceEqDiff, Nat.reduceLT, Nat.reduceLeDiff, Nat.reduceAdd, Nat.reduceMul, Nat.reduceSub, reduceCtorEq, Int.reduceToNat, Int.reduceLT, Int.reduceLE, Int.reduceEq, Int.reduceNe, Int.reduceBEq, Nat.reduceBEq, Int.reduceBNe, Nat.reduceBNe, Int.reduceAdd, Int.reduceSub, Int.reduceMul, Int.reduceNeg]
    refine out _ _ _ (by simp) ?_
    simp (dsimp := false) (maxSteps := 4000000) only [go_sem, ↓reduceIte, Nat.reduceEqDiff, Nat.reduceLT, Nat.reduceLeDiff, Nat.reduceAdd, Nat.reduceMul, Nat.reduceSub, reduceCtorEq, Int.reduceToNat, Int.reduceLT, Int.reduceLE, Int.reduceEq, Int.reduceNe, Int.reduceBEq, Nat.reduceBEq, Int.reduceBNe, Nat.reduceBNe, Int.reduceAdd, Int.reduceSub, Int.reduceMul, Int.reduceNeg]
    generalize numB B B.length = N at n0 n1 ⊢
    have t1 := Int.tdiv_eq_ediv_of_nonneg (b := 16777216) n0
    have t2 := Int.tdiv_eq_ediv_of_nonneg (b := 65536) n0
    have t3 := Int.tdiv_eq_ediv_of_nonneg (b := 256) n0
    have w1 : IntKind.u64.wrap (N / 16777216) = N / 16777216 := u64_eq (by omega) (by omega)
    have w2 : IntKind.u64.wrap (N / 65536) = N / 65536 := u64_eq (by omega) (by omega)
    have w3 : IntKind.u64.wrap (N / 256) = N / 256 := u64_eq (by omega) (by omega)
    have m2 := Int.tmod_eq_emod_of_nonneg (b := 256) (show 0 ≤ N / 65536 by omega)
    have m3 := Int.tmod_eq_emod_of_nonneg (b := 256) (show 0 ≤ N / 256 by omega)
    have m4 := Int.tmod_eq_emod_of_nonneg (b := 256) n0
    have u8 : ∀ x : Int, IntKind.u8.wrap x = x % 256 := fun x => rfl
    refine ⟨A, AH.le_add (AH.le_refl _) h_bq.2, ?_, rfl⟩
    rw [t1, t2, t3, w1, w2, w3, m2, m3, m4, u8, u8, u8, u8]
    simp [digs]
end Go.Proofs.Ytgleplakdghaiaa.Mem
