/- rose: Next, File. -/
import Derived.Test.YtadbmmdmibiikaaRose1
namespace Go.Proofs.Ytadbmmdmibiikaa.Rose
set_option linter.unusedSimpArgs false
set_option linter.unusedVariables false
open Go Go.AX Go.Proofs Ty Go.Proofs.Ytadbmmdmibiikaa.File
set_option maxHeartbeats 4000000
set_option maxRecDepth 10000

def okAt (L : List Int) (at_ : Int) : Prop := seqB L = true ∧ 0 ≤ at_ ∧ at_ < L.length
def nbad : Value := .tuple #[.int .i64 0, .int .i64 0, .int .i64 1]
theorem seqB_len {L : List Int} (h : seqB L = true) : 1 ≤ L.length ∧ L.length ≤ 64 := by
  simp only [seqB, Bool.and_eq_true, decide_eq_true_eq] at h
  exact h.1
theorem Next_bad (L : List Int) (at_ : Int) (base : Option Addr) (cap : Nat) (H : AH) (hs : SlcIn H 1 base cap (L.map e1)) (h : ¬ okAt L at_) :
    ACalls Try.prog 20 #[.slice base L.length cap, .int .i64 at_] H (fun v H' => v = nbad ∧ H = H') := by
  refine ACalls.enter2 Try.func20 rfl Try.ntmps20 Try.results20 (by simp) ?_; simp (dsimp := false) (maxSteps := 4000000) only [go_sem, ↓reduceIte, Nat.reduceEqDiff, Nat.reduceLT, Nat.reduceLeDiff, Nat.reduceAdd, Nat.reduceMul, Nat.reduceSub, reduceCtorEq, Int.reduceToNat, Int.reduceLT, Int.reduceLE, Int.reduceEq, Int.reduceNe, Int.reduceBEq, Nat.reduceBEq, Int.reduceBNe, Nat.reduceBNe, Int.reduceAdd, Int.reduceSub, Int.reduceMul, Int.reduceNeg]
  refine (sequence_c L base cap _ hs).mono ?_; rintro _ _ ⟨rfl, rfl⟩
  by_cases g : seqB L = true
  · by_cases a : at_ < 0
    · simp (dsimp := false) (maxSteps := 4000000) only [g, a, go_sem, ↓reduceIte, Nat.reduceEqDiff, Nat.reduceLT, Nat.reduceLeDiff, Nat.reduceAdd, Nat.reduceMul, Nat.reduceSub, reduceCtorEq, Int.reduceToNat, Int.reduceLT, Int.reduceLE, Int.reduceEq, Int.reduceNe, Int.reduceBEq, Nat.reduceBEq, Int.reduceBNe, Nat.reduceBNe, Int.reduceAdd, Int.reduceSub, Int.reduceMul, Int.reduceNeg]
      exact ⟨H, (AH.le_refl _), (by first | exact ⟨rfl, rfl⟩ | rfl)⟩
    · have b : (L.length : Int) ≤ at_ := by
        rcases Int.lt_or_le at_ L.length with h' | h'
        · exact absurd ⟨g, by omega, h'⟩ h
        · exact h'
      simp (dsimp := false) (maxSteps := 4000000) only [g, a, b, go_sem, ↓reduceIte, Nat.reduceEqDiff, Nat.reduceLT, Nat.reduceLeDiff, Nat.reduceAdd, Nat.reduceMul, Nat.reduceSub, reduceCtorEq, Int.reduceToNat, Int.reduceLT, Int.reduceLE, Int.reduceEq, Int.reduceNe, Int.reduceBEq, Nat.reduceBEq, Int.reduceBNe, Nat.reduceBNe, Int.reduceAdd, Int.reduceSub, Int.reduceMul, Int.reduceNeg]
      exact ⟨H, (AH.le_refl _), (by first | exact ⟨rfl, rfl⟩ | rfl)⟩
  · have g' : seqB L = false := by simpa using g
    simp (dsimp := false) (maxSteps := 4000000) only [g', go_sem, ↓reduceIte, Nat.reduceEqDiff, Nat.reduceLT, Nat.reduceLeDiff, Nat.reduceAdd, Nat.reduceMul, Nat.reduceSub, reduceCtorEq, Int.reduceToNat, Int.reduceLT, Int.reduceLE, Int.reduceEq, Int.reduceNe, Int.reduceBEq, Nat.reduceBEq, Int.reduceBNe, Nat.reduceBNe, Int.reduceAdd, Int.reduceSub, Int.reduceMul, Int.reduceNeg]
    exact ⟨H, (AH.le_refl _), (by first | exact ⟨rfl, rfl⟩ | rfl)⟩
theorem RefNext_bad (L : List Int) (at_ : Int) (base : Option Addr) (cap : Nat) (H : AH) (hs : SlcIn H 1 base cap (L.map e1)) (h : ¬ okAt L at_) :
    ACalls Try.prog 21 #[.slice base L.length cap, .int .i64 at_] H (fun v H' => v = nbad ∧ H = H') := by
  refine ACalls.enter2 Try.func21 rfl Try.ntmps21 Try.results21 (by simp) ?_; simp (dsimp := false) (maxSteps := 4000000) only [go_sem, ↓reduceIte, Nat.reduceEqDiff, Nat.reduceLT, Nat.reduceLeDiff, Nat.reduceAdd, Nat.reduceMul, Nat.reduceSub, reduceCtorEq, Int.reduceToNat, Int.reduceLT, Int.reduceLE, Int.reduceEq, Int.reduceNe, Int.reduceBEq, Nat.reduceBEq, Int.reduceBNe, Nat.reduceBNe, Int.reduceAdd, Int.reduceSub, Int.reduceMul, Int.reduceNeg]
  refine (May_c L base cap _ hs).mono ?_; rintro _ _ ⟨rfl, rfl⟩
  by_cases g : seqB L = true
  · by_cases a : at_ < 0
    · simp (dsimp := false) (maxSteps := 4000000) only [g, a, go_sem, ↓reduceIte, Nat.reduceEqDiff, Nat.reduceLT, Nat.reduceLeDiff, Nat.reduceAdd, Nat.reduceMul, Nat.reduceSub, reduceCtorEq, Int.reduceToNat, Int.reduceLT, Int.reduceLE, Int.reduceEq, Int.reduceNe, Int.reduceBEq, Nat.reduceBEq, Int.reduceBNe, Nat.reduceBNe, Int.reduceAdd, Int.reduceSub, Int.reduceMul, Int.reduceNeg]
      exact ⟨H, (AH.le_refl _), (by first | exact ⟨rfl, rfl⟩ | rfl)⟩
    · have b : (L.length : Int) ≤ at_ := by
        rcases Int.lt_or_le at_ L.length with h' | h'
        · exact absurd ⟨g, by omega, h'⟩ h
        · exact h'
      simp (dsimp := false) (maxSteps := 4000000) only [g, a, b, go_sem, ↓reduceIte, Nat.reduceEqDiff, Nat.reduceLT, Nat.reduceLeDiff, Nat.reduceAdd, Nat.reduceMul, Nat.reduceSub, reduceCtorEq, Int.reduceToNat, Int.reduceLT, Int.reduceLE, Int.reduceEq, Int.reduceNe, Int.reduceBEq, Nat.reduceBEq, Int.reduceBNe, Nat.reduceBNe, Int.reduceAdd, Int.reduceSub, Int.reduceMul, Int.reduceNeg]
      exact ⟨H, (AH.le_refl _), (by first | exact ⟨rfl, rfl⟩ | rfl)⟩
  · have g' : seqB L = false := by simpa using g
    simp (dsimp := false) (maxSteps := 4000000) only [g', go_sem, ↓reduceIte, Nat.reduceEqDiff, Nat.reduceLT, Nat.reduceLeDiff, Nat.reduceAdd, Nat.reduceMul, Nat.reduceSub, reduceCtorEq, Int.reduceToNat, Int.reduceLT, Int.reduceLE, Int.reduceEq, Int.reduceNe, Int.reduceBEq, Nat.reduceBEq, Int.reduceBNe, Nat.reduceBNe, Int.reduceAdd, Int.reduceSub, Int.reduceMul, Int.reduceNeg]
    exact ⟨H, (AH.le_refl _), (by first | exact ⟨rfl, rfl⟩ | rfl)⟩
theorem Next_ok (L : List Int) (k : Nat) (n : Int) (base : Option Addr) (cap : Nat) (H : AH) (hs : SlcIn H 1 base cap (L.map e1)) (g : seqB L = true) (hn : L[k]? = some n) :
    ACalls Try.prog 20 #[.slice base L.length cap, .int .i64 k] H (fun v H' => v = .tuple #[.int .i64 n, .int .i64 ((k + 1) % L.length : Nat), .int .i64 0] ∧ H = H') := by
  obtain ⟨hl0, hl1⟩ := seqB_len g
  have hk := lt_of_get hn
  obtain ⟨b, o, rfl, hrd⟩ := get1 hs hn
  have a : ¬ (k : Int) < 0 := by omega
  have b1 : ¬ (L.length : Int) ≤ k := by omega
  have b2 : (k : Int) < L.length := by omega
  have b3 : ¬ (L.length : Int) = 0 := by omega
  have ee := i64_succ (i := k) (by omega)
  have em : ((k + 1 : Nat) : Int).tmod L.length = (((k + 1) % L.length : Nat) : Int) := by
    rw [Int.tmod_eq_emod_of_nonneg (by omega)]; rfl
  refine ACalls.enter2 Try.func20 rfl Try.ntmps20 Try.results20 (by simp) ?_; simp (dsimp := false) (maxSteps := 4000000) only [go_sem, ↓reduceIte, Nat.reduceEqDiff, Nat.reduceLT, Nat.reduceLeDiff, Nat.reduceAdd, Nat.reduceMul, Nat.reduceSub, reduceCtorEq, Int.reduceToNat, Int.reduceLT, Int.reduceLE, Int.reduceEq, Int.reduceNe, Int.reduceBEq, Nat.reduceBEq, Int.reduceBNe, Nat.reduceBNe, Int.reduceAdd, Int.reduceSub, Int.reduceMul, Int.reduceNeg]
  refine (sequence_c L _ cap _ hs).mono ?_; rintro _ _ ⟨rfl, rfl⟩
  simp (dsimp := false) (maxSteps := 4000000) only [g, a, b1, go_sem, ↓reduceIte, Nat.reduceEqDiff, Nat.reduceLT, Nat.reduceLeDiff, Nat.reduceAdd, Nat.reduceMul, Nat.reduceSub, reduceCtorEq, Int.reduceToNat, Int.reduceLT, Int.reduceLE, Int.reduceEq, Int.reduceNe, Int.reduceBEq, Nat.reduceBEq, Int.reduceBNe, Nat.reduceBNe, Int.reduceAdd, Int.reduceSub, Int.reduceMul, Int.reduceNeg]
  refine AWp.quiet mixed (by kernel_rfl) ?_
  simp (dsimp := false) (maxSteps := 4000000) only [b2, b3, hrd, ee, em, go_sem, ↓reduceIte, Nat.reduceEqDiff, Nat.reduceLT, Nat.reduceLeDiff, Nat.reduceAdd, Nat.reduceMul, Nat.reduceSub, reduceCtorEq, Int.reduceToNat, Int.reduceLT, Int.reduceLE, Int.reduceEq, Int.reduceNe, Int.reduceBEq, Nat.reduceBEq, Int.reduceBNe, Nat.reduceBNe, Int.reduceAdd, Int.reduceSub, Int.reduceMul, Int.reduceNeg]
  exact ⟨H, (AH.le_refl _), (by first | exact ⟨rfl, rfl⟩ | rfl)⟩
theorem RefNext_ok (L : List Int) (k : Nat) (n : Int) (base : Option Addr) (cap : Nat) (H : AH) (hs : SlcIn H 1 base cap (L.map e1)) (g : seqB L = true) (hn : L[k]? = some n) :
    ACalls Try.prog 21 #[.slice base L.length cap, .int .i64 k] H (fun v H' => v = .tuple #[.int .i64 n, .int .i64 ((k + 1) % L.length : Nat), .int .i64 0] ∧ H = H') := by
  obtain ⟨hl0, hl1⟩ := seqB_len g
  have hk := lt_of_get hn
  obtain ⟨b, o, rfl, hrd⟩ := get1 hs hn
  have a : ¬ (k : Int) < 0 := by omega
  have b1 : ¬ (L.length : Int) ≤ k := by omega
  have b2 : (k : Int) < L.length := by omega
  have ee := i64_succ (i := k) (by omega)
  have e2 : IntKind.i64.wrap ((L.length : Int) - 1) = (L.length : Int) - 1 := i64_eq (by omega) (by omega)
  refine ACalls.enter2 Try.func21 rfl Try.ntmps21 Try.results21 (by simp) ?_; simp (dsimp := false) (maxSteps := 4000000) only [go_sem, ↓reduceIte, Nat.reduceEqDiff, Nat.reduceLT, Nat.reduceLeDiff, Nat.reduceAdd, Nat.reduceMul, Nat.reduceSub, reduceCtorEq, Int.reduceToNat, Int.reduceLT, Int.reduceLE, Int.reduceEq, Int.reduceNe, Int.reduceBEq, Nat.reduceBEq, Int.reduceBNe, Nat.reduceBNe, Int.reduceAdd, Int.reduceSub, Int.reduceMul, Int.reduceNeg]
  refine (May_c L _ cap _ hs).mono ?_; rintro _ _ ⟨rfl, rfl⟩
  by_cases h : k + 1 = L.length
  · have h' : ((k : Int) = (L.length : Int) - 1) = True := eq_true (by omega)
    have hz : (k + 1) % L.length = 0 := by rw [h]; exact Nat.mod_self _
    simp (dsimp := false) (maxSteps := 4000000) only [g, a, b1, e2, h', b2, hrd, go_sem, ↓reduceIte, Nat.reduceEqDiff, Nat.reduceLT, Nat.reduceLeDiff, Nat.reduceAdd, Nat.reduceMul, Nat.reduceSub, reduceCtorEq, Int.reduceToNat, Int.reduceLT, Int.reduceLE, Int.reduceEq, Int.reduceNe, Int.reduceBEq, Nat.reduceBEq, Int.reduceBNe, Nat.reduceBNe, Int.reduceAdd, Int.reduceSub, Int.reduceMul, Int.reduceNeg]
    exact ⟨H, (AH.le_refl _), (by first | exact ⟨by rw [hz]; rfl, rfl⟩ | rfl)⟩
  · have h' : ¬ ((k : Int) = (L.length : Int) - 1) := by omega
    have hz : (k + 1) % L.length = k + 1 := Nat.mod_eq_of_lt (by omega)
    simp (dsimp := false) (maxSteps := 4000000) only [g, a, b1, e2, h', b2, hrd, ee, go_sem, ↓reduceIte, Nat.reduceEqDiff, Nat.reduceLT, Nat.reduceLeDiff, Nat.reduceAdd, Nat.reduceMul, Nat.reduceSub, reduceCtorEq, Int.reduceToNat, Int.reduceLT, Int.reduceLE, Int.reduceEq, Int.reduceNe, Int.reduceBEq, Nat.reduceBEq, Int.reduceBNe, Nat.reduceBNe, Int.reduceAdd, Int.reduceSub, Int.reduceMul, Int.reduceNeg]
    exact ⟨H, (AH.le_refl _), (by first | exact ⟨by rw [hz], rfl⟩ | rfl)⟩

def fb (n : Int) : Rc := (IntKind.u8.wrap n, 0, 0, 0)
def fileS (L : List Int) (i : Nat) : List Rc := hd 3 L.length :: ((L.take i).map fb ++ List.replicate (L.length - i) zr)
def fileR (L : List Int) : List Rc := hd 3 L.length :: L.map fb
theorem fileS_zero (L : List Int) : fileS L 0 = newR 3 L.length := rfl
theorem fileS_all (L : List Int) : fileS L L.length = fileR L := by simp [fileS, fileR]
theorem fileS_len {L : List Int} {i : Nat} (h : i ≤ L.length) : (fileS L i).length = L.length + 1 := by simp [fileS]; omega
theorem fileS_get {L : List Int} {i : Nat} (h : i < L.length) : (fileS L i)[i + 1]? = some zr := by
  simp only [fileS, List.getElem?_cons_succ]
  rw [List.getElem?_append_right (by simp; omega), List.getElem?_replicate, if_pos (by simp; omega)]
theorem fileS_set {L : List Int} {i : Nat} {n : Int} (h : L[i]? = some n) : (fileS L i).set (i + 1) (fb n) = fileS L (i + 1) := by
  have hi := lt_of_get h
  simp only [fileS, List.set_cons_succ]
  rw [List.set_append_right _ _ (by simp; omega), show L.length - i = (L.length - (i + 1)) + 1 from by omega, List.replicate_succ]
  have : i - ((L.take i).map fb).length = 0 := by simp; omega
  rw [this, List.set_cons_zero, List.take_add_one, h]
  simp
theorem set_same {l : List Value} {i : Nat} {v : Value} (h : l[i]? = some v) : l.set i v = l := by
  apply List.ext_getElem?
  intro j
  by_cases e : i = j
  · subst e
    have hlt : i < l.length := by
      rcases Nat.lt_or_ge i l.length with h' | h'
      · exact h'
      · rw [List.getElem?_eq_none h'] at h; cases h
    rw [List.getElem?_set_self hlt, h]
  · rw [List.getElem?_set_ne e]
theorem set0 {M : List Rc} {i : Nat} {a b c d : Int} (x : Int) (h : M[i]? = some (a, b, c, d)) : (M.map enc).flatten.set (i * 4) (.int .u8 x) = ((M.set i (x, b, c, d)).map enc).flatten := by
  have hi := lt_of_get h
  have hg := fun j v (hj : (enc (a, b, c, d))[j]? = some v) => flat_get (rows4 M) i j _ v (map_get h) hj
  rw [← put4 (x, b, c, d) hi]
  show _ = ((((M.map enc).flatten.set (i * 4) (.int .u8 x)).set (i * 4 + 1) (.int .u8 b)).set (i * 4 + 1 + 1) (.int .u8 c)).set (i * 4 + 1 + 1 + 1) (.int .u8 d)
  rw [set_same (v := .int .u8 b) (by rw [List.getElem?_set_ne (by omega)]; exact hg 1 _ rfl), set_same (v := .int .u8 c) (by rw [List.getElem?_set_ne (by omega)]; exact hg 2 _ rfl), set_same (v := .int .u8 d) (by rw [List.getElem?_set_ne (by omega)]; exact hg 3 _ rfl)]
theorem File_bad (L : List Int) (base : Option Addr) (cap : Nat) (H : AH) (hs : SlcIn H 1 base cap (L.map e1)) (g : seqB L = false) :
    ACalls Try.prog 15 #[.slice base L.length cap] H (fun v H' => v = fbad 1 ∧ H = H') := by
  refine ACalls.enter2 Try.func15 rfl Try.ntmps15 Try.results15 (by simp) ?_; simp (dsimp := false) (maxSteps := 4000000) only [go_sem, ↓reduceIte, Nat.reduceEqDiff, Nat.reduceLT, Nat.reduceLeDiff, Nat.reduceAdd, Nat.reduceMul, Nat.reduceSub, reduceCtorEq, Int.reduceToNat, Int.reduceLT, Int.reduceLE, Int.reduceEq, Int.reduceNe, Int.reduceBEq, Nat.reduceBEq, Int.reduceBNe, Nat.reduceBNe, Int.reduceAdd, Int.reduceSub, Int.reduceMul, Int.reduceNeg]
  refine AllB.mk fun b2 h_b2 => ?_; have hn_b2 := h_b2; (try simp only [fresh_add, fresh_set, ne_eq] at hn_b2); have hr_b2 := hn_b2; (try simp only [@eq_comm Nat b2] at hr_b2); simp (dsimp := false) (maxSteps := 4000000) only [hn_b2, hr_b2, go_sem, ↓reduceIte, Nat.reduceEqDiff, Nat.reduceLT, Nat.reduceLeDiff, Nat.reduceAdd, Nat.reduceMul, Nat.reduceSub, reduceCtorEq, Int.reduceToNat, Int.reduceLT, Int.reduceLE, Int.reduceEq, Int.reduceNe, Int.reduceBEq, Nat.reduceBEq, Int.reduceBNe, Nat.reduceBNe, Int.reduceAdd, Int.reduceSub, Int.reduceMul, Int.reduceNeg]
  refine (sequence_c L base cap _ (hs.add (by simp only [fresh_add, ne_eq, hn_b2, not_false_eq_true, and_self] : Fresh _ b2))).mono ?_; rintro _ _ ⟨rfl, rfl⟩
  simp (dsimp := false) (maxSteps := 4000000) only [g, hn_b2, hr_b2, go_sem, ↓reduceIte, Nat.reduceEqDiff, Nat.reduceLT, Nat.reduceLeDiff, Nat.reduceAdd, Nat.reduceMul, Nat.reduceSub, reduceCtorEq, Int.reduceToNat, Int.reduceLT, Int.reduceLE, Int.reduceEq, Int.reduceNe, Int.reduceBEq, Nat.reduceBEq, Int.reduceBNe, Nat.reduceBNe, Int.reduceAdd, Int.reduceSub, Int.reduceMul, Int.reduceNeg]
  exact ⟨H, (AH.le_add (AH.le_refl _) ((by simp only [fresh_add, fresh_set, ne_eq, hn_b2, not_false_eq_true, and_self] : Fresh _ b2).2)), (by first | exact ⟨rfl, rfl⟩ | rfl)⟩
theorem File_ok (L : List Int) (base : Option Addr) (cap : Nat) (H : AH) (hs : SlcIn H 1 base cap (L.map e1)) (g : seqB L = true) :
    ACalls Try.prog 15 #[.slice base L.length cap] H (fun v H' => ∃ b, Fresh H b ∧ v = .tuple #[.agg #[.int .i64 3, .slice (some ⟨b, 0, none⟩) (L.length + 1) (L.length + 1)], .int .i64 0] ∧ H' = H.add b (.cells ((fileR L).map enc).flatten 64 ((L.length + 1) * 4))) := by
  obtain ⟨hl0, hl1⟩ := seqB_len g
  refine ACalls.enter2 Try.func15 rfl Try.ntmps15 Try.results15 (by simp) ?_; simp (dsimp := false) (maxSteps := 4000000) only [go_sem, ↓reduceIte, Nat.reduceEqDiff, Nat.reduceLT, Nat.reduceLeDiff, Nat.reduceAdd, Nat.reduceMul, Nat.reduceSub, reduceCtorEq, Int.reduceToNat, Int.reduceLT, Int.reduceLE, Int.reduceEq, Int.reduceNe, Int.reduceBEq, Nat.reduceBEq, Int.reduceBNe, Nat.reduceBNe, Int.reduceAdd, Int.reduceSub, Int.reduceMul, Int.reduceNeg]
  refine AllB.mk fun b2 h_b2 => ?_; have hn_b2 := h_b2; (try simp only [fresh_add, fresh_set, ne_eq] at hn_b2); have hr_b2 := hn_b2; (try simp only [@eq_comm Nat b2] at hr_b2); simp (dsimp := false) (maxSteps := 4000000) only [hn_b2, hr_b2, go_sem, ↓reduceIte, Nat.reduceEqDiff, Nat.reduceLT, Nat.reduceLeDiff, Nat.reduceAdd, Nat.reduceMul, Nat.reduceSub, reduceCtorEq, Int.reduceToNat, Int.reduceLT, Int.reduceLE, Int.reduceEq, Int.reduceNe, Int.reduceBEq, Nat.reduceBEq, Int.reduceBNe, Nat.reduceBNe, Int.reduceAdd, Int.reduceSub, Int.reduceMul, Int.reduceNeg]
  refine (sequence_c L base cap _ (hs.add (by simp only [fresh_add, ne_eq, hn_b2, not_false_eq_true, and_self] : Fresh _ b2))).mono ?_; rintro _ _ ⟨rfl, rfl⟩
  simp (dsimp := false) (maxSteps := 4000000) only [g, hn_b2, hr_b2, go_sem, ↓reduceIte, Nat.reduceEqDiff, Nat.reduceLT, Nat.reduceLeDiff, Nat.reduceAdd, Nat.reduceMul, Nat.reduceSub, reduceCtorEq, Int.reduceToNat, Int.reduceLT, Int.reduceLE, Int.reduceEq, Int.reduceNe, Int.reduceBEq, Nat.reduceBEq, Int.reduceBNe, Nat.reduceBNe, Int.reduceAdd, Int.reduceSub, Int.reduceMul, Int.reduceNeg]
  refine (New_c 3 L.length ⟨by decide, by decide, by omega, by omega⟩ _).mono ?_; rintro _ _ ⟨bn, h_bn, rfl, rfl⟩
  have hn_bn := h_bn; (try simp only [fresh_add, fresh_set, ne_eq] at hn_bn); have hr_bn := hn_bn; (try simp only [@eq_comm Nat bn] at hr_bn)
  unfold fv
  simp (dsimp := false) (maxSteps := 4000000) only [hn_b2, hr_b2, hn_bn, hr_bn, go_sem, ↓reduceIte, Nat.reduceEqDiff, Nat.reduceLT, Nat.reduceLeDiff, Nat.reduceAdd, Nat.reduceMul, Nat.reduceSub, reduceCtorEq, Int.reduceToNat, Int.reduceLT, Int.reduceLE, Int.reduceEq, Int.reduceNe, Int.reduceBEq, Nat.reduceBEq, Int.reduceBNe, Nat.reduceBNe, Int.reduceAdd, Int.reduceSub, Int.reduceMul, Int.reduceNeg]
  refine AllB.mk fun b4 h_b4 => ?_; have hn_b4 := h_b4; (try simp only [fresh_add, fresh_set, ne_eq] at hn_b4); have hr_b4 := hn_b4; (try simp only [@eq_comm Nat b4] at hr_b4); simp (dsimp := false) (maxSteps := 4000000) only [hn_b2, hr_b2, hn_bn, hr_bn, hn_b4, hr_b4, go_sem, ↓reduceIte, Nat.reduceEqDiff, Nat.reduceLT, Nat.reduceLeDiff, Nat.reduceAdd, Nat.reduceMul, Nat.reduceSub, reduceCtorEq, Int.reduceToNat, Int.reduceLT, Int.reduceLE, Int.reduceEq, Int.reduceNe, Int.reduceBEq, Nat.reduceBEq, Int.reduceBNe, Nat.reduceBNe, Int.reduceAdd, Int.reduceSub, Int.reduceMul, Int.reduceNeg]
  rw [← fileS_zero]
  refine AWp.loopo (ι := Nat) (fun i => i ≤ L.length) (fun i => [(20, .int .i64 i), (19, .int .i64 L.length), (18, .slice base L.length cap), (0, .slice base L.length cap), (2, .pointer (some ⟨b2, 0, none⟩)), (4, .pointer (some ⟨b4, 0, none⟩)), (5, .int .i64 0)])
    (fun i => ((H.add b2 (.cells [.int .i64 0, .slice none 0 0] 25 2)).add bn (.cells ((fileS L i).map enc).flatten 64 ((L.length + 1) * 4))).add b4 (.cells [.int .i64 3, .slice (some ⟨bn, 0, none⟩) (L.length + 1) (L.length + 1)] 25 2)) (fun i => L.length - i) 0 (by omega) (FrLe.of_lks ?_) (AH.le_refl _) fun i hi Q again out => ?_
  · simp (dsimp := false) (maxSteps := 4000000) only [hn_b2, hr_b2, hn_bn, hr_bn, hn_b4, hr_b4, go_sem, ↓reduceIte, Nat.reduceEqDiff, Nat.reduceLT, Nat.reduceLeDiff, Nat.reduceAdd, Nat.reduceMul, Nat.reduceSub, reduceCtorEq, Int.reduceToNat, Int.reduceLT, Int.reduceLE, Int.reduceEq, Int.reduceNe, Int.reduceBEq, Nat.reduceBEq, Int.reduceBNe, Nat.reduceBNe, Int.reduceAdd, Int.reduceSub, Int.reduceMul, Int.reduceNeg]
  · by_cases h : (i : Int) < L.length
    · obtain ⟨n, hn⟩ := get_some (l := L) (i := i) (by omega)
      obtain ⟨b, o, rfl, hrd⟩ := get1 hs hn
      have ee := i64_succ (i := i) (by omega)
      have e2 : IntKind.i64.wrap (1 + (i : Int)) = ((i + 1 : Nat) : Int) := by rw [i64_eq (by omega) (by omega)]; omega
      have c1 : ((i + 1 : Nat) : Int) < ((L.length + 1 : Nat) : Int) := by omega
      have nr_hrd := (And.intro (Fresh.ne_rd (by simp only [hn_b2] : Fresh H b2) hrd) (And.intro (Fresh.ne_rd (by simp only [hn_bn] : Fresh H bn) hrd) (Fresh.ne_rd (by simp only [hn_b4] : Fresh H b4) hrd)))
      have hst := set0 (IntKind.u8.wrap n) (fileS_get (L := L) (i := i) (by omega))
      have hss : (fileS L i).set (i + 1) (IntKind.u8.wrap n, 0, 0, 0) = fileS L (i + 1) := fileS_set hn
      have hl := flat4 (fileS L i)
      rw [fileS_len (by omega)] at hl
      have c2 : (i + 1) * 4 + 1 ≤ (L.length + 1) * 4 := by omega
      have c3 : (L.length + 1) * 4 ≤ (L.length + 1) * 4 := Nat.le_refl _
      simp (dsimp := false) (maxSteps := 4000000) only [h, hrd, nr_hrd, e2, c1, hst, hss, hl, c2, c3, ee, hn_b2, hr_b2, hn_bn, hr_bn, hn_b4, hr_b4, go_sem, ↓reduceIte, Nat.reduceEqDiff, Nat.reduceLT, Nat.reduceLeDiff, Nat.reduceAdd, Nat.reduceMul, Nat.reduceSub, reduceCtorEq, Int.reduceToNat, Int.reduceLT, Int.reduceLE, Int.reduceEq, Int.reduceNe, Int.reduceBEq, Nat.reduceBEq, Int.reduceBNe, Nat.reduceBNe, Int.reduceAdd, Int.reduceSub, Int.reduceMul, Int.reduceNeg]
      exact again (i + 1) _ _ (by omega) (FrLe.of_lks (by simp (dsimp := false) (maxSteps := 4000000) only [hn_b2, hr_b2, hn_bn, hr_bn, hn_b4, hr_b4, go_sem, ↓reduceIte, Nat.reduceEqDiff, Nat.reduceLT, Nat.reduceLeDiff, Nat.reduceAdd, Nat.reduceMul, Nat.reduceSub, reduceCtorEq, Int.reduceToNat, Int.reduceLT, Int.reduceLE, Int.reduceEq, Int.reduceNe, Int.reduceBEq, Nat.reduceBEq, Int.reduceBNe, Nat.reduceBNe, Int.reduceAdd, Int.reduceSub, Int.reduceMul, Int.reduceNeg])) (AH.le_refl _) (by omega)
    · obtain rfl : i = L.length := by omega
      simp (dsimp := false) (maxSteps := 4000000) only [h, hn_b2, hr_b2, hn_bn, hr_bn, hn_b4, hr_b4, go_sem, ↓reduceIte, Nat.reduceEqDiff, Nat.reduceLT, Nat.reduceLeDiff, Nat.reduceAdd, Nat.reduceMul, Nat.reduceSub, reduceCtorEq, Int.reduceToNat, Int.reduceLT, Int.reduceLE, Int.reduceEq, Int.reduceNe, Int.reduceBEq, Nat.reduceBEq, Int.reduceBNe, Nat.reduceBNe, Int.reduceAdd, Int.reduceSub, Int.reduceMul, Int.reduceNeg]
      refine out _ _ _ (by simp) ?_
      rw [fileS_all]
      simp (dsimp := false) (maxSteps := 4000000) only [hn_b2, hr_b2, hn_bn, hr_bn, hn_b4, hr_b4, go_sem, ↓reduceIte, Nat.reduceEqDiff, Nat.reduceLT, Nat.reduceLeDiff, Nat.reduceAdd, Nat.reduceMul, Nat.reduceSub, reduceCtorEq, Int.reduceToNat, Int.reduceLT, Int.reduceLE, Int.reduceEq, Int.reduceNe, Int.reduceBEq, Nat.reduceBEq, Int.reduceBNe, Nat.reduceBNe, Int.reduceAdd, Int.reduceSub, Int.reduceMul, Int.reduceNeg]
      exact ⟨_, (by refine AH.le_cons ?_ ?_; (show AH.find _ _ = _; simp only [find_add_self, find_add_ne, find_fresh, fresh_add, ne_eq, not_false_eq_true, true_and, and_true, and_self, hn_b2, hr_b2, hn_bn, hr_bn, hn_b4, hr_b4]); (repeat (first | exact AH.le_refl _ | refine AH.le_add ?_ ?_)); all_goals (first | exact AH.le_refl _ | (show AH.find _ _ = _; simp only [find_add_self, find_add_ne, find_fresh, fresh_add, ne_eq, not_false_eq_true, true_and, and_true, and_self, hn_b2, hr_b2, hn_bn, hr_bn, hn_b4, hr_b4]))), bn, hn_bn.2, rfl, rfl⟩
end Go.Proofs.Ytadbmmdmibiikaa.Rose
