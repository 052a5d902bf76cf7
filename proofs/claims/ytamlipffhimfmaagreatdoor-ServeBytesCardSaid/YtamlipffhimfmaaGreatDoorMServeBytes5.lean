/- Texts of mine, one behind another. -/
import Derived.Test.YtamlipffhimfmaaGreatDoorMServeBytes4
import Derived.Deep.Slices
import Derived.ProofKit
import Derived.OpenShut
import Derived.SizedLaws
import Derived.Lib.SmallJoins
import Derived.LaidEql
import Derived.Stop.Asserts
import Derived.RowKitTokens
/- file's reference, Do: what it comes to. -/
namespace Go.Proofs.YtamlipffhimfmaaGreatDoor.File
set_option linter.unusedSimpArgs false
set_option linter.unusedVariables false
open Go Go.AX Go.Proofs Ty
set_option maxHeartbeats 4000000
set_option maxRecDepth 10000

def RcOk (r : Rc) : Prop := (0 ≤ r.1 ∧ r.1 ≤ 255) ∧ (0 ≤ r.2.1 ∧ r.2.1 ≤ 255) ∧ (0 ≤ r.2.2.1 ∧ r.2.2.1 ≤ 255) ∧ (0 ≤ r.2.2.2 ∧ r.2.2.2 ≤ 255)
theorem enc_0 (r : Rc) : (enc r)[0]? = some (.int .u8 r.1) := rfl
theorem enc_1 (r : Rc) : (enc r)[1]? = some (.int .u8 r.2.1) := rfl
theorem enc_2 (r : Rc) : (enc r)[2]? = some (.int .u8 r.2.2.1) := rfl
theorem enc_3 (r : Rc) : (enc r)[3]? = some (.int .u8 r.2.2.2) := rfl
theorem qrem {p : Int} (n : Int) (h0 : 0 ≤ p) (h1 : p ≤ 7) (hn : 0 < n) : (IntKind.i64.wrap (p.tdiv n)).tmod 2 = p / n % 2 := by
  have a : 0 ≤ p / n := Int.ediv_nonneg h0 (by omega)
  have b : p / n ≤ p := Int.ediv_le_self n h0
  rw [Int.tdiv_eq_ediv_of_nonneg h0, i64_eq (by omega) (by omega), Int.tmod_eq_emod_of_nonneg a]
theorem u8w (x : Int) : IntKind.u8.wrap x = x % 256 := rfl
theorem u32w (x : Int) : IntKind.u32.wrap x = x % 4294967296 := rfl
theorem next4 {r : Rc} (h : RcOk r) : enc (Nxt.nextR r) = [.int .u8 ((r.1 * 16777216 + r.2.1 * 65536 + r.2.2.1 * 256 + r.2.2.2 + 1) % 4294967296 / 16777216), .int .u8 ((r.1 * 16777216 + r.2.1 * 65536 + r.2.2.1 * 256 + r.2.2.2 + 1) / 65536 % 256), .int .u8 ((r.1 * 16777216 + r.2.1 * 65536 + r.2.2.1 * 256 + r.2.2.2 + 1) / 256 % 256), .int .u8 ((r.1 * 16777216 + r.2.1 * 65536 + r.2.2.1 * 256 + r.2.2.2 + 1) % 256)] := by
  obtain ⟨x0, x1, x2, x3⟩ := r
  obtain ⟨⟨a0, a1⟩, ⟨b0, b1⟩, ⟨c0, c1⟩, ⟨d0, d1⟩⟩ := h
  simp only at a0 a1 b0 b1 c0 c1 d0 d1
  unfold Nxt.nextR
  simp only [Nxt.inc, Nxt.at_, u8w, ne_eq]
  split
  · simp only [enc, List.cons.injEq, Value.int.injEq, true_and, and_true]; omega
  · split
    · simp only [enc, List.cons.injEq, Value.int.injEq, true_and, and_true]; omega
    · split
      · simp only [enc, List.cons.injEq, Value.int.injEq, true_and, and_true]; omega
      · simp only [enc, List.cons.injEq, Value.int.injEq, true_and, and_true]; omega
theorem sum4 {r : Rc} (h : RcOk r) : IntKind.u32.wrap (IntKind.u32.wrap (IntKind.u32.wrap (IntKind.u32.wrap (IntKind.u32.wrap (IntKind.u32.wrap r.1 * 16777216) + IntKind.u32.wrap (IntKind.u32.wrap r.2.1 * 65536)) + IntKind.u32.wrap (IntKind.u32.wrap r.2.2.1 * 256)) + IntKind.u32.wrap r.2.2.2) + 1) = (r.1 * 16777216 + r.2.1 * 65536 + r.2.2.1 * 256 + r.2.2.2 + 1) % 4294967296 := by
  obtain ⟨x0, x1, x2, x3⟩ := r
  obtain ⟨⟨a0, a1⟩, ⟨b0, b1⟩, ⟨c0, c1⟩, ⟨d0, d1⟩⟩ := h
  simp only at a0 a1 b0 b1 c0 c1 d0 d1
  simp only [u32w]
  omega
theorem put_next {L : List Rc} {i : Nat} {r : Rc} (h : RcOk r) (hi : i < L.length) : (((((L.map enc).flatten.set (i * 4) (.int .u8 (IntKind.u8.wrap (IntKind.u32.wrap ((IntKind.u32.wrap (IntKind.u32.wrap (IntKind.u32.wrap (IntKind.u32.wrap (IntKind.u32.wrap (IntKind.u32.wrap r.1 * 16777216) + IntKind.u32.wrap (IntKind.u32.wrap r.2.1 * 65536)) + IntKind.u32.wrap (IntKind.u32.wrap r.2.2.1 * 256)) + IntKind.u32.wrap r.2.2.2) + 1)).tdiv 16777216))))).set (i * 4 + 1) (.int .u8 (IntKind.u8.wrap ((IntKind.u32.wrap ((IntKind.u32.wrap (IntKind.u32.wrap (IntKind.u32.wrap (IntKind.u32.wrap (IntKind.u32.wrap (IntKind.u32.wrap r.1 * 16777216) + IntKind.u32.wrap (IntKind.u32.wrap r.2.1 * 65536)) + IntKind.u32.wrap (IntKind.u32.wrap r.2.2.1 * 256)) + IntKind.u32.wrap r.2.2.2) + 1)).tdiv 65536)).tmod 256)))).set (i * 4 + 1 + 1) (.int .u8 (IntKind.u8.wrap ((IntKind.u32.wrap ((IntKind.u32.wrap (IntKind.u32.wrap (IntKind.u32.wrap (IntKind.u32.wrap (IntKind.u32.wrap (IntKind.u32.wrap r.1 * 16777216) + IntKind.u32.wrap (IntKind.u32.wrap r.2.1 * 65536)) + IntKind.u32.wrap (IntKind.u32.wrap r.2.2.1 * 256)) + IntKind.u32.wrap r.2.2.2) + 1)).tdiv 256)).tmod 256)))).set (i * 4 + 1 + 1 + 1) (.int .u8 (IntKind.u8.wrap ((IntKind.u32.wrap (IntKind.u32.wrap (IntKind.u32.wrap (IntKind.u32.wrap (IntKind.u32.wrap (IntKind.u32.wrap r.1 * 16777216) + IntKind.u32.wrap (IntKind.u32.wrap r.2.1 * 65536)) + IntKind.u32.wrap (IntKind.u32.wrap r.2.2.1 * 256)) + IntKind.u32.wrap r.2.2.2) + 1)).tmod 256)))) = ((L.set i (Nxt.nextR r)).map enc).flatten := by
  rw [sum4 h, ← put4 (Nxt.nextR r) hi, next4 h]
  obtain ⟨x0, x1, x2, x3⟩ := r
  obtain ⟨⟨a0, a1⟩, ⟨b0, b1⟩, ⟨c0, c1⟩, ⟨d0, d1⟩⟩ := h
  simp only at a0 a1 b0 b1 c0 c1 d0 d1
  have hn : 0 ≤ x0 * 16777216 + x1 * 65536 + x2 * 256 + x3 + 1 := by omega
  generalize x0 * 16777216 + x1 * 65536 + x2 * 256 + x3 + 1 = N at hn ⊢
  have hm : 0 ≤ N % 4294967296 := by omega
  simp only [lput, u8w, u32w]
  have e1 : ((N % 4294967296).tdiv 16777216 % 4294967296 % 256) = N % 4294967296 / 16777216 := by
    rw [Int.tdiv_eq_ediv_of_nonneg hm]; omega
  have e2 : (((N % 4294967296).tdiv 65536 % 4294967296).tmod 256) % 256 = N / 65536 % 256 := by
    rw [Int.tdiv_eq_ediv_of_nonneg hm, Int.tmod_eq_emod_of_nonneg (by omega)]; omega
  have e3 : (((N % 4294967296).tdiv 256 % 4294967296).tmod 256) % 256 = N / 256 % 256 := by
    rw [Int.tdiv_eq_ediv_of_nonneg hm, Int.tmod_eq_emod_of_nonneg (by omega)]; omega
  have e4 : ((N % 4294967296).tmod 256) % 256 = N % 256 := by
    rw [Int.tmod_eq_emod_of_nonneg hm]; omega
  rw [e1, e2, e3, e4]
theorem mayF_perm {p op rec : Int} {R : List Rc} (g : goodF p R = true) (a : ¬ op < 0) (a2 : ¬ 2 < op) (b1 : ¬ rec < 0) (b2 : ¬ (R.length : Int) ≤ rec) (c0 : ¬ rec = 0) : mayF p R op rec = if p / bitF op % 2 = 0 then 5 else 0 := by
  unfold mayF
  rw [if_neg (by rw [g]; decide), if_neg (by omega), if_neg (by omega), if_neg c0]
theorem mayF_head {p op : Int} {R : List Rc} (g : goodF p R = true) (a : ¬ op < 0) (a2 : ¬ 2 < op) (b2 : R.length ≠ 0) : mayF p R op 0 = if op = 0 then 0 else 5 := by
  unfold mayF
  rw [if_neg (by rw [g]; decide), if_neg (by omega), if_neg (by omega), if_pos rfl]
theorem RefDo_bad (p op rec : Int) (R : List Rc) (v : Rc) (base : Option Addr) (cap : Nat) (H : AH) (hs : SlcIn H 4 base cap (R.map enc)) (hm : ¬ mayF p R op rec = 0) :
    ACalls Tryz.prog 82 #[fv p base R.length cap, .int .i64 op, .int .i64 rec, .agg (enc v).toArray] H (fun v H' => v = dbad (mayF p R op rec) ∧ H = H') := by
  unfold fv
  have hg := fun H1 (h1 : SlcIn H1 4 base cap (R.map enc)) => RefGood_c p R base cap H1 h1
  unfold fv at hg
  refine ACalls.enter2 Tryz.func82 rfl Tryz.ntmps82 Tryz.results82 (by simp) ?_; simp (dsimp := false) (maxSteps := 4000000) only [go_sem, ↓reduceIte, Nat.reduceEqDiff, Nat.reduceLT, Nat.reduceLeDiff, Nat.reduceAdd, Nat.reduceMul, Nat.reduceSub, reduceCtorEq, Int.reduceToNat, Int.reduceLT, Int.reduceLE, Int.reduceEq, Int.reduceNe, Int.reduceBEq, Nat.reduceBEq, Int.reduceBNe, Nat.reduceBNe, Int.reduceAdd, Int.reduceSub, Int.reduceMul, Int.reduceNeg]
  refine AllB.mk fun b4 h_b4 => ?_; have hn_b4 := h_b4; (try simp only [fresh_add, fresh_set, ne_eq] at hn_b4); have hr_b4 := hn_b4; (try simp only [@eq_comm Nat b4] at hr_b4); simp (dsimp := false) (maxSteps := 4000000) only [hn_b4, hr_b4, go_sem, ↓reduceIte, Nat.reduceEqDiff, Nat.reduceLT, Nat.reduceLeDiff, Nat.reduceAdd, Nat.reduceMul, Nat.reduceSub, reduceCtorEq, Int.reduceToNat, Int.reduceLT, Int.reduceLE, Int.reduceEq, Int.reduceNe, Int.reduceBEq, Nat.reduceBEq, Int.reduceBNe, Nat.reduceBNe, Int.reduceAdd, Int.reduceSub, Int.reduceMul, Int.reduceNeg]
  refine AllB.mk fun b7 h_b7 => ?_; have hn_b7 := h_b7; (try simp only [fresh_add, fresh_set, ne_eq] at hn_b7); have hr_b7 := hn_b7; (try simp only [@eq_comm Nat b7] at hr_b7); simp (dsimp := false) (maxSteps := 4000000) only [hn_b4, hr_b4, hn_b7, hr_b7, go_sem, ↓reduceIte, Nat.reduceEqDiff, Nat.reduceLT, Nat.reduceLeDiff, Nat.reduceAdd, Nat.reduceMul, Nat.reduceSub, reduceCtorEq, Int.reduceToNat, Int.reduceLT, Int.reduceLE, Int.reduceEq, Int.reduceNe, Int.reduceBEq, Nat.reduceBEq, Int.reduceBNe, Nat.reduceBNe, Int.reduceAdd, Int.reduceSub, Int.reduceMul, Int.reduceNeg]
  refine AllB.mk fun b8 h_b8 => ?_; have hn_b8 := h_b8; (try simp only [fresh_add, fresh_set, ne_eq] at hn_b8); have hr_b8 := hn_b8; (try simp only [@eq_comm Nat b8] at hr_b8); simp (dsimp := false) (maxSteps := 4000000) only [hn_b4, hr_b4, hn_b7, hr_b7, hn_b8, hr_b8, go_sem, ↓reduceIte, Nat.reduceEqDiff, Nat.reduceLT, Nat.reduceLeDiff, Nat.reduceAdd, Nat.reduceMul, Nat.reduceSub, reduceCtorEq, Int.reduceToNat, Int.reduceLT, Int.reduceLE, Int.reduceEq, Int.reduceNe, Int.reduceBEq, Nat.reduceBEq, Int.reduceBNe, Nat.reduceBNe, Int.reduceAdd, Int.reduceSub, Int.reduceMul, Int.reduceNeg]
  refine AllB.mk fun b9 h_b9 => ?_; have hn_b9 := h_b9; (try simp only [fresh_add, fresh_set, ne_eq] at hn_b9); have hr_b9 := hn_b9; (try simp only [@eq_comm Nat b9] at hr_b9); simp (dsimp := false) (maxSteps := 4000000) only [hn_b4, hr_b4, hn_b7, hr_b7, hn_b8, hr_b8, hn_b9, hr_b9, go_sem, ↓reduceIte, Nat.reduceEqDiff, Nat.reduceLT, Nat.reduceLeDiff, Nat.reduceAdd, Nat.reduceMul, Nat.reduceSub, reduceCtorEq, Int.reduceToNat, Int.reduceLT, Int.reduceLE, Int.reduceEq, Int.reduceNe, Int.reduceBEq, Nat.reduceBEq, Int.reduceBNe, Nat.reduceBNe, Int.reduceAdd, Int.reduceSub, Int.reduceMul, Int.reduceNeg]
  refine AllB.mk fun b11 h_b11 => ?_; have hn_b11 := h_b11; (try simp only [fresh_add, fresh_set, ne_eq] at hn_b11); have hr_b11 := hn_b11; (try simp only [@eq_comm Nat b11] at hr_b11); simp (dsimp := false) (maxSteps := 4000000) only [hn_b4, hr_b4, hn_b7, hr_b7, hn_b8, hr_b8, hn_b9, hr_b9, hn_b11, hr_b11, go_sem, ↓reduceIte, Nat.reduceEqDiff, Nat.reduceLT, Nat.reduceLeDiff, Nat.reduceAdd, Nat.reduceMul, Nat.reduceSub, reduceCtorEq, Int.reduceToNat, Int.reduceLT, Int.reduceLE, Int.reduceEq, Int.reduceNe, Int.reduceBEq, Nat.reduceBEq, Int.reduceBNe, Nat.reduceBNe, Int.reduceAdd, Int.reduceSub, Int.reduceMul, Int.reduceNeg]
  refine (hg _ (((((hs.add (by simp only [fresh_add, ne_eq, hn_b4, not_false_eq_true, and_self] : Fresh _ b4)).add (by simp only [fresh_add, ne_eq, hn_b7, not_false_eq_true, and_self] : Fresh _ b7)).add (by simp only [fresh_add, ne_eq, hn_b8, not_false_eq_true, and_self] : Fresh _ b8)).add (by simp only [fresh_add, ne_eq, hn_b9, not_false_eq_true, and_self] : Fresh _ b9)).add (by simp only [fresh_add, ne_eq, hn_b11, not_false_eq_true, and_self] : Fresh _ b11))).mono ?_; rintro _ _ ⟨rfl, rfl⟩
  by_cases g : goodF p R = true
  · obtain ⟨h0, h1, h2, h3⟩ := goodF_p g
    by_cases a : op < 0
    · simp (dsimp := false) (maxSteps := 4000000) only [g, a, hn_b4, hr_b4, hn_b7, hr_b7, hn_b8, hr_b8, hn_b9, hr_b9, hn_b11, hr_b11, go_sem, ↓reduceIte, Nat.reduceEqDiff, Nat.reduceLT, Nat.reduceLeDiff, Nat.reduceAdd, Nat.reduceMul, Nat.reduceSub, reduceCtorEq, Int.reduceToNat, Int.reduceLT, Int.reduceLE, Int.reduceEq, Int.reduceNe, Int.reduceBEq, Nat.reduceBEq, Int.reduceBNe, Nat.reduceBNe, Int.reduceAdd, Int.reduceSub, Int.reduceMul, Int.reduceNeg]
      exact ⟨H, (AH.le_add (AH.le_add (AH.le_add (AH.le_add (AH.le_add (AH.le_refl _) ((by simp only [fresh_add, fresh_set, ne_eq, hn_b4, not_false_eq_true, and_self] : Fresh _ b4).2)) ((by simp only [fresh_add, fresh_set, ne_eq, hn_b7, not_false_eq_true, and_self] : Fresh _ b7).2)) ((by simp only [fresh_add, fresh_set, ne_eq, hn_b8, not_false_eq_true, and_self] : Fresh _ b8).2)) ((by simp only [fresh_add, fresh_set, ne_eq, hn_b9, not_false_eq_true, and_self] : Fresh _ b9).2)) ((by simp only [fresh_add, fresh_set, ne_eq, hn_b11, not_false_eq_true, and_self] : Fresh _ b11).2)), (by first | exact ⟨by simp [mayF, g, a]; rfl, rfl⟩ | rfl)⟩
    by_cases a2 : 2 < op
    · simp (dsimp := false) (maxSteps := 4000000) only [g, a, a2, hn_b4, hr_b4, hn_b7, hr_b7, hn_b8, hr_b8, hn_b9, hr_b9, hn_b11, hr_b11, go_sem, ↓reduceIte, Nat.reduceEqDiff, Nat.reduceLT, Nat.reduceLeDiff, Nat.reduceAdd, Nat.reduceMul, Nat.reduceSub, reduceCtorEq, Int.reduceToNat, Int.reduceLT, Int.reduceLE, Int.reduceEq, Int.reduceNe, Int.reduceBEq, Nat.reduceBEq, Int.reduceBNe, Nat.reduceBNe, Int.reduceAdd, Int.reduceSub, Int.reduceMul, Int.reduceNeg]
      exact ⟨H, (AH.le_add (AH.le_add (AH.le_add (AH.le_add (AH.le_add (AH.le_refl _) ((by simp only [fresh_add, fresh_set, ne_eq, hn_b4, not_false_eq_true, and_self] : Fresh _ b4).2)) ((by simp only [fresh_add, fresh_set, ne_eq, hn_b7, not_false_eq_true, and_self] : Fresh _ b7).2)) ((by simp only [fresh_add, fresh_set, ne_eq, hn_b8, not_false_eq_true, and_self] : Fresh _ b8).2)) ((by simp only [fresh_add, fresh_set, ne_eq, hn_b9, not_false_eq_true, and_self] : Fresh _ b9).2)) ((by simp only [fresh_add, fresh_set, ne_eq, hn_b11, not_false_eq_true, and_self] : Fresh _ b11).2)), (by first | exact ⟨by simp [mayF, g, a2]; rfl, rfl⟩ | rfl)⟩
    have aa : ¬ (op < 0 ∨ 2 < op) := by omega
    by_cases b1 : rec < 0
    · simp (dsimp := false) (maxSteps := 4000000) only [g, a, a2, b1, hn_b4, hr_b4, hn_b7, hr_b7, hn_b8, hr_b8, hn_b9, hr_b9, hn_b11, hr_b11, go_sem, ↓reduceIte, Nat.reduceEqDiff, Nat.reduceLT, Nat.reduceLeDiff, Nat.reduceAdd, Nat.reduceMul, Nat.reduceSub, reduceCtorEq, Int.reduceToNat, Int.reduceLT, Int.reduceLE, Int.reduceEq, Int.reduceNe, Int.reduceBEq, Nat.reduceBEq, Int.reduceBNe, Nat.reduceBNe, Int.reduceAdd, Int.reduceSub, Int.reduceMul, Int.reduceNeg]
      exact ⟨H, (AH.le_add (AH.le_add (AH.le_add (AH.le_add (AH.le_add (AH.le_refl _) ((by simp only [fresh_add, fresh_set, ne_eq, hn_b4, not_false_eq_true, and_self] : Fresh _ b4).2)) ((by simp only [fresh_add, fresh_set, ne_eq, hn_b7, not_false_eq_true, and_self] : Fresh _ b7).2)) ((by simp only [fresh_add, fresh_set, ne_eq, hn_b8, not_false_eq_true, and_self] : Fresh _ b8).2)) ((by simp only [fresh_add, fresh_set, ne_eq, hn_b9, not_false_eq_true, and_self] : Fresh _ b9).2)) ((by simp only [fresh_add, fresh_set, ne_eq, hn_b11, not_false_eq_true, and_self] : Fresh _ b11).2)), (by first | exact ⟨by simp [mayF, g, a, a2, b1]; rfl, rfl⟩ | rfl)⟩
    by_cases b2 : (R.length : Int) ≤ rec
    · simp (dsimp := false) (maxSteps := 4000000) only [g, a, a2, b1, b2, hn_b4, hr_b4, hn_b7, hr_b7, hn_b8, hr_b8, hn_b9, hr_b9, hn_b11, hr_b11, go_sem, ↓reduceIte, Nat.reduceEqDiff, Nat.reduceLT, Nat.reduceLeDiff, Nat.reduceAdd, Nat.reduceMul, Nat.reduceSub, reduceCtorEq, Int.reduceToNat, Int.reduceLT, Int.reduceLE, Int.reduceEq, Int.reduceNe, Int.reduceBEq, Nat.reduceBEq, Int.reduceBNe, Nat.reduceBNe, Int.reduceAdd, Int.reduceSub, Int.reduceMul, Int.reduceNeg]
      exact ⟨H, (AH.le_add (AH.le_add (AH.le_add (AH.le_add (AH.le_add (AH.le_refl _) ((by simp only [fresh_add, fresh_set, ne_eq, hn_b4, not_false_eq_true, and_self] : Fresh _ b4).2)) ((by simp only [fresh_add, fresh_set, ne_eq, hn_b7, not_false_eq_true, and_self] : Fresh _ b7).2)) ((by simp only [fresh_add, fresh_set, ne_eq, hn_b8, not_false_eq_true, and_self] : Fresh _ b8).2)) ((by simp only [fresh_add, fresh_set, ne_eq, hn_b9, not_false_eq_true, and_self] : Fresh _ b9).2)) ((by simp only [fresh_add, fresh_set, ne_eq, hn_b11, not_false_eq_true, and_self] : Fresh _ b11).2)), (by first | exact ⟨by simp [mayF, g, a, a2, b2]; rfl, rfl⟩ | rfl)⟩
    simp (dsimp := false) (maxSteps := 4000000) only [g, a, a2, b1, b2, hn_b4, hr_b4, hn_b7, hr_b7, hn_b8, hr_b8, hn_b9, hr_b9, hn_b11, hr_b11, go_sem, ↓reduceIte, Nat.reduceEqDiff, Nat.reduceLT, Nat.reduceLeDiff, Nat.reduceAdd, Nat.reduceMul, Nat.reduceSub, reduceCtorEq, Int.reduceToNat, Int.reduceLT, Int.reduceLE, Int.reduceEq, Int.reduceNe, Int.reduceBEq, Nat.reduceBEq, Int.reduceBNe, Nat.reduceBNe, Int.reduceAdd, Int.reduceSub, Int.reduceMul, Int.reduceNeg]
    by_cases c0 : rec = 0
    · subst c0
      rcases (by omega : op = 0 ∨ op = 1 ∨ op = 2) with rfl | rfl | rfl
      · exact absurd (by simp [mayF, g, h2]) hm
      · 
        refine AllB.mk fun bn h_bn => ?_; have hn_bn := h_bn; (try simp only [fresh_add, fresh_set, ne_eq] at hn_bn); have hr_bn := hn_bn; (try simp only [@eq_comm Nat bn] at hr_bn); simp (dsimp := false) (maxSteps := 4000000) only [hn_b4, hr_b4, hn_b7, hr_b7, hn_b8, hr_b8, hn_b9, hr_b9, hn_b11, hr_b11, hn_bn, hr_bn, go_sem, ↓reduceIte, Nat.reduceEqDiff, Nat.reduceLT, Nat.reduceLeDiff, Nat.reduceAdd, Nat.reduceMul, Nat.reduceSub, reduceCtorEq, Int.reduceToNat, Int.reduceLT, Int.reduceLE, Int.reduceEq, Int.reduceNe, Int.reduceBEq, Nat.reduceBEq, Int.reduceBNe, Nat.reduceBNe, Int.reduceAdd, Int.reduceSub, Int.reduceMul, Int.reduceNeg]
        exact ⟨H, (AH.le_add (AH.le_add (AH.le_add (AH.le_add (AH.le_add (AH.le_add (AH.le_refl _) ((by simp only [fresh_add, fresh_set, ne_eq, hn_b4, not_false_eq_true, and_self] : Fresh _ b4).2)) ((by simp only [fresh_add, fresh_set, ne_eq, hn_b7, not_false_eq_true, and_self] : Fresh _ b7).2)) ((by simp only [fresh_add, fresh_set, ne_eq, hn_b8, not_false_eq_true, and_self] : Fresh _ b8).2)) ((by simp only [fresh_add, fresh_set, ne_eq, hn_b9, not_false_eq_true, and_self] : Fresh _ b9).2)) ((by simp only [fresh_add, fresh_set, ne_eq, hn_b11, not_false_eq_true, and_self] : Fresh _ b11).2)) ((by simp only [fresh_add, fresh_set, ne_eq, hn_bn, not_false_eq_true, and_self] : Fresh _ bn).2)), (by first | exact ⟨by simp [mayF, g, h2]; rfl, rfl⟩ | rfl)⟩
        
      · 
        refine AllB.mk fun bn h_bn => ?_; have hn_bn := h_bn; (try simp only [fresh_add, fresh_set, ne_eq] at hn_bn); have hr_bn := hn_bn; (try simp only [@eq_comm Nat bn] at hr_bn); simp (dsimp := false) (maxSteps := 4000000) only [hn_b4, hr_b4, hn_b7, hr_b7, hn_b8, hr_b8, hn_b9, hr_b9, hn_b11, hr_b11, hn_bn, hr_bn, go_sem, ↓reduceIte, Nat.reduceEqDiff, Nat.reduceLT, Nat.reduceLeDiff, Nat.reduceAdd, Nat.reduceMul, Nat.reduceSub, reduceCtorEq, Int.reduceToNat, Int.reduceLT, Int.reduceLE, Int.reduceEq, Int.reduceNe, Int.reduceBEq, Nat.reduceBEq, Int.reduceBNe, Nat.reduceBNe, Int.reduceAdd, Int.reduceSub, Int.reduceMul, Int.reduceNeg]
        exact ⟨H, (AH.le_add (AH.le_add (AH.le_add (AH.le_add (AH.le_add (AH.le_add (AH.le_refl _) ((by simp only [fresh_add, fresh_set, ne_eq, hn_b4, not_false_eq_true, and_self] : Fresh _ b4).2)) ((by simp only [fresh_add, fresh_set, ne_eq, hn_b7, not_false_eq_true, and_self] : Fresh _ b7).2)) ((by simp only [fresh_add, fresh_set, ne_eq, hn_b8, not_false_eq_true, and_self] : Fresh _ b8).2)) ((by simp only [fresh_add, fresh_set, ne_eq, hn_b9, not_false_eq_true, and_self] : Fresh _ b9).2)) ((by simp only [fresh_add, fresh_set, ne_eq, hn_b11, not_false_eq_true, and_self] : Fresh _ b11).2)) ((by simp only [fresh_add, fresh_set, ne_eq, hn_bn, not_false_eq_true, and_self] : Fresh _ bn).2)), (by first | exact ⟨by simp [mayF, g, h2]; rfl, rfl⟩ | rfl)⟩
        
    have c1 : 0 < rec := by omega
    rcases (by omega : op = 0 ∨ op = 1 ∨ op = 2) with rfl | rfl | rfl
    · 
      by_cases d : p / 1 % 2 = 0
      · have d' : p / bitF 0 % 2 = 0 := d
        have hq := qrem 1 h0 h1 (by omega)
        refine AllB.mk fun bn h_bn => ?_; have hn_bn := h_bn; (try simp only [fresh_add, fresh_set, ne_eq] at hn_bn); have hr_bn := hn_bn; (try simp only [@eq_comm Nat bn] at hr_bn); simp (dsimp := false) (maxSteps := 4000000) only [hn_b4, hr_b4, hn_b7, hr_b7, hn_b8, hr_b8, hn_b9, hr_b9, hn_b11, hr_b11, hn_bn, hr_bn, go_sem, ↓reduceIte, Nat.reduceEqDiff, Nat.reduceLT, Nat.reduceLeDiff, Nat.reduceAdd, Nat.reduceMul, Nat.reduceSub, reduceCtorEq, Int.reduceToNat, Int.reduceLT, Int.reduceLE, Int.reduceEq, Int.reduceNe, Int.reduceBEq, Nat.reduceBEq, Int.reduceBNe, Nat.reduceBNe, Int.reduceAdd, Int.reduceSub, Int.reduceMul, Int.reduceNeg]
        simp (dsimp := false) (maxSteps := 4000000) only [c0, c1, hq, d, hn_b4, hr_b4, hn_b7, hr_b7, hn_b8, hr_b8, hn_b9, hr_b9, hn_b11, hr_b11, hn_bn, hr_bn, go_sem, ↓reduceIte, Nat.reduceEqDiff, Nat.reduceLT, Nat.reduceLeDiff, Nat.reduceAdd, Nat.reduceMul, Nat.reduceSub, reduceCtorEq, Int.reduceToNat, Int.reduceLT, Int.reduceLE, Int.reduceEq, Int.reduceNe, Int.reduceBEq, Nat.reduceBEq, Int.reduceBNe, Nat.reduceBNe, Int.reduceAdd, Int.reduceSub, Int.reduceMul, Int.reduceNeg]
        exact ⟨H, (AH.le_add (AH.le_add (AH.le_add (AH.le_add (AH.le_add (AH.le_add (AH.le_refl _) ((by simp only [fresh_add, fresh_set, ne_eq, hn_b4, not_false_eq_true, and_self] : Fresh _ b4).2)) ((by simp only [fresh_add, fresh_set, ne_eq, hn_b7, not_false_eq_true, and_self] : Fresh _ b7).2)) ((by simp only [fresh_add, fresh_set, ne_eq, hn_b8, not_false_eq_true, and_self] : Fresh _ b8).2)) ((by simp only [fresh_add, fresh_set, ne_eq, hn_b9, not_false_eq_true, and_self] : Fresh _ b9).2)) ((by simp only [fresh_add, fresh_set, ne_eq, hn_b11, not_false_eq_true, and_self] : Fresh _ b11).2)) ((by simp only [fresh_add, fresh_set, ne_eq, hn_bn, not_false_eq_true, and_self] : Fresh _ bn).2)), (by first | exact ⟨by rw [mayF_perm g a a2 b1 b2 c0, if_pos d']; rfl, rfl⟩ | rfl)⟩
      · have d' : ¬ p / bitF 0 % 2 = 0 := d
        exact absurd (by rw [mayF_perm g a a2 b1 b2 c0, if_neg d']) hm
      
    · 
      by_cases d : p / 2 % 2 = 0
      · have d' : p / bitF 1 % 2 = 0 := d
        have hq := qrem 2 h0 h1 (by omega)
        refine AllB.mk fun bn h_bn => ?_; have hn_bn := h_bn; (try simp only [fresh_add, fresh_set, ne_eq] at hn_bn); have hr_bn := hn_bn; (try simp only [@eq_comm Nat bn] at hr_bn); simp (dsimp := false) (maxSteps := 4000000) only [hn_b4, hr_b4, hn_b7, hr_b7, hn_b8, hr_b8, hn_b9, hr_b9, hn_b11, hr_b11, hn_bn, hr_bn, go_sem, ↓reduceIte, Nat.reduceEqDiff, Nat.reduceLT, Nat.reduceLeDiff, Nat.reduceAdd, Nat.reduceMul, Nat.reduceSub, reduceCtorEq, Int.reduceToNat, Int.reduceLT, Int.reduceLE, Int.reduceEq, Int.reduceNe, Int.reduceBEq, Nat.reduceBEq, Int.reduceBNe, Nat.reduceBNe, Int.reduceAdd, Int.reduceSub, Int.reduceMul, Int.reduceNeg]
        simp (dsimp := false) (maxSteps := 4000000) only [c0, c1, hq, d, hn_b4, hr_b4, hn_b7, hr_b7, hn_b8, hr_b8, hn_b9, hr_b9, hn_b11, hr_b11, hn_bn, hr_bn, go_sem, ↓reduceIte, Nat.reduceEqDiff, Nat.reduceLT, Nat.reduceLeDiff, Nat.reduceAdd, Nat.reduceMul, Nat.reduceSub, reduceCtorEq, Int.reduceToNat, Int.reduceLT, Int.reduceLE, Int.reduceEq, Int.reduceNe, Int.reduceBEq, Nat.reduceBEq, Int.reduceBNe, Nat.reduceBNe, Int.reduceAdd, Int.reduceSub, Int.reduceMul, Int.reduceNeg]
        exact ⟨H, (AH.le_add (AH.le_add (AH.le_add (AH.le_add (AH.le_add (AH.le_add (AH.le_refl _) ((by simp only [fresh_add, fresh_set, ne_eq, hn_b4, not_false_eq_true, and_self] : Fresh _ b4).2)) ((by simp only [fresh_add, fresh_set, ne_eq, hn_b7, not_false_eq_true, and_self] : Fresh _ b7).2)) ((by simp only [fresh_add, fresh_set, ne_eq, hn_b8, not_false_eq_true, and_self] : Fresh _ b8).2)) ((by simp only [fresh_add, fresh_set, ne_eq, hn_b9, not_false_eq_true, and_self] : Fresh _ b9).2)) ((by simp only [fresh_add, fresh_set, ne_eq, hn_b11, not_false_eq_true, and_self] : Fresh _ b11).2)) ((by simp only [fresh_add, fresh_set, ne_eq, hn_bn, not_false_eq_true, and_self] : Fresh _ bn).2)), (by first | exact ⟨by rw [mayF_perm g a a2 b1 b2 c0, if_pos d']; rfl, rfl⟩ | rfl)⟩
      · have d' : ¬ p / bitF 1 % 2 = 0 := d
        exact absurd (by rw [mayF_perm g a a2 b1 b2 c0, if_neg d']) hm
      
    · 
      by_cases d : p / 4 % 2 = 0
      · have d' : p / bitF 2 % 2 = 0 := d
        have hq := qrem 4 h0 h1 (by omega)
        refine AllB.mk fun bn h_bn => ?_; have hn_bn := h_bn; (try simp only [fresh_add, fresh_set, ne_eq] at hn_bn); have hr_bn := hn_bn; (try simp only [@eq_comm Nat bn] at hr_bn); simp (dsimp := false) (maxSteps := 4000000) only [hn_b4, hr_b4, hn_b7, hr_b7, hn_b8, hr_b8, hn_b9, hr_b9, hn_b11, hr_b11, hn_bn, hr_bn, go_sem, ↓reduceIte, Nat.reduceEqDiff, Nat.reduceLT, Nat.reduceLeDiff, Nat.reduceAdd, Nat.reduceMul, Nat.reduceSub, reduceCtorEq, Int.reduceToNat, Int.reduceLT, Int.reduceLE, Int.reduceEq, Int.reduceNe, Int.reduceBEq, Nat.reduceBEq, Int.reduceBNe, Nat.reduceBNe, Int.reduceAdd, Int.reduceSub, Int.reduceMul, Int.reduceNeg]
        simp (dsimp := false) (maxSteps := 4000000) only [c0, c1, hq, d, hn_b4, hr_b4, hn_b7, hr_b7, hn_b8, hr_b8, hn_b9, hr_b9, hn_b11, hr_b11, hn_bn, hr_bn, go_sem, ↓reduceIte, Nat.reduceEqDiff, Nat.reduceLT, Nat.reduceLeDiff, Nat.reduceAdd, Nat.reduceMul, Nat.reduceSub, reduceCtorEq, Int.reduceToNat, Int.reduceLT, Int.reduceLE, Int.reduceEq, Int.reduceNe, Int.reduceBEq, Nat.reduceBEq, Int.reduceBNe, Nat.reduceBNe, Int.reduceAdd, Int.reduceSub, Int.reduceMul, Int.reduceNeg]
        exact ⟨H, (AH.le_add (AH.le_add (AH.le_add (AH.le_add (AH.le_add (AH.le_add (AH.le_refl _) ((by simp only [fresh_add, fresh_set, ne_eq, hn_b4, not_false_eq_true, and_self] : Fresh _ b4).2)) ((by simp only [fresh_add, fresh_set, ne_eq, hn_b7, not_false_eq_true, and_self] : Fresh _ b7).2)) ((by simp only [fresh_add, fresh_set, ne_eq, hn_b8, not_false_eq_true, and_self] : Fresh _ b8).2)) ((by simp only [fresh_add, fresh_set, ne_eq, hn_b9, not_false_eq_true, and_self] : Fresh _ b9).2)) ((by simp only [fresh_add, fresh_set, ne_eq, hn_b11, not_false_eq_true, and_self] : Fresh _ b11).2)) ((by simp only [fresh_add, fresh_set, ne_eq, hn_bn, not_false_eq_true, and_self] : Fresh _ bn).2)), (by first | exact ⟨by rw [mayF_perm g a a2 b1 b2 c0, if_pos d']; rfl, rfl⟩ | rfl)⟩
      · have d' : ¬ p / bitF 2 % 2 = 0 := d
        exact absurd (by rw [mayF_perm g a a2 b1 b2 c0, if_neg d']) hm
      
  · have g' : goodF p R = false := by simpa using g
    simp (dsimp := false) (maxSteps := 4000000) only [g', hn_b4, hr_b4, hn_b7, hr_b7, hn_b8, hr_b8, hn_b9, hr_b9, hn_b11, hr_b11, go_sem, ↓reduceIte, Nat.reduceEqDiff, Nat.reduceLT, Nat.reduceLeDiff, Nat.reduceAdd, Nat.reduceMul, Nat.reduceSub, reduceCtorEq, Int.reduceToNat, Int.reduceLT, Int.reduceLE, Int.reduceEq, Int.reduceNe, Int.reduceBEq, Nat.reduceBEq, Int.reduceBNe, Nat.reduceBNe, Int.reduceAdd, Int.reduceSub, Int.reduceMul, Int.reduceNeg]
    exact ⟨H, (AH.le_add (AH.le_add (AH.le_add (AH.le_add (AH.le_add (AH.le_refl _) ((by simp only [fresh_add, fresh_set, ne_eq, hn_b4, not_false_eq_true, and_self] : Fresh _ b4).2)) ((by simp only [fresh_add, fresh_set, ne_eq, hn_b7, not_false_eq_true, and_self] : Fresh _ b7).2)) ((by simp only [fresh_add, fresh_set, ne_eq, hn_b8, not_false_eq_true, and_self] : Fresh _ b8).2)) ((by simp only [fresh_add, fresh_set, ne_eq, hn_b9, not_false_eq_true, and_self] : Fresh _ b9).2)) ((by simp only [fresh_add, fresh_set, ne_eq, hn_b11, not_false_eq_true, and_self] : Fresh _ b11).2)), (by first | exact ⟨by simp [mayF, g']; rfl, rfl⟩ | rfl)⟩
theorem RefDo_ok (p op : Int) (rec : Nat) (R : List Rc) (v : Rc) (base : Option Addr) (cap : Nat) (H : AH) (hs : SlcIn H 4 base cap (R.map enc)) (hw : ∀ r ∈ R, RcOk r) (hm : mayF p R op rec = 0) :
    ACalls Tryz.prog 82 #[fv p base R.length cap, .int .i64 op, .int .i64 rec, .agg (enc v).toArray] H (fun x H' => ∃ b c bs, Fresh H b ∧ x = .tuple #[fv p (some ⟨b, 0, none⟩) R.length c, .agg (enc ((doR R op rec v).getD rec zr)).toArray, .int .i64 0] ∧ R.length ≤ c ∧ R.length * 4 ≤ bs ∧ H' = H.add b (.cells ((doR R op rec v).map enc).flatten 26 bs)) := by
  obtain ⟨hgd, ho0, ho1, hr0, hr1, hR, hp0, hp1⟩ := mayF_ok hm
  obtain ⟨r0, hr0_⟩ := get_some (l := R) (i := rec) (by omega)
  have hl4 := flat4 R
  have c4 : rec * 4 + 4 ≤ R.length * 4 := by omega
  have c5 : 0 + (rec * 4) + 4 ≤ R.length * 4 := by omega
  have c6 : 0 + (R.length * 4) ≤ R.length * 4 := by omega
  have a1 : ¬ op < 0 := by omega
  have a2 : ¬ 2 < op := by omega
  have b1 : ¬ (rec : Int) < 0 := by omega
  have b2 : ¬ (R.length : Int) ≤ rec := by omega
  unfold fv
  have hg := fun H1 (h1 : SlcIn H1 4 base cap (R.map enc)) => RefGood_c p R base cap H1 h1
  unfold fv at hg
  refine ACalls.enter2 Tryz.func82 rfl Tryz.ntmps82 Tryz.results82 (by simp) ?_; simp (dsimp := false) (maxSteps := 4000000) only [a1, a2, b1, b2, hgd, hr1, enc_len, enc_scal, enc_take, enc_z4, hl4, c4, c5, c6, go_sem, ↓reduceIte, Nat.reduceEqDiff, Nat.reduceLT, Nat.reduceLeDiff, Nat.reduceAdd, Nat.reduceMul, Nat.reduceSub, reduceCtorEq, Int.reduceToNat, Int.reduceLT, Int.reduceLE, Int.reduceEq, Int.reduceNe, Int.reduceBEq, Nat.reduceBEq, Int.reduceBNe, Nat.reduceBNe, Int.reduceAdd, Int.reduceSub, Int.reduceMul, Int.reduceNeg]
  refine AllB.mk fun b4 h_b4 => ?_; have hn_b4 := h_b4; (try simp only [fresh_add, fresh_set, ne_eq] at hn_b4); have hr_b4 := hn_b4; (try simp only [@eq_comm Nat b4] at hr_b4); simp (dsimp := false) (maxSteps := 4000000) only [a1, a2, b1, b2, hgd, hr1, enc_len, enc_scal, enc_take, enc_z4, hl4, c4, c5, c6, hn_b4, hr_b4, go_sem, ↓reduceIte, Nat.reduceEqDiff, Nat.reduceLT, Nat.reduceLeDiff, Nat.reduceAdd, Nat.reduceMul, Nat.reduceSub, reduceCtorEq, Int.reduceToNat, Int.reduceLT, Int.reduceLE, Int.reduceEq, Int.reduceNe, Int.reduceBEq, Nat.reduceBEq, Int.reduceBNe, Nat.reduceBNe, Int.reduceAdd, Int.reduceSub, Int.reduceMul, Int.reduceNeg]
  refine AllB.mk fun b7 h_b7 => ?_; have hn_b7 := h_b7; (try simp only [fresh_add, fresh_set, ne_eq] at hn_b7); have hr_b7 := hn_b7; (try simp only [@eq_comm Nat b7] at hr_b7); simp (dsimp := false) (maxSteps := 4000000) only [a1, a2, b1, b2, hgd, hr1, enc_len, enc_scal, enc_take, enc_z4, hl4, c4, c5, c6, hn_b4, hr_b4, hn_b7, hr_b7, go_sem, ↓reduceIte, Nat.reduceEqDiff, Nat.reduceLT, Nat.reduceLeDiff, Nat.reduceAdd, Nat.reduceMul, Nat.reduceSub, reduceCtorEq, Int.reduceToNat, Int.reduceLT, Int.reduceLE, Int.reduceEq, Int.reduceNe, Int.reduceBEq, Nat.reduceBEq, Int.reduceBNe, Nat.reduceBNe, Int.reduceAdd, Int.reduceSub, Int.reduceMul, Int.reduceNeg]
  refine AllB.mk fun b8 h_b8 => ?_; have hn_b8 := h_b8; (try simp only [fresh_add, fresh_set, ne_eq] at hn_b8); have hr_b8 := hn_b8; (try simp only [@eq_comm Nat b8] at hr_b8); simp (dsimp := false) (maxSteps := 4000000) only [a1, a2, b1, b2, hgd, hr1, enc_len, enc_scal, enc_take, enc_z4, hl4, c4, c5, c6, hn_b4, hr_b4, hn_b7, hr_b7, hn_b8, hr_b8, go_sem, ↓reduceIte, Nat.reduceEqDiff, Nat.reduceLT, Nat.reduceLeDiff, Nat.reduceAdd, Nat.reduceMul, Nat.reduceSub, reduceCtorEq, Int.reduceToNat, Int.reduceLT, Int.reduceLE, Int.reduceEq, Int.reduceNe, Int.reduceBEq, Nat.reduceBEq, Int.reduceBNe, Nat.reduceBNe, Int.reduceAdd, Int.reduceSub, Int.reduceMul, Int.reduceNeg]
  refine AllB.mk fun b9 h_b9 => ?_; have hn_b9 := h_b9; (try simp only [fresh_add, fresh_set, ne_eq] at hn_b9); have hr_b9 := hn_b9; (try simp only [@eq_comm Nat b9] at hr_b9); simp (dsimp := false) (maxSteps := 4000000) only [a1, a2, b1, b2, hgd, hr1, enc_len, enc_scal, enc_take, enc_z4, hl4, c4, c5, c6, hn_b4, hr_b4, hn_b7, hr_b7, hn_b8, hr_b8, hn_b9, hr_b9, go_sem, ↓reduceIte, Nat.reduceEqDiff, Nat.reduceLT, Nat.reduceLeDiff, Nat.reduceAdd, Nat.reduceMul, Nat.reduceSub, reduceCtorEq, Int.reduceToNat, Int.reduceLT, Int.reduceLE, Int.reduceEq, Int.reduceNe, Int.reduceBEq, Nat.reduceBEq, Int.reduceBNe, Nat.reduceBNe, Int.reduceAdd, Int.reduceSub, Int.reduceMul, Int.reduceNeg]
  refine AllB.mk fun b11 h_b11 => ?_; have hn_b11 := h_b11; (try simp only [fresh_add, fresh_set, ne_eq] at hn_b11); have hr_b11 := hn_b11; (try simp only [@eq_comm Nat b11] at hr_b11); simp (dsimp := false) (maxSteps := 4000000) only [a1, a2, b1, b2, hgd, hr1, enc_len, enc_scal, enc_take, enc_z4, hl4, c4, c5, c6, hn_b4, hr_b4, hn_b7, hr_b7, hn_b8, hr_b8, hn_b9, hr_b9, hn_b11, hr_b11, go_sem, ↓reduceIte, Nat.reduceEqDiff, Nat.reduceLT, Nat.reduceLeDiff, Nat.reduceAdd, Nat.reduceMul, Nat.reduceSub, reduceCtorEq, Int.reduceToNat, Int.reduceLT, Int.reduceLE, Int.reduceEq, Int.reduceNe, Int.reduceBEq, Nat.reduceBEq, Int.reduceBNe, Nat.reduceBNe, Int.reduceAdd, Int.reduceSub, Int.reduceMul, Int.reduceNeg]
  refine (hg _ (((((hs.add (by simp only [fresh_add, ne_eq, hn_b4, not_false_eq_true, and_self] : Fresh _ b4)).add (by simp only [fresh_add, ne_eq, hn_b7, not_false_eq_true, and_self] : Fresh _ b7)).add (by simp only [fresh_add, ne_eq, hn_b8, not_false_eq_true, and_self] : Fresh _ b8)).add (by simp only [fresh_add, ne_eq, hn_b9, not_false_eq_true, and_self] : Fresh _ b9)).add (by simp only [fresh_add, ne_eq, hn_b11, not_false_eq_true, and_self] : Fresh _ b11))).mono ?_; rintro _ _ ⟨rfl, rfl⟩
  simp (dsimp := false) (maxSteps := 4000000) only [a1, a2, b1, b2, hgd, hr1, enc_len, enc_scal, enc_take, enc_z4, hl4, c4, c5, c6, hn_b4, hr_b4, hn_b7, hr_b7, hn_b8, hr_b8, hn_b9, hr_b9, hn_b11, hr_b11, go_sem, ↓reduceIte, Nat.reduceEqDiff, Nat.reduceLT, Nat.reduceLeDiff, Nat.reduceAdd, Nat.reduceMul, Nat.reduceSub, reduceCtorEq, Int.reduceToNat, Int.reduceLT, Int.reduceLE, Int.reduceEq, Int.reduceNe, Int.reduceBEq, Nat.reduceBEq, Int.reduceBNe, Nat.reduceBNe, Int.reduceAdd, Int.reduceSub, Int.reduceMul, Int.reduceNeg]
  have hq := fun n hn => qrem (p := p) n hp0 hp1 hn
  have hmq : ¬ (rec : Int) = 0 → ¬ p / bitF op % 2 = 0 := fun h0 hd => by
    rw [mayF_perm hgd a1 a2 b1 b2 h0, if_pos hd] at hm; cases hm
  have hm0 : (rec : Int) = 0 → op = 0 := fun h0 => by
    rw [h0, mayF_head hgd a1 a2 (by omega)] at hm
    by_cases hz : op = 0
    · exact hz
    · rw [if_neg hz] at hm; cases hm
  by_cases c0 : (rec : Int) = 0
  · obtain rfl := hm0 c0
    
    refine AllB.mk fun bn h_bn => ?_; have hn_bn := h_bn; (try simp only [fresh_add, fresh_set, ne_eq] at hn_bn); have hr_bn := hn_bn; (try simp only [@eq_comm Nat bn] at hr_bn); simp (dsimp := false) (maxSteps := 4000000) only [a1, a2, b1, b2, hgd, hr1, enc_len, enc_scal, enc_take, enc_z4, hl4, c4, c5, c6, hn_b4, hr_b4, hn_b7, hr_b7, hn_b8, hr_b8, hn_b9, hr_b9, hn_b11, hr_b11, hn_bn, hr_bn, go_sem, ↓reduceIte, Nat.reduceEqDiff, Nat.reduceLT, Nat.reduceLeDiff, Nat.reduceAdd, Nat.reduceMul, Nat.reduceSub, reduceCtorEq, Int.reduceToNat, Int.reduceLT, Int.reduceLE, Int.reduceEq, Int.reduceNe, Int.reduceBEq, Nat.reduceBEq, Int.reduceBNe, Nat.reduceBNe, Int.reduceAdd, Int.reduceSub, Int.reduceMul, Int.reduceNeg]
    simp (dsimp := false) (maxSteps := 4000000) only [c0, a1, a2, b1, b2, hgd, hr1, enc_len, enc_scal, enc_take, enc_z4, hl4, c4, c5, c6, hn_b4, hr_b4, hn_b7, hr_b7, hn_b8, hr_b8, hn_b9, hr_b9, hn_b11, hr_b11, hn_bn, hr_bn, go_sem, ↓reduceIte, Nat.reduceEqDiff, Nat.reduceLT, Nat.reduceLeDiff, Nat.reduceAdd, Nat.reduceMul, Nat.reduceSub, reduceCtorEq, Int.reduceToNat, Int.reduceLT, Int.reduceLE, Int.reduceEq, Int.reduceNe, Int.reduceBEq, Nat.reduceBEq, Int.reduceBNe, Nat.reduceBNe, Int.reduceAdd, Int.reduceSub, Int.reduceMul, Int.reduceNeg]
    refine AWp.gen [.pu, .rd, .al, .pu, .rd, .ch, .pu, .al, .ch] [0, 1, 0, 0, 8, 28, 63, 0, 255] 6 (_) mixed (by kernel_rfl) (AH.le_refl _) ?_
    simp (dsimp := false) (maxSteps := 4000000) only [a1, a2, b1, b2, hgd, hr1, enc_len, enc_scal, enc_take, enc_z4, hl4, c4, c5, c6, hn_b4, hr_b4, hn_b7, hr_b7, hn_b8, hr_b8, hn_b9, hr_b9, hn_b11, hr_b11, hn_bn, hr_bn, go_sem, ↓reduceIte, Nat.reduceEqDiff, Nat.reduceLT, Nat.reduceLeDiff, Nat.reduceAdd, Nat.reduceMul, Nat.reduceSub, reduceCtorEq, Int.reduceToNat, Int.reduceLT, Int.reduceLE, Int.reduceEq, Int.reduceNe, Int.reduceBEq, Nat.reduceBEq, Int.reduceBNe, Nat.reduceBNe, Int.reduceAdd, Int.reduceSub, Int.reduceMul, Int.reduceNeg]
    refine AllB.mk fun be h_be => ?_; have hn_be := h_be; (try simp only [fresh_add, fresh_set, ne_eq] at hn_be); have hr_be := hn_be; (try simp only [@eq_comm Nat be] at hr_be); simp (dsimp := false) (maxSteps := 4000000) only [a1, a2, b1, b2, hgd, hr1, enc_len, enc_scal, enc_take, enc_z4, hl4, c4, c5, c6, hn_b4, hr_b4, hn_b7, hr_b7, hn_b8, hr_b8, hn_b9, hr_b9, hn_b11, hr_b11, hn_bn, hr_bn, hn_be, hr_be, go_sem, ↓reduceIte, Nat.reduceEqDiff, Nat.reduceLT, Nat.reduceLeDiff, Nat.reduceAdd, Nat.reduceMul, Nat.reduceSub, reduceCtorEq, Int.reduceToNat, Int.reduceLT, Int.reduceLE, Int.reduceEq, Int.reduceNe, Int.reduceBEq, Nat.reduceBEq, Int.reduceBNe, Nat.reduceBNe, Int.reduceAdd, Int.reduceSub, Int.reduceMul, Int.reduceNeg]
    refine APD.clone (new := (R.map enc).flatten) (m := R.length) se_70 rfl (by decide) (by rw [Tryz.underlying70]; rfl) h_be rfl (((((((hs.add (by simp only [fresh_add, ne_eq, hn_b4, not_false_eq_true, and_self] : Fresh _ b4)).add (by simp only [fresh_add, ne_eq, hn_b7, not_false_eq_true, and_self] : Fresh _ b7)).add (by simp only [fresh_add, ne_eq, hn_b8, not_false_eq_true, and_self] : Fresh _ b8)).add (by simp only [fresh_add, ne_eq, hn_b9, not_false_eq_true, and_self] : Fresh _ b9)).add (by simp only [fresh_add, ne_eq, hn_b11, not_false_eq_true, and_self] : Fresh _ b11)).add (by simp only [fresh_add, ne_eq, hn_bn, not_false_eq_true, and_self] : Fresh _ bn)).srow (rows4 R) (by decide) (by simp) (.inl (by intro e; rw [List.map_eq_nil_iff.1 e] at hr1; simp at hr1; omega))) (scal4 R) (by omega) fun bl c_ bs h_bl hcl hbs4 => ?_
    have hc4 : R.length * 4 ≤ bs := Nat.le_trans (Nat.mul_le_mul_right _ hcl) hbs4
    have hn_bl := h_bl; (try simp only [fresh_add, fresh_set, ne_eq] at hn_bl); have hr_bl := hn_bl; (try simp only [@eq_comm Nat bl] at hr_bl)
    simp (dsimp := false) (maxSteps := 4000000) only [a1, a2, b1, b2, hgd, hr1, enc_len, enc_scal, enc_take, enc_z4, hl4, c4, c5, c6, hn_b4, hr_b4, hn_b7, hr_b7, hn_b8, hr_b8, hn_b9, hr_b9, hn_b11, hr_b11, hn_bn, hr_bn, hn_be, hr_be, hn_bl, hr_bl, go_sem, ↓reduceIte, Nat.reduceEqDiff, Nat.reduceLT, Nat.reduceLeDiff, Nat.reduceAdd, Nat.reduceMul, Nat.reduceSub, reduceCtorEq, Int.reduceToNat, Int.reduceLT, Int.reduceLE, Int.reduceEq, Int.reduceNe, Int.reduceBEq, Nat.reduceBEq, Int.reduceBNe, Nat.reduceBNe, Int.reduceAdd, Int.reduceSub, Int.reduceMul, Int.reduceNeg]
    refine ⟨AH.le_add (AH.le_refl _) h_bl.2, ?_⟩
    refine AllB.mk fun b13 h_b13 => ?_; have hn_b13 := h_b13; (try simp only [fresh_add, fresh_set, ne_eq] at hn_b13); have hr_b13 := hn_b13; (try simp only [@eq_comm Nat b13] at hr_b13); simp (dsimp := false) (maxSteps := 4000000) only [a1, a2, b1, b2, hgd, hr1, enc_len, enc_scal, enc_take, enc_z4, hl4, c4, c5, c6, hn_b4, hr_b4, hn_b7, hr_b7, hn_b8, hr_b8, hn_b9, hr_b9, hn_b11, hr_b11, hn_bn, hr_bn, hn_be, hr_be, hn_bl, hr_bl, hn_b13, hr_b13, go_sem, ↓reduceIte, Nat.reduceEqDiff, Nat.reduceLT, Nat.reduceLeDiff, Nat.reduceAdd, Nat.reduceMul, Nat.reduceSub, reduceCtorEq, Int.reduceToNat, Int.reduceLT, Int.reduceLE, Int.reduceEq, Int.reduceNe, Int.reduceBEq, Nat.reduceBEq, Int.reduceBNe, Nat.reduceBNe, Int.reduceAdd, Int.reduceSub, Int.reduceMul, Int.reduceNeg]
    have hrow := row4 hr0_
    have hs_ := hr0_
    have hd1 : doR R 0 rec v = R := rfl
    refine AWp.gen [.rd, .pu, .rd, .pu, .pu, .rd, .ch, .ch, .pu] [0, 0, 2, 0, 14, 30, 1, 127, 255] 7 ((H.add bl (.cells ((R).map enc).flatten 26 bs)).add b13 (.cells [.int .i64 p, .slice (some ⟨bl, 0, none⟩) R.length c_] 72 2)) mixed (by kernel_rfl) (?_) ?_
    · exact (by refine AH.le_cons ?_ ?_; (show AH.find _ _ = _; simp only [find_add_self, find_add_ne, find_fresh, fresh_add, fresh_set, ne_eq, not_false_eq_true, true_and, and_true, and_self, a1, a2, b1, b2, hgd, hr1, enc_len, enc_scal, enc_take, enc_z4, hl4, c4, c5, c6, hn_b4, hr_b4, hn_b7, hr_b7, hn_b8, hr_b8, hn_b9, hr_b9, hn_b11, hr_b11, hn_bn, hr_bn, hn_be, hr_be, hn_bl, hr_bl, hn_b13, hr_b13]); refine AH.le_cons ?_ ?_; (show AH.find _ _ = _; simp only [find_add_self, find_add_ne, find_fresh, fresh_add, fresh_set, ne_eq, not_false_eq_true, true_and, and_true, and_self, a1, a2, b1, b2, hgd, hr1, enc_len, enc_scal, enc_take, enc_z4, hl4, c4, c5, c6, hn_b4, hr_b4, hn_b7, hr_b7, hn_b8, hr_b8, hn_b9, hr_b9, hn_b11, hr_b11, hn_bn, hr_bn, hn_be, hr_be, hn_bl, hr_bl, hn_b13, hr_b13]); (repeat (first | exact AH.le_refl _ | refine AH.le_add ?_ ?_)); all_goals (first | exact AH.le_refl _ | (show AH.find _ _ = _; simp only [find_add_self, find_add_ne, find_fresh, fresh_add, fresh_set, ne_eq, not_false_eq_true, true_and, and_true, and_self, a1, a2, b1, b2, hgd, hr1, enc_len, enc_scal, enc_take, enc_z4, hl4, c4, c5, c6, hn_b4, hr_b4, hn_b7, hr_b7, hn_b8, hr_b8, hn_b9, hr_b9, hn_b11, hr_b11, hn_bn, hr_bn, hn_be, hr_be, hn_bl, hr_bl, hn_b13, hr_b13])))
    have hl4' := flat4 (R)
    try rw [List.length_set] at hl4'
    simp (dsimp := false) (maxSteps := 4000000) only [hl4', hrow, a1, a2, b1, b2, hgd, hr1, enc_len, enc_scal, enc_take, enc_z4, hl4, c4, c5, c6, hn_b4, hr_b4, hn_b7, hr_b7, hn_b8, hr_b8, hn_b9, hr_b9, hn_b11, hr_b11, hn_bn, hr_bn, hn_be, hr_be, hn_bl, hr_bl, hn_b13, hr_b13, go_sem, ↓reduceIte, Nat.reduceEqDiff, Nat.reduceLT, Nat.reduceLeDiff, Nat.reduceAdd, Nat.reduceMul, Nat.reduceSub, reduceCtorEq, Int.reduceToNat, Int.reduceLT, Int.reduceLE, Int.reduceEq, Int.reduceNe, Int.reduceBEq, Nat.reduceBEq, Int.reduceBNe, Nat.reduceBNe, Int.reduceAdd, Int.reduceSub, Int.reduceMul, Int.reduceNeg]
    refine ⟨(by refine AH.le_cons ?_ ?_; (show AH.find _ _ = _; simp only [find_add_self, find_add_ne, find_fresh, fresh_add, fresh_set, ne_eq, not_false_eq_true, true_and, and_true, and_self, a1, a2, b1, b2, hgd, hr1, enc_len, enc_scal, enc_take, enc_z4, hl4, c4, c5, c6, hn_b4, hr_b4, hn_b7, hr_b7, hn_b8, hr_b8, hn_b9, hr_b9, hn_b11, hr_b11, hn_bn, hr_bn, hn_be, hr_be, hn_bl, hr_bl, hn_b13, hr_b13]); refine AH.le_cons ?_ ?_; (show AH.find _ _ = _; simp only [find_add_self, find_add_ne, find_fresh, fresh_add, fresh_set, ne_eq, not_false_eq_true, true_and, and_true, and_self, a1, a2, b1, b2, hgd, hr1, enc_len, enc_scal, enc_take, enc_z4, hl4, c4, c5, c6, hn_b4, hr_b4, hn_b7, hr_b7, hn_b8, hr_b8, hn_b9, hr_b9, hn_b11, hr_b11, hn_bn, hr_bn, hn_be, hr_be, hn_bl, hr_bl, hn_b13, hr_b13]); (repeat (first | exact AH.le_refl _ | refine AH.le_add ?_ ?_)); all_goals (first | exact AH.le_refl _ | (show AH.find _ _ = _; simp only [find_add_self, find_add_ne, find_fresh, fresh_add, fresh_set, ne_eq, not_false_eq_true, true_and, and_true, and_self, a1, a2, b1, b2, hgd, hr1, enc_len, enc_scal, enc_take, enc_z4, hl4, c4, c5, c6, hn_b4, hr_b4, hn_b7, hr_b7, hn_b8, hr_b8, hn_b9, hr_b9, hn_b11, hr_b11, hn_bn, hr_bn, hn_be, hr_be, hn_bl, hr_bl, hn_b13, hr_b13]))), ?_⟩
    rw [hd1]
    exact ⟨_, (by refine AH.le_cons ?_ ?_; (show AH.find _ _ = _; simp only [find_add_self, find_add_ne, find_fresh, fresh_add, fresh_set, ne_eq, not_false_eq_true, true_and, and_true, and_self, a1, a2, b1, b2, hgd, hr1, enc_len, enc_scal, enc_take, enc_z4, hl4, c4, c5, c6, hn_b4, hr_b4, hn_b7, hr_b7, hn_b8, hr_b8, hn_b9, hr_b9, hn_b11, hr_b11, hn_bn, hr_bn, hn_be, hr_be, hn_bl, hr_bl, hn_b13, hr_b13]); (repeat (first | exact AH.le_refl _ | refine AH.le_add ?_ ?_)); all_goals (first | exact AH.le_refl _ | (show AH.find _ _ = _; simp only [find_add_self, find_add_ne, find_fresh, fresh_add, fresh_set, ne_eq, not_false_eq_true, true_and, and_true, and_self, a1, a2, b1, b2, hgd, hr1, enc_len, enc_scal, enc_take, enc_z4, hl4, c4, c5, c6, hn_b4, hr_b4, hn_b7, hr_b7, hn_b8, hr_b8, hn_b9, hr_b9, hn_b11, hr_b11, hn_bn, hr_bn, hn_be, hr_be, hn_bl, hr_bl, hn_b13, hr_b13]))), bl, c_, bs, hn_bl.2.2.2.2.2.2, by rw [getD4 hs_], hcl, hc4, rfl⟩
    
  have c1 : 0 < (rec : Int) := by omega
  rcases (by omega : op = 0 ∨ op = 1 ∨ op = 2) with rfl | rfl | rfl
  · 
    have hd : ¬ p / 1 % 2 = 0 := hmq c0
    have hq' := hq 1 (by omega)
    refine AllB.mk fun bn h_bn => ?_; have hn_bn := h_bn; (try simp only [fresh_add, fresh_set, ne_eq] at hn_bn); have hr_bn := hn_bn; (try simp only [@eq_comm Nat bn] at hr_bn); simp (dsimp := false) (maxSteps := 4000000) only [a1, a2, b1, b2, hgd, hr1, enc_len, enc_scal, enc_take, enc_z4, hl4, c4, c5, c6, hn_b4, hr_b4, hn_b7, hr_b7, hn_b8, hr_b8, hn_b9, hr_b9, hn_b11, hr_b11, hn_bn, hr_bn, go_sem, ↓reduceIte, Nat.reduceEqDiff, Nat.reduceLT, Nat.reduceLeDiff, Nat.reduceAdd, Nat.reduceMul, Nat.reduceSub, reduceCtorEq, Int.reduceToNat, Int.reduceLT, Int.reduceLE, Int.reduceEq, Int.reduceNe, Int.reduceBEq, Nat.reduceBEq, Int.reduceBNe, Nat.reduceBNe, Int.reduceAdd, Int.reduceSub, Int.reduceMul, Int.reduceNeg]
    simp (dsimp := false) (maxSteps := 4000000) only [c0, c1, hq', hd, a1, a2, b1, b2, hgd, hr1, enc_len, enc_scal, enc_take, enc_z4, hl4, c4, c5, c6, hn_b4, hr_b4, hn_b7, hr_b7, hn_b8, hr_b8, hn_b9, hr_b9, hn_b11, hr_b11, hn_bn, hr_bn, go_sem, ↓reduceIte, Nat.reduceEqDiff, Nat.reduceLT, Nat.reduceLeDiff, Nat.reduceAdd, Nat.reduceMul, Nat.reduceSub, reduceCtorEq, Int.reduceToNat, Int.reduceLT, Int.reduceLE, Int.reduceEq, Int.reduceNe, Int.reduceBEq, Nat.reduceBEq, Int.reduceBNe, Nat.reduceBNe, Int.reduceAdd, Int.reduceSub, Int.reduceMul, Int.reduceNeg]
    refine AWp.gen [.pu, .rd, .al, .pu, .rd, .ch, .pu, .al, .ch] [0, 1, 0, 0, 8, 28, 63, 0, 255] 6 (_) mixed (by kernel_rfl) (AH.le_refl _) ?_
    simp (dsimp := false) (maxSteps := 4000000) only [a1, a2, b1, b2, hgd, hr1, enc_len, enc_scal, enc_take, enc_z4, hl4, c4, c5, c6, hn_b4, hr_b4, hn_b7, hr_b7, hn_b8, hr_b8, hn_b9, hr_b9, hn_b11, hr_b11, hn_bn, hr_bn, go_sem, ↓reduceIte, Nat.reduceEqDiff, Nat.reduceLT, Nat.reduceLeDiff, Nat.reduceAdd, Nat.reduceMul, Nat.reduceSub, reduceCtorEq, Int.reduceToNat, Int.reduceLT, Int.reduceLE, Int.reduceEq, Int.reduceNe, Int.reduceBEq, Nat.reduceBEq, Int.reduceBNe, Nat.reduceBNe, Int.reduceAdd, Int.reduceSub, Int.reduceMul, Int.reduceNeg]
    refine AllB.mk fun be h_be => ?_; have hn_be := h_be; (try simp only [fresh_add, fresh_set, ne_eq] at hn_be); have hr_be := hn_be; (try simp only [@eq_comm Nat be] at hr_be); simp (dsimp := false) (maxSteps := 4000000) only [a1, a2, b1, b2, hgd, hr1, enc_len, enc_scal, enc_take, enc_z4, hl4, c4, c5, c6, hn_b4, hr_b4, hn_b7, hr_b7, hn_b8, hr_b8, hn_b9, hr_b9, hn_b11, hr_b11, hn_bn, hr_bn, hn_be, hr_be, go_sem, ↓reduceIte, Nat.reduceEqDiff, Nat.reduceLT, Nat.reduceLeDiff, Nat.reduceAdd, Nat.reduceMul, Nat.reduceSub, reduceCtorEq, Int.reduceToNat, Int.reduceLT, Int.reduceLE, Int.reduceEq, Int.reduceNe, Int.reduceBEq, Nat.reduceBEq, Int.reduceBNe, Nat.reduceBNe, Int.reduceAdd, Int.reduceSub, Int.reduceMul, Int.reduceNeg]
    refine APD.clone (new := (R.map enc).flatten) (m := R.length) se_70 rfl (by decide) (by rw [Tryz.underlying70]; rfl) h_be rfl (((((((hs.add (by simp only [fresh_add, ne_eq, hn_b4, not_false_eq_true, and_self] : Fresh _ b4)).add (by simp only [fresh_add, ne_eq, hn_b7, not_false_eq_true, and_self] : Fresh _ b7)).add (by simp only [fresh_add, ne_eq, hn_b8, not_false_eq_true, and_self] : Fresh _ b8)).add (by simp only [fresh_add, ne_eq, hn_b9, not_false_eq_true, and_self] : Fresh _ b9)).add (by simp only [fresh_add, ne_eq, hn_b11, not_false_eq_true, and_self] : Fresh _ b11)).add (by simp only [fresh_add, ne_eq, hn_bn, not_false_eq_true, and_self] : Fresh _ bn)).srow (rows4 R) (by decide) (by simp) (.inl (by intro e; rw [List.map_eq_nil_iff.1 e] at hr1; simp at hr1; omega))) (scal4 R) (by omega) fun bl c_ bs h_bl hcl hbs4 => ?_
    have hc4 : R.length * 4 ≤ bs := Nat.le_trans (Nat.mul_le_mul_right _ hcl) hbs4
    have hn_bl := h_bl; (try simp only [fresh_add, fresh_set, ne_eq] at hn_bl); have hr_bl := hn_bl; (try simp only [@eq_comm Nat bl] at hr_bl)
    simp (dsimp := false) (maxSteps := 4000000) only [a1, a2, b1, b2, hgd, hr1, enc_len, enc_scal, enc_take, enc_z4, hl4, c4, c5, c6, hn_b4, hr_b4, hn_b7, hr_b7, hn_b8, hr_b8, hn_b9, hr_b9, hn_b11, hr_b11, hn_bn, hr_bn, hn_be, hr_be, hn_bl, hr_bl, go_sem, ↓reduceIte, Nat.reduceEqDiff, Nat.reduceLT, Nat.reduceLeDiff, Nat.reduceAdd, Nat.reduceMul, Nat.reduceSub, reduceCtorEq, Int.reduceToNat, Int.reduceLT, Int.reduceLE, Int.reduceEq, Int.reduceNe, Int.reduceBEq, Nat.reduceBEq, Int.reduceBNe, Nat.reduceBNe, Int.reduceAdd, Int.reduceSub, Int.reduceMul, Int.reduceNeg]
    refine ⟨AH.le_add (AH.le_refl _) h_bl.2, ?_⟩
    refine AllB.mk fun b13 h_b13 => ?_; have hn_b13 := h_b13; (try simp only [fresh_add, fresh_set, ne_eq] at hn_b13); have hr_b13 := hn_b13; (try simp only [@eq_comm Nat b13] at hr_b13); simp (dsimp := false) (maxSteps := 4000000) only [a1, a2, b1, b2, hgd, hr1, enc_len, enc_scal, enc_take, enc_z4, hl4, c4, c5, c6, hn_b4, hr_b4, hn_b7, hr_b7, hn_b8, hr_b8, hn_b9, hr_b9, hn_b11, hr_b11, hn_bn, hr_bn, hn_be, hr_be, hn_bl, hr_bl, hn_b13, hr_b13, go_sem, ↓reduceIte, Nat.reduceEqDiff, Nat.reduceLT, Nat.reduceLeDiff, Nat.reduceAdd, Nat.reduceMul, Nat.reduceSub, reduceCtorEq, Int.reduceToNat, Int.reduceLT, Int.reduceLE, Int.reduceEq, Int.reduceNe, Int.reduceBEq, Nat.reduceBEq, Int.reduceBNe, Nat.reduceBNe, Int.reduceAdd, Int.reduceSub, Int.reduceMul, Int.reduceNeg]
    have hrow := row4 hr0_
    have hs_ := hr0_
    have hd1 : doR R 0 rec v = R := rfl
    refine AWp.gen [.rd, .pu, .rd, .pu, .pu, .rd, .ch, .ch, .pu] [0, 0, 2, 0, 14, 30, 1, 127, 255] 7 ((H.add bl (.cells ((R).map enc).flatten 26 bs)).add b13 (.cells [.int .i64 p, .slice (some ⟨bl, 0, none⟩) R.length c_] 72 2)) mixed (by kernel_rfl) (?_) ?_
    · exact (by refine AH.le_cons ?_ ?_; (show AH.find _ _ = _; simp only [find_add_self, find_add_ne, find_fresh, fresh_add, fresh_set, ne_eq, not_false_eq_true, true_and, and_true, and_self, a1, a2, b1, b2, hgd, hr1, enc_len, enc_scal, enc_take, enc_z4, hl4, c4, c5, c6, hn_b4, hr_b4, hn_b7, hr_b7, hn_b8, hr_b8, hn_b9, hr_b9, hn_b11, hr_b11, hn_bn, hr_bn, hn_be, hr_be, hn_bl, hr_bl, hn_b13, hr_b13]); refine AH.le_cons ?_ ?_; (show AH.find _ _ = _; simp only [find_add_self, find_add_ne, find_fresh, fresh_add, fresh_set, ne_eq, not_false_eq_true, true_and, and_true, and_self, a1, a2, b1, b2, hgd, hr1, enc_len, enc_scal, enc_take, enc_z4, hl4, c4, c5, c6, hn_b4, hr_b4, hn_b7, hr_b7, hn_b8, hr_b8, hn_b9, hr_b9, hn_b11, hr_b11, hn_bn, hr_bn, hn_be, hr_be, hn_bl, hr_bl, hn_b13, hr_b13]); (repeat (first | exact AH.le_refl _ | refine AH.le_add ?_ ?_)); all_goals (first | exact AH.le_refl _ | (show AH.find _ _ = _; simp only [find_add_self, find_add_ne, find_fresh, fresh_add, fresh_set, ne_eq, not_false_eq_true, true_and, and_true, and_self, a1, a2, b1, b2, hgd, hr1, enc_len, enc_scal, enc_take, enc_z4, hl4, c4, c5, c6, hn_b4, hr_b4, hn_b7, hr_b7, hn_b8, hr_b8, hn_b9, hr_b9, hn_b11, hr_b11, hn_bn, hr_bn, hn_be, hr_be, hn_bl, hr_bl, hn_b13, hr_b13])))
    have hl4' := flat4 (R)
    try rw [List.length_set] at hl4'
    simp (dsimp := false) (maxSteps := 4000000) only [hl4', hrow, a1, a2, b1, b2, hgd, hr1, enc_len, enc_scal, enc_take, enc_z4, hl4, c4, c5, c6, hn_b4, hr_b4, hn_b7, hr_b7, hn_b8, hr_b8, hn_b9, hr_b9, hn_b11, hr_b11, hn_bn, hr_bn, hn_be, hr_be, hn_bl, hr_bl, hn_b13, hr_b13, go_sem, ↓reduceIte, Nat.reduceEqDiff, Nat.reduceLT, Nat.reduceLeDiff, Nat.reduceAdd, Nat.reduceMul, Nat.reduceSub, reduceCtorEq, Int.reduceToNat, Int.reduceLT, Int.reduceLE, Int.reduceEq, Int.reduceNe, Int.reduceBEq, Nat.reduceBEq, Int.reduceBNe, Nat.reduceBNe, Int.reduceAdd, Int.reduceSub, Int.reduceMul, Int.reduceNeg]
    refine ⟨(by refine AH.le_cons ?_ ?_; (show AH.find _ _ = _; simp only [find_add_self, find_add_ne, find_fresh, fresh_add, fresh_set, ne_eq, not_false_eq_true, true_and, and_true, and_self, a1, a2, b1, b2, hgd, hr1, enc_len, enc_scal, enc_take, enc_z4, hl4, c4, c5, c6, hn_b4, hr_b4, hn_b7, hr_b7, hn_b8, hr_b8, hn_b9, hr_b9, hn_b11, hr_b11, hn_bn, hr_bn, hn_be, hr_be, hn_bl, hr_bl, hn_b13, hr_b13]); refine AH.le_cons ?_ ?_; (show AH.find _ _ = _; simp only [find_add_self, find_add_ne, find_fresh, fresh_add, fresh_set, ne_eq, not_false_eq_true, true_and, and_true, and_self, a1, a2, b1, b2, hgd, hr1, enc_len, enc_scal, enc_take, enc_z4, hl4, c4, c5, c6, hn_b4, hr_b4, hn_b7, hr_b7, hn_b8, hr_b8, hn_b9, hr_b9, hn_b11, hr_b11, hn_bn, hr_bn, hn_be, hr_be, hn_bl, hr_bl, hn_b13, hr_b13]); (repeat (first | exact AH.le_refl _ | refine AH.le_add ?_ ?_)); all_goals (first | exact AH.le_refl _ | (show AH.find _ _ = _; simp only [find_add_self, find_add_ne, find_fresh, fresh_add, fresh_set, ne_eq, not_false_eq_true, true_and, and_true, and_self, a1, a2, b1, b2, hgd, hr1, enc_len, enc_scal, enc_take, enc_z4, hl4, c4, c5, c6, hn_b4, hr_b4, hn_b7, hr_b7, hn_b8, hr_b8, hn_b9, hr_b9, hn_b11, hr_b11, hn_bn, hr_bn, hn_be, hr_be, hn_bl, hr_bl, hn_b13, hr_b13]))), ?_⟩
    rw [hd1]
    exact ⟨_, (by refine AH.le_cons ?_ ?_; (show AH.find _ _ = _; simp only [find_add_self, find_add_ne, find_fresh, fresh_add, fresh_set, ne_eq, not_false_eq_true, true_and, and_true, and_self, a1, a2, b1, b2, hgd, hr1, enc_len, enc_scal, enc_take, enc_z4, hl4, c4, c5, c6, hn_b4, hr_b4, hn_b7, hr_b7, hn_b8, hr_b8, hn_b9, hr_b9, hn_b11, hr_b11, hn_bn, hr_bn, hn_be, hr_be, hn_bl, hr_bl, hn_b13, hr_b13]); (repeat (first | exact AH.le_refl _ | refine AH.le_add ?_ ?_)); all_goals (first | exact AH.le_refl _ | (show AH.find _ _ = _; simp only [find_add_self, find_add_ne, find_fresh, fresh_add, fresh_set, ne_eq, not_false_eq_true, true_and, and_true, and_self, a1, a2, b1, b2, hgd, hr1, enc_len, enc_scal, enc_take, enc_z4, hl4, c4, c5, c6, hn_b4, hr_b4, hn_b7, hr_b7, hn_b8, hr_b8, hn_b9, hr_b9, hn_b11, hr_b11, hn_bn, hr_bn, hn_be, hr_be, hn_bl, hr_bl, hn_b13, hr_b13]))), bl, c_, bs, hn_bl.2.2.2.2.2.2, by rw [getD4 hs_], hcl, hc4, rfl⟩
    
  · 
    have hd : ¬ p / 2 % 2 = 0 := hmq c0
    have hq' := hq 2 (by omega)
    refine AllB.mk fun bn h_bn => ?_; have hn_bn := h_bn; (try simp only [fresh_add, fresh_set, ne_eq] at hn_bn); have hr_bn := hn_bn; (try simp only [@eq_comm Nat bn] at hr_bn); simp (dsimp := false) (maxSteps := 4000000) only [a1, a2, b1, b2, hgd, hr1, enc_len, enc_scal, enc_take, enc_z4, hl4, c4, c5, c6, hn_b4, hr_b4, hn_b7, hr_b7, hn_b8, hr_b8, hn_b9, hr_b9, hn_b11, hr_b11, hn_bn, hr_bn, go_sem, ↓reduceIte, Nat.reduceEqDiff, Nat.reduceLT, Nat.reduceLeDiff, Nat.reduceAdd, Nat.reduceMul, Nat.reduceSub, reduceCtorEq, Int.reduceToNat, Int.reduceLT, Int.reduceLE, Int.reduceEq, Int.reduceNe, Int.reduceBEq, Nat.reduceBEq, Int.reduceBNe, Nat.reduceBNe, Int.reduceAdd, Int.reduceSub, Int.reduceMul, Int.reduceNeg]
    simp (dsimp := false) (maxSteps := 4000000) only [c0, c1, hq', hd, a1, a2, b1, b2, hgd, hr1, enc_len, enc_scal, enc_take, enc_z4, hl4, c4, c5, c6, hn_b4, hr_b4, hn_b7, hr_b7, hn_b8, hr_b8, hn_b9, hr_b9, hn_b11, hr_b11, hn_bn, hr_bn, go_sem, ↓reduceIte, Nat.reduceEqDiff, Nat.reduceLT, Nat.reduceLeDiff, Nat.reduceAdd, Nat.reduceMul, Nat.reduceSub, reduceCtorEq, Int.reduceToNat, Int.reduceLT, Int.reduceLE, Int.reduceEq, Int.reduceNe, Int.reduceBEq, Nat.reduceBEq, Int.reduceBNe, Nat.reduceBNe, Int.reduceAdd, Int.reduceSub, Int.reduceMul, Int.reduceNeg]
    refine AWp.gen [.pu, .rd, .al, .pu, .rd, .ch, .pu, .al, .ch] [0, 1, 0, 0, 8, 28, 63, 0, 255] 6 (_) mixed (by kernel_rfl) (AH.le_refl _) ?_
    simp (dsimp := false) (maxSteps := 4000000) only [a1, a2, b1, b2, hgd, hr1, enc_len, enc_scal, enc_take, enc_z4, hl4, c4, c5, c6, hn_b4, hr_b4, hn_b7, hr_b7, hn_b8, hr_b8, hn_b9, hr_b9, hn_b11, hr_b11, hn_bn, hr_bn, go_sem, ↓reduceIte, Nat.reduceEqDiff, Nat.reduceLT, Nat.reduceLeDiff, Nat.reduceAdd, Nat.reduceMul, Nat.reduceSub, reduceCtorEq, Int.reduceToNat, Int.reduceLT, Int.reduceLE, Int.reduceEq, Int.reduceNe, Int.reduceBEq, Nat.reduceBEq, Int.reduceBNe, Nat.reduceBNe, Int.reduceAdd, Int.reduceSub, Int.reduceMul, Int.reduceNeg]
    refine AllB.mk fun be h_be => ?_; have hn_be := h_be; (try simp only [fresh_add, fresh_set, ne_eq] at hn_be); have hr_be := hn_be; (try simp only [@eq_comm Nat be] at hr_be); simp (dsimp := false) (maxSteps := 4000000) only [a1, a2, b1, b2, hgd, hr1, enc_len, enc_scal, enc_take, enc_z4, hl4, c4, c5, c6, hn_b4, hr_b4, hn_b7, hr_b7, hn_b8, hr_b8, hn_b9, hr_b9, hn_b11, hr_b11, hn_bn, hr_bn, hn_be, hr_be, go_sem, ↓reduceIte, Nat.reduceEqDiff, Nat.reduceLT, Nat.reduceLeDiff, Nat.reduceAdd, Nat.reduceMul, Nat.reduceSub, reduceCtorEq, Int.reduceToNat, Int.reduceLT, Int.reduceLE, Int.reduceEq, Int.reduceNe, Int.reduceBEq, Nat.reduceBEq, Int.reduceBNe, Nat.reduceBNe, Int.reduceAdd, Int.reduceSub, Int.reduceMul, Int.reduceNeg]
    refine APD.clone (new := (R.map enc).flatten) (m := R.length) se_70 rfl (by decide) (by rw [Tryz.underlying70]; rfl) h_be rfl (((((((hs.add (by simp only [fresh_add, ne_eq, hn_b4, not_false_eq_true, and_self] : Fresh _ b4)).add (by simp only [fresh_add, ne_eq, hn_b7, not_false_eq_true, and_self] : Fresh _ b7)).add (by simp only [fresh_add, ne_eq, hn_b8, not_false_eq_true, and_self] : Fresh _ b8)).add (by simp only [fresh_add, ne_eq, hn_b9, not_false_eq_true, and_self] : Fresh _ b9)).add (by simp only [fresh_add, ne_eq, hn_b11, not_false_eq_true, and_self] : Fresh _ b11)).add (by simp only [fresh_add, ne_eq, hn_bn, not_false_eq_true, and_self] : Fresh _ bn)).srow (rows4 R) (by decide) (by simp) (.inl (by intro e; rw [List.map_eq_nil_iff.1 e] at hr1; simp at hr1; omega))) (scal4 R) (by omega) fun bl c_ bs h_bl hcl hbs4 => ?_
    have hc4 : R.length * 4 ≤ bs := Nat.le_trans (Nat.mul_le_mul_right _ hcl) hbs4
    have hn_bl := h_bl; (try simp only [fresh_add, fresh_set, ne_eq] at hn_bl); have hr_bl := hn_bl; (try simp only [@eq_comm Nat bl] at hr_bl)
    simp (dsimp := false) (maxSteps := 4000000) only [a1, a2, b1, b2, hgd, hr1, enc_len, enc_scal, enc_take, enc_z4, hl4, c4, c5, c6, hn_b4, hr_b4, hn_b7, hr_b7, hn_b8, hr_b8, hn_b9, hr_b9, hn_b11, hr_b11, hn_bn, hr_bn, hn_be, hr_be, hn_bl, hr_bl, go_sem, ↓reduceIte, Nat.reduceEqDiff, Nat.reduceLT, Nat.reduceLeDiff, Nat.reduceAdd, Nat.reduceMul, Nat.reduceSub, reduceCtorEq, Int.reduceToNat, Int.reduceLT, Int.reduceLE, Int.reduceEq, Int.reduceNe, Int.reduceBEq, Nat.reduceBEq, Int.reduceBNe, Nat.reduceBNe, Int.reduceAdd, Int.reduceSub, Int.reduceMul, Int.reduceNeg]
    refine ⟨AH.le_add (AH.le_refl _) h_bl.2, ?_⟩
    refine AllB.mk fun b13 h_b13 => ?_; have hn_b13 := h_b13; (try simp only [fresh_add, fresh_set, ne_eq] at hn_b13); have hr_b13 := hn_b13; (try simp only [@eq_comm Nat b13] at hr_b13); simp (dsimp := false) (maxSteps := 4000000) only [a1, a2, b1, b2, hgd, hr1, enc_len, enc_scal, enc_take, enc_z4, hl4, c4, c5, c6, hn_b4, hr_b4, hn_b7, hr_b7, hn_b8, hr_b8, hn_b9, hr_b9, hn_b11, hr_b11, hn_bn, hr_bn, hn_be, hr_be, hn_bl, hr_bl, hn_b13, hr_b13, go_sem, ↓reduceIte, Nat.reduceEqDiff, Nat.reduceLT, Nat.reduceLeDiff, Nat.reduceAdd, Nat.reduceMul, Nat.reduceSub, reduceCtorEq, Int.reduceToNat, Int.reduceLT, Int.reduceLE, Int.reduceEq, Int.reduceNe, Int.reduceBEq, Nat.reduceBEq, Int.reduceBNe, Nat.reduceBNe, Int.reduceAdd, Int.reduceSub, Int.reduceMul, Int.reduceNeg]
    have hp := put4 v (L := R) (i := rec) (by omega)
    have hs_ : (R.set rec v)[rec]? = some v := by rw [List.getElem?_set_self (by omega)]
    have hrow := row4 hs_
    have hd1 : doR R 1 rec v = R.set rec v := rfl
    simp (dsimp := false) (maxSteps := 4000000) only [hp, hc4, a1, a2, b1, b2, hgd, hr1, enc_len, enc_scal, enc_take, enc_z4, hl4, c4, c5, c6, hn_b4, hr_b4, hn_b7, hr_b7, hn_b8, hr_b8, hn_b9, hr_b9, hn_b11, hr_b11, hn_bn, hr_bn, hn_be, hr_be, hn_bl, hr_bl, hn_b13, hr_b13, go_sem, ↓reduceIte, Nat.reduceEqDiff, Nat.reduceLT, Nat.reduceLeDiff, Nat.reduceAdd, Nat.reduceMul, Nat.reduceSub, reduceCtorEq, Int.reduceToNat, Int.reduceLT, Int.reduceLE, Int.reduceEq, Int.reduceNe, Int.reduceBEq, Nat.reduceBEq, Int.reduceBNe, Nat.reduceBNe, Int.reduceAdd, Int.reduceSub, Int.reduceMul, Int.reduceNeg]
    refine AWp.gen [.rd, .pu, .rd, .pu, .pu, .rd, .ch, .ch, .pu] [0, 0, 2, 0, 14, 30, 1, 127, 255] 7 ((H.add bl (.cells ((R.set rec v).map enc).flatten 26 bs)).add b13 (.cells [.int .i64 p, .slice (some ⟨bl, 0, none⟩) R.length c_] 72 2)) mixed (by kernel_rfl) (?_) ?_
    · exact (by refine AH.le_cons ?_ ?_; (show AH.find _ _ = _; simp only [find_add_self, find_add_ne, find_fresh, fresh_add, fresh_set, ne_eq, not_false_eq_true, true_and, and_true, and_self, a1, a2, b1, b2, hgd, hr1, enc_len, enc_scal, enc_take, enc_z4, hl4, c4, c5, c6, hn_b4, hr_b4, hn_b7, hr_b7, hn_b8, hr_b8, hn_b9, hr_b9, hn_b11, hr_b11, hn_bn, hr_bn, hn_be, hr_be, hn_bl, hr_bl, hn_b13, hr_b13]); refine AH.le_cons ?_ ?_; (show AH.find _ _ = _; simp only [find_add_self, find_add_ne, find_fresh, fresh_add, fresh_set, ne_eq, not_false_eq_true, true_and, and_true, and_self, a1, a2, b1, b2, hgd, hr1, enc_len, enc_scal, enc_take, enc_z4, hl4, c4, c5, c6, hn_b4, hr_b4, hn_b7, hr_b7, hn_b8, hr_b8, hn_b9, hr_b9, hn_b11, hr_b11, hn_bn, hr_bn, hn_be, hr_be, hn_bl, hr_bl, hn_b13, hr_b13]); (repeat (first | exact AH.le_refl _ | refine AH.le_add ?_ ?_)); all_goals (first | exact AH.le_refl _ | (show AH.find _ _ = _; simp only [find_add_self, find_add_ne, find_fresh, fresh_add, fresh_set, ne_eq, not_false_eq_true, true_and, and_true, and_self, a1, a2, b1, b2, hgd, hr1, enc_len, enc_scal, enc_take, enc_z4, hl4, c4, c5, c6, hn_b4, hr_b4, hn_b7, hr_b7, hn_b8, hr_b8, hn_b9, hr_b9, hn_b11, hr_b11, hn_bn, hr_bn, hn_be, hr_be, hn_bl, hr_bl, hn_b13, hr_b13])))
    have hl4' := flat4 (R.set rec v)
    try rw [List.length_set] at hl4'
    simp (dsimp := false) (maxSteps := 4000000) only [hl4', hrow, a1, a2, b1, b2, hgd, hr1, enc_len, enc_scal, enc_take, enc_z4, hl4, c4, c5, c6, hn_b4, hr_b4, hn_b7, hr_b7, hn_b8, hr_b8, hn_b9, hr_b9, hn_b11, hr_b11, hn_bn, hr_bn, hn_be, hr_be, hn_bl, hr_bl, hn_b13, hr_b13, go_sem, ↓reduceIte, Nat.reduceEqDiff, Nat.reduceLT, Nat.reduceLeDiff, Nat.reduceAdd, Nat.reduceMul, Nat.reduceSub, reduceCtorEq, Int.reduceToNat, Int.reduceLT, Int.reduceLE, Int.reduceEq, Int.reduceNe, Int.reduceBEq, Nat.reduceBEq, Int.reduceBNe, Nat.reduceBNe, Int.reduceAdd, Int.reduceSub, Int.reduceMul, Int.reduceNeg]
    refine ⟨(by refine AH.le_cons ?_ ?_; (show AH.find _ _ = _; simp only [find_add_self, find_add_ne, find_fresh, fresh_add, fresh_set, ne_eq, not_false_eq_true, true_and, and_true, and_self, a1, a2, b1, b2, hgd, hr1, enc_len, enc_scal, enc_take, enc_z4, hl4, c4, c5, c6, hn_b4, hr_b4, hn_b7, hr_b7, hn_b8, hr_b8, hn_b9, hr_b9, hn_b11, hr_b11, hn_bn, hr_bn, hn_be, hr_be, hn_bl, hr_bl, hn_b13, hr_b13]); refine AH.le_cons ?_ ?_; (show AH.find _ _ = _; simp only [find_add_self, find_add_ne, find_fresh, fresh_add, fresh_set, ne_eq, not_false_eq_true, true_and, and_true, and_self, a1, a2, b1, b2, hgd, hr1, enc_len, enc_scal, enc_take, enc_z4, hl4, c4, c5, c6, hn_b4, hr_b4, hn_b7, hr_b7, hn_b8, hr_b8, hn_b9, hr_b9, hn_b11, hr_b11, hn_bn, hr_bn, hn_be, hr_be, hn_bl, hr_bl, hn_b13, hr_b13]); (repeat (first | exact AH.le_refl _ | refine AH.le_add ?_ ?_)); all_goals (first | exact AH.le_refl _ | (show AH.find _ _ = _; simp only [find_add_self, find_add_ne, find_fresh, fresh_add, fresh_set, ne_eq, not_false_eq_true, true_and, and_true, and_self, a1, a2, b1, b2, hgd, hr1, enc_len, enc_scal, enc_take, enc_z4, hl4, c4, c5, c6, hn_b4, hr_b4, hn_b7, hr_b7, hn_b8, hr_b8, hn_b9, hr_b9, hn_b11, hr_b11, hn_bn, hr_bn, hn_be, hr_be, hn_bl, hr_bl, hn_b13, hr_b13]))), ?_⟩
    rw [hd1]
    exact ⟨_, (by refine AH.le_cons ?_ ?_; (show AH.find _ _ = _; simp only [find_add_self, find_add_ne, find_fresh, fresh_add, fresh_set, ne_eq, not_false_eq_true, true_and, and_true, and_self, a1, a2, b1, b2, hgd, hr1, enc_len, enc_scal, enc_take, enc_z4, hl4, c4, c5, c6, hn_b4, hr_b4, hn_b7, hr_b7, hn_b8, hr_b8, hn_b9, hr_b9, hn_b11, hr_b11, hn_bn, hr_bn, hn_be, hr_be, hn_bl, hr_bl, hn_b13, hr_b13]); (repeat (first | exact AH.le_refl _ | refine AH.le_add ?_ ?_)); all_goals (first | exact AH.le_refl _ | (show AH.find _ _ = _; simp only [find_add_self, find_add_ne, find_fresh, fresh_add, fresh_set, ne_eq, not_false_eq_true, true_and, and_true, and_self, a1, a2, b1, b2, hgd, hr1, enc_len, enc_scal, enc_take, enc_z4, hl4, c4, c5, c6, hn_b4, hr_b4, hn_b7, hr_b7, hn_b8, hr_b8, hn_b9, hr_b9, hn_b11, hr_b11, hn_bn, hr_bn, hn_be, hr_be, hn_bl, hr_bl, hn_b13, hr_b13]))), bl, c_, bs, hn_bl.2.2.2.2.2.2, by rw [getD4 hs_], hcl, hc4, rfl⟩
    
  · 
    have hd : ¬ p / 4 % 2 = 0 := hmq c0
    have hq' := hq 4 (by omega)
    refine AllB.mk fun bn h_bn => ?_; have hn_bn := h_bn; (try simp only [fresh_add, fresh_set, ne_eq] at hn_bn); have hr_bn := hn_bn; (try simp only [@eq_comm Nat bn] at hr_bn); simp (dsimp := false) (maxSteps := 4000000) only [a1, a2, b1, b2, hgd, hr1, enc_len, enc_scal, enc_take, enc_z4, hl4, c4, c5, c6, hn_b4, hr_b4, hn_b7, hr_b7, hn_b8, hr_b8, hn_b9, hr_b9, hn_b11, hr_b11, hn_bn, hr_bn, go_sem, ↓reduceIte, Nat.reduceEqDiff, Nat.reduceLT, Nat.reduceLeDiff, Nat.reduceAdd, Nat.reduceMul, Nat.reduceSub, reduceCtorEq, Int.reduceToNat, Int.reduceLT, Int.reduceLE, Int.reduceEq, Int.reduceNe, Int.reduceBEq, Nat.reduceBEq, Int.reduceBNe, Nat.reduceBNe, Int.reduceAdd, Int.reduceSub, Int.reduceMul, Int.reduceNeg]
    simp (dsimp := false) (maxSteps := 4000000) only [c0, c1, hq', hd, a1, a2, b1, b2, hgd, hr1, enc_len, enc_scal, enc_take, enc_z4, hl4, c4, c5, c6, hn_b4, hr_b4, hn_b7, hr_b7, hn_b8, hr_b8, hn_b9, hr_b9, hn_b11, hr_b11, hn_bn, hr_bn, go_sem, ↓reduceIte, Nat.reduceEqDiff, Nat.reduceLT, Nat.reduceLeDiff, Nat.reduceAdd, Nat.reduceMul, Nat.reduceSub, reduceCtorEq, Int.reduceToNat, Int.reduceLT, Int.reduceLE, Int.reduceEq, Int.reduceNe, Int.reduceBEq, Nat.reduceBEq, Int.reduceBNe, Nat.reduceBNe, Int.reduceAdd, Int.reduceSub, Int.reduceMul, Int.reduceNeg]
    refine AWp.gen [.pu, .rd, .al, .pu, .rd, .ch, .pu, .al, .ch] [0, 1, 0, 0, 8, 28, 63, 0, 255] 6 (_) mixed (by kernel_rfl) (AH.le_refl _) ?_
    simp (dsimp := false) (maxSteps := 4000000) only [a1, a2, b1, b2, hgd, hr1, enc_len, enc_scal, enc_take, enc_z4, hl4, c4, c5, c6, hn_b4, hr_b4, hn_b7, hr_b7, hn_b8, hr_b8, hn_b9, hr_b9, hn_b11, hr_b11, hn_bn, hr_bn, go_sem, ↓reduceIte, Nat.reduceEqDiff, Nat.reduceLT, Nat.reduceLeDiff, Nat.reduceAdd, Nat.reduceMul, Nat.reduceSub, reduceCtorEq, Int.reduceToNat, Int.reduceLT, Int.reduceLE, Int.reduceEq, Int.reduceNe, Int.reduceBEq, Nat.reduceBEq, Int.reduceBNe, Nat.reduceBNe, Int.reduceAdd, Int.reduceSub, Int.reduceMul, Int.reduceNeg]
    refine AllB.mk fun be h_be => ?_; have hn_be := h_be; (try simp only [fresh_add, fresh_set, ne_eq] at hn_be); have hr_be := hn_be; (try simp only [@eq_comm Nat be] at hr_be); simp (dsimp := false) (maxSteps := 4000000) only [a1, a2, b1, b2, hgd, hr1, enc_len, enc_scal, enc_take, enc_z4, hl4, c4, c5, c6, hn_b4, hr_b4, hn_b7, hr_b7, hn_b8, hr_b8, hn_b9, hr_b9, hn_b11, hr_b11, hn_bn, hr_bn, hn_be, hr_be, go_sem, ↓reduceIte, Nat.reduceEqDiff, Nat.reduceLT, Nat.reduceLeDiff, Nat.reduceAdd, Nat.reduceMul, Nat.reduceSub, reduceCtorEq, Int.reduceToNat, Int.reduceLT, Int.reduceLE, Int.reduceEq, Int.reduceNe, Int.reduceBEq, Nat.reduceBEq, Int.reduceBNe, Nat.reduceBNe, Int.reduceAdd, Int.reduceSub, Int.reduceMul, Int.reduceNeg]
    refine APD.clone (new := (R.map enc).flatten) (m := R.length) se_70 rfl (by decide) (by rw [Tryz.underlying70]; rfl) h_be rfl (((((((hs.add (by simp only [fresh_add, ne_eq, hn_b4, not_false_eq_true, and_self] : Fresh _ b4)).add (by simp only [fresh_add, ne_eq, hn_b7, not_false_eq_true, and_self] : Fresh _ b7)).add (by simp only [fresh_add, ne_eq, hn_b8, not_false_eq_true, and_self] : Fresh _ b8)).add (by simp only [fresh_add, ne_eq, hn_b9, not_false_eq_true, and_self] : Fresh _ b9)).add (by simp only [fresh_add, ne_eq, hn_b11, not_false_eq_true, and_self] : Fresh _ b11)).add (by simp only [fresh_add, ne_eq, hn_bn, not_false_eq_true, and_self] : Fresh _ bn)).srow (rows4 R) (by decide) (by simp) (.inl (by intro e; rw [List.map_eq_nil_iff.1 e] at hr1; simp at hr1; omega))) (scal4 R) (by omega) fun bl c_ bs h_bl hcl hbs4 => ?_
    have hc4 : R.length * 4 ≤ bs := Nat.le_trans (Nat.mul_le_mul_right _ hcl) hbs4
    have hn_bl := h_bl; (try simp only [fresh_add, fresh_set, ne_eq] at hn_bl); have hr_bl := hn_bl; (try simp only [@eq_comm Nat bl] at hr_bl)
    simp (dsimp := false) (maxSteps := 4000000) only [a1, a2, b1, b2, hgd, hr1, enc_len, enc_scal, enc_take, enc_z4, hl4, c4, c5, c6, hn_b4, hr_b4, hn_b7, hr_b7, hn_b8, hr_b8, hn_b9, hr_b9, hn_b11, hr_b11, hn_bn, hr_bn, hn_be, hr_be, hn_bl, hr_bl, go_sem, ↓reduceIte, Nat.reduceEqDiff, Nat.reduceLT, Nat.reduceLeDiff, Nat.reduceAdd, Nat.reduceMul, Nat.reduceSub, reduceCtorEq, Int.reduceToNat, Int.reduceLT, Int.reduceLE, Int.reduceEq, Int.reduceNe, Int.reduceBEq, Nat.reduceBEq, Int.reduceBNe, Nat.reduceBNe, Int.reduceAdd, Int.reduceSub, Int.reduceMul, Int.reduceNeg]
    refine ⟨AH.le_add (AH.le_refl _) h_bl.2, ?_⟩
    refine AllB.mk fun b13 h_b13 => ?_; have hn_b13 := h_b13; (try simp only [fresh_add, fresh_set, ne_eq] at hn_b13); have hr_b13 := hn_b13; (try simp only [@eq_comm Nat b13] at hr_b13); simp (dsimp := false) (maxSteps := 4000000) only [a1, a2, b1, b2, hgd, hr1, enc_len, enc_scal, enc_take, enc_z4, hl4, c4, c5, c6, hn_b4, hr_b4, hn_b7, hr_b7, hn_b8, hr_b8, hn_b9, hr_b9, hn_b11, hr_b11, hn_bn, hr_bn, hn_be, hr_be, hn_bl, hr_bl, hn_b13, hr_b13, go_sem, ↓reduceIte, Nat.reduceEqDiff, Nat.reduceLT, Nat.reduceLeDiff, Nat.reduceAdd, Nat.reduceMul, Nat.reduceSub, reduceCtorEq, Int.reduceToNat, Int.reduceLT, Int.reduceLE, Int.reduceEq, Int.reduceNe, Int.reduceBEq, Nat.reduceBEq, Int.reduceBNe, Nat.reduceBNe, Int.reduceAdd, Int.reduceSub, Int.reduceMul, Int.reduceNeg]
    have hrow0 := row4 hr0_
    refine AllB.mk fun b14 h_b14 => ?_; have hn_b14 := h_b14; (try simp only [fresh_add, fresh_set, ne_eq] at hn_b14); have hr_b14 := hn_b14; (try simp only [@eq_comm Nat b14] at hr_b14); simp (dsimp := false) (maxSteps := 4000000) only [a1, a2, b1, b2, hgd, hr1, enc_len, enc_scal, enc_take, enc_z4, hl4, c4, c5, c6, hn_b4, hr_b4, hn_b7, hr_b7, hn_b8, hr_b8, hn_b9, hr_b9, hn_b11, hr_b11, hn_bn, hr_bn, hn_be, hr_be, hn_bl, hr_bl, hn_b13, hr_b13, hn_b14, hr_b14, go_sem, ↓reduceIte, Nat.reduceEqDiff, Nat.reduceLT, Nat.reduceLeDiff, Nat.reduceAdd, Nat.reduceMul, Nat.reduceSub, reduceCtorEq, Int.reduceToNat, Int.reduceLT, Int.reduceLE, Int.reduceEq, Int.reduceNe, Int.reduceBEq, Nat.reduceBEq, Int.reduceBNe, Nat.reduceBNe, Int.reduceAdd, Int.reduceSub, Int.reduceMul, Int.reduceNeg]
    have hp := fun hi => put_next (L := R) (i := rec) (hw r0 (List.mem_of_getElem? hr0_)) hi
    have hi_ : rec < R.length := by omega
    simp (dsimp := false) (maxSteps := 4000000) only [hrow0, enc_0, enc_1, enc_2, enc_3, hp, hi_, hc4, a1, a2, b1, b2, hgd, hr1, enc_len, enc_scal, enc_take, enc_z4, hl4, c4, c5, c6, hn_b4, hr_b4, hn_b7, hr_b7, hn_b8, hr_b8, hn_b9, hr_b9, hn_b11, hr_b11, hn_bn, hr_bn, hn_be, hr_be, hn_bl, hr_bl, hn_b13, hr_b13, hn_b14, hr_b14, go_sem, ↓reduceIte, Nat.reduceEqDiff, Nat.reduceLT, Nat.reduceLeDiff, Nat.reduceAdd, Nat.reduceMul, Nat.reduceSub, reduceCtorEq, Int.reduceToNat, Int.reduceLT, Int.reduceLE, Int.reduceEq, Int.reduceNe, Int.reduceBEq, Nat.reduceBEq, Int.reduceBNe, Nat.reduceBNe, Int.reduceAdd, Int.reduceSub, Int.reduceMul, Int.reduceNeg]
    have hs_ : (R.set rec (Nxt.nextR r0))[rec]? = some (Nxt.nextR r0) := by rw [List.getElem?_set_self (by omega)]
    have hrow := row4 hs_
    have hd1 : doR R 2 rec v = R.set rec (Nxt.nextR r0) := by rw [doR, if_neg (by decide), if_pos rfl, getD4 hr0_]
    refine AWp.gen [.rd, .pu, .rd, .pu, .pu, .rd, .ch, .ch, .pu] [0, 0, 2, 0, 14, 30, 1, 127, 255] 7 ((H.add bl (.cells ((R.set rec (Nxt.nextR r0)).map enc).flatten 26 bs)).add b13 (.cells [.int .i64 p, .slice (some ⟨bl, 0, none⟩) R.length c_] 72 2)) mixed (by kernel_rfl) (?_) ?_
    · exact (by refine AH.le_cons ?_ ?_; (show AH.find _ _ = _; simp only [find_add_self, find_add_ne, find_fresh, fresh_add, fresh_set, ne_eq, not_false_eq_true, true_and, and_true, and_self, a1, a2, b1, b2, hgd, hr1, enc_len, enc_scal, enc_take, enc_z4, hl4, c4, c5, c6, hn_b4, hr_b4, hn_b7, hr_b7, hn_b8, hr_b8, hn_b9, hr_b9, hn_b11, hr_b11, hn_bn, hr_bn, hn_be, hr_be, hn_bl, hr_bl, hn_b13, hr_b13, hn_b14, hr_b14]); refine AH.le_cons ?_ ?_; (show AH.find _ _ = _; simp only [find_add_self, find_add_ne, find_fresh, fresh_add, fresh_set, ne_eq, not_false_eq_true, true_and, and_true, and_self, a1, a2, b1, b2, hgd, hr1, enc_len, enc_scal, enc_take, enc_z4, hl4, c4, c5, c6, hn_b4, hr_b4, hn_b7, hr_b7, hn_b8, hr_b8, hn_b9, hr_b9, hn_b11, hr_b11, hn_bn, hr_bn, hn_be, hr_be, hn_bl, hr_bl, hn_b13, hr_b13, hn_b14, hr_b14]); (repeat (first | exact AH.le_refl _ | refine AH.le_add ?_ ?_)); all_goals (first | exact AH.le_refl _ | (show AH.find _ _ = _; simp only [find_add_self, find_add_ne, find_fresh, fresh_add, fresh_set, ne_eq, not_false_eq_true, true_and, and_true, and_self, a1, a2, b1, b2, hgd, hr1, enc_len, enc_scal, enc_take, enc_z4, hl4, c4, c5, c6, hn_b4, hr_b4, hn_b7, hr_b7, hn_b8, hr_b8, hn_b9, hr_b9, hn_b11, hr_b11, hn_bn, hr_bn, hn_be, hr_be, hn_bl, hr_bl, hn_b13, hr_b13, hn_b14, hr_b14])))
    have hl4' := flat4 (R.set rec (Nxt.nextR r0))
    try rw [List.length_set] at hl4'
    simp (dsimp := false) (maxSteps := 4000000) only [hl4', hrow, a1, a2, b1, b2, hgd, hr1, enc_len, enc_scal, enc_take, enc_z4, hl4, c4, c5, c6, hn_b4, hr_b4, hn_b7, hr_b7, hn_b8, hr_b8, hn_b9, hr_b9, hn_b11, hr_b11, hn_bn, hr_bn, hn_be, hr_be, hn_bl, hr_bl, hn_b13, hr_b13, hn_b14, hr_b14, go_sem, ↓reduceIte, Nat.reduceEqDiff, Nat.reduceLT, Nat.reduceLeDiff, Nat.reduceAdd, Nat.reduceMul, Nat.reduceSub, reduceCtorEq, Int.reduceToNat, Int.reduceLT, Int.reduceLE, Int.reduceEq, Int.reduceNe, Int.reduceBEq, Nat.reduceBEq, Int.reduceBNe, Nat.reduceBNe, Int.reduceAdd, Int.reduceSub, Int.reduceMul, Int.reduceNeg]
    refine ⟨(by refine AH.le_cons ?_ ?_; (show AH.find _ _ = _; simp only [find_add_self, find_add_ne, find_fresh, fresh_add, fresh_set, ne_eq, not_false_eq_true, true_and, and_true, and_self, a1, a2, b1, b2, hgd, hr1, enc_len, enc_scal, enc_take, enc_z4, hl4, c4, c5, c6, hn_b4, hr_b4, hn_b7, hr_b7, hn_b8, hr_b8, hn_b9, hr_b9, hn_b11, hr_b11, hn_bn, hr_bn, hn_be, hr_be, hn_bl, hr_bl, hn_b13, hr_b13, hn_b14, hr_b14]); refine AH.le_cons ?_ ?_; (show AH.find _ _ = _; simp only [find_add_self, find_add_ne, find_fresh, fresh_add, fresh_set, ne_eq, not_false_eq_true, true_and, and_true, and_self, a1, a2, b1, b2, hgd, hr1, enc_len, enc_scal, enc_take, enc_z4, hl4, c4, c5, c6, hn_b4, hr_b4, hn_b7, hr_b7, hn_b8, hr_b8, hn_b9, hr_b9, hn_b11, hr_b11, hn_bn, hr_bn, hn_be, hr_be, hn_bl, hr_bl, hn_b13, hr_b13, hn_b14, hr_b14]); (repeat (first | exact AH.le_refl _ | refine AH.le_add ?_ ?_)); all_goals (first | exact AH.le_refl _ | (show AH.find _ _ = _; simp only [find_add_self, find_add_ne, find_fresh, fresh_add, fresh_set, ne_eq, not_false_eq_true, true_and, and_true, and_self, a1, a2, b1, b2, hgd, hr1, enc_len, enc_scal, enc_take, enc_z4, hl4, c4, c5, c6, hn_b4, hr_b4, hn_b7, hr_b7, hn_b8, hr_b8, hn_b9, hr_b9, hn_b11, hr_b11, hn_bn, hr_bn, hn_be, hr_be, hn_bl, hr_bl, hn_b13, hr_b13, hn_b14, hr_b14]))), ?_⟩
    rw [hd1]
    exact ⟨_, (by refine AH.le_cons ?_ ?_; (show AH.find _ _ = _; simp only [find_add_self, find_add_ne, find_fresh, fresh_add, fresh_set, ne_eq, not_false_eq_true, true_and, and_true, and_self, a1, a2, b1, b2, hgd, hr1, enc_len, enc_scal, enc_take, enc_z4, hl4, c4, c5, c6, hn_b4, hr_b4, hn_b7, hr_b7, hn_b8, hr_b8, hn_b9, hr_b9, hn_b11, hr_b11, hn_bn, hr_bn, hn_be, hr_be, hn_bl, hr_bl, hn_b13, hr_b13, hn_b14, hr_b14]); (repeat (first | exact AH.le_refl _ | refine AH.le_add ?_ ?_)); all_goals (first | exact AH.le_refl _ | (show AH.find _ _ = _; simp only [find_add_self, find_add_ne, find_fresh, fresh_add, fresh_set, ne_eq, not_false_eq_true, true_and, and_true, and_self, a1, a2, b1, b2, hgd, hr1, enc_len, enc_scal, enc_take, enc_z4, hl4, c4, c5, c6, hn_b4, hr_b4, hn_b7, hr_b7, hn_b8, hr_b8, hn_b9, hr_b9, hn_b11, hr_b11, hn_bn, hr_bn, hn_be, hr_be, hn_bl, hr_bl, hn_b13, hr_b13, hn_b14, hr_b14]))), bl, c_, bs, hn_bl.2.2.2.2.2.2, by rw [getD4 hs_], hcl, hc4, rfl⟩
    
end Go.Proofs.YtamlipffhimfmaaGreatDoor.File

/- addr and its reference: what each function comes to. -/
namespace Go.Proofs.YtamlipffhimfmaaGreatDoor
set_option linter.unusedSimpArgs false
set_option linter.unusedVariables false
open Go Go.AX Go.Proofs Ty
set_option maxHeartbeats 2000000
set_option maxRecDepth 10000

theorem u8_eq {c : Int} (h0 : 0 ≤ c) (h1 : c < 256) : IntKind.u8.wrap c = c := by rw [IntKind.wrap_u8]; omega
theorem i64_eq {c : Int} (h0 : -9223372036854775808 ≤ c) (h1 : c < 9223372036854775808) : IntKind.i64.wrap c = c := by rw [IntKind.wrap_i64]; omega

def agood (a b c : Int) : Bool := decide (0 ≤ a ∧ a ≤ 2 ∧ 0 ≤ b ∧ b < 64 ∧ 0 ≤ c ∧ c < 256)

theorem Good_c (a b c : Int) (H : AH) : ACalls Tryz.prog 71 #[.agg #[.int .i64 a, .int .i64 b, .int .i64 c]] H (fun v H' => v = .bool (agood a b c) ∧ H = H') := by
  refine ACalls.enter2 Tryz.func71 rfl Tryz.ntmps71 Tryz.results71 (by simp) ?_; simp (dsimp := false) (maxSteps := 4000000) only [go_sem, ↓reduceIte, Nat.reduceEqDiff, Nat.reduceLT, Nat.reduceLeDiff, Nat.reduceAdd, Nat.reduceMul, Nat.reduceSub, reduceCtorEq, Int.reduceToNat, Int.reduceLT, Int.reduceLE, Int.reduceEq, Int.reduceNe, Int.reduceBEq, Nat.reduceBEq, Int.reduceBNe, Nat.reduceBNe, Int.reduceAdd, Int.reduceSub, Int.reduceMul, Int.reduceNeg]
  refine AllB.mk fun b1 h_b1 => ?_; have hn_b1 := h_b1; (try simp only [fresh_add, fresh_set, ne_eq] at hn_b1); have hr_b1 := hn_b1; (try simp only [@eq_comm Nat b1] at hr_b1); simp (dsimp := false) (maxSteps := 4000000) only [hn_b1, hr_b1, go_sem, ↓reduceIte, Nat.reduceEqDiff, Nat.reduceLT, Nat.reduceLeDiff, Nat.reduceAdd, Nat.reduceMul, Nat.reduceSub, reduceCtorEq, Int.reduceToNat, Int.reduceLT, Int.reduceLE, Int.reduceEq, Int.reduceNe, Int.reduceBEq, Nat.reduceBEq, Int.reduceBNe, Nat.reduceBNe, Int.reduceAdd, Int.reduceSub, Int.reduceMul, Int.reduceNeg]
  (repeat' first | refine And.intro ?_ ?_ | (refine imp.mk fun _ => ?_; simp (dsimp := false) (maxSteps := 4000000) only [hn_b1, hr_b1, go_sem, ↓reduceIte, Nat.reduceEqDiff, Nat.reduceLT, Nat.reduceLeDiff, Nat.reduceAdd, Nat.reduceMul, Nat.reduceSub, reduceCtorEq, Int.reduceToNat, Int.reduceLT, Int.reduceLE, Int.reduceEq, Int.reduceNe, Int.reduceBEq, Nat.reduceBEq, Int.reduceBNe, Nat.reduceBNe, Int.reduceAdd, Int.reduceSub, Int.reduceMul, Int.reduceNeg])) <;> exact ⟨H, (AH.le_add (AH.le_refl _) ((by simp only [fresh_add, fresh_set, ne_eq, hn_b1, not_false_eq_true, and_self] : Fresh _ b1).2)), (by first | exact ⟨congrArg Value.bool (Bool.eq_iff_iff.2 (by simp only [agood, decide_eq_true_eq, Bool.false_eq_true, false_iff, true_iff]; omega)), rfl⟩ | rfl)⟩

theorem RefGood_c (a b c : Int) (H : AH) : ACalls Tryz.prog 37 #[.agg #[.int .i64 a, .int .i64 b, .int .i64 c]] H (fun v H' => v = .bool (agood a b c) ∧ H = H') := by
  refine ACalls.enter2 Tryz.func37 rfl Tryz.ntmps37 Tryz.results37 (by simp) ?_; simp (dsimp := false) (maxSteps := 4000000) only [go_sem, ↓reduceIte, Nat.reduceEqDiff, Nat.reduceLT, Nat.reduceLeDiff, Nat.reduceAdd, Nat.reduceMul, Nat.reduceSub, reduceCtorEq, Int.reduceToNat, Int.reduceLT, Int.reduceLE, Int.reduceEq, Int.reduceNe, Int.reduceBEq, Nat.reduceBEq, Int.reduceBNe, Nat.reduceBNe, Int.reduceAdd, Int.reduceSub, Int.reduceMul, Int.reduceNeg]
  refine AllB.mk fun b1 h_b1 => ?_; have hn_b1 := h_b1; (try simp only [fresh_add, fresh_set, ne_eq] at hn_b1); have hr_b1 := hn_b1; (try simp only [@eq_comm Nat b1] at hr_b1); simp (dsimp := false) (maxSteps := 4000000) only [hn_b1, hr_b1, go_sem, ↓reduceIte, Nat.reduceEqDiff, Nat.reduceLT, Nat.reduceLeDiff, Nat.reduceAdd, Nat.reduceMul, Nat.reduceSub, reduceCtorEq, Int.reduceToNat, Int.reduceLT, Int.reduceLE, Int.reduceEq, Int.reduceNe, Int.reduceBEq, Nat.reduceBEq, Int.reduceBNe, Nat.reduceBNe, Int.reduceAdd, Int.reduceSub, Int.reduceMul, Int.reduceNeg]
  (repeat' first | refine And.intro ?_ ?_ | (refine imp.mk fun _ => ?_; simp (dsimp := false) (maxSteps := 4000000) only [hn_b1, hr_b1, go_sem, ↓reduceIte, Nat.reduceEqDiff, Nat.reduceLT, Nat.reduceLeDiff, Nat.reduceAdd, Nat.reduceMul, Nat.reduceSub, reduceCtorEq, Int.reduceToNat, Int.reduceLT, Int.reduceLE, Int.reduceEq, Int.reduceNe, Int.reduceBEq, Nat.reduceBEq, Int.reduceBNe, Nat.reduceBNe, Int.reduceAdd, Int.reduceSub, Int.reduceMul, Int.reduceNeg])) <;> exact ⟨H, (AH.le_add (AH.le_refl _) ((by simp only [fresh_add, fresh_set, ne_eq, hn_b1, not_false_eq_true, and_self] : Fresh _ b1).2)), (by first | exact ⟨congrArg Value.bool (Bool.eq_iff_iff.2 (by simp only [agood, decide_eq_true_eq, Bool.false_eq_true, false_iff, true_iff]; omega)), rfl⟩ | rfl)⟩

def aputv (a b c : Int) : Value := if agood a b c = true then .tuple #[.agg #[.int .u8 (64 * a + b), .int .u8 c], .int .i64 0] else .tuple #[.agg #[.int .u8 0, .int .u8 0], .int .i64 1]

theorem or_64 : ∀ (x : Fin 3) (y : Fin 64), IntKind.u8.wrap (ibits .or .i64 (IntKind.i64.wrap ((x.val : Int) * 2 ^ min 6 64)) (y.val : Int)) = 64 * (x.val : Int) + y.val := by decide +kernel

theorem or_eq {a b c : Int} (h : agood a b c = true) : IntKind.u8.wrap (ibits .or .i64 (IntKind.i64.wrap (a * 2 ^ min 6 64)) b) = 64 * a + b := by
  simp only [agood, decide_eq_true_eq] at h
  obtain ⟨x, rfl⟩ := Int.eq_ofNat_of_zero_le h.1
  obtain ⟨y, rfl⟩ := Int.eq_ofNat_of_zero_le h.2.2.1
  exact or_64 ⟨x, by omega⟩ ⟨y, by omega⟩

theorem Put_c (a b c : Int) (H : AH) : ACalls Tryz.prog 35 #[.agg #[.int .i64 a, .int .i64 b, .int .i64 c]] H (fun v H' => v = aputv a b c ∧ H = H') := by
  refine ACalls.enter2 Tryz.func35 rfl Tryz.ntmps35 Tryz.results35 (by simp) ?_; simp (dsimp := false) (maxSteps := 4000000) only [go_sem, ↓reduceIte, Nat.reduceEqDiff, Nat.reduceLT, Nat.reduceLeDiff, Nat.reduceAdd, Nat.reduceMul, Nat.reduceSub, reduceCtorEq, Int.reduceToNat, Int.reduceLT, Int.reduceLE, Int.reduceEq, Int.reduceNe, Int.reduceBEq, Nat.reduceBEq, Int.reduceBNe, Nat.reduceBNe, Int.reduceAdd, Int.reduceSub, Int.reduceMul, Int.reduceNeg]
  refine AllB.mk fun b1 h_b1 => ?_; have hn_b1 := h_b1; (try simp only [fresh_add, fresh_set, ne_eq] at hn_b1); have hr_b1 := hn_b1; (try simp only [@eq_comm Nat b1] at hr_b1); simp (dsimp := false) (maxSteps := 4000000) only [hn_b1, hr_b1, go_sem, ↓reduceIte, Nat.reduceEqDiff, Nat.reduceLT, Nat.reduceLeDiff, Nat.reduceAdd, Nat.reduceMul, Nat.reduceSub, reduceCtorEq, Int.reduceToNat, Int.reduceLT, Int.reduceLE, Int.reduceEq, Int.reduceNe, Int.reduceBEq, Nat.reduceBEq, Int.reduceBNe, Nat.reduceBNe, Int.reduceAdd, Int.reduceSub, Int.reduceMul, Int.reduceNeg]
  refine AllB.mk fun b2 h_b2 => ?_; have hn_b2 := h_b2; (try simp only [fresh_add, fresh_set, ne_eq] at hn_b2); have hr_b2 := hn_b2; (try simp only [@eq_comm Nat b2] at hr_b2); simp (dsimp := false) (maxSteps := 4000000) only [hn_b1, hr_b1, hn_b2, hr_b2, go_sem, ↓reduceIte, Nat.reduceEqDiff, Nat.reduceLT, Nat.reduceLeDiff, Nat.reduceAdd, Nat.reduceMul, Nat.reduceSub, reduceCtorEq, Int.reduceToNat, Int.reduceLT, Int.reduceLE, Int.reduceEq, Int.reduceNe, Int.reduceBEq, Nat.reduceBEq, Int.reduceBNe, Nat.reduceBNe, Int.reduceAdd, Int.reduceSub, Int.reduceMul, Int.reduceNeg]
  refine (Good_c a b c _).mono ?_; rintro _ _ ⟨rfl, rfl⟩
  cases hg : agood a b c
  · simp (dsimp := false) (maxSteps := 4000000) only [hn_b1, hr_b1, hn_b2, hr_b2, go_sem, ↓reduceIte, Nat.reduceEqDiff, Nat.reduceLT, Nat.reduceLeDiff, Nat.reduceAdd, Nat.reduceMul, Nat.reduceSub, reduceCtorEq, Int.reduceToNat, Int.reduceLT, Int.reduceLE, Int.reduceEq, Int.reduceNe, Int.reduceBEq, Nat.reduceBEq, Int.reduceBNe, Nat.reduceBNe, Int.reduceAdd, Int.reduceSub, Int.reduceMul, Int.reduceNeg]
    exact ⟨H, (AH.le_add (AH.le_add (AH.le_refl _) ((by simp only [fresh_add, fresh_set, ne_eq, hn_b1, not_false_eq_true, and_self] : Fresh _ b1).2)) ((by simp only [fresh_add, fresh_set, ne_eq, hn_b2, not_false_eq_true, and_self] : Fresh _ b2).2)), (by first | exact ⟨by simp [aputv, hg], rfl⟩ | rfl)⟩
  · simp (dsimp := false) (maxSteps := 4000000) only [hn_b1, hr_b1, hn_b2, hr_b2, go_sem, ↓reduceIte, Nat.reduceEqDiff, Nat.reduceLT, Nat.reduceLeDiff, Nat.reduceAdd, Nat.reduceMul, Nat.reduceSub, reduceCtorEq, Int.reduceToNat, Int.reduceLT, Int.reduceLE, Int.reduceEq, Int.reduceNe, Int.reduceBEq, Nat.reduceBEq, Int.reduceBNe, Nat.reduceBNe, Int.reduceAdd, Int.reduceSub, Int.reduceMul, Int.reduceNeg]
    refine ⟨H, (AH.le_add (AH.le_add (AH.le_refl _) ((by simp only [fresh_add, fresh_set, ne_eq, hn_b1, not_false_eq_true, and_self] : Fresh _ b1).2)) ((by simp only [fresh_add, fresh_set, ne_eq, hn_b2, not_false_eq_true, and_self] : Fresh _ b2).2)), ?_, rfl⟩
    rw [or_eq hg]
    simp only [aputv, hg, if_true]
    simp only [agood, decide_eq_true_eq] at hg
    rw [u8_eq (by omega) (by omega)]

end Go.Proofs.YtamlipffhimfmaaGreatDoor

/- ifs: files by their numbers, what a store comes to. -/
namespace Go.Proofs.YtamlipffhimfmaaGreatDoor.Ifs
set_option linter.unusedSimpArgs false
set_option linter.unusedVariables false
open Go Go.AX Go.Proofs Go.Proofs.YtamlipffhimfmaaGreatDoor.File

/-! ### Files by their numbers -/
abbrev Fl := Int × List Rc
abbrev Nf := Int × Fl
instance : DecidableEq Nf := fun a b => decidable_of_iff (a.1 = b.1 ∧ a.2.1 = b.2.1 ∧ a.2.2 = b.2.2) ⟨fun h => by
  obtain ⟨x, y, z⟩ := a
  obtain ⟨x', y', z'⟩ := b
  obtain ⟨h1, h2, h3⟩ := h
  dsimp only at h1 h2 h3
  rw [h1, h2, h3], fun h => by subst h; exact ⟨rfl, rfl, rfl⟩⟩
def lk (n : Int) : List Nf → Option Fl
  | [] => none
  | x :: l => if x.1 = n then some x.2 else lk n l
def Kd (X : List Nf) : Prop := (X.map (·.1)).Nodup
theorem lk_some {n : Int} {f : Fl} : ∀ {X : List Nf}, lk n X = some f → (n, f) ∈ X
  | x :: l, h => by
    rw [lk] at h
    split at h
    · rename_i e; cases h; subst e; exact List.mem_cons_self ..
    · exact List.mem_cons_of_mem _ (lk_some h)
theorem lk_none {n : Int} : ∀ {X : List Nf}, lk n X = none ↔ ∀ x ∈ X, x.1 ≠ n
  | [] => by simp [lk]
  | x :: l => by
    rw [lk]
    split
    · rename_i e; simp [e]
    · rename_i e; simp [e, lk_none (X := l)]
theorem Kd.cons {x : Nf} {X : List Nf} (h : Kd (x :: X)) : Kd X ∧ ∀ y ∈ X, y.1 ≠ x.1 := by
  simp only [Kd, List.map_cons, List.nodup_cons, List.mem_map, not_exists, not_and] at h
  exact ⟨h.2, fun y hy e => h.1 y hy e⟩
theorem lk_mem {n : Int} {f : Fl} : ∀ {X : List Nf}, Kd X → (n, f) ∈ X → lk n X = some f
  | x :: l, hk, h => by
    obtain ⟨h1, h2⟩ := hk.cons
    rw [lk]
    rcases List.mem_cons.1 h with h | h
    · subst h; simp
    · rw [if_neg (fun e => h2 _ h e.symm)]; exact lk_mem h1 h
theorem Kd.perm {X Y : List Nf} (h : X.Perm Y) (hk : Kd X) : Kd Y := (h.map _).nodup_iff.1 hk
def rp (n : Int) (f : Fl) (X : List Nf) : List Nf := X.map fun x => if x.1 = n then (n, f) else x
theorem rp_keys (n : Int) (f : Fl) (X : List Nf) : (rp n f X).map (·.1) = X.map (·.1) := by
  rw [rp, List.map_map]
  apply List.map_congr_left
  intro x _
  simp only [Function.comp]
  split
  · rename_i e; exact e.symm
  · rfl
theorem rp_kd {n : Int} {f : Fl} {X : List Nf} (h : Kd X) : Kd (rp n f X) := by unfold Kd; rw [rp_keys]; exact h
theorem rp_mem {n : Int} {f : Fl} {X : List Nf} {x : Nf} (h : x ∈ rp n f X) : x = (n, f) ∧ (∃ g, (n, g) ∈ X) ∨ x ∈ X := by
  obtain ⟨y, hy, he⟩ := List.mem_map.1 h
  split at he
  · rename_i e
    exact .inl ⟨he.symm, y.2, by rw [← e]; exact hy⟩
  · exact .inr (he ▸ hy)

def ins (n : Int) (f : Fl) : List Nf → List Nf
  | [] => [(n, f)]
  | x :: l => if x.1 < n then x :: ins n f l else (n, f) :: x :: l
def Srt (X : List Nf) : Prop := X.Pairwise fun a b => a.1 < b.1
theorem ins_perm (n : Int) (f : Fl) : ∀ X : List Nf, (ins n f X).Perm ((n, f) :: X)
  | [] => .refl _
  | x :: l => by
    rw [ins]
    split
    · exact ((ins_perm n f l).cons x).trans (.swap ..)
    · exact .refl _
theorem ins_mem {n : Int} {f : Fl} {X : List Nf} {x : Nf} : x ∈ ins n f X ↔ x = (n, f) ∨ x ∈ X := by
  rw [(ins_perm n f X).mem_iff, List.mem_cons]
theorem ins_srt {n : Int} {f : Fl} : ∀ {X : List Nf}, Srt X → lk n X = none → Srt (ins n f X)
  | [], _, _ => by simp [Srt, ins]
  | x :: l, h, hn => by
    simp only [Srt, List.pairwise_cons] at h
    have hl := lk_none.1 hn
    rw [ins]
    split
    · rename_i hlt
      have := ins_srt (n := n) (f := f) (X := l) h.2 (lk_none.2 fun y hy => hl y (List.mem_cons_of_mem _ hy))
      simp only [Srt, List.pairwise_cons]
      refine ⟨fun y hy => ?_, this⟩
      rcases ins_mem.1 hy with rfl | hy
      · exact hlt
      · exact h.1 y hy
    · rename_i hge
      have hx := hl x (List.mem_cons_self ..)
      simp only [Srt, List.pairwise_cons]
      refine ⟨fun y hy => ?_, h.1, h.2⟩
      rcases List.mem_cons.1 hy with rfl | hy
      · show n < _; omega
      · have := h.1 y hy
        show n < _; omega
theorem Srt.kd {X : List Nf} (h : Srt X) : Kd X := by
  unfold Kd
  rw [List.Nodup, List.pairwise_map]
  exact h.imp fun hab e => by omega
theorem Srt.uniq : ∀ {X Y : List Nf}, X.Perm Y → Srt X → Srt Y → X = Y
  | [], Y, h, _, _ => (List.nil_perm.1 h).symm
  | x :: X, [], h, _, _ => absurd h.symm (by simp)
  | x :: X, y :: Y, h, hx, hy => by
    simp only [Srt, List.pairwise_cons] at hx hy
    have e : x = y := by
      rcases List.mem_cons.1 (h.mem_iff.1 (List.mem_cons_self ..)) with e | e
      · exact e
      · rcases List.mem_cons.1 (h.mem_iff.2 (List.mem_cons_self ..)) with e2 | e2
        · exact e2.symm
        · have := hx.1 _ e2; have := hy.1 _ e; omega
    subst e
    rw [Srt.uniq (List.Perm.cons_inv h) hx.2 hy.2]
theorem rp_srt {n : Int} {f : Fl} {X : List Nf} (h : Srt X) : Srt (rp n f X) := by
  have : ((rp n f X).map (·.1)).Pairwise (· < ·) := by
    rw [rp_keys, List.pairwise_map]; exact h
  rw [List.pairwise_map] at this
  exact this

/-! ### What a store comes to -/
def addE (X : List Nf) (n : Int) (f : Fl) : Int := if n < 0 ∨ 64 ≤ n then 1 else if goodF f.1 f.2 = false then 2 else if (lk n X).isSome then 10 else 0
def addX (X : List Nf) (n : Int) (f : Fl) : List Nf := if addE X n f = 0 then X ++ [(n, f)] else X
def doE (X : List Nf) (op fl rec : Int) : Int := if agood op fl rec = false then 1 else match lk fl X with | none => 3 | some f => mayF f.1 f.2 op rec
def doF (f : Fl) (op rec : Int) (v : Rc) : Fl := (f.1, doR f.2 op rec.toNat v)
def doW (X : List Nf) (op fl rec : Int) (v : Rc) : Rc := if doE X op fl rec = 0 then match lk fl X with | none => zr | some f => (doR f.2 op rec.toNat v).getD rec.toNat zr else zr
def doX (X : List Nf) (op fl rec : Int) (v : Rc) : List Nf := if doE X op fl rec = 0 then match lk fl X with | none => X | some f => rp fl (doF f op rec v) X else X
def doD (X : List Nf) (op fl rec : Int) (d : Int) : Int := if doE X op fl rec = 5 then IntKind.i64.wrap (d + 1) else d
def getW (X : List Nf) (n rec : Int) : Option Rc := (lk n X).bind fun f => if rec < 0 then none else f.2[rec.toNat]?
def setOk (X : List Nf) (n rec : Int) : Bool := (getW X n rec).isSome && decide (rec ≠ 0)
def setX (X : List Nf) (n rec : Int) (v : Rc) : List Nf := if setOk X n rec = true then match lk n X with | none => X | some f => rp n (f.1, f.2.set rec.toNat v) X else X

/-- What holds of each store's files. -/
structure OkX (X : List Nf) : Prop where
  kd : Kd X
  ok : ∀ x ∈ X, (0 ≤ x.1 ∧ x.1 < 64) ∧ goodF x.2.1 x.2.2 = true ∧ ∀ r ∈ x.2.2, RcOk r
theorem OkX.nil : OkX [] := ⟨by simp [Kd], by simp⟩
theorem OkX.perm {X Y : List Nf} (h : OkX X) (hp : X.Perm Y) : OkX Y := ⟨h.kd.perm hp, fun x hx => h.ok x (hp.mem_iff.2 hx)⟩
theorem OkX.lk {X : List Nf} (h : OkX X) {n : Int} {f : Fl} (hf : lk n X = some f) : (0 ≤ n ∧ n < 64) ∧ goodF f.1 f.2 = true ∧ ∀ r ∈ f.2, RcOk r := h.ok _ (lk_some hf)
theorem goodF_len {p : Int} {R : List Rc} (h : goodF p R = true) : 1 ≤ R.length ∧ R.length ≤ 256 := by
  unfold goodF at h
  split at h
  · cases h
  · simp only [Bool.and_eq_true, decide_eq_true_eq] at h
    simp only [List.length_cons]; omega
theorem goodF_set {p : Int} {R : List Rc} {i : Nat} {v : Rc} (h : goodF p R = true) (hi : i ≠ 0) : goodF p (R.set i v) = true := by
  cases R with
  | nil => exact h
  | cons r l =>
    cases i with
    | zero => exact absurd rfl hi
    | succ i => simpa [goodF] using h
theorem OkX.rp {X : List Nf} (h : OkX X) {n : Int} {f g : Fl} (hf : Ifs.lk n X = some g) (hg : goodF f.1 f.2 = true) (hr : ∀ r ∈ f.2, RcOk r) : OkX (rp n f X) :=
  ⟨rp_kd h.kd, fun x hx => by
    rcases rp_mem hx with ⟨rfl, _⟩ | hx
    · exact ⟨(h.lk hf).1, hg, hr⟩
    · exact h.ok x hx⟩
theorem OkX.app {X : List Nf} (h : OkX X) {n : Int} {f : Fl} (hn : 0 ≤ n ∧ n < 64) (hf : Ifs.lk n X = none) (hg : goodF f.1 f.2 = true) (hr : ∀ r ∈ f.2, RcOk r) : OkX (X ++ [(n, f)]) :=
  OkX.perm (X := (n, f) :: X) ⟨by
    have := lk_none.1 hf
    simp only [Kd, List.map_cons, List.nodup_cons, List.mem_map, not_exists, not_and]
    exact ⟨fun x hx e => this x hx e, h.kd⟩, fun x hx => by
    rcases List.mem_cons.1 hx with rfl | hx
    · exact ⟨hn, hg, hr⟩
    · exact h.ok x hx⟩ (List.perm_append_singleton (n, f) X).symm
theorem OkX.add {X : List Nf} (h : OkX X) (n : Int) (f : Fl) (hr : ∀ r ∈ f.2, RcOk r) : OkX (addX X n f) := by
  unfold addX
  split
  · rename_i e
    unfold addE at e
    split at e
    · cases e
    split at e
    · cases e
    split at e
    · cases e
    rename_i h1 h2 h3
    exact h.app (by omega) (by simpa using h3) (by simpa using h2) hr
  · exact h
theorem OkX.set {X : List Nf} (h : OkX X) (n rec : Int) {v : Rc} (hv : RcOk v) : OkX (setX X n rec v) := by
  unfold setX
  split
  · rename_i e
    simp only [setOk, Bool.and_eq_true, decide_eq_true_eq] at e
    cases hl : Ifs.lk n X with
    | none => exact h
    | some f =>
      obtain ⟨_, h2, h3⟩ := h.lk hl
      have hr : rec.toNat ≠ 0 := by
        have := e.1
        simp only [getW, hl, Option.bind_some] at this
        split at this
        · cases this
        · omega
      refine h.rp hl (goodF_set h2 hr) fun r hr => ?_
      rcases List.mem_or_eq_of_mem_set hr with hr | hr
      · exact h3 r hr
      · subst hr; exact hv
  · exact h
end Go.Proofs.YtamlipffhimfmaaGreatDoor.Ifs

/- From a call over the abstract heap to what a statement asks: true is handed back, the arguments read as_ they did. -/
namespace Go.AX
set_option linter.unusedSimpArgs false
set_option linter.unusedVariables false
open Go Go.RowKit Go.ChangeShapes Go.WideShapes Go.ChangeAt
section
variable {P : Program} {HT : Type} {enc : TypeId × Value → HT}

theorem trodAll_stays (hl : laidOutB P = true) {W W' : World} {sp : Nat → Bool} (hb : Below W.heap.size W W') : ∀ (ts : List TypeId) (vs : List Value) (ds : List (DataW HT)) (ps : List MemPlace),
    (ts.all fun t => P.readableRec t && decide (t < P.types.size)) = true → DataW.TrodAll enc P W 0 (fun _ => true) true ts vs ds ps → (∀ x ∈ ps, x.block < W.heap.size ∧ sp x.block = true) →
    DataW.TrodAll enc P W' 0 sp true ts vs ds ps
  | [], vs, ds, ps, _, h, _ => by
    obtain ⟨rfl, rfl, rfl⟩ := trodAll_nil h
    rfl
  | t :: ts, vs, ds, ps, hr, h, hp => by
    simp only [List.all_cons, Bool.and_eq_true, decide_eq_true_eq] at hr
    obtain ⟨v, vs', d, ds', p, q, rfl, rfl, rfl, h1, h2⟩ := trodAll_cons h
    refine ⟨p, q, WideElems.Trod_stays hl hr.1.1 hr.1.2 h1 (fun x hx => hb.same (hp x (by simp [hx])).1) (fun x hx => (hp x (by simp [hx])).2), ?_, rfl⟩
    exact trodAll_stays hl hb ts vs' ds' q (by simpa using hr.2) h2 (fun x hx => hp x (by simp [hx]))

theorem law_post {f : FuncId} {fn : Func} {s : ChangeSpec} {W : World} {args : Array Value} {ds gs : List (DataW HT)} {before : List MemPlace} {tb : TypeId}
    (hl : laidOutB P = true) (hps : (fn.params.toList.all fun t => P.readableRec t && decide (t < P.types.size)) = true) (hvars : s.vars = []) (hrt : fn.resultTypes = #[tb]) (hb : P.underlying tb = some .bool)
    (hW : DataW.Whole enc P fn.params.toList s.vars false W args.toList ds gs before)
    (hres : (s.fn HT (ds ++ gs)).results = [.lit (.bool true)]) (hargs : (s.fn HT (ds ++ gs)).args = ds) (hvs : (s.fn HT (ds ++ gs)).vars = [])
    (hc : ACalls P f args ⟨W, []⟩ (fun v H' => v = .bool true ∧ H'.w0 = W)) :
    Calls P f args W fun e W' => ∃ v, e = .returned v ∧ s.post enc P fn false true false false W args v W' := by
  refine (hc _ W (Sat.start W)).mono ?_
  rintro e W' ⟨v, H', rfl, hs, rfl, hw⟩
  have hbel : Below W.heap.size W W' := hw ▸ hs.below
  refine ⟨_, rfl, ?_⟩
  have hW0 := hW
  obtain ⟨p, q, hA, hV, rfl, _, _⟩ := hW
  have hq : q = [] := by
    rw [hvars] at hV
    cases gs with
    | nil => exact hV
    | cons g gs => exact hV.elim
  subst hq
  refine ⟨ds, gs, p ++ [], [], p, [], hW0, ?_, ?_, ?_, hbel.frame _, fun h => by cases h⟩
  · rw [hres, hrt]
    exact trodAll_mk1 (shut_bool hb true)
  · rw [hargs]
    exact trodAll_stays hl hbel _ _ _ _ hps hA (fun x hx => by
      have := hW0.lt x (by simp [hx])
      exact ⟨this, by simpa using this⟩)
  · rw [hvars, hvs]; rfl

/-! ### What a typed value is -/
theorem okWide_agg {W : World} {r : Reach} {base : Nat} {t : TypeId} {v : Value} {n : Nat} {e : TypeId} (hu : P.underlying t = some (.array n e)) (h : Value.okWide P W r base t v) : ∃ cs, v = .agg cs ∧ cs.size = P.cellsOf t := by
  simp only [Value.okWide, hu] at h
  obtain ⟨cs, h1, h2, _⟩ := h
  exact ⟨cs, h1, h2⟩

/-- An array of integers, opened. -/
theorem open_arr_int {w : World} {base : Nat} {sp : Nat → Bool} {held : Bool} {r : Reach} {b0 : Nat} {t n e : Nat} {k : IntKind} {v : Value} {d : DataW HT} {ps : List MemPlace}
    (hu : P.underlying t = some (.array n e)) (he : P.underlying e = some (.int k)) (hc : P.cellsOf t = n) (h1 : P.cellsOf e = 1)
    (hv : Value.okWide P w r b0 t v) (h : DataW.Trod enc P w base sp held t v d ps) :
    ∃ ns : List Int, ns.length = n ∧ v = .agg (ns.map (Value.int k)).toArray ∧ ∀ x ∈ ns, (Lit.int k x).wf = true := by
  obtain ⟨cs, rfl, hsz⟩ := okWide_agg hu hv
  obtain ⟨fuel, hf⟩ := h
  replace hf : DataW.trod enc P w base sp held fuel t cs.toList = some (d, ps) := hf
  obtain ⟨xs, m, _, _, hl, hxl, hall⟩ := DataW.trod_array hu hf
  rw [hc] at hl
  have hint : ∀ c ∈ cs.toList, ∃ x, c = .int k x ∧ (Lit.int k x).wf = true := by
    intro c hcm
    obtain ⟨i, hi, rfl⟩ := List.mem_iff_getElem.1 hcm
    have hin : i < n := by omega
    have := hall i hin
    rw [h1, Nat.mul_one] at this
    have hx : xs[i]? = some (xs[i]'(by omega)) := List.getElem?_eq_getElem _
    rw [hx] at this
    obtain ⟨x, e1, _, e3⟩ := DataW.trod_int he this
    refine ⟨x, ?_, e3⟩
    have h2 : (cs.toList.drop i).take 1 = [cs.toList[i]] := by
      rw [List.drop_eq_getElem_cons hi]; rfl
    rw [h2] at e1
    exact (List.cons.inj e1).1
  refine ⟨cs.toList.map (fun c => match c with | .int _ x => x | _ => 0), by simp; simpa using hl, ?_, ?_⟩
  · congr 1
    apply Array.ext'
    simp only [List.map_map]
    symm
    conv => rhs; rw [← List.map_id cs.toList]
    apply List.map_congr_left
    intro c hcm
    obtain ⟨x, rfl, _⟩ := hint c hcm
    rfl
  · intro x hx
    simp only [List.mem_map] at hx
    obtain ⟨c, hcm, rfl⟩ := hx
    obtain ⟨x, rfl, hw⟩ := hint c hcm
    exact hw

theorem okw6 {W : World} {r : Reach} {b t0 t1 t2 t3 t4 t5 : Nat} {v0 v1 v2 v3 v4 v5 : Value} (h : ∀ (j : Nat) t v, (#[t0, t1, t2, t3, t4, t5] : Array Nat)[j]? = some t → (#[v0, v1, v2, v3, v4, v5] : Array Value)[j]? = some v → Value.okWide P W r b t v) :
    Value.okWide P W r b t0 v0 ∧ Value.okWide P W r b t1 v1 ∧ Value.okWide P W r b t2 v2 ∧ Value.okWide P W r b t3 v3 ∧ Value.okWide P W r b t4 v4 ∧ Value.okWide P W r b t5 v5 := ⟨h 0 t0 v0 rfl rfl, h 1 t1 v1 rfl rfl, h 2 t2 v2 rfl rfl, h 3 t3 v3 rfl rfl, h 4 t4 v4 rfl rfl, h 5 t5 v5 rfl rfl⟩
theorem trodAll_six {w : World} {base : Nat} {spare : Nat → Bool} {held : Bool} {t0 t1 t2 t3 t4 t5 : TypeId} {args : Array Value} {ds : List (DataW HT)} {ps : List MemPlace} (h : DataW.TrodAll enc P w base spare held [t0, t1, t2, t3, t4, t5] args.toList ds ps) :
    ∃ v0 v1 v2 v3 v4 v5 d0 d1 d2 d3 d4 d5 p0 p1 p2 p3 p4 p5, args = #[v0, v1, v2, v3, v4, v5] ∧ ds = [d0, d1, d2, d3, d4, d5] ∧ ps = p0 ++ p1 ++ p2 ++ p3 ++ p4 ++ p5 ∧ DataW.Trod enc P w base spare held t0 v0 d0 p0 ∧ DataW.Trod enc P w base spare held t1 v1 d1 p1 ∧ DataW.Trod enc P w base spare held t2 v2 d2 p2 ∧ DataW.Trod enc P w base spare held t3 v3 d3 p3 ∧ DataW.Trod enc P w base spare held t4 v4 d4 p4 ∧ DataW.Trod enc P w base spare held t5 v5 d5 p5 := by
  obtain ⟨v0, vs0, d0, ds0, p0, q0, hargs, rfl, rfl, h0, r0⟩ := trodAll_cons h
  obtain ⟨v1, vs1, d1, ds1, p1, q1, rfl, rfl, rfl, h1, r1⟩ := trodAll_cons r0
  obtain ⟨v2, vs2, d2, ds2, p2, q2, rfl, rfl, rfl, h2, r2⟩ := trodAll_cons r1
  obtain ⟨v3, vs3, d3, ds3, p3, q3, rfl, rfl, rfl, h3, r3⟩ := trodAll_cons r2
  obtain ⟨v4, vs4, d4, ds4, p4, q4, rfl, rfl, rfl, h4, r4⟩ := trodAll_cons r3
  obtain ⟨v5, vs5, d5, ds5, p5, q5, rfl, rfl, rfl, h5, r5⟩ := trodAll_cons r4
  obtain ⟨rfl, rfl, rfl⟩ := trodAll_nil r5
  exact ⟨v0, v1, v2, v3, v4, v5, d0, d1, d2, d3, d4, d5, p0, p1, p2, p3, p4, p5, by cases args; simp_all, rfl, by simp, h0, h1, h2, h3, h4, h5⟩
/-! ### Rows of one-cell parts -/
/-- The types of a type's cells, where all of them lie side by side. -/
def leafTs (P : Program) : Nat → TypeId → Option (List TypeId)
  | 0, _ => none
  | d + 1, t => match P.underlying t with
    | some (.struct fs) => fs.toList.foldl (fun acc f => acc.bind fun l => if l.length = f.offset then (leafTs P d f.type).bind fun m => if m.length = P.cellsOf f.type then some (l ++ m) else none else none) (some [])
    | some (.array n e) => (leafTs P d e).bind fun m => if m.length = P.cellsOf e then some (List.replicate n m).flatten else none
    | some _ => if P.cellsOf t = 1 then some [t] else none
    | none => none

def Leafy (enc : TypeId × Value → HT) (P : Program) (w : World) (base : Nat) (sp : Nat → Bool) (held : Bool) (ts : List TypeId) (cs : List Value) : Prop :=
  ∀ (i : Nat) (t : TypeId) (c : Value), ts[i]? = some t → cs[i]? = some c → ∃ n y, DataW.trod enc P w base sp held n t [c] = some y

theorem leafy_struct {w : World} {base : Nat} {sp : Nat → Bool} {held : Bool} {d n : Nat} {cs : List Value}
    (ih : ∀ t cs ts x, leafTs P d t = some ts → DataW.trod enc P w base sp held n t cs = some x → cs.length = P.cellsOf t → ts.length = P.cellsOf t → Leafy enc P w base sp held ts cs) :
    ∀ (fs : List Field) (l ts : List TypeId), (∀ f ∈ fs, ∃ x, DataW.trod enc P w base sp held n f.type ((cs.drop f.offset).take (P.cellsOf f.type)) = some x) →
      Leafy enc P w base sp held l cs → fs.foldl (fun acc f => acc.bind fun l => if l.length = f.offset then (leafTs P d f.type).bind fun m => if m.length = P.cellsOf f.type then some (l ++ m) else none else none) (some l) = some ts →
      ts.length ≤ cs.length → Leafy enc P w base sp held ts cs
  | [], l, ts, _, hl, h, _ => by
    simp only [List.foldl_nil, Option.some.injEq] at h; subst h; exact hl
  | f :: fs, l, ts, hf, hl, h, hle => by
    simp only [List.foldl_cons, Option.bind_some] at h
    have none_fold : ∀ (fs : List Field), fs.foldl (fun acc f => acc.bind fun l => if l.length = f.offset then (leafTs P d f.type).bind fun m => if m.length = P.cellsOf f.type then some (l ++ m) else none else none) (none : Option (List TypeId)) = none := by
      intro fs; induction fs with
      | nil => rfl
      | cons f fs ih => simpa using ih
    have len_fold : ∀ (fs : List Field) (l ts : List TypeId), fs.foldl (fun acc f => acc.bind fun l => if l.length = f.offset then (leafTs P d f.type).bind fun m => if m.length = P.cellsOf f.type then some (l ++ m) else none else none) (some l) = some ts → l.length ≤ ts.length := by
      intro fs; induction fs with
      | nil => intro l ts h; simp only [List.foldl_nil, Option.some.injEq] at h; subst h; exact Nat.le_refl _
      | cons f fs ih =>
        intro l ts h
        simp only [List.foldl_cons, Option.bind_some] at h
        split at h
        · cases hm : leafTs P d f.type with
          | none => rw [hm] at h; simp only [Option.bind_none] at h; rw [none_fold] at h; cases h
          | some m =>
            rw [hm] at h
            simp only [Option.bind_some] at h
            split at h
            · have := ih _ _ h; simp at this; omega
            · rw [none_fold] at h; cases h
        · rw [none_fold] at h; cases h
    split at h
    · rename_i ho
      cases hm : leafTs P d f.type with
      | none => rw [hm] at h; simp only [Option.bind_none] at h; rw [none_fold] at h; cases h
      | some m =>
        rw [hm] at h
        simp only [Option.bind_some] at h
        split at h
        · rename_i hml
          have hlen := len_fold _ _ _ h
          simp only [List.length_append] at hlen
          refine leafy_struct ih fs (l ++ m) ts (fun g hg => hf g (by simp [hg])) ?_ h hle
          obtain ⟨x, hx⟩ := hf f (by simp)
          have h1 := ih f.type _ m x hm hx (by simp; omega) hml
          intro i t c ht hc
          by_cases hi : i < l.length
          · rw [List.getElem?_append_left hi] at ht; exact hl i t c ht hc
          · rw [List.getElem?_append_right (by omega)] at ht
            have hi2 : i - l.length < m.length := by
              rcases Nat.lt_or_ge (i - l.length) m.length with h | h
              · exact h
              · rw [List.getElem?_eq_none h] at ht; cases ht
            refine h1 (i - l.length) t c ht ?_
            rw [List.getElem?_take, if_pos (by omega), List.getElem?_drop, show f.offset + (i - l.length) = i from by omega]
            exact hc
        · rw [none_fold] at h; cases h
    · rw [none_fold] at h; cases h

theorem leafy {w : World} {base : Nat} {sp : Nat → Bool} {held : Bool} : ∀ (n d : Nat) (t : TypeId) (cs : List Value) (ts : List TypeId) (x : DataW HT × List MemPlace), leafTs P d t = some ts → DataW.trod enc P w base sp held n t cs = some x →
    cs.length = P.cellsOf t → ts.length = P.cellsOf t → Leafy enc P w base sp held ts cs
  | n, 0, t, cs, ts, x, h, _, _, _ => by cases h
  | 0, d + 1, t, cs, ts, x, _, hx, _, _ => by simp [DataW.trod] at hx
  | n + 1, d + 1, t, cs, ts, x, h, hx, hl, hlt => by
    simp only [leafTs] at h
    split at h
    · rename_i fs hu
      obtain ⟨xs, n', hn, _, _, hxl, hf⟩ := DataW.trod_struct hu hx
      have hn' : n' = n := by omega
      subst hn'
      refine leafy_struct (fun t cs ts x h1 h2 h3 h4 => leafy n' d t cs ts x h1 h2 h3 h4) fs.toList [] ts (fun f hf' => ?_) (fun i t c h => by simp at h) h (by omega)
      obtain ⟨i, hi⟩ := List.mem_iff_getElem?.1 hf'
      have hi' : fs[i]? = some f := by simpa using hi
      have hlt : i < xs.length := by
        rw [hxl]
        rcases Nat.lt_or_ge i fs.size with h | h
        · exact h
        · rw [Array.getElem?_eq_none h] at hi'; cases hi'
      exact ⟨xs[i], by rw [hf i f hi']; exact List.getElem?_eq_getElem hlt⟩
    · rename_i m e hu
      obtain ⟨l, hle, h⟩ := Option.bind_eq_some_iff.1 h
      split at h
      · rename_i hll
        cases h
        unfold DataW.trod at hx
        simp only [hu] at hx
        rw [if_pos hl] at hx
        obtain ⟨xs, hxs, _⟩ := Option.map_eq_some_iff.1 hx
        have hel : ∀ j, j < m → ∃ y, DataW.trod enc P w base sp held n e ((cs.drop (j * P.cellsOf e)).take (P.cellsOf e)) = some y := fun j hj => by
          have hl' := mapM_some_length hxs
          have hg := mapM_some_get hxs j j (by simp [hj])
          have hlt : j < xs.length := by rw [hl']; simpa using hj
          exact ⟨xs[j], by rw [hg]; exact List.getElem?_eq_getElem hlt⟩
        intro i t c ht hc
        have hflat : ∀ (m i : Nat) (t : TypeId), (List.replicate m l).flatten[i]? = some t → ∃ j k, j < m ∧ k < l.length ∧ i = j * l.length + k ∧ l[k]? = some t := by
          intro m
          induction m with
          | zero => intro i t h; simp at h
          | succ m ih =>
            intro i t h
            rw [List.replicate_succ, List.flatten_cons] at h
            by_cases hi : i < l.length
            · rw [List.getElem?_append_left hi] at h; exact ⟨0, i, by omega, hi, by simp, h⟩
            · rw [List.getElem?_append_right (by omega)] at h
              obtain ⟨j, k, h1, h2, h3, h4⟩ := ih _ _ h
              exact ⟨j + 1, k, by omega, h2, by rw [Nat.succ_mul]; omega, h4⟩
        obtain ⟨j, k, h1, h2, h3, h4⟩ := hflat m i t ht
        obtain ⟨y, hy⟩ := hel j h1
        have hlen : (List.replicate m l).flatten.length = m * l.length := by simp
        have hle2 : (j + 1) * l.length ≤ m * l.length := Nat.mul_le_mul_right _ (by omega)
        rw [Nat.succ_mul] at hle2
        have hcs : cs.length = m * l.length := by rw [hl, ← hlt, hlen]
        refine leafy n d e _ l y hle hy (by rw [List.length_take, List.length_drop, ← hll]; omega) hll k t c h4 ?_
        rw [List.getElem?_take, if_pos (by omega), List.getElem?_drop, ← hll, ← h3]; exact hc
      · cases h
    · rename_i u hns hna hu
      split at h
      · rename_i h1
        cases h
        intro i t' c ht hc
        have hi : i = 0 := by
          rcases i with _ | i
          · rfl
          · simp at ht
        subst hi
        simp at ht; subst ht
        rw [h1] at hl
        match cs, hl with
        | [c0], _ => simp at hc; subst hc; exact ⟨_, _, hx⟩
      · cases h
    · cases h

/-- A slice among the arguments, or in a field of one, by its rows. -/
theorem open_slcC {w : World} {r : Reach} {b0 t e sz : Nat} {v : Value} {y : DataW HT × List MemPlace} {sp : Nat → Bool} {held : Bool} {ts : List TypeId} (hu : P.underlying t = some (.slice e)) (hz : P.cellsOf e = sz) (h0 : sz ≠ 0)
    (hl : leafTs P 20 e = some ts) (hts : ts.length = sz) (h1 : Cell.okWide P w r b0 t v) (h : ∃ fuel, DataW.trod enc P w 0 sp held fuel t [v] = some y) :
    ∃ base n cap R, v = .slice base n cap ∧ R.length = n ∧ SlcIn ⟨w, []⟩ sz base cap R ∧ ∀ (i : Nat) (r : List Value), R[i]? = some r → r.length = sz ∧ Leafy enc P w 0 sp held ts r := by
  obtain ⟨d, ps⟩ := y
  have hc : Cell.ok P w r b0 t v := by
    unfold Cell.okWide at h1
    rw [hu] at h1
    exact h1
  have hform : v = .slice none 0 0 ∨ ∃ a len cap, v = .slice (some a) len cap ∧ a.spot = none ∧ (cap : Int) ≤ IntKind.i64.max ∧ ∃ s, w.shape? a.block = some s := by
    unfold Cell.ok at hc
    rw [hu] at hc
    split at hc <;> simp_all [World.has]
    obtain ⟨q1, q2, q3, q4, row, cells, q5, q6⟩ := hc
    exact ⟨_, _, _, ⟨rfl, rfl, rfl⟩, q4, q2, _, _, q5⟩
  obtain ⟨fuel, h⟩ := h
  rcases hform with rfl | ⟨a, len, cap, rfl, hsp, hcap, shp, hshp⟩
  · exact ⟨none, 0, 0, [], rfl, rfl, ⟨by simp, by simp, fun i hi => by simp at hi, fun b o hb => (by cases hb), fun b o hb => (by cases hb)⟩, fun i r hr => by simp at hr⟩
  · rcases Go.Deep.open_slice hu h with ⟨h1, _⟩ | ⟨a', len', cap', m, n, D, Pl, h1, hb, hle, hm, hmm, _, hx⟩
    · have h2 : (Value.slice (some a) len cap) = .slice none 0 0 := by
        have : [Value.slice (some a) len cap] = [.slice none 0 0] := h1
        simp at this
      cases h2
    · have h2 : (Value.slice (some a) len cap) = .slice (some a') len' cap' := by
        have : [Value.slice (some a) len cap] = [.slice (some a') len' cap'] := h1
        simpa using this
      cases h2
      obtain ⟨b, o, spot⟩ := a
      simp only at hsp
      subst hsp
      have hlm : len ≤ m := by rw [hmm]; split <;> omega
      obtain ⟨f, hf⟩ := Go.Deep.choose_lt (n := len) (p := fun i cs' => w.cells? 0 ((⟨b, o, none⟩ : Addr).add (i * P.cellsOf e)) (P.cellsOf e) = some cs' ∧ ∃ x, DataW.trod enc P w 0 sp held n e cs' = some x)
        (fun i hi => by obtain ⟨cs', h3, h4⟩ := hx i (by omega); exact ⟨cs', h3, _, h4⟩)
      have hcell : ∀ i, i < len → (f i).length = sz ∧ ∀ j, j < sz → w.cell? ⟨b, o + (i * sz + j), none⟩ = (f i)[j]? := fun i hi => by
        obtain ⟨h3, _⟩ := hf i hi
        rw [hz] at h3
        obtain ⟨_, hlen, hcell⟩ := World.cells?_some h3
        refine ⟨hlen, fun j hj => ?_⟩
        have := hcell j hj
        rw [Go.Deep.add_add, Go.AX.add_plain] at this
        exact this
      have hrow : ∀ (i : Nat) (r : List Value), ((List.range len).map f)[i]? = some r → i < len ∧ r = f i := fun i r hr => by
        rw [List.getElem?_map] at hr
        obtain ⟨j, hj, rfl⟩ := Option.map_eq_some_iff.1 hr
        have hi : i < len := by
          rcases Nat.lt_or_ge i len with h | h
          · exact h
          · rw [List.getElem?_eq_none (by simpa using h)] at hj; cases hj
        rw [List.getElem?_range hi] at hj
        cases hj; exact ⟨hi, rfl⟩
      have hlt : ∀ {off : Nat} {c : Value}, w.cell? ⟨b, off, none⟩ = some c → b < w.heap.size := fun {off c} hcc => by
        unfold World.cell? at hcc
        rcases Nat.lt_or_ge b w.heap.size with h | h
        · exact h
        · simp only at hcc; rw [Array.getElem?_eq_none h] at hcc; cases hcc
      refine ⟨some ⟨b, o, none⟩, len, cap, (List.range len).map f, rfl, by simp, ⟨by simpa using hle, by simp [IntKind.max, IntKind.signed, IntKind.bits] at hcap ⊢; omega, fun _ _ => ⟨b, o, rfl⟩, ?_, ?_⟩, ?_⟩
      · intro b' o' hb' i j r c hr hc
        cases hb'
        obtain ⟨hi, rfl⟩ := hrow i r hr
        obtain ⟨q1, q2⟩ := hcell i hi
        have hj : j < sz := by
          rw [← q1]
          rcases Nat.lt_or_ge j (f i).length with h | h
          · exact h
          · rw [List.getElem?_eq_none h] at hc; cases hc
        have := q2 j hj
        rw [hc] at this
        show (if b < w.heap.size then w.cell? ⟨b, o + (i * sz + j), none⟩ else none) = some c
        rw [if_pos (hlt this)]; exact this
      · intro b' o' hb' i r hr
        cases hb'
        obtain ⟨hi, rfl⟩ := hrow i r hr
        obtain ⟨q1, q2⟩ := hcell i hi
        have hbr := baseRow_of (w := w) (b := b) (f i) (o + i * sz) (fun j hj => by rw [show o + i * sz + j = o + (i * sz + j) from by omega]; exact q2 j (by omega))
        have h00 := q2 0 (by omega)
        have hb2 : b < w.heap.size := hlt (h00.trans (List.getElem?_eq_getElem (by omega)))
        show (if b < w.heap.size then baseRow w b (o + i * sz) sz else none) = some (f i)
        rw [if_pos hb2]
        rw [q1] at hbr; exact hbr
      · intro i r hr
        obtain ⟨hi, rfl⟩ := hrow i r hr
        obtain ⟨q1, q2⟩ := hcell i hi
        obtain ⟨_, x, hx'⟩ := hf i hi
        exact ⟨q1, leafy n 20 e (f i) ts x hl hx' (by rw [q1, hz]) (by rw [hts, hz])⟩
/-- A slice that is trodden, by its rows: an empty one may lie anywhere. -/
theorem open_slcT {w : World} {t e sz : Nat} {v : Value} {y : DataW HT × List MemPlace} {sp : Nat → Bool} {held : Bool} {ts : List TypeId} (hu : P.underlying t = some (.slice e)) (hz : P.cellsOf e = sz) (h0 : sz ≠ 0)
    (hl : leafTs P 20 e = some ts) (hts : ts.length = sz) (h : ∃ fuel, DataW.trod enc P w 0 sp held fuel t [v] = some y) :
    ∃ base n cap R, v = .slice base n cap ∧ R.length = n ∧ SlcIn ⟨w, []⟩ sz base cap R ∧ ∀ (i : Nat) (r : List Value), R[i]? = some r → r.length = sz ∧ Leafy enc P w 0 sp held ts r := by
  obtain ⟨d, ps⟩ := y
  obtain ⟨fuel, h⟩ := h
  rcases Go.Deep.open_slice hu h with ⟨h1, _⟩ | ⟨a, len, cap, m, n, D, Pl, h1, hb, hle, hm, hmm, _, hx⟩
  · cases h1
    exact ⟨none, 0, 0, [], rfl, rfl, ⟨by simp, by simp, fun i hi => by simp at hi, fun b o hb => (by cases hb), fun b o hb => (by cases hb)⟩, fun i r hr => by simp at hr⟩
  · cases h1
    have hcap : cap < 9223372036854775808 := by
      have : maxLen < 9223372036854775808 := by decide
      omega
    by_cases hlen : len = 0
    · subst hlen
      exact ⟨some a, 0, cap, [], rfl, rfl, ⟨by simp, by simp, fun i hi => by simp at hi, fun b o _ i j r c h1 _ => by simp at h1, fun b o _ i r h1 => by simp at h1⟩, fun i r hr => by simp at hr⟩
    · obtain ⟨b, o, spot⟩ := a
      have hsp : spot = none := by
        obtain ⟨cs', h3, _⟩ := hx 0 (by rw [hmm]; split <;> omega)
        rw [hz] at h3
        obtain ⟨_, hlen', hcell⟩ := World.cells?_some h3
        have h4 := hcell 0 (by omega)
        cases spot with
        | none => rfl
        | some q =>
          rw [List.getElem?_eq_getElem (by omega)] at h4
          simp only [Nat.zero_mul] at h4
          unfold World.cell? at h4
          split at h4
          · have : ((Addr.add (Addr.add ⟨b, o, some q⟩ 0) 0).spot.isSome) = true := rfl
            rw [this] at h4; simp at h4
          · cases h4
      subst hsp
      have hlm : len ≤ m := by rw [hmm]; split <;> omega
      obtain ⟨f, hf⟩ := Go.Deep.choose_lt (n := len) (p := fun i cs' => w.cells? 0 ((⟨b, o, none⟩ : Addr).add (i * P.cellsOf e)) (P.cellsOf e) = some cs' ∧ ∃ x, DataW.trod enc P w 0 sp held n e cs' = some x)
        (fun i hi => by obtain ⟨cs', h3, h4⟩ := hx i (by omega); exact ⟨cs', h3, _, h4⟩)
      have hcell : ∀ i, i < len → (f i).length = sz ∧ ∀ j, j < sz → w.cell? ⟨b, o + (i * sz + j), none⟩ = (f i)[j]? := fun i hi => by
        obtain ⟨h3, _⟩ := hf i hi
        rw [hz] at h3
        obtain ⟨_, hlen, hcell⟩ := World.cells?_some h3
        refine ⟨hlen, fun j hj => ?_⟩
        have := hcell j hj
        rw [Go.Deep.add_add, Go.AX.add_plain] at this
        exact this
      have hrow : ∀ (i : Nat) (r : List Value), ((List.range len).map f)[i]? = some r → i < len ∧ r = f i := fun i r hr => by
        rw [List.getElem?_map] at hr
        obtain ⟨j, hj, rfl⟩ := Option.map_eq_some_iff.1 hr
        have hi : i < len := by
          rcases Nat.lt_or_ge i len with h | h
          · exact h
          · rw [List.getElem?_eq_none (by simpa using h)] at hj; cases hj
        rw [List.getElem?_range hi] at hj
        cases hj; exact ⟨hi, rfl⟩
      have hlt : ∀ {off : Nat} {c : Value}, w.cell? ⟨b, off, none⟩ = some c → b < w.heap.size := fun {off c} hcc => by
        unfold World.cell? at hcc
        rcases Nat.lt_or_ge b w.heap.size with h | h
        · exact h
        · simp only at hcc; rw [Array.getElem?_eq_none h] at hcc; cases hcc
      refine ⟨some ⟨b, o, none⟩, len, cap, (List.range len).map f, rfl, by simp, ⟨by simpa using hle, by simp only [List.length_map, List.length_range]; omega, fun _ _ => ⟨b, o, rfl⟩, ?_, ?_⟩, ?_⟩
      · intro b' o' hb' i j r c hr hc
        cases hb'
        obtain ⟨hi, rfl⟩ := hrow i r hr
        obtain ⟨q1, q2⟩ := hcell i hi
        have hj : j < sz := by
          rw [← q1]
          rcases Nat.lt_or_ge j (f i).length with h | h
          · exact h
          · rw [List.getElem?_eq_none h] at hc; cases hc
        have := q2 j hj
        rw [hc] at this
        show (if b < w.heap.size then w.cell? ⟨b, o + (i * sz + j), none⟩ else none) = some c
        rw [if_pos (hlt this)]; exact this
      · intro b' o' hb' i r hr
        cases hb'
        obtain ⟨hi, rfl⟩ := hrow i r hr
        obtain ⟨q1, q2⟩ := hcell i hi
        have hbr := baseRow_of (w := w) (b := b) (f i) (o + i * sz) (fun j hj => by rw [show o + i * sz + j = o + (i * sz + j) from by omega]; exact q2 j (by omega))
        have h00 := q2 0 (by omega)
        have hb2 : b < w.heap.size := hlt (h00.trans (List.getElem?_eq_getElem (by omega)))
        show (if b < w.heap.size then baseRow w b (o + i * sz) sz else none) = some (f i)
        rw [if_pos hb2]
        rw [q1] at hbr; exact hbr
      · intro i r hr
        obtain ⟨hi, rfl⟩ := hrow i r hr
        obtain ⟨q1, q2⟩ := hcell i hi
        obtain ⟨_, x, hx'⟩ := hf i hi
        exact ⟨q1, leafy n 20 e (f i) ts x hl hx' (by rw [q1, hz]) (by rw [hts, hz])⟩
theorem cell_slc {w : World} {r : Reach} {b0 t e : Nat} {v : Value} (hu : P.underlying t = some (.slice e)) (hv : Value.okWide P w r b0 t v) : Cell.okWide P w r b0 t v := by
  simp only [Value.okWide, hu] at hv
  exact hv
theorem cells_slc {w : World} {r : Reach} {b0 t e : Nat} {v : Value} (hu : P.underlying t = some (.slice e)) (hv : Cell.okWide P w r b0 t v) : v.cells.toList = [v] := by
  unfold Cell.okWide at hv
  rw [hu] at hv
  unfold Cell.ok at hv
  rw [hu] at hv
  cases v <;> first | rfl | simp at hv
/-- A slice among the arguments, by its rows. -/
theorem open_slc {w : World} {r : Reach} {b0 t e sz : Nat} {v : Value} {d : DataW HT} {ps : List MemPlace} {sp : Nat → Bool} {held : Bool} {ts : List TypeId} (hu : P.underlying t = some (.slice e)) (hz : P.cellsOf e = sz) (h0 : sz ≠ 0)
    (hl : leafTs P 20 e = some ts) (hts : ts.length = sz) (hv : Value.okWide P w r b0 t v) (h : DataW.Trod enc P w 0 sp held t v d ps) :
    ∃ base n cap R, v = .slice base n cap ∧ R.length = n ∧ SlcIn ⟨w, []⟩ sz base cap R ∧ ∀ (i : Nat) (r : List Value), R[i]? = some r → r.length = sz ∧ Leafy enc P w 0 sp held ts r := by
  obtain ⟨fuel, h⟩ := h
  rw [cells_slc hu (cell_slc hu hv)] at h
  exact open_slcC hu hz h0 hl hts (cell_slc hu hv) ⟨fuel, h⟩
theorem list3 {α : Type} {l : List α} (h : l.length = 3) : ∃ x0 x1 x2, l = [x0, x1, x2] := by
  match l, h with
  | [x0, x1, x2], _ => exact ⟨x0, x1, x2, rfl⟩
theorem list4 {α : Type} {l : List α} (h : l.length = 4) : ∃ x0 x1 x2 x3, l = [x0, x1, x2, x3] := by
  match l, h with
  | [x0, x1, x2, x3], _ => exact ⟨x0, x1, x2, x3, rfl⟩
theorem list5 {α : Type} {l : List α} (h : l.length = 5) : ∃ x0 x1 x2 x3 x4, l = [x0, x1, x2, x3, x4] := by
  match l, h with
  | [x0, x1, x2, x3, x4], _ => exact ⟨x0, x1, x2, x3, x4, rfl⟩

end
end Go.AX

/- Slices among the arguments with the bound on their weights. -/
namespace Go.AX
set_option linter.unusedSimpArgs false
set_option linter.unusedVariables false
open Go Go.Proofs Go.ChangeShapes Go.WideShapes Go.ChangeAt
variable {HT : Type} {enc : TypeId × Value → HT} {P : Program}

end Go.AX

/- The engine: ranges over maps of our own; what is known is made less behind a piece of code. -/
namespace Go.AX
set_option linter.unusedSimpArgs false
set_option linter.unusedVariables false
open Go Go.RowKit

/-! ### Knowing less, behind a piece of code -/
def Imp (H H' : AH) : Prop := ∀ E w, Sat E H w → Sat E H' w
theorem Imp.refl (H : AH) : Imp H H := fun _ _ h => h
theorem Imp.trans {A B C : AH} (h : Imp A B) (k : Imp B C) : Imp A C := fun E w hs => k E w (h E w hs)
theorem Imp.of_le {H H' : AH} (h : H'.le H) : Imp H H' := fun _ _ hs => hs.mono h
theorem AWp.imp {P : Program} {n : Nat} {c : Code} {Q : Exit → Fr → AH → Prop} {fr : Fr} {H : AH} (h : AWp P n c (fun e fr H => ∃ H', Imp H H' ∧ Q e fr H') fr H) : AWp P n c Q fr H :=
  fun E a w hf hs => wp_mono (h E a w hf hs) fun _ _ _ ⟨fr, H, h1, h2, H', h3, h4⟩ => ⟨fr, H', h1, h3 _ _ h2, h4⟩
theorem ACalls.imp {P : Program} {f : FuncId} {args : Array Value} {H : AH} {K : Value → AH → Prop} (h : ACalls P f args H (fun v H' => ∃ H2, Imp H' H2 ∧ K v H2)) : ACalls P f args H K :=
  fun E w hs => (h E w hs).mono fun e w' ⟨v, H', h1, h2, H2, h3, h4⟩ => ⟨v, H2, h1, h3 _ _ h2, h4⟩

/-! ### A map's entries, known to the letter -/
theorem Sat.exact {E : Nat → Option Obj} {H : AH} {w : World} {m : Nat} {es : List (Value × Value)} (h : Sat E H w) (hf : H.find m = some (.amap es)) : ∃ en cl, MapIs es en cl ∧ Sat E (H.set m (.obj (.map en cl))) w := by
  obtain ⟨h1, h2, en, cl, ha, h3, h4⟩ := h.known _ _ hf
  refine ⟨en, cl, ⟨h3, h4⟩, h.below, fun b k hk => ?_, fun b o ho => ?_⟩
  · rw [find_set] at hk
    split at hk
    · rename_i e; subst e; cases hk; exact ⟨h1, h2, ha, rfl⟩
    · exact h.known _ _ hk
  · obtain ⟨q1, q2, q3⟩ := h.far b o ho
    refine ⟨q1, ?_, q3⟩
    rw [find_set, if_neg (fun e => by subst e; rw [hf] at q2; cases q2)]; exact q2
theorem Imp.amap {H H' : AH} {m : Nat} {es : List (Value × Value)} {en : Array MapEntry} {cl : Nat} (hf : H.find m = some (.obj (.map en cl))) (hm : MapIs es en cl) (hw : H'.w0 = H.w0)
    (ha : ∀ b k, H'.find b = some k → b ≠ m → H.find b = some k) (hb : ∀ k, H'.find m = some k → k = .amap es) : Imp H H' := fun E w h => by
  refine ⟨hw ▸ h.below, fun b k hk => ?_, fun b o ho => ?_⟩
  · by_cases e : b = m
    · subst e
      obtain rfl := hb k hk
      obtain ⟨h1, h2, h3, _⟩ := h.known _ _ hf
      exact ⟨hw ▸ h1, h2, en, cl, h3, hm.1, hm.2⟩
    · exact hw ▸ h.known b k (ha b k hk e)
  · obtain ⟨q1, q2, q3⟩ := h.far b o ho
    refine ⟨hw ▸ q1, ?_, q3⟩
    cases hk : H'.find b with
    | none => rfl
    | some k =>
      by_cases e : b = m
      · subst e; rw [hf] at q2; cases q2
      · rw [ha b k hk e] at q2; cases q2

section
variable {P : Program} {H : AH} {n d : Nat} {ds : List (Option Tmp)} {fr : Fr} {K : Fr → AH → Prop} {q : Bool} {ty : TypeId} {pos : String} {af : Array Edge} {rest : List Oper}
def RNG (P : Program) (t : TypeId) (x : Value) (H : AH) (k : Value → AH → Prop) (_t : Lk (k, H) := .mk) : Prop := ASem P (do pure (.value (← Instr.range t x))) H k
def NXT (P : Program) (it : Value) (b : Bool) (ty : TypeId) (H : AH) (k : Value → AH → Prop) (_t : Lk (k, H) := .mk) : Prop := ASem P (do pure (.value (← Instr.next it b ty))) H k
theorem T_range {t : TypeId} {x : Operand} : vops q P n ds (⟨(some d), .range t x, ty, pos, af, none⟩ :: rest) fr H K = (d < n ∧ q = false ∧ wv fr x fun x => RNG P t x H fun v H' => vops q P n ds rest ((d, v) :: fr) H' K) := by
  rw [← dok_some]
  apply propext
  constructor
  · rintro ⟨h1, h2, _, h3, h4⟩
    exact ⟨h1, h3, by simpa [Op.operands] using h2, h4⟩
  · rintro ⟨h1, h2, h3, h4⟩
    exact ⟨h1, by simpa [Op.operands] using h3, rfl, h2, h4⟩
theorem T_next {x : Operand} {b : Bool} : vops q P n ds (⟨(some d), .next x b, ty, pos, af, none⟩ :: rest) fr H K = (d < n ∧ q = false ∧ wv fr x fun x => NXT P x b ty H fun v H' => vops q P n ds rest ((d, v) :: fr) H' K) := by
  rw [← dok_some]
  apply propext
  constructor
  · rintro ⟨h1, h2, _, h3, h4⟩
    exact ⟨h1, h3, by simpa [Op.operands] using h2, h4⟩
  · rintro ⟨h1, h2, h3, h4⟩
    exact ⟨h1, by simpa [Op.operands] using h3, rfl, h2, h4⟩
def ENT (P : Program) (it : Value) (H : AH) (k : Value → AH → Prop) (_t : Lk (k, H) := .mk) : Prop := ASem P (do pure (.value (← Instr.entry it))) H k
theorem T_entry {x : Operand} : vops q P n ds (⟨(some d), .entry x, ty, pos, af, none⟩ :: rest) fr H K = (d < n ∧ q = false ∧ wv fr x fun x => ENT P x H fun v H' => vops q P n ds rest ((d, v) :: fr) H' K) := by
  rw [← dok_some]
  apply propext
  constructor
  · rintro ⟨h1, h2, _, h3, h4⟩
    exact ⟨h1, h3, by simpa [Op.operands] using h2, h4⟩
  · rintro ⟨h1, h2, h3, h4⟩
    exact ⟨h1, by simpa [Op.operands] using h3, rfl, h2, h4⟩
end
attribute [go_sem ↓] T_range T_next T_entry

theorem RNG.map {P : Program} {H : AH} {t kt et m : Nat} {es : List (Value × Value)} {k : Value → AH → Prop} (hu : P.underlying t = some (.map kt et)) (hf : H.find m = some (.amap es))
    (hk : ∀ en cl, MapIs es en cl → AllB (H.set m (.obj (.map en cl))) fun b => k (.pointer (some ⟨b, 0, none⟩)) ((H.set m (.obj (.map en cl))).add b (.obj (.mapIter (some m) cl #[] cl)))) : RNG P t (.map (some m)) H k :=
  fun E w hs => by
    obtain ⟨en, cl, hm, hs'⟩ := hs.exact hf
    have := hk en cl hm
    refine ASem.of_arun (H := H.set m (.obj (.map en cl))) (K := k) ?_ E w hs'
    rw [arun_bind]
    unfold Instr.range
    refine arun_qbind ((qrun_underlying t).trans hu) ?_
    simp only [getObj, arun_bind, arun, find_set, if_true, newObj]
    exact this

/-- The entries that a range has not come to. -/
def left (en : Array MapEntry) (D : List MapEntry) : List MapEntry := en.toList.filter fun e => !(D.map (·.born)).contains e.born

theorem nodup_born {l : List MapEntry} (h : (l.map (·.born)).Nodup) {a b : MapEntry} (ha : a ∈ l) (hb : b ∈ l) (e : a.born = b.born) : a = b := by
  induction l with
  | nil => cases ha
  | cons x l ih =>
    simp only [List.map_cons, List.nodup_cons, List.mem_map, not_exists, not_and] at h
    rcases List.mem_cons.1 ha with ha1 | ha1
    · rcases List.mem_cons.1 hb with hb1 | hb1
      · rw [ha1, hb1]
      · exact absurd (ha1 ▸ e).symm (h.1 b hb1)
    · rcases List.mem_cons.1 hb with hb1 | hb1
      · exact absurd (hb1 ▸ e) (h.1 a ha1)
      · exact ih h.2 ha1 hb1

theorem NXT.map {P : Program} {H : AH} {ty i m cl : Nat} {en : Array MapEntry} {D : List MapEntry} {k : Value → AH → Prop} (hi : H.find i = some (.obj (.mapIter (some m) cl (D.map (·.born)).toArray cl))) (hm : H.find m = some (.obj (.map en cl)))
    (hb : BornOk en cl) (h0 : left en D = [] → k (.tuple #[.bool false]) H)
    (h1 : ∀ e ∈ left en D, k (.tuple #[.bool true, e.key, e.val]) (H.set i (.obj (.mapIter (some m) cl ((D ++ [e]).map (·.born)).toArray cl)))) : NXT P (.pointer (some ⟨i, 0, none⟩)) false ty H k := by
  refine ASem.of_arun ?_
  rw [arun_bind]
  unfold Instr.next
  simp only [getObj, arun_bind, arun, hi, hm]
  have c1 : (!((D.map (·.born)).toArray).isEmpty && !en.isEmpty && en.all fun e => decide (e.born ≥ cl)) = false := by
    cases hen : en.isEmpty with
    | true => simp
    | false =>
      have hne : en.toList ≠ [] := fun h => by simp [Array.isEmpty, Array.toList_eq_nil_iff.1 h] at hen
      obtain ⟨x, hx⟩ := List.exists_mem_of_ne_nil _ hne
      have : (en.all fun e => decide (e.born ≥ cl)) = false := by
        rw [Array.all_eq_false]
        obtain ⟨j, hj, he⟩ := List.mem_iff_getElem.1 hx
        refine ⟨j, by simpa using hj, ?_⟩
        have := hb.1 x hx
        have he' : en[j]'(by simpa using hj) = x := by rw [← he]; simp
        rw [he']; simp; omega
      rw [this]; simp
  rw [if_neg (by rw [c1]; decide)]
  have hl : (en.filter fun e => !((D.map (·.born)).toArray).contains e.born) = (left en D).toArray := by
    apply Array.ext'
    simp [left]
  have hold : ((left en D).toArray.filter fun e => decide (e.born < cl)) = (left en D).toArray := by
    rw [Array.filter_eq_self]
    intro x hx
    have : x ∈ left en D := by simpa using hx
    simpa using hb.1 x ((List.mem_filter.1 this).1)
  have hnew : ((left en D).toArray.filter fun e => decide (e.born ≥ cl)) = #[] := by
    rw [Array.filter_eq_empty_iff]
    intro x hx
    have : x ∈ left en D := by simpa using hx
    have := hb.1 x ((List.mem_filter.1 this).1)
    simp; omega
  simp only [hl, hold, hnew, Array.append_empty]
  cases hL : left en D with
  | nil =>
    simp only [Array.isEmpty, List.size_toArray, List.length_nil, decide_true, if_true, List.map_toArray, List.map_nil, Array.append_empty]
    simp only [choose, arun, Question.forced]
    exact h0 hL
  | cons x L =>
    have hne : (x :: L).toArray.isEmpty = false := by simp
    simp only [hne, Bool.false_eq_true, if_false, List.map_toArray, Array.empty_append]
    have fin : ∀ j, j < (x :: L).length → arun P (match ((x :: L).map some).toArray[j]? with
        | some (some e) => do
          setObj i (.mapIter (some m) cl ((D.map (·.born)).toArray.push e.born) cl)
          pure (Value.tuple #[.bool true, e.key, e.val])
        | some none => pure (Value.tuple #[.bool false])
        | none => stuck "Next: no such candidate") H fun a H' => arun P (pure (Next.value a)) H' (anext false P k) := fun j hj => by
      have hg : ((x :: L).map some).toArray[j]? = some (some (x :: L)[j]) := by
        rw [List.getElem?_toArray, List.getElem?_map, List.getElem?_eq_getElem hj]; rfl
      rw [hg]
      have hmem : (x :: L)[j] ∈ left en D := by rw [hL]; exact List.getElem_mem _
      have := h1 _ hmem
      simp only [setObj, arun_bind, arun, hi, isC, true_and]
      have e1 : (D.map (·.born)).toArray.push (x :: L)[j].born = ((D ++ [(x :: L)[j]]).map (·.born)).toArray := by simp
      rw [e1]
      exact this
    simp only [choose, arun_bind, arun]
    split
    · exact fin 0 (by simp)
    · intro t
      exact fin (t % _) (by rw [List.size_toArray, List.length_map]; exact Nat.mod_lt _ (by simp))
theorem ENT.map {P : Program} {H : AH} {i m cl : Nat} {en : Array MapEntry} {D : List MapEntry} {e : MapEntry} {k : Value → AH → Prop} (hi : H.find i = some (.obj (.mapIter (some m) cl ((D ++ [e]).map (·.born)).toArray cl))) (hm : H.find m = some (.obj (.map en cl)))
    (hb : BornOk en cl) (he : e ∈ en.toList) (hk : k (.tuple #[e.key, e.val]) H) : ENT P (.pointer (some ⟨i, 0, none⟩)) H k := by
  refine ASem.of_arun ?_
  rw [arun_bind]
  unfold Instr.entry
  have hback : ((D ++ [e]).map (·.born)).toArray.back? = some e.born := by simp
  have hfind : en.find? (fun x => x.born == e.born) = some e := by
    cases hf : en.find? (fun x => x.born == e.born) with
    | none =>
      have := Array.find?_eq_none.1 hf e (by simpa using he)
      simp at this
    | some x =>
      have h1 := Array.find?_some hf
      have h2 := Array.mem_of_find?_eq_some hf
      have h3 : x = e := nodup_born hb.2 (by simpa using h2) he (by simpa using h1)
      rw [h3]
  simp only [getObj, arun_bind, arun, hi, hm, hback, bne_self_eq_false, Bool.false_eq_true, if_false, hfind]
  exact hk
/-! ### The rounds of such a range -/
/-- D: the entries that a range has come to, of those of the map. -/
structure Rnd (en : Array MapEntry) (cl : Nat) (D : List MapEntry) : Prop where
  ok : BornOk en cl
  sub : ∀ e ∈ D, e ∈ en.toList
  nd : (D.map (·.born)).Nodup
theorem Rnd.nil {en : Array MapEntry} {cl : Nat} (h : BornOk en cl) : Rnd en cl [] := ⟨h, by simp, by simp⟩
theorem Rnd.of_left {en : Array MapEntry} {cl : Nat} {D : List MapEntry} {e : MapEntry} (he : e ∈ left en D) : e ∈ en.toList ∧ e.born ∉ D.map (·.born) := by
  obtain ⟨h1, h2⟩ := List.mem_filter.1 he
  exact ⟨h1, by simpa using h2⟩
theorem Rnd.step {en : Array MapEntry} {cl : Nat} {D : List MapEntry} {e : MapEntry} (h : Rnd en cl D) (he : e ∈ left en D) : Rnd en cl (D ++ [e]) := by
  obtain ⟨h1, h2⟩ := Rnd.of_left (cl := cl) he
  refine ⟨h.ok, fun x hx => ?_, ?_⟩
  · rcases List.mem_append.1 hx with hx | hx
    · exact h.sub x hx
    · rw [List.mem_singleton.1 hx]; exact h1
  · rw [List.map_append, List.nodup_append]
    exact ⟨h.nd, by simp, fun a ha b hb => by
      simp at hb; subst hb
      intro e'; exact h2 (e' ▸ ha)⟩
theorem nodup_of_map {α β : Type} {f : α → β} : ∀ {l : List α}, (l.map f).Nodup → l.Nodup
  | [], _ => by simp
  | x :: l, h => by
    simp only [List.map_cons, List.nodup_cons, List.mem_map, not_exists, not_and] at h
    exact List.nodup_cons.2 ⟨fun hx => h.1 x hx rfl, nodup_of_map h.2⟩
theorem Rnd.done {en : Array MapEntry} {cl : Nat} {D : List MapEntry} (h : Rnd en cl D) (hl : left en D = []) : D.Perm en.toList := by
  rw [List.perm_ext_iff_of_nodup (nodup_of_map h.nd) (nodup_of_map h.ok.2)]
  intro e
  refine ⟨h.sub e, fun he => ?_⟩
  have : e ∉ left en D := by rw [hl]; simp
  have hb : e.born ∈ D.map (·.born) := by
    rcases Classical.em (e.born ∈ D.map (·.born)) with h' | h'
    · exact h'
    · exact absurd (List.mem_filter.2 ⟨he, by simpa using h'⟩) this
  obtain ⟨x, hx, hxe⟩ := List.mem_map.1 hb
  rw [nodup_born h.ok.2 he (h.sub x hx) hxe.symm]; exact hx
end Go.AX

/- errors.As at a target of type *Errno: the library's text, walked. -/
namespace Go.Proofs.YtamlipffhimfmaaGreatDoor.Err
set_option linter.unusedSimpArgs false
set_option linter.unusedVariables false
open Go Go.Proofs Go.RowKit Go.Extern.Stop Go.Stop Go.Extern

/-- errors.As(nil, target). -/
theorem as_nil (t : Value) (w : World) :
    Calls Tryz.prog 44 #[.nilIface, t] w fun e w' => e = .returned (.bool false) ∧ w' = w := by
  go_enter Tryz.func44, Tryz.ntmps44
  go_wp2
  go_ret
  exact ⟨rfl, rfl⟩

theorem rlm (z : Sem Value) (f : TypeId → Addr → Nat → Nat → Sem Value) (v : Value) :
    ReflectliteValue.method z f #[v] = (do match ← ReflectliteValue.parts v with | none => z | some (t, a, fl) => f t a fl (fl % 32)) := rfl
theorem rls (v x : Value) : ReflectliteValue.set #[v, x] = (do
    let (some (dst, a, fl), some (src, b, _)) := (← ReflectliteValue.parts v, ← ReflectliteValue.parts x)
      | unsupported (.noEntry "extern/(internal/reflectlite.Value).Set.zeroValue")
    if fl / ReflectliteValue.flagAddr % 2 == 0 then unsupported (.noEntry "extern/(internal/reflectlite.Value).Set.unaddressable")
    let val ← loadVar src b
    if ← Rtype.directlyAssignable dst src then storeVar dst a val
    else if ← Rtype.implements dst src then
      if (← Rtype.kind src) == 20 then
        match val with
        | .nilIface => unsupported (.noEntry "extern/reflectlite: a nil value of one interface type handed on as a value of another")
        | _ => storeVar dst a val
      else storeVar dst a (.iface src val)
    else panicString ("reflectlite.Set: value of type " ++ (← Rtype.spelt src) ++ " is not assignable to type " ++ (← Rtype.spelt dst))
    pure (.tuple #[])) := rfl

/-! ### Closed facts at the target's type -/
theorem mKind (h : Value) (w : World) : (Go.method 384 197 (.agg #[h]) "Kind").run Tryz.prog w = .ok (155, h) w := by kernel_rfl
theorem mElem (h : Value) (w : World) : (Go.method 384 197 (.agg #[h]) "Elem").run Tryz.prog w = .ok (167, .agg #[h]) w := by kernel_rfl
theorem mImplements (h : Value) (w : World) : (Go.method 384 197 (.agg #[h]) "Implements").run Tryz.prog w = .ok (168, .agg #[h]) w := by kernel_rfl
theorem mAssignableTo (h : Value) (w : World) : (Go.method 384 197 (.agg #[h]) "AssignableTo").run Tryz.prog w = .ok (165, .agg #[h]) w := by kernel_rfl
theorem mComparable (h : Value) (w : World) : (Go.method 384 197 (.agg #[h]) "Comparable").run Tryz.prog w = .ok (166, .agg #[h]) w := by kernel_rfl

theorem valueOfP (t : Addr) (w : World) : (ReflectliteValue.unpack (.iface 223 (.pointer (some t)))).run Tryz.prog w
    = .ok (.agg #[.pointer (some ⟨1, 223, none⟩), .pointer (some ⟨w.heap.size, 0, none⟩), .int .u64 150]) (w.alloc (.cells #[.pointer (some t)] 223)) := by kernel_rfl
theorem typeP (a : Addr) (w : World) : (ReflectliteValue.methodAny (ReflectliteValue.valueError "reflectlite.Value.Type" 0) (fun t _ _ _ => ReflectliteType.toType t) #[.agg #[.pointer (some ⟨1, 223, none⟩), .pointer (some a), .int .u64 150]]).run Tryz.prog w
    = .ok (.iface 197 (.agg #[.pointer (some ⟨1, 223, none⟩)])) w := by kernel_rfl
theorem kindP (w : World) : ((ReflectliteType.abiMethod fun t => (fun a : Nat => Value.int IntKind.u8 (a : Int)) <$> Rtype.kind t) #[.pointer (some ⟨1, 223, none⟩)]).run Tryz.prog w = .ok (.int .u8 22) w := by kernel_rfl
theorem kindE (w : World) : ((ReflectliteType.abiMethod fun t => (fun a : Nat => Value.int IntKind.u8 (a : Int)) <$> Rtype.kind t) #[.pointer (some ⟨1, 28, none⟩)]).run Tryz.prog w = .ok (.int .u8 2) w := by kernel_rfl
theorem partsP (a : Addr) (w : World) : (ReflectliteValue.parts (.agg #[.pointer (some ⟨1, 223, none⟩), .pointer (some a), .int .u64 150])).run Tryz.prog w = .ok (some (223, a, 150)) w := by kernel_rfl
theorem isNilP (a p : Addr) (W : World) (ha : W.cell? a = some (.pointer (some p))) :
    (ReflectliteValue.method (ReflectliteValue.valueError "reflectlite.Value.IsNil" 0) ReflectliteValue.isNil #[.agg #[.pointer (some ⟨1, 223, none⟩), .pointer (some a), .int .u64 150]]).run Tryz.prog W = .ok (.bool false) W := by
  rw [rlm]
  simp only [Sem.run_bind, partsP, Result.andThen]
  simp [ReflectliteValue.isNil, loadVar, isAgg, underlying, Tryz.underlying223, ha, Result.andThen]
theorem elemT (w : World) : (ReflectliteType.method ReflectliteType.elem #[.agg #[.pointer (some ⟨1, 223, none⟩)]]).run Tryz.prog w = .ok (.iface 197 (.agg #[.pointer (some ⟨1, 28, none⟩)])) w := by kernel_rfl
theorem implE (w : World) : (ReflectliteType.relation "Implements" ReflectliteType.implements_ #[.agg #[.pointer (some ⟨1, 28, none⟩)], .iface 197 (.agg #[.pointer (some ⟨1, 113, none⟩)])]).run Tryz.prog w = .ok (.bool true) w := by kernel_rfl
theorem typeOfE (v : Value) (w : World) : (ReflectliteType.typeOf #[.iface 28 v]).run Tryz.prog w = .ok (.iface 197 (.agg #[.pointer (some ⟨1, 28, none⟩)])) w := by kernel_rfl
theorem asgnE (w : World) : (ReflectliteType.relation "AssignableTo" ReflectliteType.assignableTo #[.agg #[.pointer (some ⟨1, 28, none⟩)], .iface 197 (.agg #[.pointer (some ⟨1, 28, none⟩)])]).run Tryz.prog w = .ok (.bool true) w := by kernel_rfl
theorem valueOfE (e : Int) (w : World) : (ReflectliteValue.unpack (.iface 28 (.int .i64 e))).run Tryz.prog w
    = .ok (.agg #[.pointer (some ⟨1, 28, none⟩), .pointer (some ⟨w.heap.size, 0, none⟩), .int .u64 130]) (w.alloc (.cells #[.int .i64 e] 28)) := by kernel_rfl
theorem elemOfP (w : World) : (Rtype.elem? 223).run Tryz.prog w = .ok (some 28) w := by kernel_rfl
theorem mkE (p : Addr) (w : World) : (ReflectliteValue.mk 28 p ReflectliteValue.flagAddr).run Tryz.prog w = .ok (.agg #[.pointer (some ⟨1, 28, none⟩), .pointer (some p), .int .u64 386]) w := by kernel_rfl
theorem elemVP (a p : Addr) (W : World) (ha : W.cell? a = some (.pointer (some p))) :
    (ReflectliteValue.method (ReflectliteValue.valueError "reflectlite.Value.Elem" 0) ReflectliteValue.elem #[.agg #[.pointer (some ⟨1, 223, none⟩), .pointer (some a), .int .u64 150]]).run Tryz.prog W
      = .ok (.agg #[.pointer (some ⟨1, 28, none⟩), .pointer (some p), .int .u64 386]) W := by
  rw [rlm]
  simp only [Sem.run_bind, partsP, Result.andThen]
  simp [ReflectliteValue.elem, loadVar, isAgg, underlying, Tryz.underlying223, ha, Result.andThen, elemOfP, mkE]
theorem partsEa (a : Addr) (w : World) : (ReflectliteValue.parts (.agg #[.pointer (some ⟨1, 28, none⟩), .pointer (some a), .int .u64 386])).run Tryz.prog w = .ok (some (28, a, 386)) w := by kernel_rfl
theorem partsE (a : Addr) (w : World) : (ReflectliteValue.parts (.agg #[.pointer (some ⟨1, 28, none⟩), .pointer (some a), .int .u64 130])).run Tryz.prog w = .ok (some (28, a, 130)) w := by kernel_rfl
theorem directE (w : World) : (Rtype.directlyAssignable 28 28).run Tryz.prog w = .ok true w := by kernel_rfl
theorem sizeE (w : World) : (sizeOf 28).run Tryz.prog w = .ok 1 w := by kernel_rfl
theorem setE (ta b : Addr) (e : Int) (old : Value) (W : World) (hb : W.cell? b = some (.int .i64 e)) (ht : W.cell? ta = some old) (hf : W.frozen? ta = false) :
    (ReflectliteValue.set #[.agg #[.pointer (some ⟨1, 28, none⟩), .pointer (some ta), .int .u64 386], .agg #[.pointer (some ⟨1, 28, none⟩), .pointer (some b), .int .u64 130]]).run Tryz.prog W
      = .ok (.tuple #[]) (W.setCell ta (.int .i64 e)) := by
  rw [rls]
  simp only [Sem.run_bind, partsEa, partsE, Result.andThen]
  simp [ReflectliteValue.flagAddr, loadVar, isAgg, underlying, Tryz.underlying28, hb, Result.andThen, directE, storeVar, Value.cells, storeCells, Addr.add]
  rw [run_store Tryz.prog W ta _ _ (by rfl)]
  simp [ht, hf]
/-- What errors.errorType holds. -/
def ErrT (w : World) : Prop := w.cell? ⟨0, 0, none⟩ = some (.iface 197 (.agg #[.pointer (some ⟨1, 113, none⟩)]))
/-- What has come of a world by new blocks alone. -/
def Grown (w w' : World) : Prop := Below w.heap.size w w'
theorem Grown.al {w w' : World} (h : Grown w w') (o : Obj) : Grown w (w'.alloc o) := Below.alloc h h.size o
theorem Grown.cell {w w' : World} (h : Grown w w') {a : Addr} {v : Value} (hc : w.cell? a = some v) : w'.cell? a = some v := by
  have hlt : a.block < w.heap.size := by
    rcases Nat.lt_or_ge a.block w.heap.size with h | h
    · exact h
    · simp [World.cell?, Array.getElem?_eq_none h] at hc
  rw [Below.cell h hlt]; exact hc
theorem Grown.frozen {w w' : World} (h : Grown w w') {a : Addr} {v : Value} (hc : w.cell? a = some v) (hf : w.frozen? a = false) : w'.frozen? a = false := by
  have hlt : a.block < w.heap.size := by
    rcases Nat.lt_or_ge a.block w.heap.size with h | h
    · exact h
    · simp [World.cell?, Array.getElem?_eq_none h] at hc
  rw [Below.frozen h hlt]; exact hf
theorem Grown.refl (w : World) : Grown w w := Below.refl _ w

set_option maxHeartbeats 4000000 in
/-- errors.As(err, &n), err of type Errno itself. -/
theorem as_errno (e : Int) (t : Addr) (old : Value) (w : World) (hg : ErrT w) (ht : w.cell? t = some old) (hf : w.frozen? t = false) :
    Calls Tryz.prog 44 #[.iface 28 (.int .i64 e), .iface 223 (.pointer (some t))] w fun ev w' => ev = .returned (.bool true) ∧ ∃ w1, Grown w w1 ∧ w' = w1.setCell t (.int .i64 e) := by
  have h61 := @run_callFunc_extern Tryz.prog 77 _ (fun args => ReflectliteValue.unpack (args.getD 0 (.tuple #[]))) Tryz.func77 (by kernel_rfl) (by kernel_rfl) (by kernel_rfl) (by kernel_rfl)
  have h62 := @run_callFunc_extern Tryz.prog 78 _ (ReflectliteValue.methodAny (ReflectliteValue.valueError "reflectlite.Value.Type" 0) (fun t _ _ _ => ReflectliteType.toType t)) Tryz.func78 (by kernel_rfl) (by kernel_rfl) (by kernel_rfl) (by kernel_rfl)
  have h63 := @run_callFunc_extern Tryz.prog 79 _ (ReflectliteValue.method (ReflectliteValue.valueError "reflectlite.Value.IsNil" 0) ReflectliteValue.isNil) Tryz.func79 (by kernel_rfl) (by kernel_rfl) (by kernel_rfl) (by kernel_rfl)
  have h107 := @run_callFunc_extern Tryz.prog 155 _ (ReflectliteType.abiMethod fun t => do pure (.int .u8 (← Rtype.kind t))) Tryz.func155 (by kernel_rfl) (by kernel_rfl) (by kernel_rfl) (by kernel_rfl)
  have h118 := @run_callFunc_extern Tryz.prog 167 _ (ReflectliteType.method ReflectliteType.elem) Tryz.func167 (by kernel_rfl) (by kernel_rfl) (by kernel_rfl) (by kernel_rfl)
  have h119 := @run_callFunc_extern Tryz.prog 168 _ (ReflectliteType.relation "Implements" ReflectliteType.implements_) Tryz.func168 (by kernel_rfl) (by kernel_rfl) (by kernel_rfl) (by kernel_rfl)
  have h50 := @run_callFunc_extern Tryz.prog 99 _ ReflectliteType.typeOf Tryz.func99 (by kernel_rfl) (by kernel_rfl) (by kernel_rfl) (by kernel_rfl)
  have h116 := @run_callFunc_extern Tryz.prog 165 _ (ReflectliteType.relation "AssignableTo" ReflectliteType.assignableTo) Tryz.func165 (by kernel_rfl) (by kernel_rfl) (by kernel_rfl) (by kernel_rfl)
  have h72 := @run_callFunc_extern Tryz.prog 100 _ (ReflectliteValue.method (ReflectliteValue.valueError "reflectlite.Value.Elem" 0) ReflectliteValue.elem) Tryz.func100 (by kernel_rfl) (by kernel_rfl) (by kernel_rfl) (by kernel_rfl)
  have h73 := @run_callFunc_extern Tryz.prog 101 _ ReflectliteValue.set Tryz.func101 (by kernel_rfl) (by kernel_rfl) (by kernel_rfl) (by kernel_rfl)
  have tO := typeOfE
  have mA := mAssignableTo
  have aE := asgnE
  have vE := valueOfE
  have fP := valueOfP
  have tP := typeP
  have mK := mKind
  have mE := mElem
  have mI := mImplements
  have kP := kindP
  have kE := kindE
  have eT := elemT
  have iE := implE
  have c1 : ∀ o, Grown w (w.alloc o) := fun o => (Grown.refl w).al o
  have n8 := isNilP ⟨w.heap.size, 0, none⟩ t ((w.alloc (.cells #[.pointer (some t)] 223)).alloc (.cells #[.pointer (some ⟨1, 223, none⟩), .pointer (some ⟨w.heap.size, 0, none⟩), .int .u64 150] 168)) (by simp)
  have hg2 : World.cell? ((w.alloc (.cells #[.pointer (some t)] 223)).alloc (.cells #[.pointer (some ⟨1, 223, none⟩), .pointer (some ⟨w.heap.size, 0, none⟩), .int .u64 150] 168)) ⟨0, 0, none⟩ = some (.iface 197 (.agg #[.pointer (some ⟨1, 113, none⟩)])) := ((c1 _).al _).cell hg
  have el := elemVP ⟨w.heap.size, 0, none⟩ t (((w.alloc (.cells #[.pointer (some t)] 223)).alloc (.cells #[.pointer (some ⟨1, 223, none⟩), .pointer (some ⟨w.heap.size, 0, none⟩), .int .u64 150] 168)).alloc (.cells #[.pointer (some ⟨1, 223, none⟩), .pointer (some ⟨w.heap.size, 0, none⟩), .int .u64 150] 168)) (by rw [World.cell?_alloc_lt _ _ ⟨w.heap.size, 0, none⟩ (by simp; omega)]; simp)
  have st := setE t ⟨w.heap.size + 1 + 1 + 1, 0, none⟩ e old ((((w.alloc (.cells #[.pointer (some t)] 223)).alloc (.cells #[.pointer (some ⟨1, 223, none⟩), .pointer (some ⟨w.heap.size, 0, none⟩), .int .u64 150] 168)).alloc (.cells #[.pointer (some ⟨1, 223, none⟩), .pointer (some ⟨w.heap.size, 0, none⟩), .int .u64 150] 168)).alloc (.cells #[.int .i64 e] 28)) (by rw [World.cell?_alloc_at _ _ _ _ (by simp)]; rfl) ((((c1 _).al _).al _).al _ |>.cell ht) ((((c1 _).al _).al _).al _ |>.frozen ht hf)
  go_enter Tryz.func44, Tryz.ntmps44
  go_wp2
  refine wp_loop_rounds 1 ?_
  rw [rounds_succ]
  go_wp2
  go_ret
  exact ⟨rfl, _, (((c1 _).al _).al _).al _, rfl⟩
end Go.Proofs.YtamlipffhimfmaaGreatDoor.Err

/- errors.As at a target of type *Errno, and errors.Is at an Errno, of a wrapped one: the library's text, walked. -/
namespace Go.Proofs.YtamlipffhimfmaaGreatDoor.Err
set_option linter.unusedSimpArgs false
set_option linter.unusedVariables false
open Go Go.Proofs Go.RowKit Go.Extern.Stop Go.Stop Go.Extern

theorem typeOfF (v : Value) (w : World) : (ReflectliteType.typeOf #[.iface 217 v]).run Tryz.prog w = .ok (.iface 197 (.agg #[.pointer (some ⟨1, 217, none⟩)])) w := by kernel_rfl
theorem asgnF (w : World) : (ReflectliteType.relation "AssignableTo" ReflectliteType.assignableTo #[.agg #[.pointer (some ⟨1, 217, none⟩)], .iface 197 (.agg #[.pointer (some ⟨1, 28, none⟩)])]).run Tryz.prog w = .ok (.bool false) w := by kernel_rfl
theorem noAsF (v : Value) (xT : TypeId) (w : World) : (Instr.typeAssert (.iface 217 v) xT 202 true).run Tryz.prog w = .ok (.tuple #[.nilIface, .bool false]) w := run_typeAssert_lacksB Tryz.underlying202 (by kernel_rfl) (by kernel_rfl) v xT w
theorem noIsF (v : Value) (xT : TypeId) (w : World) : (Instr.typeAssert (.iface 217 v) xT 239 true).run Tryz.prog w = .ok (.tuple #[.nilIface, .bool false]) w := run_typeAssert_lacksB Tryz.underlying239 (by kernel_rfl) (by kernel_rfl) v xT w
theorem hasUnwrapF (v : Value) (xT : TypeId) (w : World) : (Instr.typeAssert (.iface 217 v) xT 205 true).run Tryz.prog w = .ok (.tuple #[.iface 217 v, .bool true]) w := run_typeAssert_hasB Tryz.underlying205 (by kernel_rfl) v xT w
theorem mUnwrapF (v : Value) (w : World) : (Go.method 384 217 v "Unwrap").run Tryz.prog w = .ok (176, v) w := by kernel_rfl
theorem noIsE (v : Value) (xT : TypeId) (w : World) : (Instr.typeAssert (.iface 28 v) xT 239 true).run Tryz.prog w = .ok (.tuple #[.nilIface, .bool false]) w := run_typeAssert_lacksB Tryz.underlying239 (by kernel_rfl) (by kernel_rfl) v xT w
theorem noUnwrapE (v : Value) (xT : TypeId) (w : World) : (Instr.typeAssert (.iface 28 v) xT 205 true).run Tryz.prog w = .ok (.tuple #[.nilIface, .bool false]) w := run_typeAssert_lacksB Tryz.underlying205 (by kernel_rfl) (by kernel_rfl) v xT w
theorem noUnwrapsE (v : Value) (xT : TypeId) (w : World) : (Instr.typeAssert (.iface 28 v) xT 207 true).run Tryz.prog w = .ok (.tuple #[.nilIface, .bool false]) w := run_typeAssert_lacksB Tryz.underlying207 (by kernel_rfl) (by kernel_rfl) v xT w
theorem cmpE (w : World) : ((ReflectliteType.method fun t => do Rtype.noPackHeld "Comparable" t; (fun a => Value.bool a.comparable) <$> typeInfo t) #[.agg #[.pointer (some ⟨1, 28, none⟩)]]).run Tryz.prog w = .ok (.bool true) w := by kernel_rfl
theorem compE : (Tryz.prog.info? 28).map (·.comparable) = some true := by kernel_rfl
section
variable {P : Program} (w : World)
theorem run_equalIn_iface_int (d : Nat) {ti tn : TypeId} {ms : Array (String × TypeId)} {i : TypeInfo} {k : IntKind} (a b : Int)
    (hi : P.underlying ti = some (.interface ms)) (hn : P.underlying tn = some (.int k)) (hinfo : P.info? tn = some i) (hcomp : i.comparable = true) :
    (Op.equalIn (d + 2) ti (.iface tn (.int k a)) (.iface tn (.int k b))).run P w = .ok (a == b) w := by
  simp [Op.equalIn, run_underlying hi, run_underlying hn, typeInfo, hinfo, hcomp]
theorem run_eql_iface_int {ti tn : TypeId} {ms : Array (String × TypeId)} {i : TypeInfo} {k : IntKind} (a b : Int)
    (hi : P.underlying ti = some (.interface ms)) (hn : P.underlying tn = some (.int k)) (hinfo : P.info? tn = some i) (hcomp : i.comparable = true) :
    (binOp .eql ti (.iface tn (.int k a)) (.iface tn (.int k b))).run P w = .ok (.bool (a == b)) w := by
  simp only [binOp]
  simp [Op.equal, Op.maxDepth, run_equalIn_iface_int w 9998 a b hi hn hinfo hcomp]
end

set_option maxHeartbeats 4000000 in
/-- errors.As(err, &n), err a *fault that wraps an Errno. -/
theorem as_fault (b o : Nat) (e : Int) (t : Addr) (old : Value) (w : World) (hg : ErrT w) (hb : w.cell? ⟨b, o + 1, none⟩ = some (.iface 28 (.int .i64 e))) (ht : w.cell? t = some old) (hf : w.frozen? t = false) :
    Calls Tryz.prog 44 #[.iface 217 (.pointer (some ⟨b, o, none⟩)), .iface 223 (.pointer (some t))] w fun ev w' => ev = .returned (.bool true) ∧ ∃ w1, Grown w w1 ∧ w' = w1.setCell t (.int .i64 e) := by
  have h61 := @run_callFunc_extern Tryz.prog 77 _ (fun args => ReflectliteValue.unpack (args.getD 0 (.tuple #[]))) Tryz.func77 (by kernel_rfl) (by kernel_rfl) (by kernel_rfl) (by kernel_rfl)
  have h62 := @run_callFunc_extern Tryz.prog 78 _ (ReflectliteValue.methodAny (ReflectliteValue.valueError "reflectlite.Value.Type" 0) (fun t _ _ _ => ReflectliteType.toType t)) Tryz.func78 (by kernel_rfl) (by kernel_rfl) (by kernel_rfl) (by kernel_rfl)
  have h63 := @run_callFunc_extern Tryz.prog 79 _ (ReflectliteValue.method (ReflectliteValue.valueError "reflectlite.Value.IsNil" 0) ReflectliteValue.isNil) Tryz.func79 (by kernel_rfl) (by kernel_rfl) (by kernel_rfl) (by kernel_rfl)
  have h107 := @run_callFunc_extern Tryz.prog 155 _ (ReflectliteType.abiMethod fun t => do pure (.int .u8 (← Rtype.kind t))) Tryz.func155 (by kernel_rfl) (by kernel_rfl) (by kernel_rfl) (by kernel_rfl)
  have h118 := @run_callFunc_extern Tryz.prog 167 _ (ReflectliteType.method ReflectliteType.elem) Tryz.func167 (by kernel_rfl) (by kernel_rfl) (by kernel_rfl) (by kernel_rfl)
  have h119 := @run_callFunc_extern Tryz.prog 168 _ (ReflectliteType.relation "Implements" ReflectliteType.implements_) Tryz.func168 (by kernel_rfl) (by kernel_rfl) (by kernel_rfl) (by kernel_rfl)
  have h50 := @run_callFunc_extern Tryz.prog 99 _ ReflectliteType.typeOf Tryz.func99 (by kernel_rfl) (by kernel_rfl) (by kernel_rfl) (by kernel_rfl)
  have h116 := @run_callFunc_extern Tryz.prog 165 _ (ReflectliteType.relation "AssignableTo" ReflectliteType.assignableTo) Tryz.func165 (by kernel_rfl) (by kernel_rfl) (by kernel_rfl) (by kernel_rfl)
  have h72 := @run_callFunc_extern Tryz.prog 100 _ (ReflectliteValue.method (ReflectliteValue.valueError "reflectlite.Value.Elem" 0) ReflectliteValue.elem) Tryz.func100 (by kernel_rfl) (by kernel_rfl) (by kernel_rfl) (by kernel_rfl)
  have h73 := @run_callFunc_extern Tryz.prog 101 _ ReflectliteValue.set Tryz.func101 (by kernel_rfl) (by kernel_rfl) (by kernel_rfl) (by kernel_rfl)
  have tO := typeOfE
  have mA := mAssignableTo
  have aE := asgnE
  have vE := valueOfE
  have fP := valueOfP
  have tP := typeP
  have mK := mKind
  have mE := mElem
  have mI := mImplements
  have kP := kindP
  have kE := kindE
  have eT := elemT
  have iE := implE
  have tF := typeOfF
  have aF := asgnF
  have nF := noAsF
  have uF := hasUnwrapF
  have mU := mUnwrapF
  have c1 : ∀ o, Grown w (w.alloc o) := fun o => (Grown.refl w).al o
  have n8 := isNilP ⟨w.heap.size, 0, none⟩ t ((w.alloc (.cells #[.pointer (some t)] 223)).alloc (.cells #[.pointer (some ⟨1, 223, none⟩), .pointer (some ⟨w.heap.size, 0, none⟩), .int .u64 150] 168)) (by simp)
  have hg2 : World.cell? ((w.alloc (.cells #[.pointer (some t)] 223)).alloc (.cells #[.pointer (some ⟨1, 223, none⟩), .pointer (some ⟨w.heap.size, 0, none⟩), .int .u64 150] 168)) ⟨0, 0, none⟩ = some (.iface 197 (.agg #[.pointer (some ⟨1, 113, none⟩)])) := ((c1 _).al _).cell hg
  have el := elemVP ⟨w.heap.size, 0, none⟩ t (((w.alloc (.cells #[.pointer (some t)] 223)).alloc (.cells #[.pointer (some ⟨1, 223, none⟩), .pointer (some ⟨w.heap.size, 0, none⟩), .int .u64 150] 168)).alloc (.cells #[.pointer (some ⟨1, 223, none⟩), .pointer (some ⟨w.heap.size, 0, none⟩), .int .u64 150] 168)) (by rw [World.cell?_alloc_lt _ _ ⟨w.heap.size, 0, none⟩ (by simp; omega)]; simp)
  have st := setE t ⟨w.heap.size + 1 + 1 + 1, 0, none⟩ e old ((((w.alloc (.cells #[.pointer (some t)] 223)).alloc (.cells #[.pointer (some ⟨1, 223, none⟩), .pointer (some ⟨w.heap.size, 0, none⟩), .int .u64 150] 168)).alloc (.cells #[.pointer (some ⟨1, 223, none⟩), .pointer (some ⟨w.heap.size, 0, none⟩), .int .u64 150] 168)).alloc (.cells #[.int .i64 e] 28)) (by rw [World.cell?_alloc_at _ _ _ _ (by simp)]; rfl) ((((c1 _).al _).al _).al _ |>.cell ht) ((((c1 _).al _).al _).al _ |>.frozen ht hf)
  have hb3 : World.cell? (((w.alloc (.cells #[.pointer (some t)] 223)).alloc (.cells #[.pointer (some ⟨1, 223, none⟩), .pointer (some ⟨w.heap.size, 0, none⟩), .int .u64 150] 168)).alloc (.cells #[.pointer (some ⟨1, 223, none⟩), .pointer (some ⟨w.heap.size, 0, none⟩), .int .u64 150] 168)) ⟨b, o + 1, none⟩ = some (.iface 28 (.int .i64 e)) := (((c1 _).al _).al _).cell hb
  go_enter Tryz.func44, Tryz.ntmps44
  go_wp2
  refine wp_loop_rounds 2 ?_
  rw [rounds_succ]
  go_wp2
  rw [rounds_succ]
  go_wp2
  go_ret
  exact ⟨rfl, _, (((c1 _).al _).al _).al _, rfl⟩

/-- errors.Is(nil, an Errno). -/
theorem is_nil (x : Int) (w : World) :
    Calls Tryz.prog 96 #[.nilIface, .iface 28 (.int .i64 x)] w fun e w' => e = .returned (.bool false) ∧ w' = w := by
  have hn := run_eql_iface_nil_left (P := Tryz.prog) w 28 (.int .i64 x) Tryz.underlying113
  go_enter Tryz.func96, Tryz.ntmps96
  go_wp2
  go_ret
  exact ⟨rfl, rfl⟩

set_option maxHeartbeats 4000000 in
/-- errors.Is of two Errnos. -/
theorem is_errno (e x : Int) (w : World) :
    Calls Tryz.prog 96 #[.iface 28 (.int .i64 e), .iface 28 (.int .i64 x)] w fun ev w' => ev = .returned (.bool (e == x)) ∧ w' = w := by
  obtain ⟨i, hi, hcmp⟩ := Option.map_eq_some_iff.1 compE
  have h50 := @run_callFunc_extern Tryz.prog 99 _ ReflectliteType.typeOf Tryz.func99 (by kernel_rfl) (by kernel_rfl) (by kernel_rfl) (by kernel_rfl)
  have h117 := @run_callFunc_extern Tryz.prog 166 _ (ReflectliteType.method fun t => do Rtype.noPackHeld "Comparable" t; pure (.bool (← typeInfo t).comparable)) Tryz.func166 (by kernel_rfl) (by kernel_rfl) (by kernel_rfl) (by kernel_rfl)
  have tT := typeOfE
  have cT := cmpE
  have mC := mComparable
  have nE := noIsE
  have uE := noUnwrapE
  have vE := noUnwrapsE
  have heq := run_eql_iface_int (P := Tryz.prog) w e x Tryz.underlying113 Tryz.underlying28 hi hcmp
  cases hr : (e == x) with
  | true =>
    rw [hr] at heq
    go_enter Tryz.func96, Tryz.ntmps96
    go_wp2
    refine wp_loop_rounds 1 ?_
    rw [rounds_succ]
    go_wp2
    go_ret
    exact ⟨rfl, rfl⟩
  | false =>
    rw [hr] at heq
    go_enter Tryz.func96, Tryz.ntmps96
    go_wp2
    refine wp_loop_rounds 1 ?_
    rw [rounds_succ]
    go_wp2
    go_ret
    exact ⟨rfl, rfl⟩
set_option maxHeartbeats 4000000 in
/-- errors.Is of a *fault that wraps an Errno. -/
theorem is_fault (b o : Nat) (e x : Int) (w : World) (hb : w.cell? ⟨b, o + 1, none⟩ = some (.iface 28 (.int .i64 e))) :
    Calls Tryz.prog 96 #[.iface 217 (.pointer (some ⟨b, o, none⟩)), .iface 28 (.int .i64 x)] w fun ev w' => ev = .returned (.bool (e == x)) ∧ w' = w := by
  obtain ⟨i, hi, hcmp⟩ := Option.map_eq_some_iff.1 compE
  have h50 := @run_callFunc_extern Tryz.prog 99 _ ReflectliteType.typeOf Tryz.func99 (by kernel_rfl) (by kernel_rfl) (by kernel_rfl) (by kernel_rfl)
  have h117 := @run_callFunc_extern Tryz.prog 166 _ (ReflectliteType.method fun t => do Rtype.noPackHeld "Comparable" t; pure (.bool (← typeInfo t).comparable)) Tryz.func166 (by kernel_rfl) (by kernel_rfl) (by kernel_rfl) (by kernel_rfl)
  have tT := typeOfE
  have cT := cmpE
  have mC := mComparable
  have nE := noIsE
  have uE := noUnwrapE
  have vE := noUnwrapsE
  have nF := noIsF
  have uF := hasUnwrapF
  have mU := mUnwrapF
  have hty := run_eql_iface_types (P := Tryz.prog) 217 28 (.pointer (some ⟨b, o, none⟩)) (.int .i64 x) Tryz.underlying113 (by decide) w
  have heq := run_eql_iface_int (P := Tryz.prog) w e x Tryz.underlying113 Tryz.underlying28 hi hcmp
  cases hr : (e == x) with
  | true =>
    rw [hr] at heq
    go_enter Tryz.func96, Tryz.ntmps96
    go_wp2
    refine wp_loop_rounds 2 ?_
    rw [rounds_succ]
    go_wp2
    rw [rounds_succ]
    go_wp2
    go_ret
    exact ⟨rfl, rfl⟩
  | false =>
    rw [hr] at heq
    go_enter Tryz.func96, Tryz.ntmps96
    go_wp2
    refine wp_loop_rounds 2 ?_
    rw [rounds_succ]
    go_wp2
    rw [rounds_succ]
    go_wp2
    go_ret
    exact ⟨rfl, rfl⟩
end Go.Proofs.YtamlipffhimfmaaGreatDoor.Err

/- errors.As and errors.Is over the abstract heap; ifs: number. -/
namespace Go.Proofs.YtamlipffhimfmaaGreatDoor.Err
set_option linter.unusedSimpArgs false
set_option linter.unusedVariables false
open Go Go.AX Go.Proofs Ty
set_option maxHeartbeats 4000000
set_option maxRecDepth 10000

theorem ErrT.of {E : Nat → Option Obj} {H : AH} {w : World} (h : ErrT H.w0) (hs : Sat E H w) : ErrT w := by
  have hlt : 0 < H.w0.heap.size := by
    unfold ErrT at h
    rcases Nat.eq_zero_or_pos H.w0.heap.size with h0 | h'
    · simp [World.cell?, h0] at h
    · exact h'
  have := hs.below.cell (p := ⟨0, 0, none⟩) hlt
  unfold ErrT
  rw [this]; exact h
/-- A call that lays new blocks and writes one cell of a block of our own. -/
theorem ACalls.one {P : Program} {f : FuncId} {args : Array Value} {H : AH} {b t : Nat} {u x y : Value} (hf : Fresh H b) 
    (h : ∀ E w, Sat E (H.add b (.cells [x] t 1)) w → Calls P f args w fun ev w' => ev = .returned u ∧ ∃ w1, Grown w w1 ∧ w' = w1.setCell ⟨b, 0, none⟩ y) :
    ACalls P f args (H.add b (.cells [x] t 1)) (fun v H' => v = u ∧ H' = H.add b (.cells [y] t 1)) := fun E w hs => (h E w hs).mono fun e w' ⟨he, w1, hg, hw⟩ => by
  subst hw
  obtain ⟨q1, _, _⟩ := (hs.belowed hg).setCells (a := ⟨b, 0, none⟩) (v := y) (find_add_self _ _ _) rfl (Nat.zero_lt_one) (by simp)
  refine ⟨u, H.add b (.cells [y] t 1), he, q1.of_find rfl fun c => ?_, rfl, rfl⟩
  rw [find_set, find_add, find_add]
  split <;> rfl

def ErrV (H : AH) (v : Value) (e : Int) : Prop :=
  (v = .nilIface ∧ e = 0) ∨ v = .iface 28 (.int .i64 e) ∨ ∃ b o, v = .iface 217 (.pointer (some ⟨b, o, none⟩)) ∧ H.rd ⟨b, o + 1, none⟩ = some (.iface 28 (.int .i64 e))

theorem As_c {H : AH} {v : Value} {e : Int} {b : Nat} (hE : ErrT H.w0) (hv : ErrV H v e) (hn : v ≠ .nilIface) (hf : Fresh H b) :
    ACalls Tryz.prog 44 #[v, .iface 223 (.pointer (some ⟨b, 0, none⟩))] (H.add b (.cells [.int .i64 0] 28 1)) (fun u H' => u = .bool true ∧ H' = H.add b (.cells [.int .i64 e] 28 1)) :=
  ACalls.one hf fun E w hs => by
    have hg := ErrT.of (H := H.add b (.cells [.int .i64 0] 28 1)) hE hs
    have ht : w.cell? ⟨b, 0, none⟩ = some (.int .i64 0) := hs.rd (by rw [rd_add_self]; rfl)
    have hz : w.frozen? ⟨b, 0, none⟩ = false := hs.frz (by simp [AH.frz, find_add])
    rcases hv with ⟨rfl, _⟩ | rfl | ⟨b1, o1, rfl, hr⟩
    · exact absurd rfl hn
    · exact as_errno e _ _ w hg ht hz
    · exact as_fault b1 o1 e _ _ w hg ((hs.mono (AH.le_add (AH.le_refl _) hf.2)).rd hr) ht hz

theorem number_c {H : AH} {v : Value} {e : Int} (hE : ErrT H.w0) (hv : ErrV H v e) : ACalls Tryz.prog 97 #[v] H (fun u H' => u = .int .i64 e ∧ H = H') := by
  refine ACalls.enter2 Tryz.func97 rfl Tryz.ntmps97 Tryz.results97 (by simp) ?_; simp (dsimp := false) (maxSteps := 4000000) only [go_sem, ↓reduceIte, Nat.reduceEqDiff, Nat.reduceLT, Nat.reduceLeDiff, Nat.reduceAdd, Nat.reduceMul, Nat.reduceSub, reduceCtorEq, Int.reduceToNat, Int.reduceLT, Int.reduceLE, Int.reduceEq, Int.reduceNe, Int.reduceBEq, Nat.reduceBEq, Int.reduceBNe, Nat.reduceBNe, Int.reduceAdd, Int.reduceSub, Int.reduceMul, Int.reduceNeg]
  refine AllB.mk fun b h_b => ?_
  simp (dsimp := false) (maxSteps := 4000000) only [go_sem, ↓reduceIte, Nat.reduceEqDiff, Nat.reduceLT, Nat.reduceLeDiff, Nat.reduceAdd, Nat.reduceMul, Nat.reduceSub, reduceCtorEq, Int.reduceToNat, Int.reduceLT, Int.reduceLE, Int.reduceEq, Int.reduceNe, Int.reduceBEq, Nat.reduceBEq, Int.reduceBNe, Nat.reduceBNe, Int.reduceAdd, Int.reduceSub, Int.reduceMul, Int.reduceNeg]
  by_cases hn : v = .nilIface
  · subst hn
    obtain rfl : e = 0 := by
      rcases hv with ⟨_, h⟩ | h | ⟨_, _, h, _⟩
      · exact h
      · cases h
      · cases h
    refine ACalls.mono (K := fun u H' => u = .bool false ∧ (H.add b (.cells [.int .i64 0] 28 1)) = H') (fun E w hs => (as_nil _ w).mono fun ev w' ⟨h1, h2⟩ => ⟨_, _, h1, h2 ▸ hs, rfl, rfl⟩) ?_
    rintro _ _ ⟨rfl, rfl⟩
    simp (dsimp := false) (maxSteps := 4000000) only [go_sem, ↓reduceIte, Nat.reduceEqDiff, Nat.reduceLT, Nat.reduceLeDiff, Nat.reduceAdd, Nat.reduceMul, Nat.reduceSub, reduceCtorEq, Int.reduceToNat, Int.reduceLT, Int.reduceLE, Int.reduceEq, Int.reduceNe, Int.reduceBEq, Nat.reduceBEq, Int.reduceBNe, Nat.reduceBNe, Int.reduceAdd, Int.reduceSub, Int.reduceMul, Int.reduceNeg]
    exact ⟨H, AH.le_add (AH.le_refl _) h_b.2, rfl⟩
  · refine (As_c hE hv hn h_b).mono ?_
    rintro _ _ ⟨rfl, rfl⟩
    simp (dsimp := false) (maxSteps := 4000000) only [go_sem, ↓reduceIte, Nat.reduceEqDiff, Nat.reduceLT, Nat.reduceLeDiff, Nat.reduceAdd, Nat.reduceMul, Nat.reduceSub, reduceCtorEq, Int.reduceToNat, Int.reduceLT, Int.reduceLE, Int.reduceEq, Int.reduceNe, Int.reduceBEq, Nat.reduceBEq, Int.reduceBNe, Nat.reduceBNe, Int.reduceAdd, Int.reduceSub, Int.reduceMul, Int.reduceNeg]
    exact ⟨H, AH.le_add (AH.le_refl _) h_b.2, rfl⟩
theorem Is_c {H : AH} {v : Value} {e x : Int} (hv : ErrV H v e) (hx : x ≠ 0) : ACalls Tryz.prog 96 #[v, .iface 28 (.int .i64 x)] H (fun u H' => u = .bool (e == x) ∧ H = H') := fun E w hs => by
  have fin : ∀ {u : Value}, u = .bool (e == x) → Calls Tryz.prog 96 #[v, .iface 28 (.int .i64 x)] w (fun ev w' => ev = .returned u ∧ w' = w) → Calls Tryz.prog 96 #[v, .iface 28 (.int .i64 x)] w (fun ev w' => ∃ u H', ev = .returned u ∧ Sat E H' w' ∧ u = .bool (e == x) ∧ H = H') :=
    fun hu h => h.mono fun ev w' ⟨h1, h2⟩ => ⟨_, H, h1, h2 ▸ hs, hu, rfl⟩
  rcases hv with ⟨rfl, rfl⟩ | rfl | ⟨b1, o1, rfl, hr⟩
  · exact fin (by simp [Ne.symm hx]) (is_nil x w)
  · exact fin rfl (is_errno e x w)
  · exact fin rfl (is_fault b1 o1 e x w (hs.rd hr))
end Go.Proofs.YtamlipffhimfmaaGreatDoor.Err

/- ifs: a store in memory; New, Denied, Get, own. -/
namespace Go.Proofs.YtamlipffhimfmaaGreatDoor.Ifs
set_option linter.unusedSimpArgs false
set_option linter.unusedVariables false
open Go Go.AX Go.Proofs Ty Go.Proofs.YtamlipffhimfmaaGreatDoor.File Go.Proofs.YtamlipffhimfmaaGreatDoor.Err
set_option maxHeartbeats 4000000
set_option maxRecDepth 10000

theorem lput_enc {a b c d : Value} (r : Rc) : lput [a, b, c, d] 0 (enc r) = enc r := Eq.trans rfl rfl
theorem take_enc (r : Rc) : (enc r).take 4 = enc r := Eq.trans rfl rfl
structure MF where
  n : Int
  p : Int
  blk : Nat
  bs : Nat
  R : List Rc
def MF.nf (m : MF) : Nf := (m.n, m.p, m.R)
def MF.val (m : MF) : Value := fv m.p (some ⟨m.blk, 0, none⟩) m.R.length m.R.length
def MF.ent (m : MF) : Value × Value := (.int .i64 m.n, m.val)
structure StIn (H : AH) (b bm : Nat) (ms : List MF) (den : Int) : Prop where
  top : H.find b = some (.cells [.map (some bm), .int .i64 den] 133 2)
  map : H.find bm = some (.amap (ms.map MF.ent))
  rows : ∀ m ∈ ms, H.find m.blk = some (.cells (m.R.map enc).flatten 26 m.bs) ∧ m.R.length * 4 ≤ m.bs
  nd : (ms.map (·.blk)).Nodup
  kd : Kd (ms.map MF.nf)
def ftOf (b bm : Nat) (ms : List MF) (x : Nat) : Prop := x = b ∨ x = bm ∨ ∃ m ∈ ms, x = m.blk
def StAt (H : AH) (b : Nat) (X : List Nf) (den : Int) (ft : Nat → Prop) : Prop := ∃ bm ms, StIn H b bm ms den ∧ ms.map MF.nf = X ∧ ∀ x, ft x ↔ ftOf b bm ms x
theorem StIn.keep {H H' : AH} {b bm : Nat} {ms : List MF} {den : Int} {ex : Nat → Prop} (h : StIn H b bm ms den) (hK : Keep H H' ex) (hx : ∀ x, ftOf b bm ms x → ¬ ex x) : StIn H' b bm ms den :=
  ⟨hK.find (hx _ (.inl rfl)) h.top, hK.find (hx _ (.inr (.inl rfl))) h.map, fun m hm => ⟨hK.find (hx _ (.inr (.inr ⟨m, hm, rfl⟩))) (h.rows m hm).1, (h.rows m hm).2⟩, h.nd, h.kd⟩
theorem StAt.keep {H H' : AH} {b : Nat} {X : List Nf} {den : Int} {ft ex : Nat → Prop} (h : StAt H b X den ft) (hK : Keep H H' ex) (hx : ∀ x, ft x → ¬ ex x) : StAt H' b X den ft := by
  obtain ⟨bm, ms, h1, h2, h3⟩ := h
  exact ⟨bm, ms, h1.keep hK fun x hf => hx x ((h3 x).2 hf), h2, h3⟩
theorem StAt.find {H : AH} {b : Nat} {X : List Nf} {den : Int} {ft : Nat → Prop} (h : StAt H b X den ft) : ∃ bm, H.find b = some (.cells [.map (some bm), .int .i64 den] 133 2) := by
  obtain ⟨bm, ms, h1, _⟩ := h
  exact ⟨bm, h1.top⟩
theorem StIn.known {H : AH} {b bm : Nat} {ms : List MF} {den : Int} (h : StIn H b bm ms den) {x : Nat} (hx : ftOf b bm ms x) : (H.find x).isSome := by
  rcases hx with rfl | rfl | ⟨m, hm, rfl⟩
  · rw [h.top]; rfl
  · rw [h.map]; rfl
  · rw [(h.rows m hm).1]; rfl
theorem StAt.known {H : AH} {b : Nat} {X : List Nf} {den : Int} {ft : Nat → Prop} (h : StAt H b X den ft) {x : Nat} (hx : ft x) : (H.find x).isSome := by
  obtain ⟨bm, ms, h1, _, h3⟩ := h
  exact h1.known ((h3 x).1 hx)
theorem StAt.fresh {H : AH} {b : Nat} {X : List Nf} {den : Int} {ft : Nat → Prop} (h : StAt H b X den ft) {x : Nat} (hf : Fresh H x) : ¬ ft x := fun hx => by
  have := h.known hx; rw [hf.2] at this; cases this
theorem StAt.self {H : AH} {b : Nat} {X : List Nf} {den : Int} {ft : Nat → Prop} (h : StAt H b X den ft) : ft b := by
  obtain ⟨bm, ms, _, _, h3⟩ := h
  exact (h3 b).2 (.inl rfl)
theorem StIn.ne1 {H : AH} {b bm : Nat} {ms : List MF} {den : Int} (h : StIn H b bm ms den) : b ≠ bm := fun e => by
  have := h.top; rw [e, h.map] at this; cases this
theorem StIn.ne2 {H : AH} {b bm : Nat} {ms : List MF} {den : Int} (h : StIn H b bm ms den) {m : MF} (hm : m ∈ ms) : m.blk ≠ b := fun e => by
  have := (h.rows m hm).1; rw [e, h.top] at this; simp only [Option.some.injEq, ABlk.cells.injEq] at this; exact absurd this.2.1 (by decide)
theorem StIn.ne3 {H : AH} {b bm : Nat} {ms : List MF} {den : Int} (h : StIn H b bm ms den) {m : MF} (hm : m ∈ ms) : m.blk ≠ bm := fun e => by
  have := (h.rows m hm).1; rw [e, h.map] at this; cases this
theorem StIn.slc {H : AH} {b bm : Nat} {ms : List MF} {den : Int} (h : StIn H b bm ms den) {m : MF} (hm : m ∈ ms) (hl : m.R.length < 9223372036854775808) : SlcIn H 4 (some ⟨m.blk, 0, none⟩) m.R.length (m.R.map enc) :=
  SlcIn.of_find (h.rows m hm).1 (rows4 m.R) (by simp) (by simpa using hl)

/-! ### Looking a number up -/
def fnd (n : Int) : List MF → Nat → Option (Nat × Value)
  | [], _ => none
  | m :: l, i => if m.n = n then some (i, m.val) else fnd n l (i + 1)
theorem mlk_ms (n : Int) : ∀ (ms : List MF) (i : Nat), mlk (.int .i64) (.int .i64 n) (ms.map MF.ent) i = some (fnd n ms i)
  | [], _ => rfl
  | m :: l, i => by
    have ih := mlk_ms n l (i + 1)
    rw [fnd]
    by_cases h : m.n = n
    · simp [mlk, MF.ent, Instr.sameNow, h]
    · have hb : (n == m.n) = false := by simpa using fun e => h e.symm
      have hb2 : (m.n == n) = false := by simpa using h
      simp only [List.map_cons, mlk, MF.ent, Instr.sameNow, hb, hb2, if_neg h]
      exact ih
theorem fnd_none {n : Int} : ∀ {ms : List MF} {i : Nat}, fnd n ms i = none ↔ lk n (ms.map MF.nf) = none
  | [], _ => by simp [fnd, lk]
  | m :: l, i => by
    rw [fnd, List.map_cons, lk]
    show _ ↔ (if m.n = n then _ else _) = none
    by_cases h : m.n = n
    · simp [h]
    · simp only [if_neg h]; exact fnd_none
theorem fnd_some {n : Int} : ∀ {ms : List MF} {i j : Nat} {v : Value}, fnd n ms i = some (j, v) → ∃ k m, j = i + k ∧ ms[k]? = some m ∧ m.n = n ∧ v = m.val ∧ lk n (ms.map MF.nf) = some (m.p, m.R)
  | m :: l, i, j, v, h => by
    rw [fnd] at h
    by_cases e : m.n = n
    · rw [if_pos e] at h; cases h
      exact ⟨0, m, rfl, rfl, e, rfl, by rw [List.map_cons, lk]; exact if_pos e⟩
    · rw [if_neg e] at h
      obtain ⟨k, m', h1, h2, h3, h4, h5⟩ := fnd_some h
      refine ⟨k + 1, m', by omega, h2, h3, h4, ?_⟩
      rw [List.map_cons, lk]
      exact (if_neg e).trans h5
/-- The two ways of a look-up. -/
theorem StIn.at_ {H : AH} {b bm : Nat} {ms : List MF} {den : Int} (_h : StIn H b bm ms den) (n : Int) :
    (mlk (.int .i64) (.int .i64 n) (ms.map MF.ent) 0 = some none ∧ lk n (ms.map MF.nf) = none) ∨
    ∃ k m, mlk (.int .i64) (.int .i64 n) (ms.map MF.ent) 0 = some (some (k, m.val)) ∧ ms[k]? = some m ∧ m.n = n ∧ lk n (ms.map MF.nf) = some (m.p, m.R) := by
  have hm := mlk_ms n ms 0
  cases hf : fnd n ms 0 with
  | none => rw [hf] at hm; exact .inl ⟨hm, fnd_none.1 hf⟩
  | some x =>
    obtain ⟨j, v⟩ := x
    obtain ⟨k, m, h1, h2, h3, rfl, h5⟩ := fnd_some hf
    rw [hf, h1, Nat.zero_add] at hm
    exact .inr ⟨k, m, hm, h2, h3, h5⟩

/-! ### The simple ones -/
theorem New_c (H : AH) : ACalls Tryz.prog 40 #[] H (fun v H' => ∃ b ft, v = .pointer (some ⟨b, 0, none⟩) ∧ StAt H' b [] 0 ft ∧ Keep H H' (fun _ => False) ∧ ∀ x, ft x → Fresh H x) := by
  refine ACalls.enter2 Tryz.func40 rfl Tryz.ntmps40 Tryz.results40 (by simp) ?_; simp (dsimp := false) (maxSteps := 4000000) only [go_sem, ↓reduceIte, Nat.reduceEqDiff, Nat.reduceLT, Nat.reduceLeDiff, Nat.reduceAdd, Nat.reduceMul, Nat.reduceSub, reduceCtorEq, Int.reduceToNat, Int.reduceLT, Int.reduceLE, Int.reduceEq, Int.reduceNe, Int.reduceBEq, Nat.reduceBEq, Int.reduceBNe, Nat.reduceBNe, Int.reduceAdd, Int.reduceSub, Int.reduceMul, Int.reduceNeg]
  refine AllB.mk fun bm h_bm => ?_
  simp (dsimp := false) (maxSteps := 4000000) only [go_sem, ↓reduceIte, Nat.reduceEqDiff, Nat.reduceLT, Nat.reduceLeDiff, Nat.reduceAdd, Nat.reduceMul, Nat.reduceSub, reduceCtorEq, Int.reduceToNat, Int.reduceLT, Int.reduceLE, Int.reduceEq, Int.reduceNe, Int.reduceBEq, Nat.reduceBEq, Int.reduceBNe, Nat.reduceBNe, Int.reduceAdd, Int.reduceSub, Int.reduceMul, Int.reduceNeg]
  refine AllB.mk fun b h_b => ?_
  simp (dsimp := false) (maxSteps := 4000000) only [go_sem, ↓reduceIte, Nat.reduceEqDiff, Nat.reduceLT, Nat.reduceLeDiff, Nat.reduceAdd, Nat.reduceMul, Nat.reduceSub, reduceCtorEq, Int.reduceToNat, Int.reduceLT, Int.reduceLE, Int.reduceEq, Int.reduceNe, Int.reduceBEq, Nat.reduceBEq, Int.reduceBNe, Nat.reduceBNe, Int.reduceAdd, Int.reduceSub, Int.reduceMul, Int.reduceNeg]
  have hne : b ≠ bm := h_b.ne_find (find_add_self _ _ _)
  refine ⟨_, AH.le_refl _, b, ftOf b bm [], rfl, ⟨bm, [], ⟨?_, ?_, by simp, by simp, by simp [Kd]⟩, rfl, fun _ => Iff.rfl⟩, (Keep.refl.nw h_bm).nw h_b, ?_⟩
  · rw [find_add_self]
  · rw [find_add_ne _ hne, find_add_self]; rfl
  · rintro x (rfl | rfl | ⟨_, h, _⟩)
    · exact (Keep.refl.nw h_bm).fr h_b
    · exact h_bm
    · cases h
theorem Denied_c {H : AH} {b : Nat} {X : List Nf} {den : Int} {ft : Nat → Prop} (h : StAt H b X den ft) : ACalls Tryz.prog 19 #[.pointer (some ⟨b, 0, none⟩)] H (fun v H' => v = .int .i64 den ∧ H = H') := by
  obtain ⟨bm, ht⟩ := h.find
  have r1 : H.rd ⟨b, 1, none⟩ = some (.int .i64 den) := by rw [rd_find ht]; rfl
  refine ACalls.enter2 Tryz.func19 rfl Tryz.ntmps19 Tryz.results19 (by simp) ?_; simp (dsimp := false) (maxSteps := 4000000) only [go_sem, ↓reduceIte, Nat.reduceEqDiff, Nat.reduceLT, Nat.reduceLeDiff, Nat.reduceAdd, Nat.reduceMul, Nat.reduceSub, reduceCtorEq, Int.reduceToNat, Int.reduceLT, Int.reduceLE, Int.reduceEq, Int.reduceNe, Int.reduceBEq, Nat.reduceBEq, Int.reduceBNe, Nat.reduceBNe, Int.reduceAdd, Int.reduceSub, Int.reduceMul, Int.reduceNeg]
  simp (dsimp := false) (maxSteps := 4000000) only [r1, go_sem, ↓reduceIte, Nat.reduceEqDiff, Nat.reduceLT, Nat.reduceLeDiff, Nat.reduceAdd, Nat.reduceMul, Nat.reduceSub, reduceCtorEq, Int.reduceToNat, Int.reduceLT, Int.reduceLE, Int.reduceEq, Int.reduceNe, Int.reduceBEq, Nat.reduceBEq, Int.reduceBNe, Nat.reduceBNe, Int.reduceAdd, Int.reduceSub, Int.reduceMul, Int.reduceNeg]
  exact ⟨H, AH.le_refl _, rfl⟩
def getV (o : Option Rc) : Value := match o with | none => .tuple #[.agg (enc zr).toArray, .bool false] | some r => .tuple #[.agg (enc r).toArray, .bool true]
theorem getW_eq {X : List Nf} {n rec : Int} {f : Fl} (h : lk n X = some f) : getW X n rec = if rec < 0 then none else f.2[rec.toNat]? := by rw [getW, h]; rfl
theorem Get_c {H : AH} {b : Nat} {X : List Nf} {den : Int} {ft : Nat → Prop} (h : StAt H b X den ft) (hX : OkX X) (n rec : Int) :
    ACalls Tryz.prog 25 #[.pointer (some ⟨b, 0, none⟩), .int .i64 n, .int .i64 rec] H (fun v H' => v = getV (getW X n rec) ∧ H = H') := by
  obtain ⟨bm, ms, h1, rfl, _⟩ := h
  have r0 : H.rd ⟨b, 0, none⟩ = some (.map (some bm)) := by rw [rd_find h1.top]; rfl
  have hmp : H.mp bm = some (ms.map MF.ent) := by rw [AH.mp, h1.map]
  refine ACalls.enter2 Tryz.func25 rfl Tryz.ntmps25 Tryz.results25 (by simp) ?_; simp (dsimp := false) (maxSteps := 4000000) only [go_sem, ↓reduceIte, Nat.reduceEqDiff, Nat.reduceLT, Nat.reduceLeDiff, Nat.reduceAdd, Nat.reduceMul, Nat.reduceSub, reduceCtorEq, Int.reduceToNat, Int.reduceLT, Int.reduceLE, Int.reduceEq, Int.reduceNe, Int.reduceBEq, Nat.reduceBEq, Int.reduceBNe, Nat.reduceBNe, Int.reduceAdd, Int.reduceSub, Int.reduceMul, Int.reduceNeg]
  refine AllB.mk fun b1 h_b1 => ?_; have hn_b1 := h_b1; (try simp only [fresh_add, fresh_set, ne_eq] at hn_b1); have hr_b1 := hn_b1; (try simp only [@eq_comm Nat b1] at hr_b1); simp (dsimp := false) (maxSteps := 4000000) only [hn_b1, hr_b1, go_sem, ↓reduceIte, Nat.reduceEqDiff, Nat.reduceLT, Nat.reduceLeDiff, Nat.reduceAdd, Nat.reduceMul, Nat.reduceSub, reduceCtorEq, Int.reduceToNat, Int.reduceLT, Int.reduceLE, Int.reduceEq, Int.reduceNe, Int.reduceBEq, Nat.reduceBEq, Int.reduceBNe, Nat.reduceBNe, Int.reduceAdd, Int.reduceSub, Int.reduceMul, Int.reduceNeg]
  have n1 : ¬ b1 = b := h_b1.ne_find h1.top
  have n2 : ¬ b1 = bm := h_b1.ne_find h1.map
  rcases h1.at_ n with ⟨hm, hl⟩ | ⟨k, m, hm, hk, hn, hl⟩
  · have hg : getW (ms.map MF.nf) n rec = none := by rw [getW, hl]; rfl
    rw [hg]
    
    simp (dsimp := false) (maxSteps := 4000000) only [r0, n1, n2, hmp, hm, hn_b1, hr_b1, go_sem, ↓reduceIte, Nat.reduceEqDiff, Nat.reduceLT, Nat.reduceLeDiff, Nat.reduceAdd, Nat.reduceMul, Nat.reduceSub, reduceCtorEq, Int.reduceToNat, Int.reduceLT, Int.reduceLE, Int.reduceEq, Int.reduceNe, Int.reduceBEq, Nat.reduceBEq, Int.reduceBNe, Nat.reduceBNe, Int.reduceAdd, Int.reduceSub, Int.reduceMul, Int.reduceNeg]
    refine AllB.mk fun b2 h_b2 => ?_; have hn_b2 := h_b2; (try simp only [fresh_add, fresh_set, ne_eq] at hn_b2); have hr_b2 := hn_b2; (try simp only [@eq_comm Nat b2] at hr_b2); simp (dsimp := false) (maxSteps := 4000000) only [hn_b1, hr_b1, hn_b2, hr_b2, go_sem, ↓reduceIte, Nat.reduceEqDiff, Nat.reduceLT, Nat.reduceLeDiff, Nat.reduceAdd, Nat.reduceMul, Nat.reduceSub, reduceCtorEq, Int.reduceToNat, Int.reduceLT, Int.reduceLE, Int.reduceEq, Int.reduceNe, Int.reduceBEq, Nat.reduceBEq, Int.reduceBNe, Nat.reduceBNe, Int.reduceAdd, Int.reduceSub, Int.reduceMul, Int.reduceNeg]
    by_cases hr : rec < 0
    · simp (dsimp := false) (maxSteps := 4000000) only [hr, hn_b1, hr_b1, hn_b2, hr_b2, go_sem, ↓reduceIte, Nat.reduceEqDiff, Nat.reduceLT, Nat.reduceLeDiff, Nat.reduceAdd, Nat.reduceMul, Nat.reduceSub, reduceCtorEq, Int.reduceToNat, Int.reduceLT, Int.reduceLE, Int.reduceEq, Int.reduceNe, Int.reduceBEq, Nat.reduceBEq, Int.reduceBNe, Nat.reduceBNe, Int.reduceAdd, Int.reduceSub, Int.reduceMul, Int.reduceNeg]
      exact ⟨H, (AH.le_add (AH.le_add (AH.le_refl _) ((by simp only [fresh_add, fresh_set, ne_eq, hn_b1, not_false_eq_true, and_self] : Fresh _ b1).2)) ((by simp only [fresh_add, fresh_set, ne_eq, hn_b2, not_false_eq_true, and_self] : Fresh _ b2).2)), (by first | exact ⟨rfl, rfl⟩ | rfl)⟩
    · have hr2 : (0 : Int) ≤ rec := by omega
      simp (dsimp := false) (maxSteps := 4000000) only [hr, hr2, hn_b1, hr_b1, hn_b2, hr_b2, go_sem, ↓reduceIte, Nat.reduceEqDiff, Nat.reduceLT, Nat.reduceLeDiff, Nat.reduceAdd, Nat.reduceMul, Nat.reduceSub, reduceCtorEq, Int.reduceToNat, Int.reduceLT, Int.reduceLE, Int.reduceEq, Int.reduceNe, Int.reduceBEq, Nat.reduceBEq, Int.reduceBNe, Nat.reduceBNe, Int.reduceAdd, Int.reduceSub, Int.reduceMul, Int.reduceNeg]
      exact ⟨H, (AH.le_add (AH.le_add (AH.le_refl _) ((by simp only [fresh_add, fresh_set, ne_eq, hn_b1, not_false_eq_true, and_self] : Fresh _ b1).2)) ((by simp only [fresh_add, fresh_set, ne_eq, hn_b2, not_false_eq_true, and_self] : Fresh _ b2).2)), (by first | exact ⟨rfl, rfl⟩ | rfl)⟩
    
  · rw [getW_eq hl]
    obtain ⟨_, hgd, _⟩ := hX.lk hl
    obtain ⟨hl1, hl2⟩ := goodF_len hgd
    dsimp only at hl1 hl2
    have hmem := List.mem_of_getElem? hk
    have n3 : ¬ b1 = m.blk := h_b1.ne_find (h1.rows m hmem).1
    have hs := h1.slc hmem (by omega)
    unfold MF.val fv at hm
    
    simp (dsimp := false) (maxSteps := 4000000) only [r0, n1, n2, hmp, hm, hn_b1, hr_b1, go_sem, ↓reduceIte, Nat.reduceEqDiff, Nat.reduceLT, Nat.reduceLeDiff, Nat.reduceAdd, Nat.reduceMul, Nat.reduceSub, reduceCtorEq, Int.reduceToNat, Int.reduceLT, Int.reduceLE, Int.reduceEq, Int.reduceNe, Int.reduceBEq, Nat.reduceBEq, Int.reduceBNe, Nat.reduceBNe, Int.reduceAdd, Int.reduceSub, Int.reduceMul, Int.reduceNeg]
    refine AllB.mk fun b2 h_b2 => ?_; have hn_b2 := h_b2; (try simp only [fresh_add, fresh_set, ne_eq] at hn_b2); have hr_b2 := hn_b2; (try simp only [@eq_comm Nat b2] at hr_b2); simp (dsimp := false) (maxSteps := 4000000) only [hn_b1, hr_b1, hn_b2, hr_b2, go_sem, ↓reduceIte, Nat.reduceEqDiff, Nat.reduceLT, Nat.reduceLeDiff, Nat.reduceAdd, Nat.reduceMul, Nat.reduceSub, reduceCtorEq, Int.reduceToNat, Int.reduceLT, Int.reduceLE, Int.reduceEq, Int.reduceNe, Int.reduceBEq, Nat.reduceBEq, Int.reduceBNe, Nat.reduceBNe, Int.reduceAdd, Int.reduceSub, Int.reduceMul, Int.reduceNeg]
    have n4 : ¬ b2 = m.blk := hn_b2.2.ne_find (h1.rows m hmem).1
    by_cases hr : rec < 0
    · simp (dsimp := false) (maxSteps := 4000000) only [hr, hn_b1, hr_b1, hn_b2, hr_b2, go_sem, ↓reduceIte, Nat.reduceEqDiff, Nat.reduceLT, Nat.reduceLeDiff, Nat.reduceAdd, Nat.reduceMul, Nat.reduceSub, reduceCtorEq, Int.reduceToNat, Int.reduceLT, Int.reduceLE, Int.reduceEq, Int.reduceNe, Int.reduceBEq, Nat.reduceBEq, Int.reduceBNe, Nat.reduceBNe, Int.reduceAdd, Int.reduceSub, Int.reduceMul, Int.reduceNeg]
      exact ⟨H, (AH.le_add (AH.le_add (AH.le_refl _) ((by simp only [fresh_add, fresh_set, ne_eq, hn_b1, not_false_eq_true, and_self] : Fresh _ b1).2)) ((by simp only [fresh_add, fresh_set, ne_eq, hn_b2, not_false_eq_true, and_self] : Fresh _ b2).2)), (by first | exact ⟨rfl, rfl⟩ | rfl)⟩
    by_cases hr2 : (m.R.length : Int) ≤ rec
    · have e : m.R[rec.toNat]? = none := List.getElem?_eq_none (by omega)
      simp (dsimp := false) (maxSteps := 4000000) only [hr, hr2, hn_b1, hr_b1, hn_b2, hr_b2, go_sem, ↓reduceIte, Nat.reduceEqDiff, Nat.reduceLT, Nat.reduceLeDiff, Nat.reduceAdd, Nat.reduceMul, Nat.reduceSub, reduceCtorEq, Int.reduceToNat, Int.reduceLT, Int.reduceLE, Int.reduceEq, Int.reduceNe, Int.reduceBEq, Nat.reduceBEq, Int.reduceBNe, Nat.reduceBNe, Int.reduceAdd, Int.reduceSub, Int.reduceMul, Int.reduceNeg]
      rw [e]
      exact ⟨H, (AH.le_add (AH.le_add (AH.le_refl _) ((by simp only [fresh_add, fresh_set, ne_eq, hn_b1, not_false_eq_true, and_self] : Fresh _ b1).2)) ((by simp only [fresh_add, fresh_set, ne_eq, hn_b2, not_false_eq_true, and_self] : Fresh _ b2).2)), (by first | exact ⟨rfl, rfl⟩ | rfl)⟩
    obtain ⟨i, rfl⟩ : ∃ i : Nat, rec = i := ⟨rec.toNat, by omega⟩
    obtain ⟨r, hri⟩ := get_some (l := m.R) (i := i) (by omega)
    obtain ⟨b_, o, he, hrow, _⟩ := hs.get (Go.AX.map_get (f := enc) hri)
    cases he
    rw [Nat.zero_add] at hrow
    have hlt : (i : Int) < (m.R.length : Int) := by omega
    have h0 : (0 : Int) ≤ (i : Int) := by omega
    simp (dsimp := false) (maxSteps := 4000000) only [hr, hr2, hrow, hlt, h0, n3, n4, enc_len, enc_scal, lput_enc, take_enc, hn_b1, hr_b1, hn_b2, hr_b2, go_sem, ↓reduceIte, Nat.reduceEqDiff, Nat.reduceLT, Nat.reduceLeDiff, Nat.reduceAdd, Nat.reduceMul, Nat.reduceSub, reduceCtorEq, Int.reduceToNat, Int.reduceLT, Int.reduceLE, Int.reduceEq, Int.reduceNe, Int.reduceBEq, Nat.reduceBEq, Int.reduceBNe, Nat.reduceBNe, Int.reduceAdd, Int.reduceSub, Int.reduceMul, Int.reduceNeg]
    rw [hri]
    exact ⟨H, (AH.le_add (AH.le_add (AH.le_refl _) ((by simp only [fresh_add, fresh_set, ne_eq, hn_b1, not_false_eq_true, and_self] : Fresh _ b1).2)) ((by simp only [fresh_add, fresh_set, ne_eq, hn_b2, not_false_eq_true, and_self] : Fresh _ b2).2)), (by first | exact ⟨rfl, rfl⟩ | rfl)⟩
    
end Go.Proofs.YtamlipffhimfmaaGreatDoor.Ifs
