/- req: Read of both sides. -/
import Derived.Test.YtgikjbfpckjkoaaReq5
namespace Go.Proofs.Ytgikjbfpckjkoaa.Req
set_option linter.unusedSimpArgs false
set_option linter.unusedVariables false
open Go Go.AX Go.Proofs Ty Go.Proofs.Ytgikjbfpckjkoaa.CatB
set_option maxHeartbeats 4000000
set_option maxRecDepth 10000

structure Y where
  (i e a b c d : Int)
  deriving DecidableEq
def Y.v (x : Y) : Value := rv x.i x.e x.a x.b x.c x.d
def Y0 : Y := ⟨0, 0, 0, 0, 0, 0⟩
def candY : List Int → Y
  | [_, _, i0, i1, e, a, b, c, d] => ⟨256 * i0 + i1, e, a, b, c, d⟩
  | _ => Y0
def Y.ok (x : Y) : Bool := mayR x.i x.e x.a x.b x.c x.d
def Y.put (x : Y) : List Int := ansL x.i x.e x.a x.b x.c x.d
def okY (B : List Int) : Bool := decide (B.length = 9) && ((candY B).ok && decide ((candY B).put = B))
def ReadX (B : List Int) : Y := if okY B = true then candY B else Y0
def ReadE (B : List Int) : Int := if okY B = true then 0 else 2
theorem okY_9 (x0 x1 i0 i1 e a b c d : Int) : okY [x0, x1, i0, i1, e, a, b, c, d] = (mayR (256 * i0 + i1) e a b c d && decide (ansL (256 * i0 + i1) e a b c d = [x0, x1, i0, i1, e, a, b, c, d])) := by
  have h : ([x0, x1, i0, i1, e, a, b, c, d] : List Int).length = 9 := rfl
  rw [okY, decide_eq_true h, Bool.true_and]; rfl
theorem Bts_ans {i e a b c d : Int} (h : mayR i e a b c d = true) (ha : 0 ≤ a ∧ a < 256) (hb : 0 ≤ b ∧ b < 256) (hc : 0 ≤ c ∧ c < 256) (hd : 0 ≤ d ∧ d < 256) : Bts (ansL i e a b c d) := by
  obtain ⟨g1, g2, g3⟩ := (of_decide_eq_true h : MayR i e a b c d)
  intro x hx
  simp only [ansL, List.mem_cons, List.not_mem_nil, or_false] at hx
  omega
theorem Read_9 (x0 x1 i0 i1 e a b c d : Int) (base : Option Addr) (cap : Nat) (H : AH) (hs : SlcIn H 1 base cap ([x0, x1, i0, i1, e, a, b, c, d].map encB)) (hB : Bts [x0, x1, i0, i1, e, a, b, c, d]) :
    ACalls Try.prog 35 #[.slice base 9 cap] H (fun v H' => v = .tuple #[(ReadX [x0, x1, i0, i1, e, a, b, c, d]).v, .int .i64 (ReadE [x0, x1, i0, i1, e, a, b, c, d])] ∧ H = H') := by
  have hle := hs.le
  obtain ⟨bb, o, rfl⟩ := hs.at_ 0 (by simp)
  simp only [List.length_map, List.length_cons, List.length_nil] at hle
  have r2 := byte_rd hs (j := 2) rfl
  have r3 := byte_rd hs (j := 3) rfl
  have r4 := byte_rd hs (j := 4) rfl
  have r5 : H.row bb (o + 5) 4 = some [.int .u8 a, .int .u8 b, .int .u8 c, .int .u8 d] := byte_row hs 5 4 (by decide) (by simp)
  have t_i0 := hB i0 (by simp)
  have t_i1 := hB i1 (by simp)
  have t_e := hB e (by simp)
  have w_i0 : IntKind.i64.wrap i0 = i0 := i64_eq (by omega) (by omega)
  have w_i1 : IntKind.i64.wrap i1 = i1 := i64_eq (by omega) (by omega)
  have w_e : IntKind.i64.wrap e = e := i64_eq (by omega) (by omega)
  have ho := or8 t_i0 t_i1
  have hc5 : ¬ cap = 5 := by omega
  refine ACalls.enter2 Try.func35 rfl Try.ntmps35 Try.results35 (by simp) ?_; simp (dsimp := false) (maxSteps := 4000000) only [hc5, w_i0, w_i1, w_e, ho, go_sem, ↓reduceIte, Nat.reduceEqDiff, Nat.reduceLT, Nat.reduceLeDiff, Nat.reduceAdd, Nat.reduceMul, Nat.reduceSub, reduceCtorEq, Int.reduceToNat, Int.reduceLT, Int.reduceLE, Int.reduceEq, Int.reduceNe, Int.reduceBEq, Nat.reduceBEq, Int.reduceBNe, Nat.reduceBNe, Int.reduceAdd, Int.reduceSub, Int.reduceMul, Int.reduceNeg]
  refine AllB.mk fun b2 h_b2 => ?_; have hn_b2 := h_b2; (try simp only [fresh_add, fresh_set, ne_eq] at hn_b2); have hr_b2 := hn_b2; (try simp only [@eq_comm Nat b2] at hr_b2); simp (dsimp := false) (maxSteps := 4000000) only [hc5, w_i0, w_i1, w_e, ho, hn_b2, hr_b2, go_sem, ↓reduceIte, Nat.reduceEqDiff, Nat.reduceLT, Nat.reduceLeDiff, Nat.reduceAdd, Nat.reduceMul, Nat.reduceSub, reduceCtorEq, Int.reduceToNat, Int.reduceLT, Int.reduceLE, Int.reduceEq, Int.reduceNe, Int.reduceBEq, Nat.reduceBEq, Int.reduceBNe, Nat.reduceBNe, Int.reduceAdd, Int.reduceSub, Int.reduceMul, Int.reduceNeg]
  have nr_r2 := (Fresh.ne_rd (by simp only [hn_b2] : Fresh H b2) r2)
  refine AWp.gen [.pu, .pu, .rd, .pu, .pu, .pu, .pu, .rd, .pu, .pu, .pu, .pu, .rd, .pu, .pu, .pu, .ch, .rd, .pu, .al, .ch] [0, 1, 3, 7, 15, 0, 32, 96, 224, 511, 0, 1024, 3072, 7168, 0, 16384, 49152, 114688, 262143, 0, 1048575] 17 (_) mixed (by kernel_rfl) (AH.le_refl _) ?_
  simp (dsimp := false) (maxSteps := 4000000) only [r2, r3, r4, nr_r2, AH.le_refl, rdop_arrayAt Try.underlying41 (show 4 ≤ 4 by decide), r5, hc5, w_i0, w_i1, w_e, ho, hn_b2, hr_b2, go_sem, ↓reduceIte, Nat.reduceEqDiff, Nat.reduceLT, Nat.reduceLeDiff, Nat.reduceAdd, Nat.reduceMul, Nat.reduceSub, reduceCtorEq, Int.reduceToNat, Int.reduceLT, Int.reduceLE, Int.reduceEq, Int.reduceNe, Int.reduceBEq, Nat.reduceBEq, Int.reduceBNe, Nat.reduceBNe, Int.reduceAdd, Int.reduceSub, Int.reduceMul, Int.reduceNeg]
  refine AllB.mk fun b4 h_b4 => ?_; have hn_b4 := h_b4; (try simp only [fresh_add, fresh_set, ne_eq] at hn_b4); have hr_b4 := hn_b4; (try simp only [@eq_comm Nat b4] at hr_b4); simp (dsimp := false) (maxSteps := 4000000) only [hc5, w_i0, w_i1, w_e, ho, hn_b2, hr_b2, hn_b4, hr_b4, go_sem, ↓reduceIte, Nat.reduceEqDiff, Nat.reduceLT, Nat.reduceLeDiff, Nat.reduceAdd, Nat.reduceMul, Nat.reduceSub, reduceCtorEq, Int.reduceToNat, Int.reduceLT, Int.reduceLE, Int.reduceEq, Int.reduceNe, Int.reduceBEq, Nat.reduceBEq, Int.reduceBNe, Nat.reduceBNe, Int.reduceAdd, Int.reduceSub, Int.reduceMul, Int.reduceNeg]
  refine (reply_c (256 * i0 + i1) e a b c d _).mono ?_; rintro _ _ ⟨rfl, rfl⟩
  cases g : mayR (256 * i0 + i1) e a b c d with
  | false =>
    have hf : okY [x0, x1, i0, i1, e, a, b, c, d] = false := by rw [okY_9, g]; rfl
    simp (dsimp := false) (maxSteps := 4000000) only [hc5, w_i0, w_i1, w_e, ho, hn_b2, hr_b2, hn_b4, hr_b4, go_sem, ↓reduceIte, Nat.reduceEqDiff, Nat.reduceLT, Nat.reduceLeDiff, Nat.reduceAdd, Nat.reduceMul, Nat.reduceSub, reduceCtorEq, Int.reduceToNat, Int.reduceLT, Int.reduceLE, Int.reduceEq, Int.reduceNe, Int.reduceBEq, Nat.reduceBEq, Int.reduceBNe, Nat.reduceBNe, Int.reduceAdd, Int.reduceSub, Int.reduceMul, Int.reduceNeg]
    exact ⟨H, (AH.le_add (AH.le_add (AH.le_refl _) ((by simp only [fresh_add, fresh_set, ne_eq, hn_b2, not_false_eq_true, and_self] : Fresh _ b2).2)) ((by simp only [fresh_add, fresh_set, ne_eq, hn_b4, not_false_eq_true, and_self] : Fresh _ b4).2)), (by first | exact ⟨by rw [ReadX, ReadE, hf]; rfl, rfl⟩ | rfl)⟩
  | true =>
    simp (dsimp := false) (maxSteps := 4000000) only [hc5, w_i0, w_i1, w_e, ho, hn_b2, hr_b2, hn_b4, hr_b4, go_sem, ↓reduceIte, Nat.reduceEqDiff, Nat.reduceLT, Nat.reduceLeDiff, Nat.reduceAdd, Nat.reduceMul, Nat.reduceSub, reduceCtorEq, Int.reduceToNat, Int.reduceLT, Int.reduceLE, Int.reduceEq, Int.reduceNe, Int.reduceBEq, Nat.reduceBEq, Int.reduceBNe, Nat.reduceBNe, Int.reduceAdd, Int.reduceSub, Int.reduceMul, Int.reduceNeg]
    refine (answer_c (256 * i0 + i1) e a b c d _ (of_decide_eq_true g)).mono ?_; rintro _ A ⟨b', c', rfl, hO, hK⟩
    have hf2 : A.find b2 = some (.cells [.int .i64 0, .int .i64 0, .int .u8 0, .int .u8 0, .int .u8 0, .int .u8 0] 56 6) := hK.find (fun h => h) (by (show AH.find _ _ = _; simp only [find_add_self, find_add_ne, find_fresh, fresh_add, ne_eq, not_false_eq_true, true_and, and_true, and_self, hc5, w_i0, w_i1, w_e, ho, hn_b2, hr_b2, hn_b4, hr_b4]))
    have hf4 : A.find b4 = some (.cells [.int .i64 (256 * i0 + i1), .int .i64 e, .int .u8 a, .int .u8 b, .int .u8 c, .int .u8 d] 56 6) := hK.find (fun h => h) (by (show AH.find _ _ = _; simp only [find_add_self, find_add_ne, find_fresh, fresh_add, ne_eq, not_false_eq_true, true_and, and_true, and_self, hc5, w_i0, w_i1, w_e, ho, hn_b2, hr_b2, hn_b4, hr_b4]))
    have hHA : H.le A := AH.le_trans (AH.le_add (AH.le_add (AH.le_refl _) ((by simp only [fresh_add, fresh_set, ne_eq, hn_b2, not_false_eq_true, and_self] : Fresh _ b2).2)) ((by simp only [fresh_add, fresh_set, ne_eq, hn_b4, not_false_eq_true, and_self] : Fresh _ b4).2)) hK.all
    have hsA : SlcIn A 1 (some ⟨bb, o, none⟩) cap ([x0, x1, i0, i1, e, a, b, c, d].map encB) := (((hs.add (by simp only [fresh_add, ne_eq, hn_b2, not_false_eq_true, and_self] : Fresh _ b2)).add (by simp only [fresh_add, ne_eq, hn_b4, not_false_eq_true, and_self] : Fresh _ b4))).keep hK fun _ _ h => h
    simp (dsimp := false) (maxSteps := 4000000) only [hc5, w_i0, w_i1, w_e, ho, hn_b2, hr_b2, hn_b4, hr_b4, go_sem, ↓reduceIte, Nat.reduceEqDiff, Nat.reduceLT, Nat.reduceLeDiff, Nat.reduceAdd, Nat.reduceMul, Nat.reduceSub, reduceCtorEq, Int.reduceToNat, Int.reduceLT, Int.reduceLE, Int.reduceEq, Int.reduceNe, Int.reduceBEq, Nat.reduceBEq, Int.reduceBNe, Nat.reduceBNe, Int.reduceAdd, Int.reduceSub, Int.reduceMul, Int.reduceNeg]
    refine (Equal_c (n := 9) (m := 9) hO.slc rfl hsA rfl (Bts_ans g (hB a (by simp)) (hB b (by simp)) (hB c (by simp)) (hB d (by simp))) hB).monoW ?_; rintro _ _ ⟨rfl, rfl⟩
    refine ⟨_, top2 hf2 hf4, ?_⟩
    by_cases he : ansL (256 * i0 + i1) e a b c d = [x0, x1, i0, i1, e, a, b, c, d]
    · have hf : okY [x0, x1, i0, i1, e, a, b, c, d] = true := by rw [okY_9, g, decide_eq_true he]; rfl
      simp (dsimp := false) (maxSteps := 4000000) only [decide_eq_true he, hc5, w_i0, w_i1, w_e, ho, hn_b2, hr_b2, hn_b4, hr_b4, go_sem, ↓reduceIte, Nat.reduceEqDiff, Nat.reduceLT, Nat.reduceLeDiff, Nat.reduceAdd, Nat.reduceMul, Nat.reduceSub, reduceCtorEq, Int.reduceToNat, Int.reduceLT, Int.reduceLE, Int.reduceEq, Int.reduceNe, Int.reduceBEq, Nat.reduceBEq, Int.reduceBNe, Nat.reduceBNe, Int.reduceAdd, Int.reduceSub, Int.reduceMul, Int.reduceNeg]
      exact ⟨H, le_top2 hHA h_b2 hn_b4.2 hn_b4.1, by rw [ReadX, ReadE, hf]; rfl, rfl⟩
    · have hf : okY [x0, x1, i0, i1, e, a, b, c, d] = false := by rw [okY_9, g, decide_eq_false he]; rfl
      simp (dsimp := false) (maxSteps := 4000000) only [decide_eq_false he, hc5, w_i0, w_i1, w_e, ho, hn_b2, hr_b2, hn_b4, hr_b4, go_sem, ↓reduceIte, Nat.reduceEqDiff, Nat.reduceLT, Nat.reduceLeDiff, Nat.reduceAdd, Nat.reduceMul, Nat.reduceSub, reduceCtorEq, Int.reduceToNat, Int.reduceLT, Int.reduceLE, Int.reduceEq, Int.reduceNe, Int.reduceBEq, Nat.reduceBEq, Int.reduceBNe, Nat.reduceBNe, Int.reduceAdd, Int.reduceSub, Int.reduceMul, Int.reduceNeg]
      exact ⟨H, le_top2 hHA h_b2 hn_b4.2 hn_b4.1, by rw [ReadX, ReadE, hf]; rfl, rfl⟩
theorem RefRead_9 (x0 x1 i0 i1 e a b c d : Int) (base : Option Addr) (cap : Nat) (H : AH) (hs : SlcIn H 1 base cap ([x0, x1, i0, i1, e, a, b, c, d].map encB)) (hB : Bts [x0, x1, i0, i1, e, a, b, c, d]) :
    ACalls Try.prog 36 #[.slice base 9 cap] H (fun v H' => v = .tuple #[(ReadX [x0, x1, i0, i1, e, a, b, c, d]).v, .int .i64 (ReadE [x0, x1, i0, i1, e, a, b, c, d])] ∧ H = H') := by
  obtain ⟨bb, o, rfl⟩ := hs.at_ 0 (by simp)
  have r2 := byte_rd hs (j := 2) rfl
  have r3 := byte_rd hs (j := 3) rfl
  have r4 := byte_rd hs (j := 4) rfl
  have r5 := byte_rd hs (j := 5) rfl
  have r6 := byte_rd hs (j := 6) rfl
  have r7 := byte_rd hs (j := 7) rfl
  have r8 := byte_rd hs (j := 8) rfl
  have t_i0 := hB i0 (by simp)
  have t_i1 := hB i1 (by simp)
  have t_e := hB e (by simp)
  have w_i0 : IntKind.i64.wrap i0 = i0 := i64_eq (by omega) (by omega)
  have w_i1 : IntKind.i64.wrap i1 = i1 := i64_eq (by omega) (by omega)
  have w_e : IntKind.i64.wrap e = e := i64_eq (by omega) (by omega)
  have ho : IntKind.i64.wrap (IntKind.i64.wrap (i0 * 256) + i1) = 256 * i0 + i1 := by rw [i64_eq (c := i0 * 256) (by omega) (by omega), i64_eq (by omega) (by omega)]; omega
  refine ACalls.enter2 Try.func36 rfl Try.ntmps36 Try.results36 (by simp) ?_; simp (dsimp := false) (maxSteps := 4000000) only [w_i0, w_i1, w_e, ho, go_sem, ↓reduceIte, Nat.reduceEqDiff, Nat.reduceLT, Nat.reduceLeDiff, Nat.reduceAdd, Nat.reduceMul, Nat.reduceSub, reduceCtorEq, Int.reduceToNat, Int.reduceLT, Int.reduceLE, Int.reduceEq, Int.reduceNe, Int.reduceBEq, Nat.reduceBEq, Int.reduceBNe, Nat.reduceBNe, Int.reduceAdd, Int.reduceSub, Int.reduceMul, Int.reduceNeg]
  refine AllB.mk fun b2 h_b2 => ?_; have hn_b2 := h_b2; (try simp only [fresh_add, fresh_set, ne_eq] at hn_b2); have hr_b2 := hn_b2; (try simp only [@eq_comm Nat b2] at hr_b2); simp (dsimp := false) (maxSteps := 4000000) only [w_i0, w_i1, w_e, ho, hn_b2, hr_b2, go_sem, ↓reduceIte, Nat.reduceEqDiff, Nat.reduceLT, Nat.reduceLeDiff, Nat.reduceAdd, Nat.reduceMul, Nat.reduceSub, reduceCtorEq, Int.reduceToNat, Int.reduceLT, Int.reduceLE, Int.reduceEq, Int.reduceNe, Int.reduceBEq, Nat.reduceBEq, Int.reduceBNe, Nat.reduceBNe, Int.reduceAdd, Int.reduceSub, Int.reduceMul, Int.reduceNeg]
  have nr_r2 := (Fresh.ne_rd (by simp only [hn_b2] : Fresh H b2) r2)
  refine AWp.gen [.pu, .pu, .rd, .pu, .pu, .pu, .pu, .rd, .pu, .pu, .pu, .pu, .rd, .pu, .pu, .pu, .rd, .pu, .pu, .rd, .pu, .pu, .rd, .pu, .pu, .rd, .pu, .pu, .al, .ch] [0, 1, 3, 7, 15, 0, 32, 96, 224, 511, 0, 1024, 3072, 7168, 0, 16384, 49152, 0, 131072, 393216, 0, 1048576, 3145728, 0, 8388608, 25165824, 67092480, 134217727, 0, 536870911] 0 (_) mixed (by kernel_rfl) (AH.le_refl _) ?_
  simp (dsimp := false) (maxSteps := 4000000) only [r2, r3, r4, r5, r6, r7, r8, nr_r2, AH.le_refl, w_i0, w_i1, w_e, ho, hn_b2, hr_b2, go_sem, ↓reduceIte, Nat.reduceEqDiff, Nat.reduceLT, Nat.reduceLeDiff, Nat.reduceAdd, Nat.reduceMul, Nat.reduceSub, reduceCtorEq, Int.reduceToNat, Int.reduceLT, Int.reduceLE, Int.reduceEq, Int.reduceNe, Int.reduceBEq, Nat.reduceBEq, Int.reduceBNe, Nat.reduceBNe, Int.reduceAdd, Int.reduceSub, Int.reduceMul, Int.reduceNeg]
  refine AllB.mk fun b4 h_b4 => ?_; have hn_b4 := h_b4; (try simp only [fresh_add, fresh_set, ne_eq] at hn_b4); have hr_b4 := hn_b4; (try simp only [@eq_comm Nat b4] at hr_b4); simp (dsimp := false) (maxSteps := 4000000) only [w_i0, w_i1, w_e, ho, hn_b2, hr_b2, hn_b4, hr_b4, go_sem, ↓reduceIte, Nat.reduceEqDiff, Nat.reduceLT, Nat.reduceLeDiff, Nat.reduceAdd, Nat.reduceMul, Nat.reduceSub, reduceCtorEq, Int.reduceToNat, Int.reduceLT, Int.reduceLE, Int.reduceEq, Int.reduceNe, Int.reduceBEq, Nat.reduceBEq, Int.reduceBNe, Nat.reduceBNe, Int.reduceAdd, Int.reduceSub, Int.reduceMul, Int.reduceNeg]
  refine (RefAnswer_c (256 * i0 + i1) e a b c d _).monoW ?_; rintro _ A ⟨b', c', rfl, hO, hK⟩
  have hf2 : A.find b2 = some (.cells [.int .i64 0, .int .i64 0, .int .u8 0, .int .u8 0, .int .u8 0, .int .u8 0] 56 6) := hK.find (fun h => h) (by (show AH.find _ _ = _; simp only [find_add_self, find_add_ne, find_fresh, fresh_add, ne_eq, not_false_eq_true, true_and, and_true, and_self, w_i0, w_i1, w_e, ho, hn_b2, hr_b2, hn_b4, hr_b4]))
  have hf4 : A.find b4 = some (.cells [.int .i64 (256 * i0 + i1), .int .i64 e, .int .u8 a, .int .u8 b, .int .u8 c, .int .u8 d] 56 6) := hK.find (fun h => h) (by (show AH.find _ _ = _; simp only [find_add_self, find_add_ne, find_fresh, fresh_add, ne_eq, not_false_eq_true, true_and, and_true, and_self, w_i0, w_i1, w_e, ho, hn_b2, hr_b2, hn_b4, hr_b4]))
  have hHA : H.le A := AH.le_trans (AH.le_add (AH.le_add (AH.le_refl _) ((by simp only [fresh_add, fresh_set, ne_eq, hn_b2, not_false_eq_true, and_self] : Fresh _ b2).2)) ((by simp only [fresh_add, fresh_set, ne_eq, hn_b4, not_false_eq_true, and_self] : Fresh _ b4).2)) hK.all
  have hsA : SlcIn A 1 (some ⟨bb, o, none⟩) cap ([x0, x1, i0, i1, e, a, b, c, d].map encB) := (((hs.add (by simp only [fresh_add, ne_eq, hn_b2, not_false_eq_true, and_self] : Fresh _ b2)).add (by simp only [fresh_add, ne_eq, hn_b4, not_false_eq_true, and_self] : Fresh _ b4))).keep hK fun _ _ h => h
  have hkt := Keep.top2 hf2 hf4 hn_b4.1
  have hsT := hsA.keep hkt fun _ _ h => h
  have hOT := hO.slc.keep hkt fun _ _ h => h
  refine ⟨_, top2 hf2 hf4, ?_⟩
  cases g : mayR (256 * i0 + i1) e a b c d with
  | false =>
    have hf : okY [x0, x1, i0, i1, e, a, b, c, d] = false := by rw [okY_9, g]; rfl
    have hE : AnsE (256 * i0 + i1) e a b c d = 1 := by simp [AnsE, g]
    simp (dsimp := false) (maxSteps := 4000000) only [hE, w_i0, w_i1, w_e, ho, hn_b2, hr_b2, hn_b4, hr_b4, go_sem, ↓reduceIte, Nat.reduceEqDiff, Nat.reduceLT, Nat.reduceLeDiff, Nat.reduceAdd, Nat.reduceMul, Nat.reduceSub, reduceCtorEq, Int.reduceToNat, Int.reduceLT, Int.reduceLE, Int.reduceEq, Int.reduceNe, Int.reduceBEq, Nat.reduceBEq, Int.reduceBNe, Nat.reduceBNe, Int.reduceAdd, Int.reduceSub, Int.reduceMul, Int.reduceNeg]
    exact ⟨H, le_top2 hHA h_b2 hn_b4.2 hn_b4.1, by rw [ReadX, ReadE, hf]; rfl, rfl⟩
  | true =>
    have hE : AnsE (256 * i0 + i1) e a b c d = 0 := by simp [AnsE, g]
    have hL : AnsL (256 * i0 + i1) e a b c d = ansL (256 * i0 + i1) e a b c d := by simp [AnsL, g]
    rw [hL] at hOT
    by_cases he : ansL (256 * i0 + i1) e a b c d = [x0, x1, i0, i1, e, a, b, c, d]
    · have hf : okY [x0, x1, i0, i1, e, a, b, c, d] = true := by rw [okY_9, g, decide_eq_true he]; rfl
      have hn : (!((bstr (ansL (256 * i0 + i1) e a b c d)).toList == (bstr [x0, x1, i0, i1, e, a, b, c, d]).toList)) = false := by rw [he]; simp
      simp (dsimp := false) (maxSteps := 4000000) only [hE, hL, cnv_bytes Try.underlying44 Try.underlying5 Try.underlying9 hOT rfl, cnv_bytes (n := 9) Try.underlying44 Try.underlying5 Try.underlying9 hsT rfl, hn, w_i0, w_i1, w_e, ho, hn_b2, hr_b2, hn_b4, hr_b4, go_sem, ↓reduceIte, Nat.reduceEqDiff, Nat.reduceLT, Nat.reduceLeDiff, Nat.reduceAdd, Nat.reduceMul, Nat.reduceSub, reduceCtorEq, Int.reduceToNat, Int.reduceLT, Int.reduceLE, Int.reduceEq, Int.reduceNe, Int.reduceBEq, Nat.reduceBEq, Int.reduceBNe, Nat.reduceBNe, Int.reduceAdd, Int.reduceSub, Int.reduceMul, Int.reduceNeg]
      exact ⟨H, le_top2 hHA h_b2 hn_b4.2 hn_b4.1, by rw [ReadX, ReadE, hf]; rfl, rfl⟩
    · have hf : okY [x0, x1, i0, i1, e, a, b, c, d] = false := by rw [okY_9, g, decide_eq_false he]; rfl
      have hn : (!((bstr (ansL (256 * i0 + i1) e a b c d)).toList == (bstr [x0, x1, i0, i1, e, a, b, c, d]).toList)) = true := by
        rw [beq_bstr (Bts_ans g (hB a (by simp)) (hB b (by simp)) (hB c (by simp)) (hB d (by simp))) hB, decide_eq_false he]; rfl
      simp (dsimp := false) (maxSteps := 4000000) only [hE, hL, cnv_bytes Try.underlying44 Try.underlying5 Try.underlying9 hOT rfl, cnv_bytes (n := 9) Try.underlying44 Try.underlying5 Try.underlying9 hsT rfl, hn, w_i0, w_i1, w_e, ho, hn_b2, hr_b2, hn_b4, hr_b4, go_sem, ↓reduceIte, Nat.reduceEqDiff, Nat.reduceLT, Nat.reduceLeDiff, Nat.reduceAdd, Nat.reduceMul, Nat.reduceSub, reduceCtorEq, Int.reduceToNat, Int.reduceLT, Int.reduceLE, Int.reduceEq, Int.reduceNe, Int.reduceBEq, Nat.reduceBEq, Int.reduceBNe, Nat.reduceBNe, Int.reduceAdd, Int.reduceSub, Int.reduceMul, Int.reduceNeg]
      exact ⟨H, le_top2 hHA h_b2 hn_b4.2 hn_b4.1, by rw [ReadX, ReadE, hf]; rfl, rfl⟩
theorem Read_c (B : List Int) (base : Option Addr) (cap : Nat) (H : AH) (hs : SlcIn H 1 base cap (B.map encB)) (hB : Bts B) :
    ACalls Try.prog 35 #[.slice base B.length cap] H (fun v H' => v = .tuple #[(ReadX B).v, .int .i64 (ReadE B)] ∧ H = H') := by
  by_cases h9 : B.length = 9
  · obtain ⟨x0, x1, i0, i1, e, a, b, c, d, rfl⟩ := list9' h9
    exact Read_9 x0 x1 i0 i1 e a b c d base cap H hs hB
  have h9' : ¬ (B.length : Int) = 9 := by omega
  have hf : okY B = false := by rw [okY, decide_eq_false h9]; rfl
  refine ACalls.enter2 Try.func35 rfl Try.ntmps35 Try.results35 (by simp) ?_; simp (dsimp := false) (maxSteps := 4000000) only [go_sem, ↓reduceIte, Nat.reduceEqDiff, Nat.reduceLT, Nat.reduceLeDiff, Nat.reduceAdd, Nat.reduceMul, Nat.reduceSub, reduceCtorEq, Int.reduceToNat, Int.reduceLT, Int.reduceLE, Int.reduceEq, Int.reduceNe, Int.reduceBEq, Nat.reduceBEq, Int.reduceBNe, Nat.reduceBNe, Int.reduceAdd, Int.reduceSub, Int.reduceMul, Int.reduceNeg]
  refine AllB.mk fun b2 h_b2 => ?_; have hn_b2 := h_b2; (try simp only [fresh_add, fresh_set, ne_eq] at hn_b2); have hr_b2 := hn_b2; (try simp only [@eq_comm Nat b2] at hr_b2); simp (dsimp := false) (maxSteps := 4000000) only [hn_b2, hr_b2, go_sem, ↓reduceIte, Nat.reduceEqDiff, Nat.reduceLT, Nat.reduceLeDiff, Nat.reduceAdd, Nat.reduceMul, Nat.reduceSub, reduceCtorEq, Int.reduceToNat, Int.reduceLT, Int.reduceLE, Int.reduceEq, Int.reduceNe, Int.reduceBEq, Nat.reduceBEq, Int.reduceBNe, Nat.reduceBNe, Int.reduceAdd, Int.reduceSub, Int.reduceMul, Int.reduceNeg]
  simp (dsimp := false) (maxSteps := 4000000) only [h9', hn_b2, hr_b2, go_sem, ↓reduceIte, Nat.reduceEqDiff, Nat.reduceLT, Nat.reduceLeDiff, Nat.reduceAdd, Nat.reduceMul, Nat.reduceSub, reduceCtorEq, Int.reduceToNat, Int.reduceLT, Int.reduceLE, Int.reduceEq, Int.reduceNe, Int.reduceBEq, Nat.reduceBEq, Int.reduceBNe, Nat.reduceBNe, Int.reduceAdd, Int.reduceSub, Int.reduceMul, Int.reduceNeg]
  exact ⟨H, (AH.le_add (AH.le_refl _) ((by simp only [fresh_add, fresh_set, ne_eq, hn_b2, not_false_eq_true, and_self] : Fresh _ b2).2)), (by first | exact ⟨by rw [ReadX, ReadE, hf]; rfl, rfl⟩ | rfl)⟩
theorem RefRead_c (B : List Int) (base : Option Addr) (cap : Nat) (H : AH) (hs : SlcIn H 1 base cap (B.map encB)) (hB : Bts B) :
    ACalls Try.prog 36 #[.slice base B.length cap] H (fun v H' => v = .tuple #[(ReadX B).v, .int .i64 (ReadE B)] ∧ H = H') := by
  by_cases h9 : B.length = 9
  · obtain ⟨x0, x1, i0, i1, e, a, b, c, d, rfl⟩ := list9' h9
    exact RefRead_9 x0 x1 i0 i1 e a b c d base cap H hs hB
  have h9' : ¬ (B.length : Int) = 9 := by omega
  have hf : okY B = false := by rw [okY, decide_eq_false h9]; rfl
  refine ACalls.enter2 Try.func36 rfl Try.ntmps36 Try.results36 (by simp) ?_; simp (dsimp := false) (maxSteps := 4000000) only [go_sem, ↓reduceIte, Nat.reduceEqDiff, Nat.reduceLT, Nat.reduceLeDiff, Nat.reduceAdd, Nat.reduceMul, Nat.reduceSub, reduceCtorEq, Int.reduceToNat, Int.reduceLT, Int.reduceLE, Int.reduceEq, Int.reduceNe, Int.reduceBEq, Nat.reduceBEq, Int.reduceBNe, Nat.reduceBNe, Int.reduceAdd, Int.reduceSub, Int.reduceMul, Int.reduceNeg]
  refine AllB.mk fun b2 h_b2 => ?_; have hn_b2 := h_b2; (try simp only [fresh_add, fresh_set, ne_eq] at hn_b2); have hr_b2 := hn_b2; (try simp only [@eq_comm Nat b2] at hr_b2); simp (dsimp := false) (maxSteps := 4000000) only [hn_b2, hr_b2, go_sem, ↓reduceIte, Nat.reduceEqDiff, Nat.reduceLT, Nat.reduceLeDiff, Nat.reduceAdd, Nat.reduceMul, Nat.reduceSub, reduceCtorEq, Int.reduceToNat, Int.reduceLT, Int.reduceLE, Int.reduceEq, Int.reduceNe, Int.reduceBEq, Nat.reduceBEq, Int.reduceBNe, Nat.reduceBNe, Int.reduceAdd, Int.reduceSub, Int.reduceMul, Int.reduceNeg]
  simp (dsimp := false) (maxSteps := 4000000) only [h9', hn_b2, hr_b2, go_sem, ↓reduceIte, Nat.reduceEqDiff, Nat.reduceLT, Nat.reduceLeDiff, Nat.reduceAdd, Nat.reduceMul, Nat.reduceSub, reduceCtorEq, Int.reduceToNat, Int.reduceLT, Int.reduceLE, Int.reduceEq, Int.reduceNe, Int.reduceBEq, Nat.reduceBEq, Int.reduceBNe, Nat.reduceBNe, Int.reduceAdd, Int.reduceSub, Int.reduceMul, Int.reduceNeg]
  exact ⟨H, (AH.le_add (AH.le_refl _) ((by simp only [fresh_add, fresh_set, ne_eq, hn_b2, not_false_eq_true, and_self] : Fresh _ b2).2)), (by first | exact ⟨by rw [ReadX, ReadE, hf]; rfl, rfl⟩ | rfl)⟩
end Go.Proofs.Ytgikjbfpckjkoaa.Req
