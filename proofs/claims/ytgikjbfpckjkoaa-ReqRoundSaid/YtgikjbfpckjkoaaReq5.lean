/- req: the reference's Take; Read of both sides. -/
import Derived.Test.YtgikjbfpckjkoaaReq4
namespace Go.Proofs.Ytgikjbfpckjkoaa.Req
set_option linter.unusedSimpArgs false
set_option linter.unusedVariables false
open Go Go.AX Go.Proofs Ty Go.Proofs.Ytgikjbfpckjkoaa.CatB
set_option maxHeartbeats 4000000
set_option maxRecDepth 10000

theorem putL_len (i k n f r a b c d y : Int) : (putL i k n f r a b c d y).length = if k = 2 then 13 else 9 := by
  unfold putL; split <;> rfl
theorem okT_len {B : List Int} (h : okT B = true) : B.length = 9 ∨ B.length = 13 := by
  simp only [okT, Bool.and_eq_true, decide_eq_true_eq] at h
  have := congrArg List.length h.2.2
  unfold Q.put at this
  rw [putL_len] at this
  split at this <;> omega
theorem okT_13 (x0 x1 i0 i1 k n f r y v0 v1 v2 v3 : Int) : okT [x0, x1, i0, i1, k, n, f, r, y, v0, v1, v2, v3] = (goodQ (256 * i0 + i1) k n f r v0 v1 v2 v3 y && decide (putL (256 * i0 + i1) k n f r v0 v1 v2 v3 y = [x0, x1, i0, i1, k, n, f, r, y, v0, v1, v2, v3])) := by
  rw [okT_9]
  by_cases k2 : k = 2
  · subst k2; rfl
  · have h : ∀ a b c d, decide (putL (256 * i0 + i1) k n f r a b c d y = [x0, x1, i0, i1, k, n, f, r, y, v0, v1, v2, v3]) = false := fun a b c d => decide_eq_false fun h => by
      have := congrArg List.length h
      rw [putL_len, if_neg k2] at this
      simp at this
    rw [h, h, Bool.and_false, Bool.and_false]
theorem cand_13 {x0 x1 i0 i1 k n f r y v0 v1 v2 v3 : Int} (h : okT [x0, x1, i0, i1, k, n, f, r, y, v0, v1, v2, v3] = true) : cand [x0, x1, i0, i1, k, n, f, r, y, v0, v1, v2, v3] = ⟨256 * i0 + i1, k, n, f, r, v0, v1, v2, v3, y⟩ := by
  have k2 : k = 2 := by
    rw [okT_13, Bool.and_eq_true, decide_eq_true_eq] at h
    have := congrArg List.length h.2
    rw [putL_len] at this
    split at this
    · assumption
    · simp at this
  subst k2; rfl
theorem okT_09 (x0 x1 i0 i1 k n f r y : Int) : okT [x0, x1, i0, i1, k, n, f, r, y] = (goodQ (256 * i0 + i1) k n f r 0 0 0 0 y && decide (putL (256 * i0 + i1) k n f r 0 0 0 0 y = [x0, x1, i0, i1, k, n, f, r, y])) := by
  rw [okT_9]
  have : ∀ j, tkA k [] j = 0 := fun j => by unfold tkA; split <;> rfl
  simp only [this]
theorem cand_09 (x0 x1 i0 i1 k n f r y : Int) : cand [x0, x1, i0, i1, k, n, f, r, y] = ⟨256 * i0 + i1, k, n, f, r, 0, 0, 0, 0, y⟩ := by
  have : ∀ j, tkA k [] j = 0 := fun j => by unfold tkA; split <;> rfl
  simp only [cand, this]
theorem RefTake_09 (x0 x1 i0 i1 k n f r y : Int) (base : Option Addr) (cap : Nat) (H : AH) (hs : SlcIn H 1 base cap ([x0, x1, i0, i1, k, n, f, r, y].map encB)) (hB : Bts [x0, x1, i0, i1, k, n, f, r, y]) :
    ACalls Try.prog 29 #[.slice base 9 cap] H (fun v H' => v = .tuple #[(TakeX [x0, x1, i0, i1, k, n, f, r, y]).v, .int .i64 (TakeE [x0, x1, i0, i1, k, n, f, r, y])] ∧ H = H') := by
  obtain ⟨b, o, rfl⟩ := hs.at_ 0 (by simp)
  have r2 := byte_rd hs (j := 2) rfl
  have r3 := byte_rd hs (j := 3) rfl
  have r4 := byte_rd hs (j := 4) rfl
  have r5 := byte_rd hs (j := 5) rfl
  have r6 := byte_rd hs (j := 6) rfl
  have r7 := byte_rd hs (j := 7) rfl
  have r8 := byte_rd hs (j := 8) rfl
  have t_i0 := hB i0 (by simp)
  have w_i0 : IntKind.i64.wrap i0 = i0 := i64_eq (by omega) (by omega)
  have t_i1 := hB i1 (by simp)
  have w_i1 : IntKind.i64.wrap i1 = i1 := i64_eq (by omega) (by omega)
  have t_k := hB k (by simp)
  have w_k : IntKind.i64.wrap k = k := i64_eq (by omega) (by omega)
  have t_n := hB n (by simp)
  have w_n : IntKind.i64.wrap n = n := i64_eq (by omega) (by omega)
  have t_f := hB f (by simp)
  have w_f : IntKind.i64.wrap f = f := i64_eq (by omega) (by omega)
  have t_r := hB r (by simp)
  have w_r : IntKind.i64.wrap r = r := i64_eq (by omega) (by omega)
  have t_y := hB y (by simp)
  have w_y : IntKind.i64.wrap y = y := i64_eq (by omega) (by omega)
  have ho : IntKind.i64.wrap (IntKind.i64.wrap (i0 * 256) + i1) = 256 * i0 + i1 := by rw [i64_eq (c := i0 * 256) (by omega) (by omega), i64_eq (by omega) (by omega)]; omega
  refine ACalls.enter2 Try.func29 rfl Try.ntmps29 Try.results29 (by simp) ?_; simp (dsimp := false) (maxSteps := 4000000) only [w_i0, w_i1, w_k, w_n, w_f, w_r, w_y, ho, go_sem, ↓reduceIte, Nat.reduceEqDiff, Nat.reduceLT, Nat.reduceLeDiff, Nat.reduceAdd, Nat.reduceMul, Nat.reduceSub, reduceCtorEq, Int.reduceToNat, Int.reduceLT, Int.reduceLE, Int.reduceEq, Int.reduceNe, Int.reduceBEq, Nat.reduceBEq, Int.reduceBNe, Nat.reduceBNe, Int.reduceAdd, Int.reduceSub, Int.reduceMul, Int.reduceNeg]
  refine AllB.mk fun b2 h_b2 => ?_; have hn_b2 := h_b2; (try simp only [fresh_add, fresh_set, ne_eq] at hn_b2); have hr_b2 := hn_b2; (try simp only [@eq_comm Nat b2] at hr_b2); simp (dsimp := false) (maxSteps := 4000000) only [w_i0, w_i1, w_k, w_n, w_f, w_r, w_y, ho, hn_b2, hr_b2, go_sem, ↓reduceIte, Nat.reduceEqDiff, Nat.reduceLT, Nat.reduceLeDiff, Nat.reduceAdd, Nat.reduceMul, Nat.reduceSub, reduceCtorEq, Int.reduceToNat, Int.reduceLT, Int.reduceLE, Int.reduceEq, Int.reduceNe, Int.reduceBEq, Nat.reduceBEq, Int.reduceBNe, Nat.reduceBNe, Int.reduceAdd, Int.reduceSub, Int.reduceMul, Int.reduceNeg]
  have nr_r2 := (Fresh.ne_rd (by simp only [hn_b2] : Fresh H b2) r2)
  refine AWp.gen [.pu, .pu, .rd, .pu, .pu, .pu, .pu, .rd, .pu, .pu, .pu, .pu, .rd, .pu, .pu, .pu, .rd, .pu, .pu, .pu, .rd, .pu, .pu, .pu, .rd, .pu, .pu, .pu, .rd, .pu, .pu, .al, .ch] [0, 1, 3, 7, 15, 0, 32, 96, 224, 511, 0, 1024, 3072, 7168, 0, 16384, 49152, 114688, 0, 262144, 786432, 1835008, 0, 4194304, 12582912, 29360128, 0, 67108864, 201326592, 469762048, 1073741823, 0, 4294967295] 0 (_) mixed (by kernel_rfl) (AH.le_refl _) ?_
  simp (dsimp := false) (maxSteps := 4000000) only [r2, r3, r4, r5, r6, r7, r8, nr_r2, AH.le_refl, w_i0, w_i1, w_k, w_n, w_f, w_r, w_y, ho, hn_b2, hr_b2, go_sem, ↓reduceIte, Nat.reduceEqDiff, Nat.reduceLT, Nat.reduceLeDiff, Nat.reduceAdd, Nat.reduceMul, Nat.reduceSub, reduceCtorEq, Int.reduceToNat, Int.reduceLT, Int.reduceLE, Int.reduceEq, Int.reduceNe, Int.reduceBEq, Nat.reduceBEq, Int.reduceBNe, Nat.reduceBNe, Int.reduceAdd, Int.reduceSub, Int.reduceMul, Int.reduceNeg]
  refine AllB.mk fun b4 h_b4 => ?_; have hn_b4 := h_b4; (try simp only [fresh_add, fresh_set, ne_eq] at hn_b4); have hr_b4 := hn_b4; (try simp only [@eq_comm Nat b4] at hr_b4); simp (dsimp := false) (maxSteps := 4000000) only [w_i0, w_i1, w_k, w_n, w_f, w_r, w_y, ho, hn_b2, hr_b2, hn_b4, hr_b4, go_sem, ↓reduceIte, Nat.reduceEqDiff, Nat.reduceLT, Nat.reduceLeDiff, Nat.reduceAdd, Nat.reduceMul, Nat.reduceSub, reduceCtorEq, Int.reduceToNat, Int.reduceLT, Int.reduceLE, Int.reduceEq, Int.reduceNe, Int.reduceBEq, Nat.reduceBEq, Int.reduceBNe, Nat.reduceBNe, Int.reduceAdd, Int.reduceSub, Int.reduceMul, Int.reduceNeg]
  refine (RefPut_c (256 * i0 + i1) k n f r 0 0 0 0 y _).monoW ?_; rintro _ A ⟨b', c', rfl, hO, hK⟩
  have hf2 : A.find b2 = some (.cells [.int .i64 0, .int .i64 0, .int .i64 0, .int .i64 0, .int .i64 0, .int .u8 0, .int .u8 0, .int .u8 0, .int .u8 0, .int .i64 0] 43 10) := hK.find (fun h => h) (by (show AH.find _ _ = _; simp only [find_add_self, find_add_ne, find_fresh, fresh_add, ne_eq, not_false_eq_true, true_and, and_true, and_self, w_i0, w_i1, w_k, w_n, w_f, w_r, w_y, ho, hn_b2, hr_b2, hn_b4, hr_b4]))
  have hf4 : A.find b4 = some (.cells [.int .i64 (256 * i0 + i1), .int .i64 k, .int .i64 n, .int .i64 f, .int .i64 r, .int .u8 0, .int .u8 0, .int .u8 0, .int .u8 0, .int .i64 y] 43 10) := hK.find (fun h => h) (by (show AH.find _ _ = _; simp only [find_add_self, find_add_ne, find_fresh, fresh_add, ne_eq, not_false_eq_true, true_and, and_true, and_self, w_i0, w_i1, w_k, w_n, w_f, w_r, w_y, ho, hn_b2, hr_b2, hn_b4, hr_b4]))
  have hHA : H.le A := AH.le_trans (AH.le_add (AH.le_add (AH.le_refl _) ((by simp only [fresh_add, fresh_set, ne_eq, hn_b2, not_false_eq_true, and_self] : Fresh _ b2).2)) ((by simp only [fresh_add, fresh_set, ne_eq, hn_b4, not_false_eq_true, and_self] : Fresh _ b4).2)) hK.all
  have hsA : SlcIn A 1 (some ⟨b, o, none⟩) cap ([x0, x1, i0, i1, k, n, f, r, y].map encB) := (((hs.add (by simp only [fresh_add, ne_eq, hn_b2, not_false_eq_true, and_self] : Fresh _ b2)).add (by simp only [fresh_add, ne_eq, hn_b4, not_false_eq_true, and_self] : Fresh _ b4))).keep hK fun _ _ h => h
  have hkt := Keep.top2 hf2 hf4 hn_b4.1
  have hsT := hsA.keep hkt fun _ _ h => h
  have hOT := hO.slc.keep hkt fun _ _ h => h
  refine ⟨_, top2 hf2 hf4, ?_⟩
  cases g : goodQ (256 * i0 + i1) k n f r 0 0 0 0 y with
  | false =>
    have hf : okT [x0, x1, i0, i1, k, n, f, r, y] = false := by rw [okT_09, g]; rfl
    have hE : PutE (256 * i0 + i1) k n f r 0 0 0 0 y = 1 := by simp [PutE, g]
    simp (dsimp := false) (maxSteps := 4000000) only [hE, w_i0, w_i1, w_k, w_n, w_f, w_r, w_y, ho, hn_b2, hr_b2, hn_b4, hr_b4, go_sem, ↓reduceIte, Nat.reduceEqDiff, Nat.reduceLT, Nat.reduceLeDiff, Nat.reduceAdd, Nat.reduceMul, Nat.reduceSub, reduceCtorEq, Int.reduceToNat, Int.reduceLT, Int.reduceLE, Int.reduceEq, Int.reduceNe, Int.reduceBEq, Nat.reduceBEq, Int.reduceBNe, Nat.reduceBNe, Int.reduceAdd, Int.reduceSub, Int.reduceMul, Int.reduceNeg]
    exact ⟨H, le_top2 hHA h_b2 hn_b4.2 hn_b4.1, by rw [TakeX, TakeE, hf]; rfl, rfl⟩
  | true =>
    have hE : PutE (256 * i0 + i1) k n f r 0 0 0 0 y = 0 := by simp [PutE, g]
    have hL : PutL (256 * i0 + i1) k n f r 0 0 0 0 y = putL (256 * i0 + i1) k n f r 0 0 0 0 y := by simp [PutL, g]
    rw [hL] at hOT
    by_cases he : putL (256 * i0 + i1) k n f r 0 0 0 0 y = [x0, x1, i0, i1, k, n, f, r, y]
    · have hf : okT [x0, x1, i0, i1, k, n, f, r, y] = true := by rw [okT_09, g, decide_eq_true he]; rfl
      have hn : (!((bstr (putL (256 * i0 + i1) k n f r 0 0 0 0 y)).toList == (bstr [x0, x1, i0, i1, k, n, f, r, y]).toList)) = false := by rw [he]; simp
      simp (dsimp := false) (maxSteps := 4000000) only [hE, hL, cnv_bytes Try.underlying44 Try.underlying5 Try.underlying9 hOT rfl, cnv_bytes (n := 9) Try.underlying44 Try.underlying5 Try.underlying9 hsT rfl, hn, w_i0, w_i1, w_k, w_n, w_f, w_r, w_y, ho, hn_b2, hr_b2, hn_b4, hr_b4, go_sem, ↓reduceIte, Nat.reduceEqDiff, Nat.reduceLT, Nat.reduceLeDiff, Nat.reduceAdd, Nat.reduceMul, Nat.reduceSub, reduceCtorEq, Int.reduceToNat, Int.reduceLT, Int.reduceLE, Int.reduceEq, Int.reduceNe, Int.reduceBEq, Nat.reduceBEq, Int.reduceBNe, Nat.reduceBNe, Int.reduceAdd, Int.reduceSub, Int.reduceMul, Int.reduceNeg]
      exact ⟨H, le_top2 hHA h_b2 hn_b4.2 hn_b4.1, by rw [TakeX, TakeE, hf]; simp only [if_true, cand_09]; rfl, rfl⟩
    · have hf : okT [x0, x1, i0, i1, k, n, f, r, y] = false := by rw [okT_09, g, decide_eq_false he]; rfl
      have hn : (!((bstr (putL (256 * i0 + i1) k n f r 0 0 0 0 y)).toList == (bstr [x0, x1, i0, i1, k, n, f, r, y]).toList)) = true := by
        rw [beq_bstr (Bts_put g ⟨by decide, by decide⟩ ⟨by decide, by decide⟩ ⟨by decide, by decide⟩ ⟨by decide, by decide⟩) hB, decide_eq_false he]; rfl
      simp (dsimp := false) (maxSteps := 4000000) only [hE, hL, cnv_bytes Try.underlying44 Try.underlying5 Try.underlying9 hOT rfl, cnv_bytes (n := 9) Try.underlying44 Try.underlying5 Try.underlying9 hsT rfl, hn, w_i0, w_i1, w_k, w_n, w_f, w_r, w_y, ho, hn_b2, hr_b2, hn_b4, hr_b4, go_sem, ↓reduceIte, Nat.reduceEqDiff, Nat.reduceLT, Nat.reduceLeDiff, Nat.reduceAdd, Nat.reduceMul, Nat.reduceSub, reduceCtorEq, Int.reduceToNat, Int.reduceLT, Int.reduceLE, Int.reduceEq, Int.reduceNe, Int.reduceBEq, Nat.reduceBEq, Int.reduceBNe, Nat.reduceBNe, Int.reduceAdd, Int.reduceSub, Int.reduceMul, Int.reduceNeg]
      exact ⟨H, le_top2 hHA h_b2 hn_b4.2 hn_b4.1, by rw [TakeX, TakeE, hf]; rfl, rfl⟩
theorem RefTake_13 (x0 x1 i0 i1 k n f r y v0 v1 v2 v3 : Int) (base : Option Addr) (cap : Nat) (H : AH) (hs : SlcIn H 1 base cap ([x0, x1, i0, i1, k, n, f, r, y, v0, v1, v2, v3].map encB)) (hB : Bts [x0, x1, i0, i1, k, n, f, r, y, v0, v1, v2, v3]) :
    ACalls Try.prog 29 #[.slice base 13 cap] H (fun v H' => v = .tuple #[(TakeX [x0, x1, i0, i1, k, n, f, r, y, v0, v1, v2, v3]).v, .int .i64 (TakeE [x0, x1, i0, i1, k, n, f, r, y, v0, v1, v2, v3])] ∧ H = H') := by
  obtain ⟨b, o, rfl⟩ := hs.at_ 0 (by simp)
  have r2 := byte_rd hs (j := 2) rfl
  have r3 := byte_rd hs (j := 3) rfl
  have r4 := byte_rd hs (j := 4) rfl
  have r5 := byte_rd hs (j := 5) rfl
  have r6 := byte_rd hs (j := 6) rfl
  have r7 := byte_rd hs (j := 7) rfl
  have r8 := byte_rd hs (j := 8) rfl
  have r9 := byte_rd hs (j := 9) rfl
  have r10 := byte_rd hs (j := 10) rfl
  have r11 := byte_rd hs (j := 11) rfl
  have r12 := byte_rd hs (j := 12) rfl
  have t_i0 := hB i0 (by simp)
  have w_i0 : IntKind.i64.wrap i0 = i0 := i64_eq (by omega) (by omega)
  have t_i1 := hB i1 (by simp)
  have w_i1 : IntKind.i64.wrap i1 = i1 := i64_eq (by omega) (by omega)
  have t_k := hB k (by simp)
  have w_k : IntKind.i64.wrap k = k := i64_eq (by omega) (by omega)
  have t_n := hB n (by simp)
  have w_n : IntKind.i64.wrap n = n := i64_eq (by omega) (by omega)
  have t_f := hB f (by simp)
  have w_f : IntKind.i64.wrap f = f := i64_eq (by omega) (by omega)
  have t_r := hB r (by simp)
  have w_r : IntKind.i64.wrap r = r := i64_eq (by omega) (by omega)
  have t_y := hB y (by simp)
  have w_y : IntKind.i64.wrap y = y := i64_eq (by omega) (by omega)
  have ho : IntKind.i64.wrap (IntKind.i64.wrap (i0 * 256) + i1) = 256 * i0 + i1 := by rw [i64_eq (c := i0 * 256) (by omega) (by omega), i64_eq (by omega) (by omega)]; omega
  refine ACalls.enter2 Try.func29 rfl Try.ntmps29 Try.results29 (by simp) ?_; simp (dsimp := false) (maxSteps := 4000000) only [w_i0, w_i1, w_k, w_n, w_f, w_r, w_y, ho, go_sem, ↓reduceIte, Nat.reduceEqDiff, Nat.reduceLT, Nat.reduceLeDiff, Nat.reduceAdd, Nat.reduceMul, Nat.reduceSub, reduceCtorEq, Int.reduceToNat, Int.reduceLT, Int.reduceLE, Int.reduceEq, Int.reduceNe, Int.reduceBEq, Nat.reduceBEq, Int.reduceBNe, Nat.reduceBNe, Int.reduceAdd, Int.reduceSub, Int.reduceMul, Int.reduceNeg]
  refine AllB.mk fun b2 h_b2 => ?_; have hn_b2 := h_b2; (try simp only [fresh_add, fresh_set, ne_eq] at hn_b2); have hr_b2 := hn_b2; (try simp only [@eq_comm Nat b2] at hr_b2); simp (dsimp := false) (maxSteps := 4000000) only [w_i0, w_i1, w_k, w_n, w_f, w_r, w_y, ho, hn_b2, hr_b2, go_sem, ↓reduceIte, Nat.reduceEqDiff, Nat.reduceLT, Nat.reduceLeDiff, Nat.reduceAdd, Nat.reduceMul, Nat.reduceSub, reduceCtorEq, Int.reduceToNat, Int.reduceLT, Int.reduceLE, Int.reduceEq, Int.reduceNe, Int.reduceBEq, Nat.reduceBEq, Int.reduceBNe, Nat.reduceBNe, Int.reduceAdd, Int.reduceSub, Int.reduceMul, Int.reduceNeg]
  have nr_r2 := (Fresh.ne_rd (by simp only [hn_b2] : Fresh H b2) r2)
  refine AWp.gen [.pu, .pu, .rd, .pu, .pu, .pu, .pu, .rd, .pu, .pu, .pu, .pu, .rd, .pu, .pu, .pu, .rd, .pu, .pu, .pu, .rd, .pu, .pu, .pu, .rd, .pu, .pu, .pu, .rd, .pu, .pu, .al, .ch] [0, 1, 3, 7, 15, 0, 32, 96, 224, 511, 0, 1024, 3072, 7168, 0, 16384, 49152, 114688, 0, 262144, 786432, 1835008, 0, 4194304, 12582912, 29360128, 0, 67108864, 201326592, 469762048, 1073741823, 0, 4294967295] 0 (_) mixed (by kernel_rfl) (AH.le_refl _) ?_
  simp (dsimp := false) (maxSteps := 4000000) only [r2, r3, r4, r5, r6, r7, r8, nr_r2, AH.le_refl, w_i0, w_i1, w_k, w_n, w_f, w_r, w_y, ho, hn_b2, hr_b2, go_sem, ↓reduceIte, Nat.reduceEqDiff, Nat.reduceLT, Nat.reduceLeDiff, Nat.reduceAdd, Nat.reduceMul, Nat.reduceSub, reduceCtorEq, Int.reduceToNat, Int.reduceLT, Int.reduceLE, Int.reduceEq, Int.reduceNe, Int.reduceBEq, Nat.reduceBEq, Int.reduceBNe, Nat.reduceBNe, Int.reduceAdd, Int.reduceSub, Int.reduceMul, Int.reduceNeg]
  refine AllB.mk fun b4 h_b4 => ?_; have hn_b4 := h_b4; (try simp only [fresh_add, fresh_set, ne_eq] at hn_b4); have hr_b4 := hn_b4; (try simp only [@eq_comm Nat b4] at hr_b4); simp (dsimp := false) (maxSteps := 4000000) only [w_i0, w_i1, w_k, w_n, w_f, w_r, w_y, ho, hn_b2, hr_b2, hn_b4, hr_b4, go_sem, ↓reduceIte, Nat.reduceEqDiff, Nat.reduceLT, Nat.reduceLeDiff, Nat.reduceAdd, Nat.reduceMul, Nat.reduceSub, reduceCtorEq, Int.reduceToNat, Int.reduceLT, Int.reduceLE, Int.reduceEq, Int.reduceNe, Int.reduceBEq, Nat.reduceBEq, Int.reduceBNe, Nat.reduceBNe, Int.reduceAdd, Int.reduceSub, Int.reduceMul, Int.reduceNeg]
  have nr_r9 := (And.intro (Fresh.ne_rd (by simp only [hn_b2] : Fresh H b2) r9) (Fresh.ne_rd (by simp only [hn_b4] : Fresh H b4) r9))
  refine AWp.gen [.pu, .pu, .rd, .pu, .pu, .rd, .pu, .pu, .rd, .pu, .pu, .rd, .pu, .pu, .ch] [0, 1, 3, 0, 8, 24, 0, 64, 192, 0, 512, 1536, 4095, 8191, 16383] 0 (_) mixed (by kernel_rfl) (AH.le_refl _) ?_
  simp (dsimp := false) (maxSteps := 4000000) only [r9, r10, r11, r12, nr_r9, AH.le_refl, w_i0, w_i1, w_k, w_n, w_f, w_r, w_y, ho, hn_b2, hr_b2, hn_b4, hr_b4, go_sem, ↓reduceIte, Nat.reduceEqDiff, Nat.reduceLT, Nat.reduceLeDiff, Nat.reduceAdd, Nat.reduceMul, Nat.reduceSub, reduceCtorEq, Int.reduceToNat, Int.reduceLT, Int.reduceLE, Int.reduceEq, Int.reduceNe, Int.reduceBEq, Nat.reduceBEq, Int.reduceBNe, Nat.reduceBNe, Int.reduceAdd, Int.reduceSub, Int.reduceMul, Int.reduceNeg]
  refine (RefPut_c (256 * i0 + i1) k n f r v0 v1 v2 v3 y _).monoW ?_; rintro _ A ⟨b', c', rfl, hO, hK⟩
  have hf2 : A.find b2 = some (.cells [.int .i64 0, .int .i64 0, .int .i64 0, .int .i64 0, .int .i64 0, .int .u8 0, .int .u8 0, .int .u8 0, .int .u8 0, .int .i64 0] 43 10) := hK.find (fun h => h) (by (show AH.find _ _ = _; simp only [find_add_self, find_add_ne, find_fresh, fresh_add, ne_eq, not_false_eq_true, true_and, and_true, and_self, w_i0, w_i1, w_k, w_n, w_f, w_r, w_y, ho, hn_b2, hr_b2, hn_b4, hr_b4]))
  have hf4 : A.find b4 = some (.cells [.int .i64 (256 * i0 + i1), .int .i64 k, .int .i64 n, .int .i64 f, .int .i64 r, .int .u8 v0, .int .u8 v1, .int .u8 v2, .int .u8 v3, .int .i64 y] 43 10) := hK.find (fun h => h) (by (show AH.find _ _ = _; simp only [find_add_self, find_add_ne, find_fresh, fresh_add, ne_eq, not_false_eq_true, true_and, and_true, and_self, w_i0, w_i1, w_k, w_n, w_f, w_r, w_y, ho, hn_b2, hr_b2, hn_b4, hr_b4]))
  have hHA : H.le A := AH.le_trans (AH.le_add (AH.le_add (AH.le_refl _) ((by simp only [fresh_add, fresh_set, ne_eq, hn_b2, not_false_eq_true, and_self] : Fresh _ b2).2)) ((by simp only [fresh_add, fresh_set, ne_eq, hn_b4, not_false_eq_true, and_self] : Fresh _ b4).2)) hK.all
  have hsA : SlcIn A 1 (some ⟨b, o, none⟩) cap ([x0, x1, i0, i1, k, n, f, r, y, v0, v1, v2, v3].map encB) := (((hs.add (by simp only [fresh_add, ne_eq, hn_b2, not_false_eq_true, and_self] : Fresh _ b2)).add (by simp only [fresh_add, ne_eq, hn_b4, not_false_eq_true, and_self] : Fresh _ b4))).keep hK fun _ _ h => h
  have hkt := Keep.top2 hf2 hf4 hn_b4.1
  have hsT := hsA.keep hkt fun _ _ h => h
  have hOT := hO.slc.keep hkt fun _ _ h => h
  refine ⟨_, top2 hf2 hf4, ?_⟩
  cases g : goodQ (256 * i0 + i1) k n f r v0 v1 v2 v3 y with
  | false =>
    have hf : okT [x0, x1, i0, i1, k, n, f, r, y, v0, v1, v2, v3] = false := by rw [okT_13, g]; rfl
    have hE : PutE (256 * i0 + i1) k n f r v0 v1 v2 v3 y = 1 := by simp [PutE, g]
    simp (dsimp := false) (maxSteps := 4000000) only [hE, w_i0, w_i1, w_k, w_n, w_f, w_r, w_y, ho, hn_b2, hr_b2, hn_b4, hr_b4, go_sem, ↓reduceIte, Nat.reduceEqDiff, Nat.reduceLT, Nat.reduceLeDiff, Nat.reduceAdd, Nat.reduceMul, Nat.reduceSub, reduceCtorEq, Int.reduceToNat, Int.reduceLT, Int.reduceLE, Int.reduceEq, Int.reduceNe, Int.reduceBEq, Nat.reduceBEq, Int.reduceBNe, Nat.reduceBNe, Int.reduceAdd, Int.reduceSub, Int.reduceMul, Int.reduceNeg]
    exact ⟨H, le_top2 hHA h_b2 hn_b4.2 hn_b4.1, by rw [TakeX, TakeE, hf]; rfl, rfl⟩
  | true =>
    have hE : PutE (256 * i0 + i1) k n f r v0 v1 v2 v3 y = 0 := by simp [PutE, g]
    have hL : PutL (256 * i0 + i1) k n f r v0 v1 v2 v3 y = putL (256 * i0 + i1) k n f r v0 v1 v2 v3 y := by simp [PutL, g]
    rw [hL] at hOT
    by_cases he : putL (256 * i0 + i1) k n f r v0 v1 v2 v3 y = [x0, x1, i0, i1, k, n, f, r, y, v0, v1, v2, v3]
    · have hf : okT [x0, x1, i0, i1, k, n, f, r, y, v0, v1, v2, v3] = true := by rw [okT_13, g, decide_eq_true he]; rfl
      have hn : (!((bstr (putL (256 * i0 + i1) k n f r v0 v1 v2 v3 y)).toList == (bstr [x0, x1, i0, i1, k, n, f, r, y, v0, v1, v2, v3]).toList)) = false := by rw [he]; simp
      simp (dsimp := false) (maxSteps := 4000000) only [hE, hL, cnv_bytes Try.underlying44 Try.underlying5 Try.underlying9 hOT rfl, cnv_bytes (n := 13) Try.underlying44 Try.underlying5 Try.underlying9 hsT rfl, hn, w_i0, w_i1, w_k, w_n, w_f, w_r, w_y, ho, hn_b2, hr_b2, hn_b4, hr_b4, go_sem, ↓reduceIte, Nat.reduceEqDiff, Nat.reduceLT, Nat.reduceLeDiff, Nat.reduceAdd, Nat.reduceMul, Nat.reduceSub, reduceCtorEq, Int.reduceToNat, Int.reduceLT, Int.reduceLE, Int.reduceEq, Int.reduceNe, Int.reduceBEq, Nat.reduceBEq, Int.reduceBNe, Nat.reduceBNe, Int.reduceAdd, Int.reduceSub, Int.reduceMul, Int.reduceNeg]
      exact ⟨H, le_top2 hHA h_b2 hn_b4.2 hn_b4.1, by rw [TakeX, TakeE, hf]; simp only [if_true, cand_13 hf]; rfl, rfl⟩
    · have hf : okT [x0, x1, i0, i1, k, n, f, r, y, v0, v1, v2, v3] = false := by rw [okT_13, g, decide_eq_false he]; rfl
      have hn : (!((bstr (putL (256 * i0 + i1) k n f r v0 v1 v2 v3 y)).toList == (bstr [x0, x1, i0, i1, k, n, f, r, y, v0, v1, v2, v3]).toList)) = true := by
        rw [beq_bstr (Bts_put g (hB v0 (by simp)) (hB v1 (by simp)) (hB v2 (by simp)) (hB v3 (by simp))) hB, decide_eq_false he]; rfl
      simp (dsimp := false) (maxSteps := 4000000) only [hE, hL, cnv_bytes Try.underlying44 Try.underlying5 Try.underlying9 hOT rfl, cnv_bytes (n := 13) Try.underlying44 Try.underlying5 Try.underlying9 hsT rfl, hn, w_i0, w_i1, w_k, w_n, w_f, w_r, w_y, ho, hn_b2, hr_b2, hn_b4, hr_b4, go_sem, ↓reduceIte, Nat.reduceEqDiff, Nat.reduceLT, Nat.reduceLeDiff, Nat.reduceAdd, Nat.reduceMul, Nat.reduceSub, reduceCtorEq, Int.reduceToNat, Int.reduceLT, Int.reduceLE, Int.reduceEq, Int.reduceNe, Int.reduceBEq, Nat.reduceBEq, Int.reduceBNe, Nat.reduceBNe, Int.reduceAdd, Int.reduceSub, Int.reduceMul, Int.reduceNeg]
      exact ⟨H, le_top2 hHA h_b2 hn_b4.2 hn_b4.1, by rw [TakeX, TakeE, hf]; rfl, rfl⟩
theorem list9' {l : List Int} (h : l.length = 9) : ∃ x0 x1 x2 x3 x4 x5 x6 x7 x8, l = [x0, x1, x2, x3, x4, x5, x6, x7, x8] := by
  match l, h with
  | [x0, x1, x2, x3, x4, x5, x6, x7, x8], _ => exact ⟨x0, x1, x2, x3, x4, x5, x6, x7, x8, rfl⟩
theorem list13' {l : List Int} (h : l.length = 13) : ∃ x0 x1 x2 x3 x4 x5 x6 x7 x8 x9 x10 x11 x12, l = [x0, x1, x2, x3, x4, x5, x6, x7, x8, x9, x10, x11, x12] := by
  match l, h with
  | [x0, x1, x2, x3, x4, x5, x6, x7, x8, x9, x10, x11, x12], _ => exact ⟨x0, x1, x2, x3, x4, x5, x6, x7, x8, x9, x10, x11, x12, rfl⟩
theorem RefTake_c (B : List Int) (base : Option Addr) (cap : Nat) (H : AH) (hs : SlcIn H 1 base cap (B.map encB)) (hB : Bts B) :
    ACalls Try.prog 29 #[.slice base B.length cap] H (fun v H' => v = .tuple #[(TakeX B).v, .int .i64 (TakeE B)] ∧ H = H') := by
  by_cases h9 : B.length = 9
  · obtain ⟨x0, x1, i0, i1, k, n, f, r, y, rfl⟩ := list9' h9
    exact RefTake_09 x0 x1 i0 i1 k n f r y base cap H hs hB
  by_cases h13 : B.length = 13
  · obtain ⟨x0, x1, i0, i1, k, n, f, r, y, v0, v1, v2, v3, rfl⟩ := list13' h13
    exact RefTake_13 x0 x1 i0 i1 k n f r y v0 v1 v2 v3 base cap H hs hB
  have h9' : ¬ (B.length : Int) = 9 := by omega
  have h13' : ¬ (B.length : Int) = 13 := by omega
  have hf : okT B = false := by
    cases h : okT B with
    | false => rfl
    | true => rcases okT_len h with h | h <;> contradiction
  refine ACalls.enter2 Try.func29 rfl Try.ntmps29 Try.results29 (by simp) ?_; simp (dsimp := false) (maxSteps := 4000000) only [go_sem, ↓reduceIte, Nat.reduceEqDiff, Nat.reduceLT, Nat.reduceLeDiff, Nat.reduceAdd, Nat.reduceMul, Nat.reduceSub, reduceCtorEq, Int.reduceToNat, Int.reduceLT, Int.reduceLE, Int.reduceEq, Int.reduceNe, Int.reduceBEq, Nat.reduceBEq, Int.reduceBNe, Nat.reduceBNe, Int.reduceAdd, Int.reduceSub, Int.reduceMul, Int.reduceNeg]
  refine AllB.mk fun b2 h_b2 => ?_; have hn_b2 := h_b2; (try simp only [fresh_add, fresh_set, ne_eq] at hn_b2); have hr_b2 := hn_b2; (try simp only [@eq_comm Nat b2] at hr_b2); simp (dsimp := false) (maxSteps := 4000000) only [hn_b2, hr_b2, go_sem, ↓reduceIte, Nat.reduceEqDiff, Nat.reduceLT, Nat.reduceLeDiff, Nat.reduceAdd, Nat.reduceMul, Nat.reduceSub, reduceCtorEq, Int.reduceToNat, Int.reduceLT, Int.reduceLE, Int.reduceEq, Int.reduceNe, Int.reduceBEq, Nat.reduceBEq, Int.reduceBNe, Nat.reduceBNe, Int.reduceAdd, Int.reduceSub, Int.reduceMul, Int.reduceNeg]
  simp (dsimp := false) (maxSteps := 4000000) only [h9', h13', hn_b2, hr_b2, go_sem, ↓reduceIte, Nat.reduceEqDiff, Nat.reduceLT, Nat.reduceLeDiff, Nat.reduceAdd, Nat.reduceMul, Nat.reduceSub, reduceCtorEq, Int.reduceToNat, Int.reduceLT, Int.reduceLE, Int.reduceEq, Int.reduceNe, Int.reduceBEq, Nat.reduceBEq, Int.reduceBNe, Nat.reduceBNe, Int.reduceAdd, Int.reduceSub, Int.reduceMul, Int.reduceNeg]
  exact ⟨H, (AH.le_add (AH.le_refl _) ((by simp only [fresh_add, fresh_set, ne_eq, hn_b2, not_false_eq_true, and_self] : Fresh _ b2).2)), (by first | exact ⟨by rw [TakeX, TakeE, hf]; rfl, rfl⟩ | rfl)⟩
end Go.Proofs.Ytgikjbfpckjkoaa.Req
