/- req: the bytes of requests and replies. -/
import Derived.Test.YtgikjbfpckjkoaaReq1
namespace Go.Proofs.Ytgikjbfpckjkoaa.Req
set_option linter.unusedSimpArgs false
set_option linter.unusedVariables false
open Go Go.AX Go.Proofs Ty Go.Proofs.Ytgikjbfpckjkoaa.CatB
set_option maxHeartbeats 4000000
set_option maxRecDepth 10000

theorem _root_.Go.AX.OwnS.down {H0 H1 H : AH} {e sz cap : Nat} {base : Option Addr} {R : List (List Value)} (h : OwnS H1 H e sz base cap R) (hl : H0.le H1) : OwnS H0 H e sz base cap R :=
  ⟨h.rows, h.le, h.big, by
    rcases h.at_ with h1 | ⟨b, bs, h1, hf, hb, hr⟩
    · exact .inl h1
    · exact .inr ⟨b, bs, h1, hf, hb, Fresh.of_le hl hr⟩⟩
theorem pack {H A : AH} {base : Option Addr} {cap b33 b35 n : Nat} {L : List Int} (hO : OwnS H A 5 1 base cap (L.map encB)) (hK : Keep H A fun _ => False) (h33 : Fresh A b33) (hL : L.length < 200) (hn : n = L.length)
    (h35 : Fresh (A.add b33 (.cells [.int .u8 (IntKind.u8.wrap ((n : Int) / 256)), .int .u8 (IntKind.u8.wrap (n : Int))] 5 2)) b35) :
    ACalls Try.prog 102 #[.slice (some ⟨b35, 0, none⟩) 2 2] ((A.add b33 (.cells [.int .u8 (IntKind.u8.wrap ((n : Int) / 256)), .int .u8 (IntKind.u8.wrap (n : Int))] 5 2)).add b35 (.cells [.slice (some ⟨b33, 0, none⟩) 2 2, .slice base n cap] 44 2))
      (fun v H' => ∃ b' c', v = .slice b' (L.length + 2) c' ∧ OwnS H H' 5 1 b' c' ((0 :: (L.length : Int) :: L).map encB) ∧ Keep H H' fun _ => False) := by
  subst hn
  have e1 : IntKind.u8.wrap ((L.length : Int) / 256) = 0 := by rw [show IntKind.u8.wrap ((L.length : Int) / 256) = ((L.length : Int) / 256) % 256 from rfl]; omega
  have e2 : IntKind.u8.wrap (L.length : Int) = L.length := by rw [show IntKind.u8.wrap (L.length : Int) = (L.length : Int) % 256 from rfl]; omega
  have hc : CatIn ((A.add b33 (.cells [.int .u8 (IntKind.u8.wrap ((L.length : Int) / 256)), .int .u8 (IntKind.u8.wrap (L.length : Int))] 5 2)).add b35 (.cells [.slice (some ⟨b33, 0, none⟩) 2 2, .slice base L.length cap] 44 2)) (some ⟨b35, 0, none⟩) 2 [(some ⟨b33, 0, none⟩, 2, [0, (L.length : Int)]), (base, cap, L)] := by
    refine ⟨SlcIn.own (R := [[.slice (some ⟨b33, 0, none⟩) 2 2], [.slice base L.length cap]]) (by simp) (by simp) (by simp), fun x hx => ?_⟩
    simp only [List.mem_cons, List.not_mem_nil, or_false] at hx
    rcases hx with rfl | rfl
    · rw [e1, e2]
      rw [e1, e2] at h35
      exact (SlcIn.own (R := [0, (L.length : Int)].map encB) (rowsB _) (by simp) (by simp)).add h35
    · exact (hO.slc.add h33).add h35
  have ht : tot [(some ⟨b33, 0, none⟩, 2, [0, (L.length : Int)]), (base, cap, L)] 2 = 0 :: (L.length : Int) :: L := by simp [tot]
  have := Concat_c _ _ _ _ hc (by
    show (tot _ 2).length < _
    rw [ht]; simp; omega)
  refine ACalls.mono this ?_
  rintro v H' ⟨b', c', rfl, hO', hK'⟩
  have ht2 : tot [(some ⟨b33, 0, none⟩, 2, [0, (L.length : Int)]), (base, cap, L)] [((some ⟨b33, 0, none⟩ : Option Addr), 2, [0, (L.length : Int)]), (base, cap, L)].length = 0 :: (L.length : Int) :: L := ht
  rw [ht2] at hO' ⊢
  have hl : H.le ((A.add b33 (.cells [.int .u8 (IntKind.u8.wrap ((L.length : Int) / 256)), .int .u8 (IntKind.u8.wrap (L.length : Int))] 5 2)).add b35 (.cells [.slice (some ⟨b33, 0, none⟩) 2 2, .slice base L.length cap] 44 2)) := AH.le_add (AH.le_add hK.all h33.2) h35.2
  exact ⟨b', c', rfl, hO'.down hl, ((hK.nw h33).nw h35).trans hK'⟩
theorem u8_id {x : Int} (h0 : 0 ≤ x) (h1 : x < 256) : IntKind.u8.wrap x = x := by rw [show IntKind.u8.wrap x = x % 256 from rfl]; omega
theorem u8_mod (x : Int) : IntKind.u8.wrap x = x % 256 := rfl
def putL (i k n f r a b c d y : Int) : List Int := if k = 2 then [0, 11, i / 256, i % 256, 2, n, f, r, y, a, b, c, d] else [0, 7, i / 256, i % 256, k, n, f, r, y]
theorem put_c (i k n f r a b c d y : Int) (H : AH) (hg : GoodQ i k n f r a b c d y) :
    ACalls Try.prog 75 #[qv i k n f r a b c d y] H (fun v H' => ∃ b' c', v = .slice b' (putL i k n f r a b c d y).length c' ∧ OwnS H H' 5 1 b' c' ((putL i k n f r a b c d y).map encB) ∧ Keep H H' fun _ => False) := by
  obtain ⟨g1, g2, g3, g4, g5, g6⟩ := hg
  have w1 : IntKind.u8.wrap (i / 256) = i / 256 := u8_id (by omega) (by omega)
  have w2 : IntKind.u8.wrap i = i % 256 := rfl
  have w3 : IntKind.u8.wrap k = k := u8_id (by omega) (by omega)
  have w4 : IntKind.u8.wrap n = n := u8_id (by omega) (by omega)
  have w5 : IntKind.u8.wrap f = f := u8_id (by omega) (by omega)
  have w6 : IntKind.u8.wrap r = r := u8_id (by omega) (by omega)
  have w7 : IntKind.u8.wrap y = y := u8_id (by omega) (by omega)
  unfold qv
  refine ACalls.enter2 Try.func75 rfl Try.ntmps75 Try.results75 (by simp) ?_; simp (dsimp := false) (maxSteps := 4000000) only [w3, w4, w5, w6, w7, go_sem, ↓reduceIte, Nat.reduceEqDiff, Nat.reduceLT, Nat.reduceLeDiff, Nat.reduceAdd, Nat.reduceMul, Nat.reduceSub, reduceCtorEq, Int.reduceToNat, Int.reduceLT, Int.reduceLE, Int.reduceEq, Int.reduceNe, Int.reduceBEq, Nat.reduceBEq, Int.reduceBNe, Nat.reduceBNe, Int.reduceAdd, Int.reduceSub, Int.reduceMul, Int.reduceNeg]
  refine AllB.mk fun b1 h_b1 => ?_; have hn_b1 := h_b1; (try simp only [fresh_add, fresh_set, ne_eq] at hn_b1); have hr_b1 := hn_b1; (try simp only [@eq_comm Nat b1] at hr_b1); simp (dsimp := false) (maxSteps := 4000000) only [w3, w4, w5, w6, w7, hn_b1, hr_b1, go_sem, ↓reduceIte, Nat.reduceEqDiff, Nat.reduceLT, Nat.reduceLeDiff, Nat.reduceAdd, Nat.reduceMul, Nat.reduceSub, reduceCtorEq, Int.reduceToNat, Int.reduceLT, Int.reduceLE, Int.reduceEq, Int.reduceNe, Int.reduceBEq, Nat.reduceBEq, Int.reduceBNe, Nat.reduceBNe, Int.reduceAdd, Int.reduceSub, Int.reduceMul, Int.reduceNeg]
  refine AWp.gen [.pu, .rd, .ch, .pu, .rd, .pu, .pu, .rd, .pu, .pu, .rd, .pu, .pu, .rd, .pu, .pu, .rd, .pu, .al, .ch, .pu] [0, 1, 3, 0, 8, 24, 0, 64, 192, 0, 512, 1536, 0, 4096, 12288, 0, 32768, 98304, 262136, 524287, 1048575] 3 (_) mixed (by kernel_rfl) (AH.le_refl _) ?_
  simp (dsimp := false) (maxSteps := 4000000) only [w3, w4, w5, w6, w7, hn_b1, hr_b1, go_sem, ↓reduceIte, Nat.reduceEqDiff, Nat.reduceLT, Nat.reduceLeDiff, Nat.reduceAdd, Nat.reduceMul, Nat.reduceSub, reduceCtorEq, Int.reduceToNat, Int.reduceLT, Int.reduceLE, Int.reduceEq, Int.reduceNe, Int.reduceBEq, Nat.reduceBEq, Int.reduceBNe, Nat.reduceBNe, Int.reduceAdd, Int.reduceSub, Int.reduceMul, Int.reduceNeg]
  refine (two_c i _).mono ?_; rintro _ _ ⟨b6, h_b6, rfl, rfl⟩
  rw [w1, w2] at *
  have hn_b6 := h_b6; (try simp only [fresh_add, fresh_set, ne_eq] at hn_b6); have hr_b6 := hn_b6; (try simp only [@eq_comm Nat b6] at hr_b6)
  simp (dsimp := false) (maxSteps := 4000000) only [AH.le_refl, w3, w4, w5, w6, w7, hn_b1, hr_b1, hn_b6, hr_b6, go_sem, ↓reduceIte, Nat.reduceEqDiff, Nat.reduceLT, Nat.reduceLeDiff, Nat.reduceAdd, Nat.reduceMul, Nat.reduceSub, reduceCtorEq, Int.reduceToNat, Int.reduceLT, Int.reduceLE, Int.reduceEq, Int.reduceNe, Int.reduceBEq, Nat.reduceBEq, Int.reduceBNe, Nat.reduceBNe, Int.reduceAdd, Int.reduceSub, Int.reduceMul, Int.reduceNeg]
  refine ⟨AH.le_add (AH.le_refl _) h_b6.2, ?_⟩
  refine AllB.mk fun b22 h_b22 => ?_; have hn_b22 := h_b22; (try simp only [fresh_add, fresh_set, ne_eq] at hn_b22); have hr_b22 := hn_b22; (try simp only [@eq_comm Nat b22] at hr_b22); simp (dsimp := false) (maxSteps := 4000000) only [w3, w4, w5, w6, w7, hn_b1, hr_b1, hn_b6, hr_b6, hn_b22, hr_b22, go_sem, ↓reduceIte, Nat.reduceEqDiff, Nat.reduceLT, Nat.reduceLeDiff, Nat.reduceAdd, Nat.reduceMul, Nat.reduceSub, reduceCtorEq, Int.reduceToNat, Int.reduceLT, Int.reduceLE, Int.reduceEq, Int.reduceNe, Int.reduceBEq, Nat.reduceBEq, Int.reduceBNe, Nat.reduceBNe, Int.reduceAdd, Int.reduceSub, Int.reduceMul, Int.reduceNeg]
  have hO : OwnS H (((H.add b1 (.cells [.int .i64 i, .int .i64 k, .int .i64 n, .int .i64 f, .int .i64 r, .int .u8 a, .int .u8 b, .int .u8 c, .int .u8 d, .int .i64 y] 43 10)).add b6 (.cells [.int .u8 (i / 256), .int .u8 (i % 256)] 5 2)).add b22 (.cells [.int .u8 k, .int .u8 n, .int .u8 f, .int .u8 r, .int .u8 y] 5 5)) 5 1 (some ⟨b6, 0, none⟩) 2 ([i / 256, i % 256].map encB) :=
    OwnS.added (by exact OwnS.new (R := [i / 256, i % 256].map encB) h_b6 (AH.le_add (AH.le_refl _) h_b1.2) rfl rfl rfl (rowsB _) (by simp)) h_b22
  refine APD.growW (x := .slice (some ⟨b22, 0, none⟩) 5 5) (R' := [k, n, f, r, y].map encB) (m := 5) hO (AH.le_add (AH.le_add (AH.le_add (AH.le_refl _) ((by simp only [fresh_add, fresh_set, ne_eq, hn_b1, not_false_eq_true, and_self] : Fresh _ b1).2)) ((by simp only [fresh_add, fresh_set, ne_eq, hn_b6, not_false_eq_true, and_self] : Fresh _ b6).2)) ((by simp only [fresh_add, fresh_set, ne_eq, hn_b22, not_false_eq_true, and_self] : Fresh _ b22).2)) se_44 rfl (by decide) (by rw [Try.underlying44]; rfl) rfl rfl rfl (by rw [srow_some, row_add_self]; rfl) (rowsB _) (scalB _) (by omega) fun base1 cap1 A hO1 hK1 hN1 => ?_
  have hb1 : A.find b1 = some (.cells [.int .i64 i, .int .i64 k, .int .i64 n, .int .i64 f, .int .i64 r, .int .u8 a, .int .u8 b, .int .u8 c, .int .u8 d, .int .i64 y] 43 10) := hK1.find (fun h => (hn_b6.1 (exB_some.1 h).symm)) (by (show AH.find _ _ = _; simp only [find_add_self, find_add_ne, find_fresh, fresh_add, ne_eq, not_false_eq_true, true_and, and_true, and_self, w3, w4, w5, w6, w7, hn_b1, hr_b1, hn_b6, hr_b6, hn_b22, hr_b22]))
  have hKA := (((Keep.refl.nw h_b1).nw h_b6).nw h_b22).ow hK1 fun b ⟨a, ha, e⟩ => e ▸ hO.fresh a ha
  have hO1 : OwnS H A 5 1 base1 cap1 ([i / 256, i % 256, k, n, f, r, y].map encB) := hO1
  clear hO hK1 hN1
  refine ⟨_, AH.le_refl _, ?_⟩
  
  clear hn_b1 hr_b1 hn_b6 hr_b6 hn_b22 hr_b22 h_b1 h_b6 h_b22
  by_cases k2 : k = 2
  · simp (dsimp := false) (maxSteps := 4000000) only [AH.le_refl, rd_find hb1, k2, w3, w4, w5, w6, w7, go_sem, ↓reduceIte, Nat.reduceEqDiff, Nat.reduceLT, Nat.reduceLeDiff, Nat.reduceAdd, Nat.reduceMul, Nat.reduceSub, reduceCtorEq, Int.reduceToNat, Int.reduceLT, Int.reduceLE, Int.reduceEq, Int.reduceNe, Int.reduceBEq, Nat.reduceBEq, Int.reduceBNe, Nat.reduceBNe, Int.reduceAdd, Int.reduceSub, Int.reduceMul, Int.reduceNeg]
    refine APD.growW (x := .slice (some ⟨b1, 5, none⟩) 4 4) (R' := [a, b, c, d].map encB) (m := 4) hO1 hKA.all se_44 rfl (by decide) (by rw [Try.underlying44]; rfl) rfl rfl rfl (by rw [srow_some, row_find hb1 (by simp)]; rfl) (rowsB _) (scalB _) (by omega) fun base2 cap2 A2 hO2 hK2 hN2 => ?_
    have hKB := hKA.ow hK2 fun b ⟨a, ha, e⟩ => e ▸ hO1.fresh a ha
    have hO2 : OwnS H A2 5 1 base2 cap2 ([i / 256, i % 256, k, n, f, r, y, a, b, c, d].map encB) := hO2
    refine ⟨_, AH.le_refl _, ?_⟩
    simp (dsimp := false) (maxSteps := 4000000) only [w3, w4, w5, w6, w7, go_sem, ↓reduceIte, Nat.reduceEqDiff, Nat.reduceLT, Nat.reduceLeDiff, Nat.reduceAdd, Nat.reduceMul, Nat.reduceSub, reduceCtorEq, Int.reduceToNat, Int.reduceLT, Int.reduceLE, Int.reduceEq, Int.reduceNe, Int.reduceBEq, Nat.reduceBEq, Int.reduceBNe, Nat.reduceBNe, Int.reduceAdd, Int.reduceSub, Int.reduceMul, Int.reduceNeg]
    refine (two_c 11 _).mono ?_; rintro _ _ ⟨b33, h_b33, rfl, rfl⟩
    have hn_b33 := h_b33; (try simp only [fresh_add, fresh_set, ne_eq] at hn_b33); have hr_b33 := hn_b33; (try simp only [@eq_comm Nat b33] at hr_b33)
    simp (dsimp := false) (maxSteps := 4000000) only [w3, w4, w5, w6, w7, hn_b33, hr_b33, go_sem, ↓reduceIte, Nat.reduceEqDiff, Nat.reduceLT, Nat.reduceLeDiff, Nat.reduceAdd, Nat.reduceMul, Nat.reduceSub, reduceCtorEq, Int.reduceToNat, Int.reduceLT, Int.reduceLE, Int.reduceEq, Int.reduceNe, Int.reduceBEq, Nat.reduceBEq, Int.reduceBNe, Nat.reduceBNe, Int.reduceAdd, Int.reduceSub, Int.reduceMul, Int.reduceNeg]
    refine AllB.mk fun b35 h_b35 => ?_; have hn_b35 := h_b35; (try simp only [fresh_add, fresh_set, ne_eq] at hn_b35); have hr_b35 := hn_b35; (try simp only [@eq_comm Nat b35] at hr_b35); simp (dsimp := false) (maxSteps := 4000000) only [w3, w4, w5, w6, w7, hn_b33, hr_b33, hn_b35, hr_b35, go_sem, ↓reduceIte, Nat.reduceEqDiff, Nat.reduceLT, Nat.reduceLeDiff, Nat.reduceAdd, Nat.reduceMul, Nat.reduceSub, reduceCtorEq, Int.reduceToNat, Int.reduceLT, Int.reduceLE, Int.reduceEq, Int.reduceNe, Int.reduceBEq, Nat.reduceBEq, Int.reduceBNe, Nat.reduceBNe, Int.reduceAdd, Int.reduceSub, Int.reduceMul, Int.reduceNeg]
    refine (pack (n := 11) hO2 hKB h_b33 (by simp) rfl h_b35).mono ?_; rintro _ A3 ⟨b', c', rfl, hO3, hK3⟩
    
    simp (dsimp := false) (maxSteps := 4000000) only [w3, w4, w5, w6, w7, go_sem, ↓reduceIte, Nat.reduceEqDiff, Nat.reduceLT, Nat.reduceLeDiff, Nat.reduceAdd, Nat.reduceMul, Nat.reduceSub, reduceCtorEq, Int.reduceToNat, Int.reduceLT, Int.reduceLE, Int.reduceEq, Int.reduceNe, Int.reduceBEq, Nat.reduceBEq, Int.reduceBNe, Nat.reduceBNe, Int.reduceAdd, Int.reduceSub, Int.reduceMul, Int.reduceNeg]
    refine ⟨A3, AH.le_refl _, b', c', ?_, ?_, hK3⟩
    · simp [putL, k2]
    · rw [putL, if_pos k2]
      simpa [k2] using hO3
  · simp (dsimp := false) (maxSteps := 4000000) only [AH.le_refl, rd_find hb1, k2, w3, w4, w5, w6, w7, go_sem, ↓reduceIte, Nat.reduceEqDiff, Nat.reduceLT, Nat.reduceLeDiff, Nat.reduceAdd, Nat.reduceMul, Nat.reduceSub, reduceCtorEq, Int.reduceToNat, Int.reduceLT, Int.reduceLE, Int.reduceEq, Int.reduceNe, Int.reduceBEq, Nat.reduceBEq, Int.reduceBNe, Nat.reduceBNe, Int.reduceAdd, Int.reduceSub, Int.reduceMul, Int.reduceNeg]
    refine (two_c 7 _).mono ?_; rintro _ _ ⟨b33, h_b33, rfl, rfl⟩
    have hn_b33 := h_b33; (try simp only [fresh_add, fresh_set, ne_eq] at hn_b33); have hr_b33 := hn_b33; (try simp only [@eq_comm Nat b33] at hr_b33)
    simp (dsimp := false) (maxSteps := 4000000) only [w3, w4, w5, w6, w7, hn_b33, hr_b33, go_sem, ↓reduceIte, Nat.reduceEqDiff, Nat.reduceLT, Nat.reduceLeDiff, Nat.reduceAdd, Nat.reduceMul, Nat.reduceSub, reduceCtorEq, Int.reduceToNat, Int.reduceLT, Int.reduceLE, Int.reduceEq, Int.reduceNe, Int.reduceBEq, Nat.reduceBEq, Int.reduceBNe, Nat.reduceBNe, Int.reduceAdd, Int.reduceSub, Int.reduceMul, Int.reduceNeg]
    refine AllB.mk fun b35 h_b35 => ?_; have hn_b35 := h_b35; (try simp only [fresh_add, fresh_set, ne_eq] at hn_b35); have hr_b35 := hn_b35; (try simp only [@eq_comm Nat b35] at hr_b35); simp (dsimp := false) (maxSteps := 4000000) only [w3, w4, w5, w6, w7, hn_b33, hr_b33, hn_b35, hr_b35, go_sem, ↓reduceIte, Nat.reduceEqDiff, Nat.reduceLT, Nat.reduceLeDiff, Nat.reduceAdd, Nat.reduceMul, Nat.reduceSub, reduceCtorEq, Int.reduceToNat, Int.reduceLT, Int.reduceLE, Int.reduceEq, Int.reduceNe, Int.reduceBEq, Nat.reduceBEq, Int.reduceBNe, Nat.reduceBNe, Int.reduceAdd, Int.reduceSub, Int.reduceMul, Int.reduceNeg]
    refine (pack (n := 7) hO1 hKA h_b33 (by simp) rfl h_b35).mono ?_; rintro _ A3 ⟨b', c', rfl, hO3, hK3⟩
    
    simp (dsimp := false) (maxSteps := 4000000) only [w3, w4, w5, w6, w7, go_sem, ↓reduceIte, Nat.reduceEqDiff, Nat.reduceLT, Nat.reduceLeDiff, Nat.reduceAdd, Nat.reduceMul, Nat.reduceSub, reduceCtorEq, Int.reduceToNat, Int.reduceLT, Int.reduceLE, Int.reduceEq, Int.reduceNe, Int.reduceBEq, Nat.reduceBEq, Int.reduceBNe, Nat.reduceBNe, Int.reduceAdd, Int.reduceSub, Int.reduceMul, Int.reduceNeg]
    refine ⟨A3, AH.le_refl _, b', c', ?_, ?_, hK3⟩
    · simp [putL, k2]
    · rw [putL, if_neg k2]
      simpa using hO3
end Go.Proofs.Ytgikjbfpckjkoaa.Req
