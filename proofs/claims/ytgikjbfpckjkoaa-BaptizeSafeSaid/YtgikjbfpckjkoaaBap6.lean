/- baptize: the reference's Run. -/
import Derived.Test.YtgikjbfpckjkoaaBap5
namespace Go.Proofs.Ytgikjbfpckjkoaa.BapN
set_option linter.unusedSimpArgs false
set_option linter.unusedVariables false
open Go Go.AX Go.Proofs Ty
set_option maxHeartbeats 4000000
set_option maxRecDepth 10000

def mixN (L : List Slv) (p n : Int) (i : Nat) : List Slv := setN (L.take i) p n ++ L.drop i
theorem mixN_len {L : List Slv} {p n : Int} {i : Nat} (h : i ≤ L.length) : (mixN L p n i).length = L.length := by simp [mixN, setN]; omega
theorem mixN_at {L : List Slv} {p n : Int} {i : Nat} {s : Slv} (h : L[i]? = some s) : (mixN L p n i)[i]? = some s := by
  have hi := lt_of_get h
  rw [mixN, List.getElem?_append_right (by simp [setN]; omega)]
  simp only [setN, List.length_map, List.length_take]
  rw [Nat.min_eq_left (by omega), Nat.sub_self, List.getElem?_drop, Nat.add_zero]; exact h
theorem mixN_step {L : List Slv} {p n : Int} {i : Nat} {s : Slv} (h : L[i]? = some s) : mixN L p n (i + 1) = (mixN L p n i).set i (if s.phys = p then ⟨s.phys, n⟩ else s) := by
  have hi := lt_of_get h
  apply List.ext_getElem?
  intro j
  have hl : (setN (L.take i) p n).length = i := by simp [setN]; omega
  have hl1 : (setN (L.take (i + 1)) p n).length = i + 1 := by simp [setN]; omega
  rw [List.getElem?_set, mixN_len (by omega)]
  by_cases hj : i = j
  · subst hj
    rw [if_pos rfl, if_pos hi, mixN, List.getElem?_append_left (by omega), setN, List.getElem?_map, List.getElem?_take, if_pos (by omega), h]; rfl
  · rw [if_neg hj]
    unfold mixN
    by_cases hlt : j < i
    · rw [List.getElem?_append_left (by omega), List.getElem?_append_left (by omega), setN, setN, List.getElem?_map, List.getElem?_map, List.getElem?_take, List.getElem?_take, if_pos (by omega), if_pos hlt]
    · rw [List.getElem?_append_right (by omega), List.getElem?_append_right (by omega), hl, hl1, List.getElem?_drop, List.getElem?_drop, show i + 1 + (j - (i + 1)) = j from by omega, show i + (j - i) = j from by omega]
theorem mixN_all (L : List Slv) (p n : Int) : mixN L p n L.length = setN L p n := by simp [mixN]
theorem mixN_zero (L : List Slv) (p n : Int) : mixN L p n 0 = L := by simp [mixN, setN]
theorem mixN_same {L : List Slv} {p n : Int} {i : Nat} {s : Slv} (h : L[i]? = some s) (hp : ¬ s.phys = p) : mixN L p n (i + 1) = mixN L p n i := by
  rw [mixN_step h, if_neg hp]
  have h2 := mixN_at (p := p) (n := n) h
  have hi := lt_of_get h2
  rw [List.getElem?_eq_getElem hi] at h2
  simp only [Option.some.injEq] at h2
  rw [← h2, List.set_getElem_self]
theorem leastI_some {L : List Slv} (h : (atN L L.length).isSome = true) : 0 ≤ leastI L L.length := by
  unfold leastI
  cases hn : atN L L.length with
  | none => rw [hn] at h; cases h
  | some k => simp
theorem leastI_none {L : List Slv} (h : (atN L L.length).isSome = false) : ¬ 0 ≤ leastI L L.length := by
  unfold leastI
  cases hn : atN L L.length with
  | none => simp
  | some k => rw [hn] at h; cases h
theorem RefRun_c (L0 : List Slv) (hL0 : L0.length ≤ 1000) (hu0 : uniq L0) (hr0 : rng L0) (lb0 : Option Addr) (lc0 : Nat) (most : Int) (D : List Bool) (hD1 : D.length ≤ 1000) (db : Option Addr) (dc : Nat) (F : Nat) (hF : mu L0 D 0 < F) (H : AH) (hs : SlcIn H 2 lb0 lc0 (L0.map enc)) (hD : SlcIn H 1 db dc (D.map encb)) :
    ACalls Try.prog 20 #[.slice lb0 L0.length lc0, .int .i64 most, .slice db D.length dc] H (fun v H' => ∃ b c, v = .tuple #[.slice b (runF D most F L0 0).1.length c, .int .i64 (runF D most F L0 0).2.1, .int .i64 (runF D most F L0 0).2.2] ∧ SlcIn H' 2 b c ((runF D most F L0 0).1.map enc) ∧ Keep H H' fun _ => False) := by
  generalize hR : runF D most F L0 0 = R
  have hN : cntZ L0 ≤ 1000 := Nat.le_trans List.countP_le_length hL0
  refine ACalls.enter2 Try.func20 rfl Try.ntmps20 Try.results20 (by simp) ?_; simp (dsimp := false) (maxSteps := 4000000) only [go_sem, ↓reduceIte, Nat.reduceEqDiff, Nat.reduceLT, Nat.reduceLeDiff, Nat.reduceAdd, Nat.reduceMul, Nat.reduceSub, reduceCtorEq, Int.reduceToNat, Int.reduceLT, Int.reduceLE, Int.reduceEq, Int.reduceNe, Int.reduceBEq, Nat.reduceBEq, Int.reduceBNe, Nat.reduceBNe, Int.reduceAdd, Int.reduceSub, Int.reduceMul, Int.reduceNeg]
  refine AllB.mk fun b19 h_b19 => ?_; have hn_b19 := h_b19; (try simp only [fresh_add, fresh_set, ne_eq] at hn_b19); have hr_b19 := hn_b19; (try simp only [@eq_comm Nat b19] at hr_b19); simp (dsimp := false) (maxSteps := 4000000) only [hn_b19, hr_b19, go_sem, ↓reduceIte, Nat.reduceEqDiff, Nat.reduceLT, Nat.reduceLeDiff, Nat.reduceAdd, Nat.reduceMul, Nat.reduceSub, reduceCtorEq, Int.reduceToNat, Int.reduceLT, Int.reduceLE, Int.reduceEq, Int.reduceNe, Int.reduceBEq, Nat.reduceBEq, Int.reduceBNe, Nat.reduceBNe, Int.reduceAdd, Int.reduceSub, Int.reduceMul, Int.reduceNeg]
  have hO : OwnS H (H.add b19 (.cells [] 66 0)) 66 2 (some ⟨b19, 0, none⟩) 0 [] := OwnS.new h_b19 (AH.le_refl _) rfl rfl rfl (by simp) (by simp)
  refine APD.growS (a := lb0) (m := L0.length) (c := lc0) (R' := L0.map enc) hO (AH.le_add (AH.le_refl _) ((by simp only [fresh_add, fresh_set, ne_eq, hn_b19, not_false_eq_true, and_self] : Fresh _ b19).2)) se_22 rfl (by decide) (by decide) (by rw [Try.underlying22]; rfl) rfl (by simp) (hs.add h_b19) (rowsS L0) (flatS_scal L0) (by omega) fun bl cl A0 hO' hK' hN' => ?_
  refine ⟨_, AH.le_refl _, ?_⟩
  have hK := (Keep.refl.nw h_b19).ow hK' fun b ⟨a, ha, e⟩ => e ▸ hO.fresh a ha
  rw [List.nil_append] at hO'
  clear hO hK' hN' h_b19 hn_b19 hr_b19
  
  simp (dsimp := false) (maxSteps := 4000000) only [Nat.zero_add, go_sem, ↓reduceIte, Nat.reduceEqDiff, Nat.reduceLT, Nat.reduceLeDiff, Nat.reduceAdd, Nat.reduceMul, Nat.reduceSub, reduceCtorEq, Int.reduceToNat, Int.reduceLT, Int.reduceLE, Int.reduceEq, Int.reduceNe, Int.reduceBEq, Nat.reduceBEq, Int.reduceBNe, Nat.reduceBNe, Int.reduceAdd, Int.reduceSub, Int.reduceMul, Int.reduceNeg]
  refine AWp.loopr (ι := List Slv × Nat) (fun x A => (∃ f, mu x.1 D x.2 < f ∧ runF D most f x.1 x.2 = R) ∧ x.1.length = L0.length ∧ uniq x.1 ∧ rng x.1 ∧ (cntZ x.1 ≤ cntZ L0 ∧ x.2 + 67 * cntZ x.1 ≤ D.length + 66 + 67 * cntZ L0) ∧ OwnS H A 66 2 bl cl (x.1.map enc) ∧ Keep H A fun _ => False)
    (fun x => [(9, .slice bl L0.length cl), (10, .int .i64 x.2), (1, .int .i64 most), (2, .slice db D.length dc)]) (fun x => mu x.1 D x.2) (L0, 0) A0
    ⟨⟨F, hF, hR⟩, rfl, hu0, hr0, by simp only; omega, hO', hK⟩ (FrLe.of_lks ?_) (AH.le_refl _) fun x A hi Q again out => ?_
  · simp (dsimp := false) (maxSteps := 4000000) only [go_sem, ↓reduceIte, Nat.reduceEqDiff, Nat.reduceLT, Nat.reduceLeDiff, Nat.reduceAdd, Nat.reduceMul, Nat.reduceSub, reduceCtorEq, Int.reduceToNat, Int.reduceLT, Int.reduceLE, Int.reduceEq, Int.reduceNe, Int.reduceBEq, Nat.reduceBEq, Int.reduceBNe, Nat.reduceBNe, Int.reduceAdd, Int.reduceSub, Int.reduceMul, Int.reduceNeg]
  clear hO' hK hs hR hF
  obtain ⟨L, r⟩ := x
  obtain ⟨⟨f, hf, hR⟩, hl, hu, hr, ⟨hcz0, hb⟩, hO, hK⟩ := hi
  dsimp only at hf hR hl hu hr hcz0 hb hO again ⊢
  obtain ⟨f, rfl⟩ : ∃ g, f = g + 1 := ⟨f - 1, by omega⟩
  have hS : SlcIn A 2 bl cl (L.map enc) := hO.slc
  have hDA : SlcIn A 1 db dc (D.map encb) := hD.keep hK fun _ _ h => h
  have least := RefLeast_c L bl cl A hS
  rw [hl] at least
  have free := RefFree_c L most bl cl A hS
  rw [hl] at free
  have search := RefSearch_c L bl cl D db dc r A hS hDA (by omega)
  rw [hl] at search
  have hsc := srch_pos L D r
  simp (dsimp := false) (maxSteps := 4000000) only [go_sem, ↓reduceIte, Nat.reduceEqDiff, Nat.reduceLT, Nat.reduceLeDiff, Nat.reduceAdd, Nat.reduceMul, Nat.reduceSub, reduceCtorEq, Int.reduceToNat, Int.reduceLT, Int.reduceLE, Int.reduceEq, Int.reduceNe, Int.reduceBEq, Nat.reduceBEq, Int.reduceBNe, Nat.reduceBNe, Int.reduceAdd, Int.reduceSub, Int.reduceMul, Int.reduceNeg]
  refine (least).mono ?_; rintro _ _ ⟨rfl, rfl⟩
  simp (dsimp := false) (maxSteps := 4000000) only [go_sem, ↓reduceIte, Nat.reduceEqDiff, Nat.reduceLT, Nat.reduceLeDiff, Nat.reduceAdd, Nat.reduceMul, Nat.reduceSub, reduceCtorEq, Int.reduceToNat, Int.reduceLT, Int.reduceLE, Int.reduceEq, Int.reduceNe, Int.reduceBEq, Nat.reduceBEq, Int.reduceBNe, Nat.reduceBNe, Int.reduceAdd, Int.reduceSub, Int.reduceMul, Int.reduceNeg]
  refine (free).mono ?_; rintro _ _ ⟨rfl, rfl⟩
  cases h1 : ((atN L L.length).isSome && (freev L most).isNone) with
  | true =>
    rw [run_full h1] at hR
    subst hR
    rw [Bool.and_eq_true] at h1
    have hn : freev L most = none := Option.isNone_iff_eq_none.1 h1.2
    have hat := leastI_some h1.1
    rw [hl] at hat
    rw [hn]
    simp (dsimp := false) (maxSteps := 4000000) only [hat, freeV, go_sem, ↓reduceIte, Nat.reduceEqDiff, Nat.reduceLT, Nat.reduceLeDiff, Nat.reduceAdd, Nat.reduceMul, Nat.reduceSub, reduceCtorEq, Int.reduceToNat, Int.reduceLT, Int.reduceLE, Int.reduceEq, Int.reduceNe, Int.reduceBEq, Nat.reduceBEq, Int.reduceBNe, Nat.reduceBNe, Int.reduceAdd, Int.reduceSub, Int.reduceMul, Int.reduceNeg]
    refine out _ _ _ (by simp) ?_
    simp (dsimp := false) (maxSteps := 4000000) only [go_sem, ↓reduceIte, Nat.reduceEqDiff, Nat.reduceLT, Nat.reduceLeDiff, Nat.reduceAdd, Nat.reduceMul, Nat.reduceSub, reduceCtorEq, Int.reduceToNat, Int.reduceLT, Int.reduceLE, Int.reduceEq, Int.reduceNe, Int.reduceBEq, Nat.reduceBEq, Int.reduceBNe, Nat.reduceBNe, Int.reduceAdd, Int.reduceSub, Int.reduceMul, Int.reduceNeg]
    exact ⟨A, AH.le_refl _, bl, cl, by rw [hl], hS, hK⟩
  | false =>
  cases hat : (atN L L.length).isSome with
  | true =>
    have hn0 : ∃ n, freev L most = some n := by
      cases hn : freev L most with
      | none => rw [hat, hn] at h1; cases h1
      | some n => exact ⟨n, rfl⟩
    obtain ⟨n, hn⟩ := hn0
    have ha := leastI_some hat
    rw [hl] at ha
    rw [hn]
    simp (dsimp := false) (maxSteps := 4000000) only [ha, freeV, go_sem, ↓reduceIte, Nat.reduceEqDiff, Nat.reduceLT, Nat.reduceLeDiff, Nat.reduceAdd, Nat.reduceMul, Nat.reduceSub, reduceCtorEq, Int.reduceToNat, Int.reduceLT, Int.reduceLE, Int.reduceEq, Int.reduceNe, Int.reduceBEq, Nat.reduceBEq, Int.reduceBNe, Nat.reduceBNe, Int.reduceAdd, Int.reduceSub, Int.reduceMul, Int.reduceNeg]
    refine (search).mono ?_; rintro _ _ ⟨rfl, rfl⟩
    simp (dsimp := false) (maxSteps := 4000000) only [go_sem, ↓reduceIte, Nat.reduceEqDiff, Nat.reduceLT, Nat.reduceLeDiff, Nat.reduceAdd, Nat.reduceMul, Nat.reduceSub, reduceCtorEq, Int.reduceToNat, Int.reduceLT, Int.reduceLE, Int.reduceEq, Int.reduceNe, Int.reduceBEq, Nat.reduceBEq, Int.reduceBNe, Nat.reduceBNe, Int.reduceAdd, Int.reduceSub, Int.reduceMul, Int.reduceNeg]
    cases h2 : (srch L D r).2.2 with
      | true =>
        obtain ⟨n', k, s, hn', hk, hs0, hp, h66, hset, huN, hcz, hidx⟩ := found_at hu h1 h2
        rw [hn] at hn'; cases hn'
        rw [run_found h1 h2 hn] at hR
        have hkl := lt_of_get hk
        obtain ⟨b0, bs, rfl, hfb, hbs, hfr⟩ : ∃ b bs, bl = some ⟨b, 0, none⟩ ∧ A.find b = some (.cells (L.map enc).flatten 66 bs) ∧ cl * 2 ≤ bs ∧ Fresh H b := by
          rcases hO.at_ with ⟨_, h0, _⟩ | ⟨b, bs, h1, h2, h3, h4⟩
          · rw [List.map_eq_nil_iff] at h0
            rw [h0] at hkl; simp at hkl
          · exact ⟨b, bs, h1, h2, h3, h4⟩
        have hle := hO.le
        rw [List.length_map] at hle
        have ek : IntKind.i64.wrap ((r : Int) + ((srch L D r).2.1 : Int)) = ((r + (srch L D r).2.1 : Nat) : Int) := by rw [i64_eq (by omega) (by omega)]; omega
        have e67 : IntKind.i64.wrap (((r + (srch L D r).2.1 : Nat) : Int) + 1) = ((r + (srch L D r).2.1 + 1 : Nat) : Int) := i64_succ (by omega)
        simp (dsimp := false) (maxSteps := 4000000) only [ek, go_sem, ↓reduceIte, Nat.reduceEqDiff, Nat.reduceLT, Nat.reduceLeDiff, Nat.reduceAdd, Nat.reduceMul, Nat.reduceSub, reduceCtorEq, Int.reduceToNat, Int.reduceLT, Int.reduceLE, Int.reduceEq, Int.reduceNe, Int.reduceBEq, Nat.reduceBEq, Int.reduceBNe, Nat.reduceBNe, Int.reduceAdd, Int.reduceSub, Int.reduceMul, Int.reduceNeg]
        generalize hp' : (srch L D r).1 = p at *
        refine AWp.loopo (ι := Nat) (fun i => i ≤ L0.length) (fun i => [(18, .int .i64 i), (13, .int .i64 n), (15, .int .u64 p), (9, .slice (some ⟨b0, 0, none⟩) L0.length cl), (10, .int .i64 ((r + (srch L D r).2.1 : Nat) : Int)), (1, .int .i64 most), (2, .slice db D.length dc)])
          (fun i => (A.del b0).add b0 (.cells ((mixN L p n i).map enc).flatten 66 bs)) (fun i => L0.length - i) 0 (by omega) (FrLe.of_lks ?_) (by rw [mixN_zero]; exact le_at hfb) fun i hi Q2 again2 out2 => ?_
        · simp (dsimp := false) (maxSteps := 4000000) only [go_sem, ↓reduceIte, Nat.reduceEqDiff, Nat.reduceLT, Nat.reduceLeDiff, Nat.reduceAdd, Nat.reduceMul, Nat.reduceSub, reduceCtorEq, Int.reduceToNat, Int.reduceLT, Int.reduceLE, Int.reduceEq, Int.reduceNe, Int.reduceBEq, Nat.reduceBEq, Int.reduceBNe, Nat.reduceBNe, Int.reduceAdd, Int.reduceSub, Int.reduceMul, Int.reduceNeg]
        by_cases h : (i : Int) < L0.length
        · obtain ⟨t, ht⟩ := get_some (l := L) (i := i) (by omega)
          have hm := mixN_at (p := p) (n := n) ht
          have ee := i64_succ (i := i) (by omega)
          have hS2 : SlcIn ((A.del b0).add b0 (.cells ((mixN L p n i).map enc).flatten 66 bs)) 2 (some ⟨b0, 0, none⟩) cl ((mixN L p n i).map enc) := SlcIn.own (rowsS _) (by rw [List.length_map, mixN_len (show i ≤ L.length by omega)]; exact hle) (by rw [List.length_map, mixN_len (show i ≤ L.length by omega)]; omega)
          have r0 := hS2.rd b0 0 rfl i 0 _ _ (map_get (f := enc) hm) rfl
          rw [Nat.zero_add, Nat.add_zero, rd_add_self] at r0
          by_cases hpt : t.phys = p
          · have hfl : ((mixN L p n i).map enc).flatten.length = L0.length * 2 := by rw [flatS_len, mixN_len (show i ≤ L.length by omega), hl]
            have k2 : i * 2 + 1 + 1 ≤ L0.length * 2 := by omega
            have k3 : L0.length * 2 ≤ bs := by omega
            have hset2 := setName (n := n) hm
            have hms := mixN_step (p := p) (n := n) ht
            rw [if_pos hpt] at hms
            rw [← hms] at hset2
            simp (dsimp := false) (maxSteps := 4000000) only [h, r0, hpt, hfl, k2, k3, hset2, ee, go_sem, ↓reduceIte, Nat.reduceEqDiff, Nat.reduceLT, Nat.reduceLeDiff, Nat.reduceAdd, Nat.reduceMul, Nat.reduceSub, reduceCtorEq, Int.reduceToNat, Int.reduceLT, Int.reduceLE, Int.reduceEq, Int.reduceNe, Int.reduceBEq, Nat.reduceBEq, Int.reduceBNe, Nat.reduceBNe, Int.reduceAdd, Int.reduceSub, Int.reduceMul, Int.reduceNeg]
            refine again2 (i + 1) _ _ (by omega) (FrLe.of_lks (by simp (dsimp := false) (maxSteps := 4000000) only [go_sem, ↓reduceIte, Nat.reduceEqDiff, Nat.reduceLT, Nat.reduceLeDiff, Nat.reduceAdd, Nat.reduceMul, Nat.reduceSub, reduceCtorEq, Int.reduceToNat, Int.reduceLT, Int.reduceLE, Int.reduceEq, Int.reduceNe, Int.reduceBEq, Nat.reduceBEq, Int.reduceBNe, Nat.reduceBNe, Int.reduceAdd, Int.reduceSub, Int.reduceMul, Int.reduceNeg])) (AH.le_refl _) (by omega)
          · have hms := mixN_same (n := n) ht hpt
            simp (dsimp := false) (maxSteps := 4000000) only [h, r0, hpt, ee, go_sem, ↓reduceIte, Nat.reduceEqDiff, Nat.reduceLT, Nat.reduceLeDiff, Nat.reduceAdd, Nat.reduceMul, Nat.reduceSub, reduceCtorEq, Int.reduceToNat, Int.reduceLT, Int.reduceLE, Int.reduceEq, Int.reduceNe, Int.reduceBEq, Nat.reduceBEq, Int.reduceBNe, Nat.reduceBNe, Int.reduceAdd, Int.reduceSub, Int.reduceMul, Int.reduceNeg]
            refine again2 (i + 1) _ _ (by omega) (FrLe.of_lks (by simp (dsimp := false) (maxSteps := 4000000) only [go_sem, ↓reduceIte, Nat.reduceEqDiff, Nat.reduceLT, Nat.reduceLeDiff, Nat.reduceAdd, Nat.reduceMul, Nat.reduceSub, reduceCtorEq, Int.reduceToNat, Int.reduceLT, Int.reduceLE, Int.reduceEq, Int.reduceNe, Int.reduceBEq, Nat.reduceBEq, Int.reduceBNe, Nat.reduceBNe, Int.reduceAdd, Int.reduceSub, Int.reduceMul, Int.reduceNeg])) (by rw [hms]; exact AH.le_refl _) (by omega)
        · have hi2 : i = L.length := by omega
          subst hi2
          simp (dsimp := false) (maxSteps := 4000000) only [h, go_sem, ↓reduceIte, Nat.reduceEqDiff, Nat.reduceLT, Nat.reduceLeDiff, Nat.reduceAdd, Nat.reduceMul, Nat.reduceSub, reduceCtorEq, Int.reduceToNat, Int.reduceLT, Int.reduceLE, Int.reduceEq, Int.reduceNe, Int.reduceBEq, Nat.reduceBEq, Int.reduceBNe, Nat.reduceBNe, Int.reduceAdd, Int.reduceSub, Int.reduceMul, Int.reduceNeg]
          refine out2 _ _ _ (by simp) ?_
          simp (dsimp := false) (maxSteps := 4000000) only [e67, go_sem, ↓reduceIte, Nat.reduceEqDiff, Nat.reduceLT, Nat.reduceLeDiff, Nat.reduceAdd, Nat.reduceMul, Nat.reduceSub, reduceCtorEq, Int.reduceToNat, Int.reduceLT, Int.reduceLE, Int.reduceEq, Int.reduceNe, Int.reduceBEq, Nat.reduceBEq, Int.reduceBNe, Nat.reduceBNe, Int.reduceAdd, Int.reduceSub, Int.reduceMul, Int.reduceNeg]
          rw [mixN_all]
          refine again (setN L p n, r + (srch L D r).2.1 + 1) _ _ _ ⟨⟨f, ?_, hR⟩, by simp only [setN_len]; exact hl, huN, rng_setN hr _ _, ?_, ?_, hK.ow Keep.at1 fun b e => e ▸ hfr⟩ (FrLe.of_lks (by simp (dsimp := false) (maxSteps := 4000000) only [go_sem, ↓reduceIte, Nat.reduceEqDiff, Nat.reduceLT, Nat.reduceLeDiff, Nat.reduceAdd, Nat.reduceMul, Nat.reduceSub, reduceCtorEq, Int.reduceToNat, Int.reduceLT, Int.reduceLE, Int.reduceEq, Int.reduceNe, Int.reduceBEq, Nat.reduceBEq, Int.reduceBNe, Nat.reduceBNe, Int.reduceAdd, Int.reduceSub, Int.reduceMul, Int.reduceNeg])) (AH.le_refl _) ?_
          · simp only [mu]; simp only [mu] at hf; omega
          · simp only; omega
          · exact ⟨rowsS _, by rw [List.length_map, setN_len]; exact hle, by rw [List.length_map, setN_len]; omega, .inr ⟨b0, bs, rfl, find_add_self _ _ _, hbs, hfr⟩⟩
          · simp only [mu]; omega
      | false =>
        have er : IntKind.i64.wrap ((r : Int) + 1) = ((r + 1 : Nat) : Int) := i64_succ (by omega)
        have ek : IntKind.i64.wrap ((r : Int) + ((srch L D r).2.1 : Int)) = ((r + (srch L D r).2.1 : Nat) : Int) := by rw [i64_eq (by omega) (by omega)]; omega
        have goon : ¬ ((srch L D r).2.1 = 1 ∧ gone D r = false) → (∃ f, mu L D (r + (srch L D r).2.1) < f ∧ runF D most f L (r + (srch L D r).2.1) = R) ∧ r + (srch L D r).2.1 + 67 * cntZ L ≤ D.length + 66 + 67 * cntZ L0 ∧ mu L D (r + (srch L D r).2.1) < mu L D r := fun h3 => by
          have hlt := mu_lost hr h2 h3
          have hrd := lost_lt hr h2 h3
          rw [run_lost h1 h2 h3] at hR
          exact ⟨⟨f, by omega, hR⟩, by omega, hlt⟩
        by_cases c1 : (srch L D r).2.1 = 1
        case neg =>
          have c1' : ¬ ((srch L D r).2.1 : Int) = 1 := by omega
          obtain ⟨hV, hb', hmu⟩ := goon (fun h => c1 h.1)
          simp (dsimp := false) (maxSteps := 4000000) only [c1', ek, go_sem, ↓reduceIte, Nat.reduceEqDiff, Nat.reduceLT, Nat.reduceLeDiff, Nat.reduceAdd, Nat.reduceMul, Nat.reduceSub, reduceCtorEq, Int.reduceToNat, Int.reduceLT, Int.reduceLE, Int.reduceEq, Int.reduceNe, Int.reduceBEq, Nat.reduceBEq, Int.reduceBNe, Nat.reduceBNe, Int.reduceAdd, Int.reduceSub, Int.reduceMul, Int.reduceNeg]
          exact again (L, r + (srch L D r).2.1) _ _ _ ⟨hV, hl, hu, hr, ⟨hcz0, hb'⟩, hO, hK⟩ (FrLe.of_lks (by simp (dsimp := false) (maxSteps := 4000000) only [go_sem, ↓reduceIte, Nat.reduceEqDiff, Nat.reduceLT, Nat.reduceLeDiff, Nat.reduceAdd, Nat.reduceMul, Nat.reduceSub, reduceCtorEq, Int.reduceToNat, Int.reduceLT, Int.reduceLE, Int.reduceEq, Int.reduceNe, Int.reduceBEq, Nat.reduceBEq, Int.reduceBNe, Nat.reduceBNe, Int.reduceAdd, Int.reduceSub, Int.reduceMul, Int.reduceNeg])) (AH.le_refl _) hmu
        have c1' : ((srch L D r).2.1 : Int) = 1 := by omega
        simp (dsimp := false) (maxSteps := 4000000) only [c1', go_sem, ↓reduceIte, Nat.reduceEqDiff, Nat.reduceLT, Nat.reduceLeDiff, Nat.reduceAdd, Nat.reduceMul, Nat.reduceSub, reduceCtorEq, Int.reduceToNat, Int.reduceLT, Int.reduceLE, Int.reduceEq, Int.reduceNe, Int.reduceBEq, Nat.reduceBEq, Int.reduceBNe, Nat.reduceBNe, Int.reduceAdd, Int.reduceSub, Int.reduceMul, Int.reduceNeg]
        refine (gone_c D r db dc _ hDA).mono ?_; rintro _ _ ⟨rfl, rfl⟩
        cases hg : gone D r with
        | true =>
          obtain ⟨hV, hb', hmu⟩ := goon (fun h => by rw [hg] at h; cases h.2)
          rw [c1] at hV hb' hmu
          simp (dsimp := false) (maxSteps := 4000000) only [er, c1', go_sem, ↓reduceIte, Nat.reduceEqDiff, Nat.reduceLT, Nat.reduceLeDiff, Nat.reduceAdd, Nat.reduceMul, Nat.reduceSub, reduceCtorEq, Int.reduceToNat, Int.reduceLT, Int.reduceLE, Int.reduceEq, Int.reduceNe, Int.reduceBEq, Nat.reduceBEq, Int.reduceBNe, Nat.reduceBNe, Int.reduceAdd, Int.reduceSub, Int.reduceMul, Int.reduceNeg]
          exact again (L, r + 1) _ _ _ ⟨hV, hl, hu, hr, ⟨hcz0, hb'⟩, hO, hK⟩ (FrLe.of_lks (by simp (dsimp := false) (maxSteps := 4000000) only [go_sem, ↓reduceIte, Nat.reduceEqDiff, Nat.reduceLT, Nat.reduceLeDiff, Nat.reduceAdd, Nat.reduceMul, Nat.reduceSub, reduceCtorEq, Int.reduceToNat, Int.reduceLT, Int.reduceLE, Int.reduceEq, Int.reduceNe, Int.reduceBEq, Nat.reduceBEq, Int.reduceBNe, Nat.reduceBNe, Int.reduceAdd, Int.reduceSub, Int.reduceMul, Int.reduceNeg])) (AH.le_refl _) hmu
        | false =>
          rw [run_done h1 h2 ⟨c1, hg⟩] at hR
          subst hR
          simp (dsimp := false) (maxSteps := 4000000) only [er, go_sem, ↓reduceIte, Nat.reduceEqDiff, Nat.reduceLT, Nat.reduceLeDiff, Nat.reduceAdd, Nat.reduceMul, Nat.reduceSub, reduceCtorEq, Int.reduceToNat, Int.reduceLT, Int.reduceLE, Int.reduceEq, Int.reduceNe, Int.reduceBEq, Nat.reduceBEq, Int.reduceBNe, Nat.reduceBNe, Int.reduceAdd, Int.reduceSub, Int.reduceMul, Int.reduceNeg]
          refine out _ _ _ (by simp) ?_
          simp (dsimp := false) (maxSteps := 4000000) only [go_sem, ↓reduceIte, Nat.reduceEqDiff, Nat.reduceLT, Nat.reduceLeDiff, Nat.reduceAdd, Nat.reduceMul, Nat.reduceSub, reduceCtorEq, Int.reduceToNat, Int.reduceLT, Int.reduceLE, Int.reduceEq, Int.reduceNe, Int.reduceBEq, Nat.reduceBEq, Int.reduceBNe, Nat.reduceBNe, Int.reduceAdd, Int.reduceSub, Int.reduceMul, Int.reduceNeg]
          exact ⟨A, AH.le_refl _, bl, cl, by rw [hl], hS, hK⟩
  | false =>
    obtain ⟨n1, b1, hfv⟩ : ∃ (n : Int) (b : Bool), freeV (freev L most) = .tuple #[.int .i64 n, .bool b] := by
      cases freev L most with
      | none => exact ⟨0, false, rfl⟩
      | some m => exact ⟨m, true, rfl⟩
    have ha := leastI_none hat
    rw [hl] at ha
    rw [hfv]
    simp (dsimp := false) (maxSteps := 4000000) only [ha, go_sem, ↓reduceIte, Nat.reduceEqDiff, Nat.reduceLT, Nat.reduceLeDiff, Nat.reduceAdd, Nat.reduceMul, Nat.reduceSub, reduceCtorEq, Int.reduceToNat, Int.reduceLT, Int.reduceLE, Int.reduceEq, Int.reduceNe, Int.reduceBEq, Nat.reduceBEq, Int.reduceBNe, Nat.reduceBNe, Int.reduceAdd, Int.reduceSub, Int.reduceMul, Int.reduceNeg]
    refine (search).mono ?_; rintro _ _ ⟨rfl, rfl⟩
    simp (dsimp := false) (maxSteps := 4000000) only [go_sem, ↓reduceIte, Nat.reduceEqDiff, Nat.reduceLT, Nat.reduceLeDiff, Nat.reduceAdd, Nat.reduceMul, Nat.reduceSub, reduceCtorEq, Int.reduceToNat, Int.reduceLT, Int.reduceLE, Int.reduceEq, Int.reduceNe, Int.reduceBEq, Nat.reduceBEq, Int.reduceBNe, Nat.reduceBNe, Int.reduceAdd, Int.reduceSub, Int.reduceMul, Int.reduceNeg]
    cases h2 : (srch L D r).2.2 with
      | true =>
        obtain ⟨_, _, _, _, _, _, ha⟩ := srch_found h2
        rw [hat] at ha; cases ha
      | false =>
        have er : IntKind.i64.wrap ((r : Int) + 1) = ((r + 1 : Nat) : Int) := i64_succ (by omega)
        have ek : IntKind.i64.wrap ((r : Int) + ((srch L D r).2.1 : Int)) = ((r + (srch L D r).2.1 : Nat) : Int) := by rw [i64_eq (by omega) (by omega)]; omega
        have goon : ¬ ((srch L D r).2.1 = 1 ∧ gone D r = false) → (∃ f, mu L D (r + (srch L D r).2.1) < f ∧ runF D most f L (r + (srch L D r).2.1) = R) ∧ r + (srch L D r).2.1 + 67 * cntZ L ≤ D.length + 66 + 67 * cntZ L0 ∧ mu L D (r + (srch L D r).2.1) < mu L D r := fun h3 => by
          have hlt := mu_lost hr h2 h3
          have hrd := lost_lt hr h2 h3
          rw [run_lost h1 h2 h3] at hR
          exact ⟨⟨f, by omega, hR⟩, by omega, hlt⟩
        by_cases c1 : (srch L D r).2.1 = 1
        case neg =>
          have c1' : ¬ ((srch L D r).2.1 : Int) = 1 := by omega
          obtain ⟨hV, hb', hmu⟩ := goon (fun h => c1 h.1)
          simp (dsimp := false) (maxSteps := 4000000) only [c1', ek, go_sem, ↓reduceIte, Nat.reduceEqDiff, Nat.reduceLT, Nat.reduceLeDiff, Nat.reduceAdd, Nat.reduceMul, Nat.reduceSub, reduceCtorEq, Int.reduceToNat, Int.reduceLT, Int.reduceLE, Int.reduceEq, Int.reduceNe, Int.reduceBEq, Nat.reduceBEq, Int.reduceBNe, Nat.reduceBNe, Int.reduceAdd, Int.reduceSub, Int.reduceMul, Int.reduceNeg]
          exact again (L, r + (srch L D r).2.1) _ _ _ ⟨hV, hl, hu, hr, ⟨hcz0, hb'⟩, hO, hK⟩ (FrLe.of_lks (by simp (dsimp := false) (maxSteps := 4000000) only [go_sem, ↓reduceIte, Nat.reduceEqDiff, Nat.reduceLT, Nat.reduceLeDiff, Nat.reduceAdd, Nat.reduceMul, Nat.reduceSub, reduceCtorEq, Int.reduceToNat, Int.reduceLT, Int.reduceLE, Int.reduceEq, Int.reduceNe, Int.reduceBEq, Nat.reduceBEq, Int.reduceBNe, Nat.reduceBNe, Int.reduceAdd, Int.reduceSub, Int.reduceMul, Int.reduceNeg])) (AH.le_refl _) hmu
        have c1' : ((srch L D r).2.1 : Int) = 1 := by omega
        simp (dsimp := false) (maxSteps := 4000000) only [c1', go_sem, ↓reduceIte, Nat.reduceEqDiff, Nat.reduceLT, Nat.reduceLeDiff, Nat.reduceAdd, Nat.reduceMul, Nat.reduceSub, reduceCtorEq, Int.reduceToNat, Int.reduceLT, Int.reduceLE, Int.reduceEq, Int.reduceNe, Int.reduceBEq, Nat.reduceBEq, Int.reduceBNe, Nat.reduceBNe, Int.reduceAdd, Int.reduceSub, Int.reduceMul, Int.reduceNeg]
        refine (gone_c D r db dc _ hDA).mono ?_; rintro _ _ ⟨rfl, rfl⟩
        cases hg : gone D r with
        | true =>
          obtain ⟨hV, hb', hmu⟩ := goon (fun h => by rw [hg] at h; cases h.2)
          rw [c1] at hV hb' hmu
          simp (dsimp := false) (maxSteps := 4000000) only [er, c1', go_sem, ↓reduceIte, Nat.reduceEqDiff, Nat.reduceLT, Nat.reduceLeDiff, Nat.reduceAdd, Nat.reduceMul, Nat.reduceSub, reduceCtorEq, Int.reduceToNat, Int.reduceLT, Int.reduceLE, Int.reduceEq, Int.reduceNe, Int.reduceBEq, Nat.reduceBEq, Int.reduceBNe, Nat.reduceBNe, Int.reduceAdd, Int.reduceSub, Int.reduceMul, Int.reduceNeg]
          exact again (L, r + 1) _ _ _ ⟨hV, hl, hu, hr, ⟨hcz0, hb'⟩, hO, hK⟩ (FrLe.of_lks (by simp (dsimp := false) (maxSteps := 4000000) only [go_sem, ↓reduceIte, Nat.reduceEqDiff, Nat.reduceLT, Nat.reduceLeDiff, Nat.reduceAdd, Nat.reduceMul, Nat.reduceSub, reduceCtorEq, Int.reduceToNat, Int.reduceLT, Int.reduceLE, Int.reduceEq, Int.reduceNe, Int.reduceBEq, Nat.reduceBEq, Int.reduceBNe, Nat.reduceBNe, Int.reduceAdd, Int.reduceSub, Int.reduceMul, Int.reduceNeg])) (AH.le_refl _) hmu
        | false =>
          rw [run_done h1 h2 ⟨c1, hg⟩] at hR
          subst hR
          simp (dsimp := false) (maxSteps := 4000000) only [er, go_sem, ↓reduceIte, Nat.reduceEqDiff, Nat.reduceLT, Nat.reduceLeDiff, Nat.reduceAdd, Nat.reduceMul, Nat.reduceSub, reduceCtorEq, Int.reduceToNat, Int.reduceLT, Int.reduceLE, Int.reduceEq, Int.reduceNe, Int.reduceBEq, Nat.reduceBEq, Int.reduceBNe, Nat.reduceBNe, Int.reduceAdd, Int.reduceSub, Int.reduceMul, Int.reduceNeg]
          refine out _ _ _ (by simp) ?_
          simp (dsimp := false) (maxSteps := 4000000) only [go_sem, ↓reduceIte, Nat.reduceEqDiff, Nat.reduceLT, Nat.reduceLeDiff, Nat.reduceAdd, Nat.reduceMul, Nat.reduceSub, reduceCtorEq, Int.reduceToNat, Int.reduceLT, Int.reduceLE, Int.reduceEq, Int.reduceNe, Int.reduceBEq, Nat.reduceBEq, Int.reduceBNe, Nat.reduceBNe, Int.reduceAdd, Int.reduceSub, Int.reduceMul, Int.reduceNeg]
          exact ⟨A, AH.le_refl _, bl, cl, by rw [hl], hS, hK⟩
end Go.Proofs.Ytgikjbfpckjkoaa.BapN
