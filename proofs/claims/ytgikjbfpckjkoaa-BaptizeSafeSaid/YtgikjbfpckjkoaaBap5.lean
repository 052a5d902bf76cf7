/- baptize: Run. -/
import Derived.Test.YtgikjbfpckjkoaaBap4
namespace Go.Proofs.Ytgikjbfpckjkoaa.BapN
set_option linter.unusedSimpArgs false
set_option linter.unusedVariables false
open Go Go.AX Go.Proofs Ty
set_option maxHeartbeats 4000000
set_option maxRecDepth 10000

theorem _root_.Go.AX.Keep.under2 {H A : AH} {b1 b2 : Nat} {k1 k2 : ABlk} (h : Keep H A fun _ => False) (f1 : Fresh H b1) (f2 : Fresh H b2) : Keep H ((((A.del b1).del b2).add b1 k1).add b2 k2) fun _ => False := ⟨h.w0, fun b hb hk => by
  have ne : ∀ c, Fresh H c → b ≠ c := fun c hc e => by
    subst e
    rcases hk with hk | hk
    · rw [hc.2] at hk; cases hk
    · have := hc.1; omega
  rw [find_add, if_neg (ne b2 f2), find_add, if_neg (ne b1 f1), find_del, if_neg (ne b2 f2), find_del, if_neg (ne b1 f1)]
  exact h.at_ b hb hk⟩
theorem _root_.Go.AX.SlcIn.recap {H : AH} {sz cap cap' : Nat} {base : Option Addr} {R : List (List Value)} (h : SlcIn H sz base cap R) (hc : R.length ≤ cap') : SlcIn H sz base cap' R := ⟨hc, h.big, h.at_, h.rd, h.row⟩
theorem runP_c (s : Slv) (p : Int) (b : Nat) (H : AH) (hb : H.rd ⟨b, 0, none⟩ = some (.int .u64 p)) : ACalls Try.prog 68 (.agg (enc s).toArray :: [.pointer (some ⟨b, 0, none⟩)]).toArray H (fun v H' => v = .bool (s.phys == p) ∧ H = H') := by
  refine ACalls.enter2 Try.func68 rfl Try.ntmps68 Try.results68 (by simp) ?_; simp (dsimp := false) (maxSteps := 4000000) only [enc_mk, go_sem, ↓reduceIte, Nat.reduceEqDiff, Nat.reduceLT, Nat.reduceLeDiff, Nat.reduceAdd, Nat.reduceMul, Nat.reduceSub, reduceCtorEq, Int.reduceToNat, Int.reduceLT, Int.reduceLE, Int.reduceEq, Int.reduceNe, Int.reduceBEq, Nat.reduceBEq, Int.reduceBNe, Nat.reduceBNe, Int.reduceAdd, Int.reduceSub, Int.reduceMul, Int.reduceNeg]
  refine AllB.mk fun b2 h_b2 => ?_; have hn_b2 := h_b2; (try simp only [fresh_add, fresh_set, ne_eq] at hn_b2); have hr_b2 := hn_b2; (try simp only [@eq_comm Nat b2] at hr_b2); simp (dsimp := false) (maxSteps := 4000000) only [enc_mk, hn_b2, hr_b2, go_sem, ↓reduceIte, Nat.reduceEqDiff, Nat.reduceLT, Nat.reduceLeDiff, Nat.reduceAdd, Nat.reduceMul, Nat.reduceSub, reduceCtorEq, Int.reduceToNat, Int.reduceLT, Int.reduceLE, Int.reduceEq, Int.reduceNe, Int.reduceBEq, Nat.reduceBEq, Int.reduceBNe, Nat.reduceBNe, Int.reduceAdd, Int.reduceSub, Int.reduceMul, Int.reduceNeg]
  have nr_hb := (Fresh.ne_rd (by simp only [hn_b2] : Fresh H b2) hb)
  simp (dsimp := false) (maxSteps := 4000000) only [hb, nr_hb, enc_mk, hn_b2, hr_b2, go_sem, ↓reduceIte, Nat.reduceEqDiff, Nat.reduceLT, Nat.reduceLeDiff, Nat.reduceAdd, Nat.reduceMul, Nat.reduceSub, reduceCtorEq, Int.reduceToNat, Int.reduceLT, Int.reduceLE, Int.reduceEq, Int.reduceNe, Int.reduceBEq, Nat.reduceBEq, Int.reduceBNe, Nat.reduceBNe, Int.reduceAdd, Int.reduceSub, Int.reduceMul, Int.reduceNeg]
  exact ⟨H, (AH.le_add (AH.le_refl _) ((by simp only [fresh_add, fresh_set, ne_eq, hn_b2, not_false_eq_true, and_self] : Fresh _ b2).2)), (by first | exact ⟨rfl, rfl⟩ | rfl)⟩
theorem Run_c (L0 : List Slv) (hL0 : L0.length ≤ 1000) (hu0 : uniq L0) (hr0 : rng L0) (lb0 : Option Addr) (lc0 : Nat) (most : Int) (D : List Bool) (hD1 : D.length ≤ 1000) (db : Option Addr) (dc : Nat) (F : Nat) (hF : mu L0 D 0 < F) (H : AH) (hs : SlcIn H 2 lb0 lc0 (L0.map enc)) (hD : SlcIn H 1 db dc (D.map encb)) :
    ACalls Try.prog 18 #[.slice lb0 L0.length lc0, .int .i64 most, .slice db D.length dc] H (fun v H' => ∃ b c, v = .tuple #[.slice b (runF D most F L0 0).1.length c, .int .i64 (runF D most F L0 0).2.1, .int .i64 (runF D most F L0 0).2.2] ∧ SlcIn H' 2 b c ((runF D most F L0 0).1.map enc) ∧ Keep H H' fun _ => False) := by
  generalize hR : runF D most F L0 0 = R
  have hN : cntZ L0 ≤ 1000 := Nat.le_trans List.countP_le_length hL0
  refine ACalls.enter2 Try.func18 rfl Try.ntmps18 Try.results18 (by simp) ?_; simp (dsimp := false) (maxSteps := 4000000) only [go_sem, ↓reduceIte, Nat.reduceEqDiff, Nat.reduceLT, Nat.reduceLeDiff, Nat.reduceAdd, Nat.reduceMul, Nat.reduceSub, reduceCtorEq, Int.reduceToNat, Int.reduceLT, Int.reduceLE, Int.reduceEq, Int.reduceNe, Int.reduceBEq, Nat.reduceBEq, Int.reduceBNe, Nat.reduceBNe, Int.reduceAdd, Int.reduceSub, Int.reduceMul, Int.reduceNeg]
  refine (Clone_o L0 hL0 lb0 lc0 _ hs).mono ?_; rintro _ A0 ⟨bl, cl, rfl, hO, hK⟩
  simp (dsimp := false) (maxSteps := 4000000) only [go_sem, ↓reduceIte, Nat.reduceEqDiff, Nat.reduceLT, Nat.reduceLeDiff, Nat.reduceAdd, Nat.reduceMul, Nat.reduceSub, reduceCtorEq, Int.reduceToNat, Int.reduceLT, Int.reduceLE, Int.reduceEq, Int.reduceNe, Int.reduceBEq, Nat.reduceBEq, Int.reduceBNe, Nat.reduceBNe, Int.reduceAdd, Int.reduceSub, Int.reduceMul, Int.reduceNeg]
  have hcl := hO.le
  rw [List.length_map] at hcl
  refine (Clip_c bl L0.length cl hcl _).mono ?_; rintro _ _ ⟨rfl, rfl⟩
  simp (dsimp := false) (maxSteps := 4000000) only [go_sem, ↓reduceIte, Nat.reduceEqDiff, Nat.reduceLT, Nat.reduceLeDiff, Nat.reduceAdd, Nat.reduceMul, Nat.reduceSub, reduceCtorEq, Int.reduceToNat, Int.reduceLT, Int.reduceLE, Int.reduceEq, Int.reduceNe, Int.reduceBEq, Nat.reduceBEq, Int.reduceBNe, Nat.reduceBNe, Int.reduceAdd, Int.reduceSub, Int.reduceMul, Int.reduceNeg]
  refine AllB.mk fun bm h_bm => ?_
  have fm : Fresh H bm := hK.fr h_bm
  have hne0 : ∀ a, bl = some a → ¬ a.block = bm := fun a ha => hO.ne h_bm a ha
  simp (dsimp := false) (maxSteps := 4000000) only [go_sem, ↓reduceIte, Nat.reduceEqDiff, Nat.reduceLT, Nat.reduceLeDiff, Nat.reduceAdd, Nat.reduceMul, Nat.reduceSub, reduceCtorEq, Int.reduceToNat, Int.reduceLT, Int.reduceLE, Int.reduceEq, Int.reduceNe, Int.reduceBEq, Nat.reduceBEq, Int.reduceBNe, Nat.reduceBNe, Int.reduceAdd, Int.reduceSub, Int.reduceMul, Int.reduceNeg]
  refine AWp.loopr (ι := List Slv × Nat) (fun x A => (∃ f, mu x.1 D x.2 < f ∧ runF D most f x.1 x.2 = R) ∧ x.1.length = L0.length ∧ uniq x.1 ∧ rng x.1 ∧ (cntZ x.1 ≤ cntZ L0 ∧ x.2 + 67 * cntZ x.1 ≤ D.length + 66 + 67 * cntZ L0) ∧ (∃ c, OwnS H A 66 2 bl c (x.1.map enc)) ∧ A.find bm = some (mst bl L0.length L0.length db D.length dc x.2) ∧ Keep H A fun _ => False)
    (fun x => [(9, .pointer (some ⟨bm, 0, none⟩)), (1, .int .i64 most), (2, .slice db D.length dc)]) (fun x => mu x.1 D x.2) (L0, 0) (A0.add bm (mst bl L0.length L0.length db D.length dc 0))
    ⟨⟨F, hF, hR⟩, rfl, hu0, hr0, by simp only; omega, ⟨cl, hO.added h_bm⟩, find_add_self _ _ _, hK.nw h_bm⟩ (FrLe.of_lks ?_) ?_ fun x A hi Q again out => ?_
  · simp (dsimp := false) (maxSteps := 4000000) only [go_sem, ↓reduceIte, Nat.reduceEqDiff, Nat.reduceLT, Nat.reduceLeDiff, Nat.reduceAdd, Nat.reduceMul, Nat.reduceSub, reduceCtorEq, Int.reduceToNat, Int.reduceLT, Int.reduceLE, Int.reduceEq, Int.reduceNe, Int.reduceBEq, Nat.reduceBEq, Int.reduceBNe, Nat.reduceBNe, Int.reduceAdd, Int.reduceSub, Int.reduceMul, Int.reduceNeg]
  · exact AH.le_refl _
  clear hO hK hs h_bm hR hF
  obtain ⟨L, r⟩ := x
  obtain ⟨⟨f, hf, hR⟩, hl, hu, hr, ⟨hcz0, hb⟩, ⟨c, hO⟩, hm, hK⟩ := hi
  dsimp only at hf hR hl hu hr hcz0 hb hO hm again ⊢
  obtain ⟨f, rfl⟩ : ∃ g, f = g + 1 := ⟨f - 1, by omega⟩
  have hS : SlcIn A 2 bl L0.length (L.map enc) := hO.slc.recap (by rw [List.length_map, hl]; exact Nat.le_refl _)
  have hDA : SlcIn A 1 db dc (D.map encb) := hD.keep hK fun _ _ h => h
  have m0 : A.rd ⟨bm, 0, none⟩ = some (.slice bl L0.length L0.length) := by rw [rd_find hm]; rfl
  have m2 : A.rd ⟨bm, 2, none⟩ = some (.int .i64 r) := by rw [rd_find hm]; rfl
  have least : ACalls Try.prog 64 #[.slice bl L0.length L0.length] A (fun v H' => v = .tuple #[.int .u64 (leastP L L.length), .bool (atN L L.length).isSome] ∧ A = H') := by
    have := Least_c L bl L0.length A hS
    rwa [hl] at this ⊢
  have free : ACalls Try.prog 65 #[.slice bl L0.length L0.length, .int .i64 most] A (fun v H' => v = freeV (freev L most) ∧ A = H') := by
    have := Free_c L most bl L0.length A hS
    rwa [hl] at this
  simp (dsimp := false) (maxSteps := 4000000) only [m0, go_sem, ↓reduceIte, Nat.reduceEqDiff, Nat.reduceLT, Nat.reduceLeDiff, Nat.reduceAdd, Nat.reduceMul, Nat.reduceSub, reduceCtorEq, Int.reduceToNat, Int.reduceLT, Int.reduceLE, Int.reduceEq, Int.reduceNe, Int.reduceBEq, Nat.reduceBEq, Int.reduceBNe, Nat.reduceBNe, Int.reduceAdd, Int.reduceSub, Int.reduceMul, Int.reduceNeg]
  refine (least).mono ?_; rintro _ _ ⟨rfl, rfl⟩
  simp (dsimp := false) (maxSteps := 4000000) only [m0, go_sem, ↓reduceIte, Nat.reduceEqDiff, Nat.reduceLT, Nat.reduceLeDiff, Nat.reduceAdd, Nat.reduceMul, Nat.reduceSub, reduceCtorEq, Int.reduceToNat, Int.reduceLT, Int.reduceLE, Int.reduceEq, Int.reduceNe, Int.reduceBEq, Nat.reduceBEq, Int.reduceBNe, Nat.reduceBNe, Int.reduceAdd, Int.reduceSub, Int.reduceMul, Int.reduceNeg]
  refine (free).mono ?_; rintro _ _ ⟨rfl, rfl⟩
  cases h1 : ((atN L L.length).isSome && (freev L most).isNone) with
  | true =>
    rw [run_full h1] at hR
    subst hR
    rw [Bool.and_eq_true] at h1
    have hn : freev L most = none := Option.isNone_iff_eq_none.1 h1.2
    rw [hn]
    simp (dsimp := false) (maxSteps := 4000000) only [h1.1, freeV, go_sem, ↓reduceIte, Nat.reduceEqDiff, Nat.reduceLT, Nat.reduceLeDiff, Nat.reduceAdd, Nat.reduceMul, Nat.reduceSub, reduceCtorEq, Int.reduceToNat, Int.reduceLT, Int.reduceLE, Int.reduceEq, Int.reduceNe, Int.reduceBEq, Nat.reduceBEq, Int.reduceBNe, Nat.reduceBNe, Int.reduceAdd, Int.reduceSub, Int.reduceMul, Int.reduceNeg]
    refine AWp.gen [.pu, .pu, .pu, .rd, .pu, .pu, .pu, .rd, .pu, .pu, .pu] [0, 1, 3, 7, 0, 16, 48, 112, 15, 511, 1023] 0 (_) mixed (by kernel_rfl) (AH.le_refl _) ?_
    simp (dsimp := false) (maxSteps := 4000000) only [m0, m2, go_sem, ↓reduceIte, Nat.reduceEqDiff, Nat.reduceLT, Nat.reduceLeDiff, Nat.reduceAdd, Nat.reduceMul, Nat.reduceSub, reduceCtorEq, Int.reduceToNat, Int.reduceLT, Int.reduceLE, Int.reduceEq, Int.reduceNe, Int.reduceBEq, Nat.reduceBEq, Int.reduceBNe, Nat.reduceBNe, Int.reduceAdd, Int.reduceSub, Int.reduceMul, Int.reduceNeg]
    refine out _ _ _ (by simp) ?_
    simp (dsimp := false) (maxSteps := 4000000) only [go_sem, ↓reduceIte, Nat.reduceEqDiff, Nat.reduceLT, Nat.reduceLeDiff, Nat.reduceAdd, Nat.reduceMul, Nat.reduceSub, reduceCtorEq, Int.reduceToNat, Int.reduceLT, Int.reduceLE, Int.reduceEq, Int.reduceNe, Int.reduceBEq, Nat.reduceBEq, Int.reduceBNe, Nat.reduceBNe, Int.reduceAdd, Int.reduceSub, Int.reduceMul, Int.reduceNeg]
    exact ⟨A, AH.le_refl _, bl, L0.length, by rw [hl], hS, hK⟩
  | false =>
  have hrb : r < 900000000 := by omega
  have hsc := srch_pos L D r
  have search := search_c L bl L0.length D db dc bm r A (by rw [hl]; exact hm) (fun B hk => hS.past (.inr hne0) hk) (fun B hk => hDA.past (hD.apart fm) hk) hrb
  rw [hl] at search
  cases hat : (atN L L.length).isSome with
  | true =>
    have hn0 : ∃ n, freev L most = some n := by
      cases hn : freev L most with
      | none => rw [hat, hn] at h1; cases h1
      | some n => exact ⟨n, rfl⟩
    obtain ⟨n, hn⟩ := hn0
    rw [hn]
    simp (dsimp := false) (maxSteps := 4000000) only [hat, freeV, m2, go_sem, ↓reduceIte, Nat.reduceEqDiff, Nat.reduceLT, Nat.reduceLeDiff, Nat.reduceAdd, Nat.reduceMul, Nat.reduceSub, reduceCtorEq, Int.reduceToNat, Int.reduceLT, Int.reduceLE, Int.reduceEq, Int.reduceNe, Int.reduceBEq, Nat.reduceBEq, Int.reduceBNe, Nat.reduceBNe, Int.reduceAdd, Int.reduceSub, Int.reduceMul, Int.reduceNeg]
    refine search.mono ?_; rintro _ A1 ⟨rfl, m1, K1⟩
    have hO1 := hO.keep K1 hne0
    have hK1 := hK.ow K1 fun b e => e ▸ fm
    have m12 : A1.rd ⟨bm, 2, none⟩ = some (.int .i64 ((r + (srch L D r).2.1 : Nat) : Int)) := by rw [rd_find m1]; rfl
    cases h2 : (srch L D r).2.2 with
      | true =>
        obtain ⟨n', k, s, hn', hk, hs0, hp, h66, hset, huN, hcz, hidx⟩ := found_at hu h1 h2
        rw [hn] at hn'; cases hn'
        rw [run_found h1 h2 hn] at hR
        have hkl := lt_of_get hk
        obtain ⟨b0, bs, rfl, hfb, hbs, hfr⟩ : ∃ b bs, bl = some ⟨b, 0, none⟩ ∧ A1.find b = some (.cells (L.map enc).flatten 66 bs) ∧ c * 2 ≤ bs ∧ Fresh H b := by
          rcases hO1.at_ with ⟨_, h0, _⟩ | ⟨b, bs, h1, h2, h3, h4⟩
          · rw [List.map_eq_nil_iff] at h0
            rw [h0] at hkl; simp at hkl
          · exact ⟨b, bs, h1, h2, h3, h4⟩
        have hneb : ¬ b0 = bm := hne0 _ rfl
        have hS1 : SlcIn A1 2 (some ⟨b0, 0, none⟩) L0.length (L.map enc) := hO1.slc.recap (by rw [List.length_map, hl]; exact Nat.le_refl _)
        simp (dsimp := false) (maxSteps := 4000000) only [go_sem, ↓reduceIte, Nat.reduceEqDiff, Nat.reduceLT, Nat.reduceLeDiff, Nat.reduceAdd, Nat.reduceMul, Nat.reduceSub, reduceCtorEq, Int.reduceToNat, Int.reduceLT, Int.reduceLE, Int.reduceEq, Int.reduceNe, Int.reduceBEq, Nat.reduceBEq, Int.reduceBNe, Nat.reduceBNe, Int.reduceAdd, Int.reduceSub, Int.reduceMul, Int.reduceNeg]
        refine AllB.mk fun b15 h_b15 => ?_
        have hne : ¬ b15 = bm := h_b15.ne_find m1
        have hneb5 : ¬ b15 = b0 := h_b15.ne_find hfb
        have m10 : ∀ k, (A1.add b15 k).rd ⟨bm, 0, none⟩ = some (.slice (some ⟨b0, 0, none⟩) L0.length L0.length) := fun k => by rw [rd_add_ne _ hne, rd_find m1]; rfl
        simp (dsimp := false) (maxSteps := 4000000) only [m10, go_sem, ↓reduceIte, Nat.reduceEqDiff, Nat.reduceLT, Nat.reduceLeDiff, Nat.reduceAdd, Nat.reduceMul, Nat.reduceSub, reduceCtorEq, Int.reduceToNat, Int.reduceLT, Int.reduceLE, Int.reduceEq, Int.reduceNe, Int.reduceBEq, Nat.reduceBEq, Int.reduceBNe, Nat.reduceBNe, Int.reduceAdd, Int.reduceSub, Int.reduceMul, Int.reduceNeg]
        have index := IndexFunc_c 68 [.pointer (some ⟨b15, 0, none⟩)] (by kernel_rfl) (fun t => t.phys == (srch L D r).1) L (some ⟨b0, 0, none⟩) L0.length _ (hS1.add (k := .cells [.int .u64 (srch L D r).1] 24 1) h_b15) fun s _ => runP_c s (srch L D r).1 b15 _ (by rw [rd_add_self]; rfl)
        rw [hl] at index
        refine index.monoW ?_; rintro _ _ ⟨rfl, rfl⟩
        rw [hidx]
        have q1 : (A1.add b15 (.cells [.int .u64 (srch L D r).1] 24 1)).find b0 = some (.cells (L.map enc).flatten 66 bs) := by rw [find_add_ne _ hneb5]; exact hfb
        have q2 : (A1.add b15 (.cells [.int .u64 (srch L D r).1] 24 1)).find bm = some (mst (some ⟨b0, 0, none⟩) L0.length L0.length db D.length dc (r + (srch L D r).2.1)) := by rw [find_add_ne _ hne]; exact m1
        refine ⟨_, top2 q1 q2, ?_⟩
        have hKt : ∀ k1 k2, Keep H (((((A1.add b15 (.cells [.int .u64 (srch L D r).1] 24 1)).del b0).del bm).add b0 k1).add bm k2) fun _ => False := fun k1 k2 => (hK1.nw h_b15).under2 hfr fm
        generalize ((A1.add b15 (.cells [.int .u64 (srch L D r).1] 24 1)).del b0).del bm = B at hKt ⊢
        have hneb' : ¬ bm = b0 := fun e => hneb e.symm
        have kl : (k : Int) < L0.length := by omega
        have hfl : (L.map enc).flatten.length = L0.length * 2 := by rw [flatS_len, hl]
        have k2 : k * 2 + 1 + 1 ≤ L0.length * 2 := by omega
        have k3 : L0.length * 2 ≤ bs := by have := hO1.le; rw [List.length_map, hl] at this; omega
        have hset2 := setName (n := n) hk
        have e67 : IntKind.i64.wrap (((r + (srch L D r).2.1 : Nat) : Int) + 1) = ((r + (srch L D r).2.1 + 1 : Nat) : Int) := i64_succ (by omega)
        unfold mst
        simp (dsimp := false) (maxSteps := 4000000) only [hneb, hneb', kl, hfl, k2, k3, hset2, e67, go_sem, ↓reduceIte, Nat.reduceEqDiff, Nat.reduceLT, Nat.reduceLeDiff, Nat.reduceAdd, Nat.reduceMul, Nat.reduceSub, reduceCtorEq, Int.reduceToNat, Int.reduceLT, Int.reduceLE, Int.reduceEq, Int.reduceNe, Int.reduceBEq, Nat.reduceBEq, Int.reduceBNe, Nat.reduceBNe, Int.reduceAdd, Int.reduceSub, Int.reduceMul, Int.reduceNeg]
        have hle := hO1.le
        rw [List.length_map] at hle
        refine again (setN L (srch L D r).1 n, r + (srch L D r).2.1 + 1) _ _ _ ⟨⟨f, ?_, hR⟩, by simp only [setN_len]; exact hl, huN, rng_setN hr _ _, ?_, ⟨c, ?_⟩, find_add_self _ _ _, hKt _ _⟩ (FrLe.of_lks (by simp (dsimp := false) (maxSteps := 4000000) only [go_sem, ↓reduceIte, Nat.reduceEqDiff, Nat.reduceLT, Nat.reduceLeDiff, Nat.reduceAdd, Nat.reduceMul, Nat.reduceSub, reduceCtorEq, Int.reduceToNat, Int.reduceLT, Int.reduceLE, Int.reduceEq, Int.reduceNe, Int.reduceBEq, Nat.reduceBEq, Int.reduceBNe, Nat.reduceBNe, Int.reduceAdd, Int.reduceSub, Int.reduceMul, Int.reduceNeg])) (AH.le_refl _) ?_
        · simp only [mu]; simp only [mu] at hf; omega
        · simp only; omega
        · simp only [hset]
          exact ⟨rowsS _, by rw [List.length_map, List.length_set]; exact hle, by rw [List.length_map, List.length_set]; omega, .inr ⟨b0, bs, rfl, by rw [find_add_ne _ hneb']; exact find_add_self _ _ _, hbs, hfr⟩⟩
        · simp only [mu]; omega
      | false =>
        simp (dsimp := false) (maxSteps := 4000000) only [go_sem, ↓reduceIte, Nat.reduceEqDiff, Nat.reduceLT, Nat.reduceLeDiff, Nat.reduceAdd, Nat.reduceMul, Nat.reduceSub, reduceCtorEq, Int.reduceToNat, Int.reduceLT, Int.reduceLE, Int.reduceEq, Int.reduceNe, Int.reduceBEq, Nat.reduceBEq, Int.reduceBNe, Nat.reduceBNe, Int.reduceAdd, Int.reduceSub, Int.reduceMul, Int.reduceNeg]
        refine AllB.mk fun b15 h_b15 => ?_
        have hne : ¬ b15 = bm := h_b15.ne_find m1
        have m13 : ∀ k, (A1.add b15 k).rd ⟨bm, 2, none⟩ = some (.int .i64 ((r + (srch L D r).2.1 : Nat) : Int)) := fun k => by rw [rd_add_ne _ hne]; exact m12
        have m10 : ∀ k, (A1.add b15 k).rd ⟨bm, 0, none⟩ = some (.slice bl L0.length L0.length) := fun k => by rw [rd_add_ne _ hne, rd_find m1]; rfl
        have hS1 : SlcIn A1 2 bl L0.length (L.map enc) := hO1.slc.recap (by rw [List.length_map, hl]; exact Nat.le_refl _)
        have hD1A : SlcIn A1 1 db dc (D.map encb) := hD.keep hK1 fun _ _ h => h
        have er : IntKind.i64.wrap ((r : Int) + 1) = ((r + 1 : Nat) : Int) := i64_succ (by omega)
        have goon : ¬ ((srch L D r).2.1 = 1 ∧ gone D r = false) → ∀ k, ∃ i' : List Slv × Nat, ((∃ f, mu i'.1 D i'.2 < f ∧ runF D most f i'.1 i'.2 = R) ∧ i'.1.length = L0.length ∧ uniq i'.1 ∧ rng i'.1 ∧ (cntZ i'.1 ≤ cntZ L0 ∧ i'.2 + 67 * cntZ i'.1 ≤ D.length + 66 + 67 * cntZ L0) ∧ (∃ c, OwnS H A1 66 2 bl c (i'.1.map enc)) ∧ A1.find bm = some (mst bl L0.length L0.length db D.length dc i'.2) ∧ Keep H A1 fun _ => False) ∧ A1.le (A1.add b15 k) ∧ mu i'.1 D i'.2 < mu L D r := fun h3 k => by
          have hlt := mu_lost hr h2 h3
          have hrd := lost_lt hr h2 h3
          rw [run_lost h1 h2 h3] at hR
          exact ⟨(L, r + (srch L D r).2.1), ⟨⟨f, by simp only; omega, hR⟩, hl, hu, hr, by simp only; omega, ⟨c, hO1⟩, m1, hK1⟩, AH.le_add (AH.le_refl _) h_b15.2, hlt⟩
        by_cases c1 : (srch L D r).2.1 = 1
        case neg =>
          have c1' : ¬ ((r + (srch L D r).2.1 : Nat) : Int) = ((r + 1 : Nat) : Int) := by omega
          obtain ⟨i', hV, hle, hmu⟩ := goon (fun h => c1 h.1) _
          simp (dsimp := false) (maxSteps := 4000000) only [m13, er, c1', go_sem, ↓reduceIte, Nat.reduceEqDiff, Nat.reduceLT, Nat.reduceLeDiff, Nat.reduceAdd, Nat.reduceMul, Nat.reduceSub, reduceCtorEq, Int.reduceToNat, Int.reduceLT, Int.reduceLE, Int.reduceEq, Int.reduceNe, Int.reduceBEq, Nat.reduceBEq, Int.reduceBNe, Nat.reduceBNe, Int.reduceAdd, Int.reduceSub, Int.reduceMul, Int.reduceNeg]
          exact again i' _ _ _ hV (FrLe.of_lks (by simp (dsimp := false) (maxSteps := 4000000) only [go_sem, ↓reduceIte, Nat.reduceEqDiff, Nat.reduceLT, Nat.reduceLeDiff, Nat.reduceAdd, Nat.reduceMul, Nat.reduceSub, reduceCtorEq, Int.reduceToNat, Int.reduceLT, Int.reduceLE, Int.reduceEq, Int.reduceNe, Int.reduceBEq, Nat.reduceBEq, Int.reduceBNe, Nat.reduceBNe, Int.reduceAdd, Int.reduceSub, Int.reduceMul, Int.reduceNeg])) hle hmu
        have c1' : ((r + (srch L D r).2.1 : Nat) : Int) = ((r + 1 : Nat) : Int) := by omega
        by_cases c2 : (r : Int) < D.length
        case neg =>
          have hg := gone_no (D := D) (r := r) (by omega)
          rw [run_done h1 h2 ⟨c1, hg⟩] at hR
          subst hR
          simp (dsimp := false) (maxSteps := 4000000) only [m13, er, c1', c2, go_sem, ↓reduceIte, Nat.reduceEqDiff, Nat.reduceLT, Nat.reduceLeDiff, Nat.reduceAdd, Nat.reduceMul, Nat.reduceSub, reduceCtorEq, Int.reduceToNat, Int.reduceLT, Int.reduceLE, Int.reduceEq, Int.reduceNe, Int.reduceBEq, Nat.reduceBEq, Int.reduceBNe, Nat.reduceBNe, Int.reduceAdd, Int.reduceSub, Int.reduceMul, Int.reduceNeg]
          refine AWp.gen [.pu, .pu, .pu, .rd, .pu, .pu, .pu, .rd, .pu, .pu, .pu] [0, 1, 3, 7, 0, 16, 48, 112, 15, 511, 1023] 0 (_) mixed (by kernel_rfl) (AH.le_refl _) ?_
          simp (dsimp := false) (maxSteps := 4000000) only [m13, m10, c1', go_sem, ↓reduceIte, Nat.reduceEqDiff, Nat.reduceLT, Nat.reduceLeDiff, Nat.reduceAdd, Nat.reduceMul, Nat.reduceSub, reduceCtorEq, Int.reduceToNat, Int.reduceLT, Int.reduceLE, Int.reduceEq, Int.reduceNe, Int.reduceBEq, Nat.reduceBEq, Int.reduceBNe, Nat.reduceBNe, Int.reduceAdd, Int.reduceSub, Int.reduceMul, Int.reduceNeg]
          refine out _ _ _ (by simp) ?_
          simp (dsimp := false) (maxSteps := 4000000) only [go_sem, ↓reduceIte, Nat.reduceEqDiff, Nat.reduceLT, Nat.reduceLeDiff, Nat.reduceAdd, Nat.reduceMul, Nat.reduceSub, reduceCtorEq, Int.reduceToNat, Int.reduceLT, Int.reduceLE, Int.reduceEq, Int.reduceNe, Int.reduceBEq, Nat.reduceBEq, Int.reduceBNe, Nat.reduceBNe, Int.reduceAdd, Int.reduceSub, Int.reduceMul, Int.reduceNeg]
          exact ⟨A1, AH.le_add (AH.le_refl _) h_b15.2, bl, L0.length, by rw [hl], hS1, hK1⟩
        obtain ⟨y, hy⟩ := get_some (l := D) (i := r) (by omega)
        obtain ⟨bd, od, rfl, _, hrd⟩ := hD1A.get (map_get (f := encb) hy)
        have rg := hrd 0 _ rfl
        simp only [Nat.add_zero, Nat.mul_one] at rg
        have rg2 : ∀ k, (A1.add b15 k).rd ⟨bd, od + r, none⟩ = some (.bool y) := fun k => rd_mono h_b15 rg
        have hg := gone_at hy
        cases y with
        | true =>
          obtain ⟨i', hV, hle, hmu⟩ := goon (fun h => by rw [hg] at h; cases h.2) _
          simp (dsimp := false) (maxSteps := 4000000) only [m13, er, c1', c2, rg2, go_sem, ↓reduceIte, Nat.reduceEqDiff, Nat.reduceLT, Nat.reduceLeDiff, Nat.reduceAdd, Nat.reduceMul, Nat.reduceSub, reduceCtorEq, Int.reduceToNat, Int.reduceLT, Int.reduceLE, Int.reduceEq, Int.reduceNe, Int.reduceBEq, Nat.reduceBEq, Int.reduceBNe, Nat.reduceBNe, Int.reduceAdd, Int.reduceSub, Int.reduceMul, Int.reduceNeg]
          exact again i' _ _ _ hV (FrLe.of_lks (by simp (dsimp := false) (maxSteps := 4000000) only [go_sem, ↓reduceIte, Nat.reduceEqDiff, Nat.reduceLT, Nat.reduceLeDiff, Nat.reduceAdd, Nat.reduceMul, Nat.reduceSub, reduceCtorEq, Int.reduceToNat, Int.reduceLT, Int.reduceLE, Int.reduceEq, Int.reduceNe, Int.reduceBEq, Nat.reduceBEq, Int.reduceBNe, Nat.reduceBNe, Int.reduceAdd, Int.reduceSub, Int.reduceMul, Int.reduceNeg])) hle hmu
        | false =>
          rw [run_done h1 h2 ⟨c1, hg⟩] at hR
          subst hR
          simp (dsimp := false) (maxSteps := 4000000) only [m13, er, c1', c2, rg2, go_sem, ↓reduceIte, Nat.reduceEqDiff, Nat.reduceLT, Nat.reduceLeDiff, Nat.reduceAdd, Nat.reduceMul, Nat.reduceSub, reduceCtorEq, Int.reduceToNat, Int.reduceLT, Int.reduceLE, Int.reduceEq, Int.reduceNe, Int.reduceBEq, Nat.reduceBEq, Int.reduceBNe, Nat.reduceBNe, Int.reduceAdd, Int.reduceSub, Int.reduceMul, Int.reduceNeg]
          refine AWp.gen [.pu, .pu, .pu, .rd, .pu, .pu, .pu, .rd, .pu, .pu, .pu] [0, 1, 3, 7, 0, 16, 48, 112, 15, 511, 1023] 0 (_) mixed (by kernel_rfl) (AH.le_refl _) ?_
          simp (dsimp := false) (maxSteps := 4000000) only [m13, m10, c1', go_sem, ↓reduceIte, Nat.reduceEqDiff, Nat.reduceLT, Nat.reduceLeDiff, Nat.reduceAdd, Nat.reduceMul, Nat.reduceSub, reduceCtorEq, Int.reduceToNat, Int.reduceLT, Int.reduceLE, Int.reduceEq, Int.reduceNe, Int.reduceBEq, Nat.reduceBEq, Int.reduceBNe, Nat.reduceBNe, Int.reduceAdd, Int.reduceSub, Int.reduceMul, Int.reduceNeg]
          refine out _ _ _ (by simp) ?_
          simp (dsimp := false) (maxSteps := 4000000) only [go_sem, ↓reduceIte, Nat.reduceEqDiff, Nat.reduceLT, Nat.reduceLeDiff, Nat.reduceAdd, Nat.reduceMul, Nat.reduceSub, reduceCtorEq, Int.reduceToNat, Int.reduceLT, Int.reduceLE, Int.reduceEq, Int.reduceNe, Int.reduceBEq, Nat.reduceBEq, Int.reduceBNe, Nat.reduceBNe, Int.reduceAdd, Int.reduceSub, Int.reduceMul, Int.reduceNeg]
          exact ⟨A1, AH.le_add (AH.le_refl _) h_b15.2, bl, L0.length, by rw [hl], hS1, hK1⟩
  | false =>
    obtain ⟨n1, b1, hfv⟩ : ∃ (n : Int) (b : Bool), freeV (freev L most) = .tuple #[.int .i64 n, .bool b] := by
      cases freev L most with
      | none => exact ⟨0, false, rfl⟩
      | some m => exact ⟨m, true, rfl⟩
    rw [hfv]
    simp (dsimp := false) (maxSteps := 4000000) only [hat, m2, go_sem, ↓reduceIte, Nat.reduceEqDiff, Nat.reduceLT, Nat.reduceLeDiff, Nat.reduceAdd, Nat.reduceMul, Nat.reduceSub, reduceCtorEq, Int.reduceToNat, Int.reduceLT, Int.reduceLE, Int.reduceEq, Int.reduceNe, Int.reduceBEq, Nat.reduceBEq, Int.reduceBNe, Nat.reduceBNe, Int.reduceAdd, Int.reduceSub, Int.reduceMul, Int.reduceNeg]
    refine search.mono ?_; rintro _ A1 ⟨rfl, m1, K1⟩
    have hO1 := hO.keep K1 hne0
    have hK1 := hK.ow K1 fun b e => e ▸ fm
    have m12 : A1.rd ⟨bm, 2, none⟩ = some (.int .i64 ((r + (srch L D r).2.1 : Nat) : Int)) := by rw [rd_find m1]; rfl
    cases h2 : (srch L D r).2.2 with
      | true =>
        obtain ⟨_, _, _, _, _, _, ha⟩ := srch_found h2
        rw [hat] at ha; cases ha
      | false =>
        simp (dsimp := false) (maxSteps := 4000000) only [go_sem, ↓reduceIte, Nat.reduceEqDiff, Nat.reduceLT, Nat.reduceLeDiff, Nat.reduceAdd, Nat.reduceMul, Nat.reduceSub, reduceCtorEq, Int.reduceToNat, Int.reduceLT, Int.reduceLE, Int.reduceEq, Int.reduceNe, Int.reduceBEq, Nat.reduceBEq, Int.reduceBNe, Nat.reduceBNe, Int.reduceAdd, Int.reduceSub, Int.reduceMul, Int.reduceNeg]
        refine AllB.mk fun b15 h_b15 => ?_
        have hne : ¬ b15 = bm := h_b15.ne_find m1
        have m13 : ∀ k, (A1.add b15 k).rd ⟨bm, 2, none⟩ = some (.int .i64 ((r + (srch L D r).2.1 : Nat) : Int)) := fun k => by rw [rd_add_ne _ hne]; exact m12
        have m10 : ∀ k, (A1.add b15 k).rd ⟨bm, 0, none⟩ = some (.slice bl L0.length L0.length) := fun k => by rw [rd_add_ne _ hne, rd_find m1]; rfl
        have hS1 : SlcIn A1 2 bl L0.length (L.map enc) := hO1.slc.recap (by rw [List.length_map, hl]; exact Nat.le_refl _)
        have hD1A : SlcIn A1 1 db dc (D.map encb) := hD.keep hK1 fun _ _ h => h
        have er : IntKind.i64.wrap ((r : Int) + 1) = ((r + 1 : Nat) : Int) := i64_succ (by omega)
        have goon : ¬ ((srch L D r).2.1 = 1 ∧ gone D r = false) → ∀ k, ∃ i' : List Slv × Nat, ((∃ f, mu i'.1 D i'.2 < f ∧ runF D most f i'.1 i'.2 = R) ∧ i'.1.length = L0.length ∧ uniq i'.1 ∧ rng i'.1 ∧ (cntZ i'.1 ≤ cntZ L0 ∧ i'.2 + 67 * cntZ i'.1 ≤ D.length + 66 + 67 * cntZ L0) ∧ (∃ c, OwnS H A1 66 2 bl c (i'.1.map enc)) ∧ A1.find bm = some (mst bl L0.length L0.length db D.length dc i'.2) ∧ Keep H A1 fun _ => False) ∧ A1.le (A1.add b15 k) ∧ mu i'.1 D i'.2 < mu L D r := fun h3 k => by
          have hlt := mu_lost hr h2 h3
          have hrd := lost_lt hr h2 h3
          rw [run_lost h1 h2 h3] at hR
          exact ⟨(L, r + (srch L D r).2.1), ⟨⟨f, by simp only; omega, hR⟩, hl, hu, hr, by simp only; omega, ⟨c, hO1⟩, m1, hK1⟩, AH.le_add (AH.le_refl _) h_b15.2, hlt⟩
        by_cases c1 : (srch L D r).2.1 = 1
        case neg =>
          have c1' : ¬ ((r + (srch L D r).2.1 : Nat) : Int) = ((r + 1 : Nat) : Int) := by omega
          obtain ⟨i', hV, hle, hmu⟩ := goon (fun h => c1 h.1) _
          simp (dsimp := false) (maxSteps := 4000000) only [m13, er, c1', go_sem, ↓reduceIte, Nat.reduceEqDiff, Nat.reduceLT, Nat.reduceLeDiff, Nat.reduceAdd, Nat.reduceMul, Nat.reduceSub, reduceCtorEq, Int.reduceToNat, Int.reduceLT, Int.reduceLE, Int.reduceEq, Int.reduceNe, Int.reduceBEq, Nat.reduceBEq, Int.reduceBNe, Nat.reduceBNe, Int.reduceAdd, Int.reduceSub, Int.reduceMul, Int.reduceNeg]
          exact again i' _ _ _ hV (FrLe.of_lks (by simp (dsimp := false) (maxSteps := 4000000) only [go_sem, ↓reduceIte, Nat.reduceEqDiff, Nat.reduceLT, Nat.reduceLeDiff, Nat.reduceAdd, Nat.reduceMul, Nat.reduceSub, reduceCtorEq, Int.reduceToNat, Int.reduceLT, Int.reduceLE, Int.reduceEq, Int.reduceNe, Int.reduceBEq, Nat.reduceBEq, Int.reduceBNe, Nat.reduceBNe, Int.reduceAdd, Int.reduceSub, Int.reduceMul, Int.reduceNeg])) hle hmu
        have c1' : ((r + (srch L D r).2.1 : Nat) : Int) = ((r + 1 : Nat) : Int) := by omega
        by_cases c2 : (r : Int) < D.length
        case neg =>
          have hg := gone_no (D := D) (r := r) (by omega)
          rw [run_done h1 h2 ⟨c1, hg⟩] at hR
          subst hR
          simp (dsimp := false) (maxSteps := 4000000) only [m13, er, c1', c2, go_sem, ↓reduceIte, Nat.reduceEqDiff, Nat.reduceLT, Nat.reduceLeDiff, Nat.reduceAdd, Nat.reduceMul, Nat.reduceSub, reduceCtorEq, Int.reduceToNat, Int.reduceLT, Int.reduceLE, Int.reduceEq, Int.reduceNe, Int.reduceBEq, Nat.reduceBEq, Int.reduceBNe, Nat.reduceBNe, Int.reduceAdd, Int.reduceSub, Int.reduceMul, Int.reduceNeg]
          refine AWp.gen [.pu, .pu, .pu, .rd, .pu, .pu, .pu, .rd, .pu, .pu, .pu] [0, 1, 3, 7, 0, 16, 48, 112, 15, 511, 1023] 0 (_) mixed (by kernel_rfl) (AH.le_refl _) ?_
          simp (dsimp := false) (maxSteps := 4000000) only [m13, m10, c1', go_sem, ↓reduceIte, Nat.reduceEqDiff, Nat.reduceLT, Nat.reduceLeDiff, Nat.reduceAdd, Nat.reduceMul, Nat.reduceSub, reduceCtorEq, Int.reduceToNat, Int.reduceLT, Int.reduceLE, Int.reduceEq, Int.reduceNe, Int.reduceBEq, Nat.reduceBEq, Int.reduceBNe, Nat.reduceBNe, Int.reduceAdd, Int.reduceSub, Int.reduceMul, Int.reduceNeg]
          refine out _ _ _ (by simp) ?_
          simp (dsimp := false) (maxSteps := 4000000) only [go_sem, ↓reduceIte, Nat.reduceEqDiff, Nat.reduceLT, Nat.reduceLeDiff, Nat.reduceAdd, Nat.reduceMul, Nat.reduceSub, reduceCtorEq, Int.reduceToNat, Int.reduceLT, Int.reduceLE, Int.reduceEq, Int.reduceNe, Int.reduceBEq, Nat.reduceBEq, Int.reduceBNe, Nat.reduceBNe, Int.reduceAdd, Int.reduceSub, Int.reduceMul, Int.reduceNeg]
          exact ⟨A1, AH.le_add (AH.le_refl _) h_b15.2, bl, L0.length, by rw [hl], hS1, hK1⟩
        obtain ⟨y, hy⟩ := get_some (l := D) (i := r) (by omega)
        obtain ⟨bd, od, rfl, _, hrd⟩ := hD1A.get (map_get (f := encb) hy)
        have rg := hrd 0 _ rfl
        simp only [Nat.add_zero, Nat.mul_one] at rg
        have rg2 : ∀ k, (A1.add b15 k).rd ⟨bd, od + r, none⟩ = some (.bool y) := fun k => rd_mono h_b15 rg
        have hg := gone_at hy
        cases y with
        | true =>
          obtain ⟨i', hV, hle, hmu⟩ := goon (fun h => by rw [hg] at h; cases h.2) _
          simp (dsimp := false) (maxSteps := 4000000) only [m13, er, c1', c2, rg2, go_sem, ↓reduceIte, Nat.reduceEqDiff, Nat.reduceLT, Nat.reduceLeDiff, Nat.reduceAdd, Nat.reduceMul, Nat.reduceSub, reduceCtorEq, Int.reduceToNat, Int.reduceLT, Int.reduceLE, Int.reduceEq, Int.reduceNe, Int.reduceBEq, Nat.reduceBEq, Int.reduceBNe, Nat.reduceBNe, Int.reduceAdd, Int.reduceSub, Int.reduceMul, Int.reduceNeg]
          exact again i' _ _ _ hV (FrLe.of_lks (by simp (dsimp := false) (maxSteps := 4000000) only [go_sem, ↓reduceIte, Nat.reduceEqDiff, Nat.reduceLT, Nat.reduceLeDiff, Nat.reduceAdd, Nat.reduceMul, Nat.reduceSub, reduceCtorEq, Int.reduceToNat, Int.reduceLT, Int.reduceLE, Int.reduceEq, Int.reduceNe, Int.reduceBEq, Nat.reduceBEq, Int.reduceBNe, Nat.reduceBNe, Int.reduceAdd, Int.reduceSub, Int.reduceMul, Int.reduceNeg])) hle hmu
        | false =>
          rw [run_done h1 h2 ⟨c1, hg⟩] at hR
          subst hR
          simp (dsimp := false) (maxSteps := 4000000) only [m13, er, c1', c2, rg2, go_sem, ↓reduceIte, Nat.reduceEqDiff, Nat.reduceLT, Nat.reduceLeDiff, Nat.reduceAdd, Nat.reduceMul, Nat.reduceSub, reduceCtorEq, Int.reduceToNat, Int.reduceLT, Int.reduceLE, Int.reduceEq, Int.reduceNe, Int.reduceBEq, Nat.reduceBEq, Int.reduceBNe, Nat.reduceBNe, Int.reduceAdd, Int.reduceSub, Int.reduceMul, Int.reduceNeg]
          refine AWp.gen [.pu, .pu, .pu, .rd, .pu, .pu, .pu, .rd, .pu, .pu, .pu] [0, 1, 3, 7, 0, 16, 48, 112, 15, 511, 1023] 0 (_) mixed (by kernel_rfl) (AH.le_refl _) ?_
          simp (dsimp := false) (maxSteps := 4000000) only [m13, m10, c1', go_sem, ↓reduceIte, Nat.reduceEqDiff, Nat.reduceLT, Nat.reduceLeDiff, Nat.reduceAdd, Nat.reduceMul, Nat.reduceSub, reduceCtorEq, Int.reduceToNat, Int.reduceLT, Int.reduceLE, Int.reduceEq, Int.reduceNe, Int.reduceBEq, Nat.reduceBEq, Int.reduceBNe, Nat.reduceBNe, Int.reduceAdd, Int.reduceSub, Int.reduceMul, Int.reduceNeg]
          refine out _ _ _ (by simp) ?_
          simp (dsimp := false) (maxSteps := 4000000) only [go_sem, ↓reduceIte, Nat.reduceEqDiff, Nat.reduceLT, Nat.reduceLeDiff, Nat.reduceAdd, Nat.reduceMul, Nat.reduceSub, reduceCtorEq, Int.reduceToNat, Int.reduceLT, Int.reduceLE, Int.reduceEq, Int.reduceNe, Int.reduceBEq, Nat.reduceBEq, Int.reduceBNe, Nat.reduceBNe, Int.reduceAdd, Int.reduceSub, Int.reduceMul, Int.reduceNeg]
          exact ⟨A1, AH.le_add (AH.le_refl _) h_b15.2, bl, L0.length, by rw [hl], hS1, hK1⟩
end Go.Proofs.Ytgikjbfpckjkoaa.BapN
