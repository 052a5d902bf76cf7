/- member: MemberNotes. -/
import Derived.Test.YtgleplakdghaiaaMem9
namespace Go.Proofs.Ytgleplakdghaiaa.Mem
set_option linter.unusedSimpArgs false
set_option linter.unusedVariables false
open Go Go.AX Go.Proofs Ty
set_option maxHeartbeats 4000000
set_option maxRecDepth 10000

abbrev Dd := Option Addr × Nat × List Tb × Int
def encD (x : Dd) : List Value := [.slice x.1 x.2.2.1.length x.2.1, .int .u32 x.2.2.2]
structure DeedIn (H : AH) (base : Option Addr) (cap : Nat) (L : List Dd) : Prop where
  out : SlcIn H 2 base cap (L.map encD)
  inn : ∀ d ∈ L, TabIn H d.1 d.2.1 d.2.2.1 ∧ 0 ≤ d.2.2.2 ∧ d.2.2.2 < 4294967296
theorem MemberNotes_c (n : Int) (L : List Dd) (base : Option Addr) (cap : Nat) (H : AH) (hL : DeedIn H base cap L) :
    ACalls Try.prog 3 #[.int .i64 n, .slice base L.length cap] H (fun v H' => v = .bool true ∧ H = H') := by
  have hbig := hL.out.big
  simp only [List.length_map] at hbig
  refine ACalls.enter2 Try.func3 rfl Try.ntmps3 Try.results3 (by simp) ?_; simp (dsimp := false) (maxSteps := 4000000) only [go_sem, ↓reduceIte, Nat.reduceEqDiff, Nat.reduceLT, Nat.reduceLeDiff, Nat.reduceAdd, Nat.reduceMul, Nat.reduceSub, reduceCtorEq, Int.reduceToNat, Int.reduceLT, Int.reduceLE, Int.reduceEq, Int.reduceNe, Int.reduceBEq, Nat.reduceBEq, Int.reduceBNe, Nat.reduceBNe, Int.reduceAdd, Int.reduceSub, Int.reduceMul, Int.reduceNeg]
  by_cases hbad : n < 1 ∨ 32 < n
  · refine (New_bad n hbad _).mono ?_; rintro _ _ ⟨rfl, rfl⟩
    simp (dsimp := false) (maxSteps := 4000000) only [go_sem, ↓reduceIte, Nat.reduceEqDiff, Nat.reduceLT, Nat.reduceLeDiff, Nat.reduceAdd, Nat.reduceMul, Nat.reduceSub, reduceCtorEq, Int.reduceToNat, Int.reduceLT, Int.reduceLE, Int.reduceEq, Int.reduceNe, Int.reduceBEq, Nat.reduceBEq, Int.reduceBNe, Nat.reduceBNe, Int.reduceAdd, Int.reduceSub, Int.reduceMul, Int.reduceNeg]
    refine (RefNew_bad n hbad _).mono ?_; rintro _ _ ⟨rfl, rfl⟩
    simp (dsimp := false) (maxSteps := 4000000) only [go_sem, ↓reduceIte, Nat.reduceEqDiff, Nat.reduceLT, Nat.reduceLeDiff, Nat.reduceAdd, Nat.reduceMul, Nat.reduceSub, reduceCtorEq, Int.reduceToNat, Int.reduceLT, Int.reduceLE, Int.reduceEq, Int.reduceNe, Int.reduceBEq, Nat.reduceBEq, Int.reduceBNe, Nat.reduceBNe, Int.reduceAdd, Int.reduceSub, Int.reduceMul, Int.reduceNeg]
    refine (awake_c _).mono ?_; rintro _ _ ⟨rfl, rfl⟩
    simp (dsimp := false) (maxSteps := 4000000) only [go_sem, ↓reduceIte, Nat.reduceEqDiff, Nat.reduceLT, Nat.reduceLeDiff, Nat.reduceAdd, Nat.reduceMul, Nat.reduceSub, reduceCtorEq, Int.reduceToNat, Int.reduceLT, Int.reduceLE, Int.reduceEq, Int.reduceNe, Int.reduceBEq, Nat.reduceBEq, Int.reduceBNe, Nat.reduceBNe, Int.reduceAdd, Int.reduceSub, Int.reduceMul, Int.reduceNeg]
    exact ⟨H, AH.le_refl _, rfl⟩
  obtain ⟨k, rfl⟩ : ∃ k : Nat, n = k := ⟨n.toNat, by omega⟩
  have hk1 : 1 ≤ k := by omega
  have hk2 : k ≤ 32 := by omega
  refine (New_c k hk1 hk2 H).mono ?_; rintro _ A1 ⟨bm, ba, rfl, hm1, hfm, hfa, hK1⟩
  simp (dsimp := false) (maxSteps := 4000000) only [go_sem, ↓reduceIte, Nat.reduceEqDiff, Nat.reduceLT, Nat.reduceLeDiff, Nat.reduceAdd, Nat.reduceMul, Nat.reduceSub, reduceCtorEq, Int.reduceToNat, Int.reduceLT, Int.reduceLE, Int.reduceEq, Int.reduceNe, Int.reduceBEq, Nat.reduceBEq, Int.reduceBNe, Nat.reduceBNe, Int.reduceAdd, Int.reduceSub, Int.reduceMul, Int.reduceNeg]
  refine (RefNew_c k hk1 hk2 A1).mono ?_; rintro _ A2 ⟨br, b1, b2, c1, c2, rfl, hr2, gr, g1, g2, hK2⟩
  obtain ⟨sa, hra, _⟩ := hm1.row
  have x1 : br ≠ bm := gr.ne_find hm1.top
  have x2 : b1 ≠ bm := g1.ne_find hm1.top
  have x3 : b2 ≠ bm := g2.ne_find hm1.top
  have y1 : br ≠ ba := gr.ne_find hra
  have y2 : b1 ≠ ba := g1.ne_find hra
  have y3 : b2 ≠ ba := g2.ne_find hra
  have f1 := hK1.fr g1
  have f2 := hK1.fr g2
  have hm2 := hm1.keep hK2 (fun h => h) (fun h => h)
  have hKH := hK1.trans hK2
  have e0 : List.replicate k (0 : Int) = (List.replicate k (0 : Int)).map lo := by rw [List.map_replicate]; rfl
  have e1 : List.replicate k true = isB (List.replicate k (0 : Int)) := by rw [isB, List.map_replicate]; rfl
  rw [e0] at hm2
  rw [e1] at hr2
  clear hra hm1 gr g1 g2 hK1 hK2
  simp (dsimp := false) (maxSteps := 4000000) only [go_sem, ↓reduceIte, Nat.reduceEqDiff, Nat.reduceLT, Nat.reduceLeDiff, Nat.reduceAdd, Nat.reduceMul, Nat.reduceSub, reduceCtorEq, Int.reduceToNat, Int.reduceLT, Int.reduceLE, Int.reduceEq, Int.reduceNe, Int.reduceBEq, Nat.reduceBEq, Int.reduceBNe, Nat.reduceBNe, Int.reduceAdd, Int.reduceSub, Int.reduceMul, Int.reduceNeg]
  refine AWp.loopr (ι := Nat × List Int) (fun x B => x.1 ≤ L.length ∧ x.1 ≤ 30 ∧ x.2.length = k ∧ (∀ r ∈ x.2, 0 ≤ r ∧ r ≤ x.1) ∧ MemAt B bm ba (x.2.map lo) ∧ RefAt B br b1 b2 (isB x.2) x.2 c1 c2 ∧ Keep H B fun _ => False)
    (fun x => [(9, .int .i64 x.1), (1, .slice base L.length cap), (0, .int .i64 k), (5, .pointer (some ⟨bm, 0, none⟩)), (7, .pointer (some ⟨br, 0, none⟩))]) (fun x => L.length - x.1) (0, List.replicate k 0) A2
    ⟨by simp, by simp, by simp, fun r hr => by simp at hr; simp; omega, hm2, hr2, hKH⟩ (FrLe.of_lks ?_) (AH.le_refl _) fun x B hi Q again out => ?_
  · simp (dsimp := false) (maxSteps := 4000000) only [go_sem, ↓reduceIte, Nat.reduceEqDiff, Nat.reduceLT, Nat.reduceLeDiff, Nat.reduceAdd, Nat.reduceMul, Nat.reduceSub, reduceCtorEq, Int.reduceToNat, Int.reduceLT, Int.reduceLE, Int.reduceEq, Int.reduceNe, Int.reduceBEq, Nat.reduceBEq, Int.reduceBNe, Nat.reduceBNe, Int.reduceAdd, Int.reduceSub, Int.reduceMul, Int.reduceNeg]
  clear hm2 hr2 hKH
  obtain ⟨i, R⟩ := x
  obtain ⟨hi, hi30, hRl, hR0, hmB, hrB, hKB⟩ := hi
  dsimp only at hi hi30 hRl hR0 hmB hrB again ⊢
  have fin : ∀ {Q : Prop}, Q → Q := fun h => h
  by_cases hlt : (i : Int) < L.length
  case neg =>
    simp (dsimp := false) (maxSteps := 4000000) only [hlt, go_sem, ↓reduceIte, Nat.reduceEqDiff, Nat.reduceLT, Nat.reduceLeDiff, Nat.reduceAdd, Nat.reduceMul, Nat.reduceSub, reduceCtorEq, Int.reduceToNat, Int.reduceLT, Int.reduceLE, Int.reduceEq, Int.reduceNe, Int.reduceBEq, Nat.reduceBEq, Int.reduceBNe, Nat.reduceBNe, Int.reduceAdd, Int.reduceSub, Int.reduceMul, Int.reduceNeg]
    refine out _ _ _ (by simp) ?_
    simp (dsimp := false) (maxSteps := 4000000) only [go_sem, ↓reduceIte, Nat.reduceEqDiff, Nat.reduceLT, Nat.reduceLeDiff, Nat.reduceAdd, Nat.reduceMul, Nat.reduceSub, reduceCtorEq, Int.reduceToNat, Int.reduceLT, Int.reduceLE, Int.reduceEq, Int.reduceNe, Int.reduceBEq, Nat.reduceBEq, Int.reduceBNe, Nat.reduceBNe, Int.reduceAdd, Int.reduceSub, Int.reduceMul, Int.reduceNeg]
    refine (awake_c _).mono ?_; rintro _ _ ⟨rfl, rfl⟩
    simp (dsimp := false) (maxSteps := 4000000) only [go_sem, ↓reduceIte, Nat.reduceEqDiff, Nat.reduceLT, Nat.reduceLeDiff, Nat.reduceAdd, Nat.reduceMul, Nat.reduceSub, reduceCtorEq, Int.reduceToNat, Int.reduceLT, Int.reduceLE, Int.reduceEq, Int.reduceNe, Int.reduceBEq, Nat.reduceBEq, Int.reduceBNe, Nat.reduceBNe, Int.reduceAdd, Int.reduceSub, Int.reduceMul, Int.reduceNeg]
    refine (There_c hmB k).mono ?_; rintro _ _ ⟨rfl, rfl⟩
    have tk : thereM (R.map lo) k = false := by simp [thereM, hRl]
    rw [tk]
    simp (dsimp := false) (maxSteps := 4000000) only [go_sem, ↓reduceIte, Nat.reduceEqDiff, Nat.reduceLT, Nat.reduceLeDiff, Nat.reduceAdd, Nat.reduceMul, Nat.reduceSub, reduceCtorEq, Int.reduceToNat, Int.reduceLT, Int.reduceLE, Int.reduceEq, Int.reduceNe, Int.reduceBEq, Nat.reduceBEq, Int.reduceBNe, Nat.reduceBNe, Int.reduceAdd, Int.reduceSub, Int.reduceMul, Int.reduceNeg]
    refine (There_c hmB (-1)).mono ?_; rintro _ _ ⟨rfl, rfl⟩
    have tm : thereM (R.map lo) (-1) = false := by simp [thereM]
    rw [tm]
    simp (dsimp := false) (maxSteps := 4000000) only [go_sem, ↓reduceIte, Nat.reduceEqDiff, Nat.reduceLT, Nat.reduceLeDiff, Nat.reduceAdd, Nat.reduceMul, Nat.reduceSub, reduceCtorEq, Int.reduceToNat, Int.reduceLT, Int.reduceLE, Int.reduceEq, Int.reduceNe, Int.reduceBEq, Nat.reduceBEq, Int.reduceBNe, Nat.reduceBNe, Int.reduceAdd, Int.reduceSub, Int.reduceMul, Int.reduceNeg]
    exact ⟨H, hKB.all, rfl⟩
  by_cases h30 : (i : Int) < 30
  case neg =>
    simp (dsimp := false) (maxSteps := 4000000) only [hlt, h30, go_sem, ↓reduceIte, Nat.reduceEqDiff, Nat.reduceLT, Nat.reduceLeDiff, Nat.reduceAdd, Nat.reduceMul, Nat.reduceSub, reduceCtorEq, Int.reduceToNat, Int.reduceLT, Int.reduceLE, Int.reduceEq, Int.reduceNe, Int.reduceBEq, Nat.reduceBEq, Int.reduceBNe, Nat.reduceBNe, Int.reduceAdd, Int.reduceSub, Int.reduceMul, Int.reduceNeg]
    refine out _ _ _ (by simp) ?_
    simp (dsimp := false) (maxSteps := 4000000) only [go_sem, ↓reduceIte, Nat.reduceEqDiff, Nat.reduceLT, Nat.reduceLeDiff, Nat.reduceAdd, Nat.reduceMul, Nat.reduceSub, reduceCtorEq, Int.reduceToNat, Int.reduceLT, Int.reduceLE, Int.reduceEq, Int.reduceNe, Int.reduceBEq, Nat.reduceBEq, Int.reduceBNe, Nat.reduceBNe, Int.reduceAdd, Int.reduceSub, Int.reduceMul, Int.reduceNeg]
    refine (awake_c _).mono ?_; rintro _ _ ⟨rfl, rfl⟩
    simp (dsimp := false) (maxSteps := 4000000) only [go_sem, ↓reduceIte, Nat.reduceEqDiff, Nat.reduceLT, Nat.reduceLeDiff, Nat.reduceAdd, Nat.reduceMul, Nat.reduceSub, reduceCtorEq, Int.reduceToNat, Int.reduceLT, Int.reduceLE, Int.reduceEq, Int.reduceNe, Int.reduceBEq, Nat.reduceBEq, Int.reduceBNe, Nat.reduceBNe, Int.reduceAdd, Int.reduceSub, Int.reduceMul, Int.reduceNeg]
    refine (There_c hmB k).mono ?_; rintro _ _ ⟨rfl, rfl⟩
    have tk : thereM (R.map lo) k = false := by simp [thereM, hRl]
    rw [tk]
    simp (dsimp := false) (maxSteps := 4000000) only [go_sem, ↓reduceIte, Nat.reduceEqDiff, Nat.reduceLT, Nat.reduceLeDiff, Nat.reduceAdd, Nat.reduceMul, Nat.reduceSub, reduceCtorEq, Int.reduceToNat, Int.reduceLT, Int.reduceLE, Int.reduceEq, Int.reduceNe, Int.reduceBEq, Nat.reduceBEq, Int.reduceBNe, Nat.reduceBNe, Int.reduceAdd, Int.reduceSub, Int.reduceMul, Int.reduceNeg]
    refine (There_c hmB (-1)).mono ?_; rintro _ _ ⟨rfl, rfl⟩
    have tm : thereM (R.map lo) (-1) = false := by simp [thereM]
    rw [tm]
    simp (dsimp := false) (maxSteps := 4000000) only [go_sem, ↓reduceIte, Nat.reduceEqDiff, Nat.reduceLT, Nat.reduceLeDiff, Nat.reduceAdd, Nat.reduceMul, Nat.reduceSub, reduceCtorEq, Int.reduceToNat, Int.reduceLT, Int.reduceLE, Int.reduceEq, Int.reduceNe, Int.reduceBEq, Nat.reduceBEq, Int.reduceBNe, Nat.reduceBNe, Int.reduceAdd, Int.reduceSub, Int.reduceMul, Int.reduceNeg]
    exact ⟨H, hKB.all, rfl⟩
  obtain ⟨dd, hd⟩ := get_some (l := L) (i := i) (by omega)
  obtain ⟨hTd, hn0, hn1⟩ := hL.inn dd (List.mem_of_getElem? hd)
  obtain ⟨tb, tc, T, sl⟩ := dd
  dsimp only at hTd hn0 hn1
  have ee := i64_succ (i := i) (by omega)
  have hout := hL.out.keep hKB fun _ _ h => h
  obtain ⟨bb, o, rfl, _, hrd⟩ := hout.get (map_get (f := encD) hd)
  have r0 := hrd 0 _ rfl
  have r1 := hrd 1 _ rfl
  dsimp only at r0 r1
  simp only [Nat.add_zero] at r0
  have hbt := hTd.out.big
  simp only [List.length_map] at hbt
  simp (dsimp := false) (maxSteps := 4000000) only [hlt, h30, r0, go_sem, ↓reduceIte, Nat.reduceEqDiff, Nat.reduceLT, Nat.reduceLeDiff, Nat.reduceAdd, Nat.reduceMul, Nat.reduceSub, reduceCtorEq, Int.reduceToNat, Int.reduceLT, Int.reduceLE, Int.reduceEq, Int.reduceNe, Int.reduceBEq, Nat.reduceBEq, Int.reduceBNe, Nat.reduceBNe, Int.reduceAdd, Int.reduceSub, Int.reduceMul, Int.reduceNeg]
  by_cases h40 : (40 : Int) < (T.length : Int)
  · obtain ⟨b', o', rfl⟩ := hTd.out.at_ 0 (by simp; omega)
    have hle := hTd.out.le
    rw [List.length_map] at hle
    have c40 : (40 : Int) ≤ (tc : Int) := by omega
    have hT40 : TabIn H (some ⟨b', o', none⟩) tc (T.take 40) := ⟨by rw [List.map_take]; exact hTd.out.take, fun x hx => hTd.inn x (List.mem_of_mem_take hx)⟩
    have hl40 : (T.take 40).length = 40 := by rw [List.length_take]; omega
    have htc : ¬ tc = 0 := by omega
    simp (dsimp := false) (maxSteps := 4000000) only [h40, c40, hlt, r1, htc, Nat.sub_zero, go_sem, ↓reduceIte, Nat.reduceEqDiff, Nat.reduceLT, Nat.reduceLeDiff, Nat.reduceAdd, Nat.reduceMul, Nat.reduceSub, reduceCtorEq, Int.reduceToNat, Int.reduceLT, Int.reduceLE, Int.reduceEq, Int.reduceNe, Int.reduceBEq, Nat.reduceBEq, Int.reduceBNe, Nat.reduceBNe, Int.reduceAdd, Int.reduceSub, Int.reduceMul, Int.reduceNeg]
    refine (slots_c sl ⟨hn0, hn1⟩ B).mono ?_; rintro _ _ ⟨bh, rfl, gh, rfl⟩
    have hkb := (Keep.refl (H := B) (ex := fun _ => False)).nw (k := .amap ((slotK sl 20).map encM)) gh
    simp (dsimp := false) (maxSteps := 4000000) only [go_sem, ↓reduceIte, Nat.reduceEqDiff, Nat.reduceLT, Nat.reduceLeDiff, Nat.reduceAdd, Nat.reduceMul, Nat.reduceSub, reduceCtorEq, Int.reduceToNat, Int.reduceLT, Int.reduceLE, Int.reduceEq, Int.reduceNe, Int.reduceBEq, Nat.reduceBEq, Int.reduceBNe, Nat.reduceBNe, Int.reduceAdd, Int.reduceSub, Int.reduceMul, Int.reduceNeg]
    have nc := (Note_c (gv := fun x => x) (ks := slotK sl 20) hT40 (hKB.trans hkb) hfa (hmB.keep hkb (fun h => h) (fun h => h)) (find_add_self _ _ _) (by rw [List.length_map]; omega) (fun x hx => by obtain ⟨r, hr, rfl⟩ := List.mem_map.1 hx; exact lo_bd (hR0 r hr).1))
    rw [hl40] at nc
    refine nc.mono ?_; rintro _ B1 ⟨rfl, hmB1, hk1⟩
    rw [n_rel _ _ _ _ (fun r hr => (hR0 r hr).1), List.length_map] at hmB1
    have hk1' := (hkb.mono (ex' := (· = ba)) fun _ h => h.elim).trans hk1
    have hrB1 := hrB.keep hk1' y1 y2 y3
    have hKB1 := hKB.ow hk1' fun b e => e ▸ hfa
    have r1' := ((hL.out.keep hKB1 fun _ _ h => h).get (map_get (f := encD) hd))
    obtain ⟨bb', o', hbo, _, hrd'⟩ := r1'
    cases hbo
    have r2 := hrd' 1 _ rfl
    dsimp only at r2
    simp (dsimp := false) (maxSteps := 4000000) only [hlt, r2, go_sem, ↓reduceIte, Nat.reduceEqDiff, Nat.reduceLT, Nat.reduceLeDiff, Nat.reduceAdd, Nat.reduceMul, Nat.reduceSub, reduceCtorEq, Int.reduceToNat, Int.reduceLT, Int.reduceLE, Int.reduceEq, Int.reduceNe, Int.reduceBEq, Nat.reduceBEq, Int.reduceBNe, Nat.reduceBNe, Int.reduceAdd, Int.reduceSub, Int.reduceMul, Int.reduceNeg]
    refine (slots_c sl ⟨hn0, hn1⟩ B1).mono ?_; rintro _ _ ⟨bh2, rfl, gh2, rfl⟩
    have hkc := (Keep.refl (H := B1) (ex := fun _ => False)).nw (k := .amap ((slotK sl 20).map encM)) gh2
    simp (dsimp := false) (maxSteps := 4000000) only [go_sem, ↓reduceIte, Nat.reduceEqDiff, Nat.reduceLT, Nat.reduceLeDiff, Nat.reduceAdd, Nat.reduceMul, Nat.reduceSub, reduceCtorEq, Int.reduceToNat, Int.reduceLT, Int.reduceLE, Int.reduceEq, Int.reduceNe, Int.reduceBEq, Nat.reduceBEq, Int.reduceBNe, Nat.reduceBNe, Int.reduceAdd, Int.reduceSub, Int.reduceMul, Int.reduceNeg]
    have rc := (RefNote_c (gv := fun x => x) (ks := slotK sl 20) hT40 (hKB1.trans hkc) f1 f2 (hrB1.keep hkc (fun h => h) (fun h => h) (fun h => h)) (find_add_self _ _ _) (by omega) (fun x hx => by have := hR0 x hx; omega))
    rw [hl40] at rc
    refine rc.mono ?_; rintro _ B2 ⟨rfl, hrB2, hk2⟩
    have hk2' := (hkc.mono (ex' := fun b => b = b1 ∨ b = b2) fun _ h => h.elim).trans hk2
    have hmB2 := hmB1.keep hk2' (fun e => e.elim (fun e => x2 e.symm) (fun e => x3 e.symm)) (fun e => e.elim (fun e => y2 e.symm) (fun e => y3 e.symm))
    have hKB2 := hKB1.ow hk2' fun b e => e.elim (fun e => e ▸ f1) (fun e => e ▸ f2)
    have hl2 := nR_len (slotK sl 20) (T.take 40) R (min R.length 40)
    have hb2 := nR_bd (ks := slotK sl 20) (T := (T.take 40)) (i := min R.length 40) (b := (i : Int)) (by omega) hR0
    generalize nR (slotK sl 20) (T.take 40) R (min R.length 40) = R' at hmB2 hrB2 hl2 hb2
    rw [hRl] at hl2
    clear hmB1 hrB1 hkb hkc hk1 hk1' hk2 hk2' r2 hrd'
    have q0 := hrB2.rd0
    have hil : (isB R').length = k := by rw [isB, List.length_map]; exact hl2
    rw [hil] at q0
    simp (dsimp := false) (maxSteps := 4000000) only [go_sem, ↓reduceIte, Nat.reduceEqDiff, Nat.reduceLT, Nat.reduceLeDiff, Nat.reduceAdd, Nat.reduceMul, Nat.reduceSub, reduceCtorEq, Int.reduceToNat, Int.reduceLT, Int.reduceLE, Int.reduceEq, Int.reduceNe, Int.reduceBEq, Nat.reduceBEq, Int.reduceBNe, Nat.reduceBNe, Int.reduceAdd, Int.reduceSub, Int.reduceMul, Int.reduceNeg]
    refine AWp.loopo (ι := Nat) (fun j => j ≤ k) (fun j => [(11, .int .i64 j), (9, .int .i64 i), (1, .slice (some ⟨bb, o, none⟩) L.length cap), (0, .int .i64 k), (5, .pointer (some ⟨bm, 0, none⟩)), (7, .pointer (some ⟨br, 0, none⟩))])
      (fun _ => B2) (fun j => k - j) 0 (by omega) (FrLe.of_lks ?_) (AH.le_refl _) fun j hj Q2 again2 out2 => ?_
    · simp (dsimp := false) (maxSteps := 4000000) only [go_sem, ↓reduceIte, Nat.reduceEqDiff, Nat.reduceLT, Nat.reduceLeDiff, Nat.reduceAdd, Nat.reduceMul, Nat.reduceSub, reduceCtorEq, Int.reduceToNat, Int.reduceLT, Int.reduceLE, Int.reduceEq, Int.reduceNe, Int.reduceBEq, Nat.reduceBEq, Int.reduceBNe, Nat.reduceBNe, Int.reduceAdd, Int.reduceSub, Int.reduceMul, Int.reduceNeg]
    by_cases hjk : (j : Int) < (k : Int)
    · have ej := i64_succ (i := j) (by omega)
      obtain ⟨x, hx⟩ := get_some (l := R') (i := j) (by omega)
      have hib : (isB R')[j]? = some (decide (x < 3)) := by rw [isB, List.getElem?_map, hx]; rfl
      have rb := hrB2.rdB hib
      simp (dsimp := false) (maxSteps := 4000000) only [q0, hjk, go_sem, ↓reduceIte, Nat.reduceEqDiff, Nat.reduceLT, Nat.reduceLeDiff, Nat.reduceAdd, Nat.reduceMul, Nat.reduceSub, reduceCtorEq, Int.reduceToNat, Int.reduceLT, Int.reduceLE, Int.reduceEq, Int.reduceNe, Int.reduceBEq, Nat.reduceBEq, Int.reduceBNe, Nat.reduceBNe, Int.reduceAdd, Int.reduceSub, Int.reduceMul, Int.reduceNeg]
      refine AWp.gen [.pu, .pu, .ch, .pu, .pu, .pu, .rd, .pu, .pu, .rd, .pu] [0, 0, 3, 0, 8, 24, 56, 0, 248, 504, 1023] 3 (_) mixed (by kernel_rfl) (AH.le_refl _) ?_
      simp (dsimp := false) (maxSteps := 4000000) only [AH.le_refl, go_sem, ↓reduceIte, Nat.reduceEqDiff, Nat.reduceLT, Nat.reduceLeDiff, Nat.reduceAdd, Nat.reduceMul, Nat.reduceSub, reduceCtorEq, Int.reduceToNat, Int.reduceLT, Int.reduceLE, Int.reduceEq, Int.reduceNe, Int.reduceBEq, Nat.reduceBEq, Int.reduceBNe, Nat.reduceBNe, Int.reduceAdd, Int.reduceSub, Int.reduceMul, Int.reduceNeg]
      refine (There_c hmB2 j).mono ?_; rintro _ _ ⟨rfl, rfl⟩
      rw [there_lo hx]
      simp (dsimp := false) (maxSteps := 4000000) only [q0, hjk, rb, AH.le_refl, Nat.zero_add, Nat.mul_one, ej, go_sem, ↓reduceIte, Nat.reduceEqDiff, Nat.reduceLT, Nat.reduceLeDiff, Nat.reduceAdd, Nat.reduceMul, Nat.reduceSub, reduceCtorEq, Int.reduceToNat, Int.reduceLT, Int.reduceLE, Int.reduceEq, Int.reduceNe, Int.reduceBEq, Nat.reduceBEq, Int.reduceBNe, Nat.reduceBNe, Int.reduceAdd, Int.reduceSub, Int.reduceMul, Int.reduceNeg]
      refine again2 (j + 1) _ _ (by omega) (FrLe.of_lks (by simp (dsimp := false) (maxSteps := 4000000) only [go_sem, ↓reduceIte, Nat.reduceEqDiff, Nat.reduceLT, Nat.reduceLeDiff, Nat.reduceAdd, Nat.reduceMul, Nat.reduceSub, reduceCtorEq, Int.reduceToNat, Int.reduceLT, Int.reduceLE, Int.reduceEq, Int.reduceNe, Int.reduceBEq, Nat.reduceBEq, Int.reduceBNe, Nat.reduceBNe, Int.reduceAdd, Int.reduceSub, Int.reduceMul, Int.reduceNeg])) (AH.le_refl _) (by omega)
    obtain rfl : j = k := by omega
    simp (dsimp := false) (maxSteps := 4000000) only [q0, hjk, go_sem, ↓reduceIte, Nat.reduceEqDiff, Nat.reduceLT, Nat.reduceLeDiff, Nat.reduceAdd, Nat.reduceMul, Nat.reduceSub, reduceCtorEq, Int.reduceToNat, Int.reduceLT, Int.reduceLE, Int.reduceEq, Int.reduceNe, Int.reduceBEq, Nat.reduceBEq, Int.reduceBNe, Nat.reduceBNe, Int.reduceAdd, Int.reduceSub, Int.reduceMul, Int.reduceNeg]
    refine out2 _ _ _ (by simp) ?_
    clear again2 out2
    simp (dsimp := false) (maxSteps := 4000000) only [go_sem, ↓reduceIte, Nat.reduceEqDiff, Nat.reduceLT, Nat.reduceLeDiff, Nat.reduceAdd, Nat.reduceMul, Nat.reduceSub, reduceCtorEq, Int.reduceToNat, Int.reduceLT, Int.reduceLE, Int.reduceEq, Int.reduceNe, Int.reduceBEq, Nat.reduceBEq, Int.reduceBNe, Nat.reduceBNe, Int.reduceAdd, Int.reduceSub, Int.reduceMul, Int.reduceNeg]
    have rc1 := Record_c hmB2 (by rw [List.length_map]; omega)
    rw [isB_lo, List.length_map, hl2] at rc1
    refine rc1.mono ?_; rintro _ _ ⟨rfl, rfl⟩
    simp (dsimp := false) (maxSteps := 4000000) only [go_sem, ↓reduceIte, Nat.reduceEqDiff, Nat.reduceLT, Nat.reduceLeDiff, Nat.reduceAdd, Nat.reduceMul, Nat.reduceSub, reduceCtorEq, Int.reduceToNat, Int.reduceLT, Int.reduceLE, Int.reduceEq, Int.reduceNe, Int.reduceBEq, Nat.reduceBEq, Int.reduceBNe, Nat.reduceBNe, Int.reduceAdd, Int.reduceSub, Int.reduceMul, Int.reduceNeg]
    have rc2 := RefRecord_c hrB2 (by omega)
    rw [hil] at rc2
    obtain ⟨w0, w1, w2, w3, hw⟩ : ∃ a b c d, digs (numB (isB R') j) = [a, b, c, d] := ⟨_, _, _, _, rfl⟩
    refine rc2.mono ?_; rintro _ _ ⟨rfl, rfl⟩
    rw [hw]
    simp only [List.map_cons, List.map_nil]
    simp (dsimp := false) (maxSteps := 4000000) only [beq_self_eq_true, Bool.and_self, Bool.not_true, ee, go_sem, ↓reduceIte, Nat.reduceEqDiff, Nat.reduceLT, Nat.reduceLeDiff, Nat.reduceAdd, Nat.reduceMul, Nat.reduceSub, reduceCtorEq, Int.reduceToNat, Int.reduceLT, Int.reduceLE, Int.reduceEq, Int.reduceNe, Int.reduceBEq, Nat.reduceBEq, Int.reduceBNe, Nat.reduceBNe, Int.reduceAdd, Int.reduceSub, Int.reduceMul, Int.reduceNeg]
    exact again (i + 1, R') _ _ _ ⟨by simp only; omega, by simp only; omega, hl2, fun r hr => by have := hb2 r hr; simp only; omega, hmB2, hrB2, hKB2⟩ (FrLe.of_lks (by simp (dsimp := false) (maxSteps := 4000000) only [go_sem, ↓reduceIte, Nat.reduceEqDiff, Nat.reduceLT, Nat.reduceLeDiff, Nat.reduceAdd, Nat.reduceMul, Nat.reduceSub, reduceCtorEq, Int.reduceToNat, Int.reduceLT, Int.reduceLE, Int.reduceEq, Int.reduceNe, Int.reduceBEq, Nat.reduceBEq, Int.reduceBNe, Nat.reduceBNe, Int.reduceAdd, Int.reduceSub, Int.reduceMul, Int.reduceNeg])) (AH.le_refl _) (by simp only; omega)
  · simp (dsimp := false) (maxSteps := 4000000) only [h40, hlt, r1, go_sem, ↓reduceIte, Nat.reduceEqDiff, Nat.reduceLT, Nat.reduceLeDiff, Nat.reduceAdd, Nat.reduceMul, Nat.reduceSub, reduceCtorEq, Int.reduceToNat, Int.reduceLT, Int.reduceLE, Int.reduceEq, Int.reduceNe, Int.reduceBEq, Nat.reduceBEq, Int.reduceBNe, Nat.reduceBNe, Int.reduceAdd, Int.reduceSub, Int.reduceMul, Int.reduceNeg]
    refine (slots_c sl ⟨hn0, hn1⟩ B).mono ?_; rintro _ _ ⟨bh, rfl, gh, rfl⟩
    have hkb := (Keep.refl (H := B) (ex := fun _ => False)).nw (k := .amap ((slotK sl 20).map encM)) gh
    simp (dsimp := false) (maxSteps := 4000000) only [go_sem, ↓reduceIte, Nat.reduceEqDiff, Nat.reduceLT, Nat.reduceLeDiff, Nat.reduceAdd, Nat.reduceMul, Nat.reduceSub, reduceCtorEq, Int.reduceToNat, Int.reduceLT, Int.reduceLE, Int.reduceEq, Int.reduceNe, Int.reduceBEq, Nat.reduceBEq, Int.reduceBNe, Nat.reduceBNe, Int.reduceAdd, Int.reduceSub, Int.reduceMul, Int.reduceNeg]
    have nc := (Note_c (gv := fun x => x) (ks := slotK sl 20) hTd (hKB.trans hkb) hfa (hmB.keep hkb (fun h => h) (fun h => h)) (find_add_self _ _ _) (by rw [List.length_map]; omega) (fun x hx => by obtain ⟨r, hr, rfl⟩ := List.mem_map.1 hx; exact lo_bd (hR0 r hr).1))
    refine nc.mono ?_; rintro _ B1 ⟨rfl, hmB1, hk1⟩
    rw [n_rel _ _ _ _ (fun r hr => (hR0 r hr).1), List.length_map] at hmB1
    have hk1' := (hkb.mono (ex' := (· = ba)) fun _ h => h.elim).trans hk1
    have hrB1 := hrB.keep hk1' y1 y2 y3
    have hKB1 := hKB.ow hk1' fun b e => e ▸ hfa
    have r1' := ((hL.out.keep hKB1 fun _ _ h => h).get (map_get (f := encD) hd))
    obtain ⟨bb', o', hbo, _, hrd'⟩ := r1'
    cases hbo
    have r2 := hrd' 1 _ rfl
    dsimp only at r2
    simp (dsimp := false) (maxSteps := 4000000) only [hlt, r2, go_sem, ↓reduceIte, Nat.reduceEqDiff, Nat.reduceLT, Nat.reduceLeDiff, Nat.reduceAdd, Nat.reduceMul, Nat.reduceSub, reduceCtorEq, Int.reduceToNat, Int.reduceLT, Int.reduceLE, Int.reduceEq, Int.reduceNe, Int.reduceBEq, Nat.reduceBEq, Int.reduceBNe, Nat.reduceBNe, Int.reduceAdd, Int.reduceSub, Int.reduceMul, Int.reduceNeg]
    refine (slots_c sl ⟨hn0, hn1⟩ B1).mono ?_; rintro _ _ ⟨bh2, rfl, gh2, rfl⟩
    have hkc := (Keep.refl (H := B1) (ex := fun _ => False)).nw (k := .amap ((slotK sl 20).map encM)) gh2
    simp (dsimp := false) (maxSteps := 4000000) only [go_sem, ↓reduceIte, Nat.reduceEqDiff, Nat.reduceLT, Nat.reduceLeDiff, Nat.reduceAdd, Nat.reduceMul, Nat.reduceSub, reduceCtorEq, Int.reduceToNat, Int.reduceLT, Int.reduceLE, Int.reduceEq, Int.reduceNe, Int.reduceBEq, Nat.reduceBEq, Int.reduceBNe, Nat.reduceBNe, Int.reduceAdd, Int.reduceSub, Int.reduceMul, Int.reduceNeg]
    have rc := (RefNote_c (gv := fun x => x) (ks := slotK sl 20) hTd (hKB1.trans hkc) f1 f2 (hrB1.keep hkc (fun h => h) (fun h => h) (fun h => h)) (find_add_self _ _ _) (by omega) (fun x hx => by have := hR0 x hx; omega))
    refine rc.mono ?_; rintro _ B2 ⟨rfl, hrB2, hk2⟩
    have hk2' := (hkc.mono (ex' := fun b => b = b1 ∨ b = b2) fun _ h => h.elim).trans hk2
    have hmB2 := hmB1.keep hk2' (fun e => e.elim (fun e => x2 e.symm) (fun e => x3 e.symm)) (fun e => e.elim (fun e => y2 e.symm) (fun e => y3 e.symm))
    have hKB2 := hKB1.ow hk2' fun b e => e.elim (fun e => e ▸ f1) (fun e => e ▸ f2)
    have hl2 := nR_len (slotK sl 20) T R (min R.length T.length)
    have hb2 := nR_bd (ks := slotK sl 20) (T := T) (i := min R.length T.length) (b := (i : Int)) (by omega) hR0
    generalize nR (slotK sl 20) T R (min R.length T.length) = R' at hmB2 hrB2 hl2 hb2
    rw [hRl] at hl2
    clear hmB1 hrB1 hkb hkc hk1 hk1' hk2 hk2' r2 hrd'
    have q0 := hrB2.rd0
    have hil : (isB R').length = k := by rw [isB, List.length_map]; exact hl2
    rw [hil] at q0
    simp (dsimp := false) (maxSteps := 4000000) only [go_sem, ↓reduceIte, Nat.reduceEqDiff, Nat.reduceLT, Nat.reduceLeDiff, Nat.reduceAdd, Nat.reduceMul, Nat.reduceSub, reduceCtorEq, Int.reduceToNat, Int.reduceLT, Int.reduceLE, Int.reduceEq, Int.reduceNe, Int.reduceBEq, Nat.reduceBEq, Int.reduceBNe, Nat.reduceBNe, Int.reduceAdd, Int.reduceSub, Int.reduceMul, Int.reduceNeg]
    refine AWp.loopo (ι := Nat) (fun j => j ≤ k) (fun j => [(11, .int .i64 j), (9, .int .i64 i), (1, .slice (some ⟨bb, o, none⟩) L.length cap), (0, .int .i64 k), (5, .pointer (some ⟨bm, 0, none⟩)), (7, .pointer (some ⟨br, 0, none⟩))])
      (fun _ => B2) (fun j => k - j) 0 (by omega) (FrLe.of_lks ?_) (AH.le_refl _) fun j hj Q2 again2 out2 => ?_
    · simp (dsimp := false) (maxSteps := 4000000) only [go_sem, ↓reduceIte, Nat.reduceEqDiff, Nat.reduceLT, Nat.reduceLeDiff, Nat.reduceAdd, Nat.reduceMul, Nat.reduceSub, reduceCtorEq, Int.reduceToNat, Int.reduceLT, Int.reduceLE, Int.reduceEq, Int.reduceNe, Int.reduceBEq, Nat.reduceBEq, Int.reduceBNe, Nat.reduceBNe, Int.reduceAdd, Int.reduceSub, Int.reduceMul, Int.reduceNeg]
    by_cases hjk : (j : Int) < (k : Int)
    · have ej := i64_succ (i := j) (by omega)
      obtain ⟨x, hx⟩ := get_some (l := R') (i := j) (by omega)
      have hib : (isB R')[j]? = some (decide (x < 3)) := by rw [isB, List.getElem?_map, hx]; rfl
      have rb := hrB2.rdB hib
      simp (dsimp := false) (maxSteps := 4000000) only [q0, hjk, go_sem, ↓reduceIte, Nat.reduceEqDiff, Nat.reduceLT, Nat.reduceLeDiff, Nat.reduceAdd, Nat.reduceMul, Nat.reduceSub, reduceCtorEq, Int.reduceToNat, Int.reduceLT, Int.reduceLE, Int.reduceEq, Int.reduceNe, Int.reduceBEq, Nat.reduceBEq, Int.reduceBNe, Nat.reduceBNe, Int.reduceAdd, Int.reduceSub, Int.reduceMul, Int.reduceNeg]
      refine AWp.gen [.pu, .pu, .ch, .pu, .pu, .pu, .rd, .pu, .pu, .rd, .pu] [0, 0, 3, 0, 8, 24, 56, 0, 248, 504, 1023] 3 (_) mixed (by kernel_rfl) (AH.le_refl _) ?_
      simp (dsimp := false) (maxSteps := 4000000) only [AH.le_refl, go_sem, ↓reduceIte, Nat.reduceEqDiff, Nat.reduceLT, Nat.reduceLeDiff, Nat.reduceAdd, Nat.reduceMul, Nat.reduceSub, reduceCtorEq, Int.reduceToNat, Int.reduceLT, Int.reduceLE, Int.reduceEq, Int.reduceNe, Int.reduceBEq, Nat.reduceBEq, Int.reduceBNe, Nat.reduceBNe, Int.reduceAdd, Int.reduceSub, Int.reduceMul, Int.reduceNeg]
      refine (There_c hmB2 j).mono ?_; rintro _ _ ⟨rfl, rfl⟩
      rw [there_lo hx]
      simp (dsimp := false) (maxSteps := 4000000) only [q0, hjk, rb, AH.le_refl, Nat.zero_add, Nat.mul_one, ej, go_sem, ↓reduceIte, Nat.reduceEqDiff, Nat.reduceLT, Nat.reduceLeDiff, Nat.reduceAdd, Nat.reduceMul, Nat.reduceSub, reduceCtorEq, Int.reduceToNat, Int.reduceLT, Int.reduceLE, Int.reduceEq, Int.reduceNe, Int.reduceBEq, Nat.reduceBEq, Int.reduceBNe, Nat.reduceBNe, Int.reduceAdd, Int.reduceSub, Int.reduceMul, Int.reduceNeg]
      refine again2 (j + 1) _ _ (by omega) (FrLe.of_lks (by simp (dsimp := false) (maxSteps := 4000000) only [go_sem, ↓reduceIte, Nat.reduceEqDiff, Nat.reduceLT, Nat.reduceLeDiff, Nat.reduceAdd, Nat.reduceMul, Nat.reduceSub, reduceCtorEq, Int.reduceToNat, Int.reduceLT, Int.reduceLE, Int.reduceEq, Int.reduceNe, Int.reduceBEq, Nat.reduceBEq, Int.reduceBNe, Nat.reduceBNe, Int.reduceAdd, Int.reduceSub, Int.reduceMul, Int.reduceNeg])) (AH.le_refl _) (by omega)
    obtain rfl : j = k := by omega
    simp (dsimp := false) (maxSteps := 4000000) only [q0, hjk, go_sem, ↓reduceIte, Nat.reduceEqDiff, Nat.reduceLT, Nat.reduceLeDiff, Nat.reduceAdd, Nat.reduceMul, Nat.reduceSub, reduceCtorEq, Int.reduceToNat, Int.reduceLT, Int.reduceLE, Int.reduceEq, Int.reduceNe, Int.reduceBEq, Nat.reduceBEq, Int.reduceBNe, Nat.reduceBNe, Int.reduceAdd, Int.reduceSub, Int.reduceMul, Int.reduceNeg]
    refine out2 _ _ _ (by simp) ?_
    clear again2 out2
    simp (dsimp := false) (maxSteps := 4000000) only [go_sem, ↓reduceIte, Nat.reduceEqDiff, Nat.reduceLT, Nat.reduceLeDiff, Nat.reduceAdd, Nat.reduceMul, Nat.reduceSub, reduceCtorEq, Int.reduceToNat, Int.reduceLT, Int.reduceLE, Int.reduceEq, Int.reduceNe, Int.reduceBEq, Nat.reduceBEq, Int.reduceBNe, Nat.reduceBNe, Int.reduceAdd, Int.reduceSub, Int.reduceMul, Int.reduceNeg]
    have rc1 := Record_c hmB2 (by rw [List.length_map]; omega)
    rw [isB_lo, List.length_map, hl2] at rc1
    refine rc1.mono ?_; rintro _ _ ⟨rfl, rfl⟩
    simp (dsimp := false) (maxSteps := 4000000) only [go_sem, ↓reduceIte, Nat.reduceEqDiff, Nat.reduceLT, Nat.reduceLeDiff, Nat.reduceAdd, Nat.reduceMul, Nat.reduceSub, reduceCtorEq, Int.reduceToNat, Int.reduceLT, Int.reduceLE, Int.reduceEq, Int.reduceNe, Int.reduceBEq, Nat.reduceBEq, Int.reduceBNe, Nat.reduceBNe, Int.reduceAdd, Int.reduceSub, Int.reduceMul, Int.reduceNeg]
    have rc2 := RefRecord_c hrB2 (by omega)
    rw [hil] at rc2
    obtain ⟨w0, w1, w2, w3, hw⟩ : ∃ a b c d, digs (numB (isB R') j) = [a, b, c, d] := ⟨_, _, _, _, rfl⟩
    refine rc2.mono ?_; rintro _ _ ⟨rfl, rfl⟩
    rw [hw]
    simp only [List.map_cons, List.map_nil]
    simp (dsimp := false) (maxSteps := 4000000) only [beq_self_eq_true, Bool.and_self, Bool.not_true, ee, go_sem, ↓reduceIte, Nat.reduceEqDiff, Nat.reduceLT, Nat.reduceLeDiff, Nat.reduceAdd, Nat.reduceMul, Nat.reduceSub, reduceCtorEq, Int.reduceToNat, Int.reduceLT, Int.reduceLE, Int.reduceEq, Int.reduceNe, Int.reduceBEq, Nat.reduceBEq, Int.reduceBNe, Nat.reduceBNe, Int.reduceAdd, Int.reduceSub, Int.reduceMul, Int.reduceNeg]
    exact again (i + 1, R') _ _ _ ⟨by simp only; omega, by simp only; omega, hl2, fun r hr => by have := hb2 r hr; simp only; omega, hmB2, hrB2, hKB2⟩ (FrLe.of_lks (by simp (dsimp := false) (maxSteps := 4000000) only [go_sem, ↓reduceIte, Nat.reduceEqDiff, Nat.reduceLT, Nat.reduceLeDiff, Nat.reduceAdd, Nat.reduceMul, Nat.reduceSub, reduceCtorEq, Int.reduceToNat, Int.reduceLT, Int.reduceLE, Int.reduceEq, Int.reduceNe, Int.reduceBEq, Nat.reduceBEq, Int.reduceBNe, Nat.reduceBNe, Int.reduceAdd, Int.reduceSub, Int.reduceMul, Int.reduceNeg])) (AH.le_refl _) (by simp only; omega)
end Go.Proofs.Ytgleplakdghaiaa.Mem
