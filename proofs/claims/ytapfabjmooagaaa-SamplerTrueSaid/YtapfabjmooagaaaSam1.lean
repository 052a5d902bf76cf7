/- sampler.Bits and the reference's: what each comes to. -/
import Derived.Test.YtapfabjmooagaaaSamF
import Derived.Test.YtapfabjmooagaaaClm
namespace Go.Proofs.Ytapfabjmooagaaa.Sam
set_option linter.unusedSimpArgs false
set_option linter.unusedVariables false
open Go Go.AX Go.Proofs Ty Go.Proofs.Ytapfabjmooagaaa.Srt Go.Proofs.Ytapfabjmooagaaa.Wire Go.Proofs.Ytapfabjmooagaaa.Tck
set_option maxHeartbeats 4000000
set_option maxRecDepth 10000

def lk (X : List Sp) (K : List Stp) (N : Int) (i k : Nat) : Bool := lowB X (globalv K (N + 16 * i + 7 + k))
def bitV (X : List Sp) (K : List Stp) (N : Int) (i : Nat) : Bool := !(lk X K N i 0 && lk X K N i 1 || lk X K N i 0 && lk X K N i 2 || lk X K N i 1 && lk X K N i 2)
def bitsR (X : List Sp) (K : List Stp) (N : Int) (i : Nat) : List Bool := rowIf (List.range 11) (fun j _ => bitV X K N j) (fun _ _ => false) i
def bitsV (X : List Sp) (K : List Stp) (f : Int) : List Bool := bitsR X K (localv K f) 11
theorem bitsR_len (X : List Sp) (K : List Stp) (N : Int) (i : Nat) : (bitsR X K N i).length = 11 := rowIf_len.trans List.length_range
theorem bitsR_zero (X : List Sp) (K : List Stp) (N : Int) : bitsR X K N 0 = [false, false, false, false, false, false, false, false, false, false, false] := rfl
theorem bitsR_set (X : List Sp) (K : List Stp) (N : Int) {i : Nat} (hi : i < 11) : (bitsR X K N i).set i (bitV X K N i) = bitsR X K N (i + 1) :=
  rowIf_set (l := List.range 11) (f := fun j _ => bitV X K N j) (x := i) (i := i) (List.getElem?_range hi)
theorem bitsV_get (X : List Sp) (K : List Stp) (f : Int) {i : Nat} (hi : i < 11) : (bitsV X K f)[i]? = some (bitV X K (localv K f) i) := by
  rw [bitsV, bitsR, rowIf_full (by simp), List.getElem?_mapIdx, List.getElem?_range hi]; rfl
def hc (X : List Sp) (K : List Stp) (N : Int) (i : Nat) : Nat → Int
  | 0 => 0
  | k + 1 => hc X K N i k + if lk X K N i k then 0 else 1
theorem hc_bd (X : List Sp) (K : List Stp) (N : Int) (i : Nat) : ∀ k : Nat, 0 ≤ hc X K N i k ∧ hc X K N i k ≤ k
  | 0 => by simp [hc]
  | k + 1 => by
    have := hc_bd X K N i k
    rw [hc]
    split <;> omega
theorem hc_bit (X : List Sp) (K : List Stp) (N : Int) (i : Nat) : decide (3 < 2 * hc X K N i 3) = bitV X K N i := by
  cases h0 : lk X K N i 0 <;> cases h1 : lk X K N i 1 <;> cases h2 : lk X K N i 2 <;> simp [hc, bitV, h0, h1, h2]
theorem local_bd {L : List Stp} (hg : good L = true) (t : Int) : 0 ≤ localv L t ∧ localv L t ≤ 8589934592 := by
  rw [(localv_div hg t).1]
  have h0 := clamp_ge t
  have h1 := clamp_le t
  have := sumT_range h0 (good_R hg).2
  omega
theorem Bits_c (X : List Sp) (K : List Stp) (f : Int) (hg : good K = true) (base : Option Addr) (cap : Nat) (lb : Option Addr) (lc : Nat) (H : AH) (hs : SlcIn H 2 base cap (X.map encP)) (hL : SlcIn H 2 lb lc (K.map enc)) :
    ACalls Try.prog 21 #[.slice base X.length cap, .slice lb K.length lc, .int .i64 f] H (fun v H' => v = .agg ((bitsV X K f).map Value.bool).toArray ∧ H = H') := by
  have hN := local_bd hg f
  have hlen := fun i => bitsR_len X K (localv K f) i
  rw [bitsV]
  refine ACalls.enter2 Try.func21 rfl Try.ntmps21 Try.results21 (by simp) ?_; simp (dsimp := false) (maxSteps := 4000000) only [go_sem, ↓reduceIte, Nat.reduceEqDiff, Nat.reduceLT, Nat.reduceLeDiff, Nat.reduceAdd, Nat.reduceMul, Nat.reduceSub, reduceCtorEq, Int.reduceToNat, Int.reduceLT, Int.reduceLE, Int.reduceEq, Int.reduceNe, Int.reduceBEq, Nat.reduceBEq, Int.reduceBNe, Nat.reduceBNe, Int.reduceAdd, Int.reduceSub, Int.reduceMul, Int.reduceNeg]
  
  refine AllB.mk fun b6 h_b6 => ?_; have hn_b6 := h_b6; (try simp only [fresh_add, fresh_set, ne_eq] at hn_b6); have hr_b6 := hn_b6; (try simp only [@eq_comm Nat b6] at hr_b6); simp (dsimp := false) (maxSteps := 4000000) only [hlen, hn_b6, hr_b6, go_sem, ↓reduceIte, Nat.reduceEqDiff, Nat.reduceLT, Nat.reduceLeDiff, Nat.reduceAdd, Nat.reduceMul, Nat.reduceSub, reduceCtorEq, Int.reduceToNat, Int.reduceLT, Int.reduceLE, Int.reduceEq, Int.reduceNe, Int.reduceBEq, Nat.reduceBEq, Int.reduceBNe, Nat.reduceBNe, Int.reduceAdd, Int.reduceSub, Int.reduceMul, Int.reduceNeg]
  refine (Local_c K f hg lb lc _ (hL.add (by simp only [fresh_add, ne_eq, hn_b6, not_false_eq_true, and_self] : Fresh _ b6))).mono ?_; rintro _ _ ⟨rfl, rfl⟩
  generalize localv K f = N at *
  simp (dsimp := false) (maxSteps := 4000000) only [hlen, hn_b6, hr_b6, go_sem, ↓reduceIte, Nat.reduceEqDiff, Nat.reduceLT, Nat.reduceLeDiff, Nat.reduceAdd, Nat.reduceMul, Nat.reduceSub, reduceCtorEq, Int.reduceToNat, Int.reduceLT, Int.reduceLE, Int.reduceEq, Int.reduceNe, Int.reduceBEq, Nat.reduceBEq, Int.reduceBNe, Nat.reduceBNe, Int.reduceAdd, Int.reduceSub, Int.reduceMul, Int.reduceNeg]
  refine AllB.mk fun b8 h_b8 => ?_; have hn_b8 := h_b8; (try simp only [fresh_add, fresh_set, ne_eq] at hn_b8); have hr_b8 := hn_b8; (try simp only [@eq_comm Nat b8] at hr_b8); simp (dsimp := false) (maxSteps := 4000000) only [hlen, hn_b6, hr_b6, hn_b8, hr_b8, go_sem, ↓reduceIte, Nat.reduceEqDiff, Nat.reduceLT, Nat.reduceLeDiff, Nat.reduceAdd, Nat.reduceMul, Nat.reduceSub, reduceCtorEq, Int.reduceToNat, Int.reduceLT, Int.reduceLE, Int.reduceEq, Int.reduceNe, Int.reduceBEq, Nat.reduceBEq, Int.reduceBNe, Nat.reduceBNe, Int.reduceAdd, Int.reduceSub, Int.reduceMul, Int.reduceNeg]
  refine AWp.loopo (ι := Nat) (fun i => i ≤ 11) (fun i => [(15, .int .i64 i), (0, .slice base X.length cap), (1, .slice lb K.length lc), (7, .int .i64 N), (6, .pointer (some ⟨b6, 0, none⟩)), (8, .pointer (some ⟨b8, 0, none⟩))])
    (fun i => (H.add b6 (.cells [.bool false, .bool false, .bool false, .bool false, .bool false, .bool false, .bool false, .bool false, .bool false, .bool false, .bool false] 41 11)).add b8 (.cells ((bitsR X K N i).map Value.bool) 41 11)) (fun i => 11 - i) 0 (by omega) (FrLe.of_lks ?_) (AH.le_refl _) fun i hi Q again out => ?_
  · simp (dsimp := false) (maxSteps := 4000000) only [hlen, hn_b6, hr_b6, hn_b8, hr_b8, go_sem, ↓reduceIte, Nat.reduceEqDiff, Nat.reduceLT, Nat.reduceLeDiff, Nat.reduceAdd, Nat.reduceMul, Nat.reduceSub, reduceCtorEq, Int.reduceToNat, Int.reduceLT, Int.reduceLE, Int.reduceEq, Int.reduceNe, Int.reduceBEq, Nat.reduceBEq, Int.reduceBNe, Nat.reduceBNe, Int.reduceAdd, Int.reduceSub, Int.reduceMul, Int.reduceNeg]
  by_cases h : (i : Int) < 11
  case neg =>
    obtain rfl : i = 11 := by omega
    simp (dsimp := false) (maxSteps := 4000000) only [h, hlen, hn_b6, hr_b6, hn_b8, hr_b8, go_sem, ↓reduceIte, Nat.reduceEqDiff, Nat.reduceLT, Nat.reduceLeDiff, Nat.reduceAdd, Nat.reduceMul, Nat.reduceSub, reduceCtorEq, Int.reduceToNat, Int.reduceLT, Int.reduceLE, Int.reduceEq, Int.reduceNe, Int.reduceBEq, Nat.reduceBEq, Int.reduceBNe, Nat.reduceBNe, Int.reduceAdd, Int.reduceSub, Int.reduceMul, Int.reduceNeg]
    refine out _ _ _ (by simp) ?_
    simp (dsimp := false) (maxSteps := 4000000) only [hlen, hn_b6, hr_b6, hn_b8, hr_b8, go_sem, ↓reduceIte, Nat.reduceEqDiff, Nat.reduceLT, Nat.reduceLeDiff, Nat.reduceAdd, Nat.reduceMul, Nat.reduceSub, reduceCtorEq, Int.reduceToNat, Int.reduceLT, Int.reduceLE, Int.reduceEq, Int.reduceNe, Int.reduceBEq, Nat.reduceBEq, Int.reduceBNe, Nat.reduceBNe, Int.reduceAdd, Int.reduceSub, Int.reduceMul, Int.reduceNeg]
    exact ⟨H, (AH.le_add (AH.le_add (AH.le_refl _) ((by simp only [fresh_add, fresh_set, ne_eq, hn_b6, not_false_eq_true, and_self] : Fresh _ b6).2)) ((by simp only [fresh_add, fresh_set, ne_eq, hn_b8, not_false_eq_true, and_self] : Fresh _ b8).2)), (by first | exact ⟨rfl, rfl⟩ | rfl)⟩
  have hi' : i < 11 := by omega
  have ee := i64_succ (i := i) (by omega)
  have e1 : IntKind.i64.wrap (16 * (i : Int)) = 16 * i := i64_eq (by omega) (by omega)
  have e2 : IntKind.i64.wrap (N + 16 * i) = N + 16 * i := i64_eq (by omega) (by omega)
  have e3 : IntKind.i64.wrap (N + 16 * i + 7) = N + 16 * i + 7 := i64_eq (by omega) (by omega)
  have hsi : SlcIn ((H.add b6 (.cells [.bool false, .bool false, .bool false, .bool false, .bool false, .bool false, .bool false, .bool false, .bool false, .bool false, .bool false] 41 11)).add b8 (.cells ((bitsR X K N i).map Value.bool) 41 11)) 2 base cap (X.map encP) := ((hs.add (by simp only [fresh_add, ne_eq, hn_b6, not_false_eq_true, and_self] : Fresh _ b6)).add (by simp only [fresh_add, ne_eq, hn_b8, not_false_eq_true, and_self] : Fresh _ b8))
  have hLi : SlcIn ((H.add b6 (.cells [.bool false, .bool false, .bool false, .bool false, .bool false, .bool false, .bool false, .bool false, .bool false, .bool false, .bool false] 41 11)).add b8 (.cells ((bitsR X K N i).map Value.bool) 41 11)) 2 lb lc (K.map enc) := ((hL.add (by simp only [fresh_add, ne_eq, hn_b6, not_false_eq_true, and_self] : Fresh _ b6)).add (by simp only [fresh_add, ne_eq, hn_b8, not_false_eq_true, and_self] : Fresh _ b8))
  simp (dsimp := false) (maxSteps := 4000000) only [h, hlen, hn_b6, hr_b6, hn_b8, hr_b8, go_sem, ↓reduceIte, Nat.reduceEqDiff, Nat.reduceLT, Nat.reduceLeDiff, Nat.reduceAdd, Nat.reduceMul, Nat.reduceSub, reduceCtorEq, Int.reduceToNat, Int.reduceLT, Int.reduceLE, Int.reduceEq, Int.reduceNe, Int.reduceBEq, Nat.reduceBEq, Int.reduceBNe, Nat.reduceBNe, Int.reduceAdd, Int.reduceSub, Int.reduceMul, Int.reduceNeg]
  refine AWp.loopo (ι := Nat) (fun k => k ≤ 3) (fun k => [(18, .int .i64 k), (10, .int .i64 (hc X K N i k)), (9, .int .i64 i), (15, .int .i64 i), (0, .slice base X.length cap), (1, .slice lb K.length lc), (7, .int .i64 N), (6, .pointer (some ⟨b6, 0, none⟩)), (8, .pointer (some ⟨b8, 0, none⟩))])
    (fun _ => (H.add b6 (.cells [.bool false, .bool false, .bool false, .bool false, .bool false, .bool false, .bool false, .bool false, .bool false, .bool false, .bool false] 41 11)).add b8 (.cells ((bitsR X K N i).map Value.bool) 41 11)) (fun k => 3 - k) 0 (by omega) (FrLe.of_lks ?_) (AH.le_refl _) fun k hk Q2 again2 out2 => ?_
  · simp (dsimp := false) (maxSteps := 4000000) only [hlen, hn_b6, hr_b6, hn_b8, hr_b8, go_sem, ↓reduceIte, Nat.reduceEqDiff, Nat.reduceLT, Nat.reduceLeDiff, Nat.reduceAdd, Nat.reduceMul, Nat.reduceSub, reduceCtorEq, Int.reduceToNat, Int.reduceLT, Int.reduceLE, Int.reduceEq, Int.reduceNe, Int.reduceBEq, Nat.reduceBEq, Int.reduceBNe, Nat.reduceBNe, Int.reduceAdd, Int.reduceSub, Int.reduceMul, Int.reduceNeg]
    rfl
  by_cases h3 : (k : Int) < 3
  · have e4 : IntKind.i64.wrap (N + 16 * i + 7 + k) = N + 16 * i + 7 + k := i64_eq (by omega) (by omega)
    have ek := i64_succ (i := k) (by omega)
    have hb := hc_bd X K N i k
    simp (dsimp := false) (maxSteps := 4000000) only [h3, e1, e2, e3, e4, hlen, hn_b6, hr_b6, hn_b8, hr_b8, go_sem, ↓reduceIte, Nat.reduceEqDiff, Nat.reduceLT, Nat.reduceLeDiff, Nat.reduceAdd, Nat.reduceMul, Nat.reduceSub, reduceCtorEq, Int.reduceToNat, Int.reduceLT, Int.reduceLE, Int.reduceEq, Int.reduceNe, Int.reduceBEq, Nat.reduceBEq, Int.reduceBNe, Nat.reduceBNe, Int.reduceAdd, Int.reduceSub, Int.reduceMul, Int.reduceNeg]
    refine (Global_c K (N + 16 * i + 7 + k) hg lb lc _ hLi).mono ?_; rintro _ _ ⟨rfl, rfl⟩
    simp (dsimp := false) (maxSteps := 4000000) only [hlen, hn_b6, hr_b6, hn_b8, hr_b8, go_sem, ↓reduceIte, Nat.reduceEqDiff, Nat.reduceLT, Nat.reduceLeDiff, Nat.reduceAdd, Nat.reduceMul, Nat.reduceSub, reduceCtorEq, Int.reduceToNat, Int.reduceLT, Int.reduceLE, Int.reduceEq, Int.reduceNe, Int.reduceBEq, Nat.reduceBEq, Int.reduceBNe, Nat.reduceBNe, Int.reduceAdd, Int.reduceSub, Int.reduceMul, Int.reduceNeg]
    refine (High_c X (globalv K (N + 16 * i + 7 + k)) base cap _ hsi).mono ?_; rintro _ _ ⟨rfl, rfl⟩
    cases hlk : lowB X (globalv K (N + 16 * i + 7 + k)) with
    | true =>
      have e : hc X K N i (k + 1) = hc X K N i k := by rw [hc, lk, hlk]; simp
      simp (dsimp := false) (maxSteps := 4000000) only [ek, hlen, hn_b6, hr_b6, hn_b8, hr_b8, go_sem, ↓reduceIte, Nat.reduceEqDiff, Nat.reduceLT, Nat.reduceLeDiff, Nat.reduceAdd, Nat.reduceMul, Nat.reduceSub, reduceCtorEq, Int.reduceToNat, Int.reduceLT, Int.reduceLE, Int.reduceEq, Int.reduceNe, Int.reduceBEq, Nat.reduceBEq, Int.reduceBNe, Nat.reduceBNe, Int.reduceAdd, Int.reduceSub, Int.reduceMul, Int.reduceNeg]
      refine again2 (k + 1) _ _ (by omega) (FrLe.of_lks ?_) (AH.le_refl _) (by omega)
      rw [e]
      simp (dsimp := false) (maxSteps := 4000000) only [hlen, hn_b6, hr_b6, hn_b8, hr_b8, go_sem, ↓reduceIte, Nat.reduceEqDiff, Nat.reduceLT, Nat.reduceLeDiff, Nat.reduceAdd, Nat.reduceMul, Nat.reduceSub, reduceCtorEq, Int.reduceToNat, Int.reduceLT, Int.reduceLE, Int.reduceEq, Int.reduceNe, Int.reduceBEq, Nat.reduceBEq, Int.reduceBNe, Nat.reduceBNe, Int.reduceAdd, Int.reduceSub, Int.reduceMul, Int.reduceNeg]
    | false =>
      have e : hc X K N i (k + 1) = hc X K N i k + 1 := by rw [hc, lk, hlk]; simp
      have e5 : IntKind.i64.wrap (hc X K N i k + 1) = hc X K N i k + 1 := i64_eq (by omega) (by omega)
      simp (dsimp := false) (maxSteps := 4000000) only [ek, e5, hlen, hn_b6, hr_b6, hn_b8, hr_b8, go_sem, ↓reduceIte, Nat.reduceEqDiff, Nat.reduceLT, Nat.reduceLeDiff, Nat.reduceAdd, Nat.reduceMul, Nat.reduceSub, reduceCtorEq, Int.reduceToNat, Int.reduceLT, Int.reduceLE, Int.reduceEq, Int.reduceNe, Int.reduceBEq, Nat.reduceBEq, Int.reduceBNe, Nat.reduceBNe, Int.reduceAdd, Int.reduceSub, Int.reduceMul, Int.reduceNeg]
      refine again2 (k + 1) _ _ (by omega) (FrLe.of_lks ?_) (AH.le_refl _) (by omega)
      rw [e]
      simp (dsimp := false) (maxSteps := 4000000) only [hlen, hn_b6, hr_b6, hn_b8, hr_b8, go_sem, ↓reduceIte, Nat.reduceEqDiff, Nat.reduceLT, Nat.reduceLeDiff, Nat.reduceAdd, Nat.reduceMul, Nat.reduceSub, reduceCtorEq, Int.reduceToNat, Int.reduceLT, Int.reduceLE, Int.reduceEq, Int.reduceNe, Int.reduceBEq, Nat.reduceBEq, Int.reduceBNe, Nat.reduceBNe, Int.reduceAdd, Int.reduceSub, Int.reduceMul, Int.reduceNeg]
  obtain rfl : k = 3 := by omega
  have hb := hc_bd X K N i 3
  have e6 : IntKind.i64.wrap (2 * hc X K N i 3) = 2 * hc X K N i 3 := i64_eq (by omega) (by omega)
  have hbit := hc_bit X K N i
  have hset := bitsR_set X K N hi'
  simp (dsimp := false) (maxSteps := 4000000) only [h3, hlen, hn_b6, hr_b6, hn_b8, hr_b8, go_sem, ↓reduceIte, Nat.reduceEqDiff, Nat.reduceLT, Nat.reduceLeDiff, Nat.reduceAdd, Nat.reduceMul, Nat.reduceSub, reduceCtorEq, Int.reduceToNat, Int.reduceLT, Int.reduceLE, Int.reduceEq, Int.reduceNe, Int.reduceBEq, Nat.reduceBEq, Int.reduceBNe, Nat.reduceBNe, Int.reduceAdd, Int.reduceSub, Int.reduceMul, Int.reduceNeg]
  refine out2 _ _ _ (by simp) ?_
  simp (dsimp := false) (maxSteps := 4000000) only [e6, h, (by omega : (0 : Int) ≤ (i : Int)), (by omega : i ≤ 10), hbit, ee, hlen, hn_b6, hr_b6, hn_b8, hr_b8, go_sem, ↓reduceIte, Nat.reduceEqDiff, Nat.reduceLT, Nat.reduceLeDiff, Nat.reduceAdd, Nat.reduceMul, Nat.reduceSub, reduceCtorEq, Int.reduceToNat, Int.reduceLT, Int.reduceLE, Int.reduceEq, Int.reduceNe, Int.reduceBEq, Nat.reduceBEq, Int.reduceBNe, Nat.reduceBNe, Int.reduceAdd, Int.reduceSub, Int.reduceMul, Int.reduceNeg]
  exact again (i + 1) _ _ (by omega) (FrLe.of_lks (by simp (dsimp := false) (maxSteps := 4000000) only [hlen, hn_b6, hr_b6, hn_b8, hr_b8, go_sem, ↓reduceIte, Nat.reduceEqDiff, Nat.reduceLT, Nat.reduceLeDiff, Nat.reduceAdd, Nat.reduceMul, Nat.reduceSub, reduceCtorEq, Int.reduceToNat, Int.reduceLT, Int.reduceLE, Int.reduceEq, Int.reduceNe, Int.reduceBEq, Nat.reduceBEq, Int.reduceBNe, Nat.reduceBNe, Int.reduceAdd, Int.reduceSub, Int.reduceMul, Int.reduceNeg])) (by rw [← List.map_set, hset]; exact AH.le_refl _) (by omega)
end Go.Proofs.Ytapfabjmooagaaa.Sam
