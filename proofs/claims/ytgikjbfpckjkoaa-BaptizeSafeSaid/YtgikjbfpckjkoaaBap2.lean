/- baptize: search. -/
import Derived.Test.YtgikjbfpckjkoaaBap1
namespace Go.Proofs.Ytgikjbfpckjkoaa.BapN
set_option linter.unusedSimpArgs false
set_option linter.unusedVariables false
open Go Go.AX Go.Proofs Ty
set_option maxHeartbeats 4000000
set_option maxRecDepth 10000

def top : Int := 18446744073709551615
def seaF (L : List Slv) (D : List Bool) : Nat → Nat → Int → Int → Int
  | 0, _, _, high => high
  | m + 1, r, low, high => if (ans L ((low + high) / 2) && !gone D r) = true then seaF L D m (r + 1) low ((low + high) / 2)
    else if (low + high) / 2 < top then seaF L D m (r + 1) ((low + high) / 2 + 1) high else seaF L D m (r + 1) low high
def thrP (p : Int) (s : Slv) : Bool := s.name == 0 && s.phys == p
def thr (L : List Slv) (p : Int) : Bool := L.any (thrP p)
def srch (L : List Slv) (D : List Bool) (r : Nat) : Int × Nat × Bool :=
  if (ans L top && !gone D r) = true then (if (thr L (seaF L D 64 (r + 1) 0 top) && !gone D (r + 65)) = true then (seaF L D 64 (r + 1) 0 top, 66, true) else (0, 66, false)) else (0, 1, false)
theorem thrP_c (s : Slv) (p : Int) (b : Nat) (H : AH) (hb : H.rd ⟨b, 0, none⟩ = some (.int .u64 p)) : ACalls Try.prog 99 (.agg (enc s).toArray :: [.pointer (some ⟨b, 0, none⟩)]).toArray H (fun v H' => v = .bool (thrP p s) ∧ H = H') := by
  refine ACalls.enter2 Try.func99 rfl Try.ntmps99 Try.results99 (by simp) ?_; simp (dsimp := false) (maxSteps := 4000000) only [enc_mk, go_sem, ↓reduceIte, Nat.reduceEqDiff, Nat.reduceLT, Nat.reduceLeDiff, Nat.reduceAdd, Nat.reduceMul, Nat.reduceSub, reduceCtorEq, Int.reduceToNat, Int.reduceLT, Int.reduceLE, Int.reduceEq, Int.reduceNe, Int.reduceBEq, Nat.reduceBEq, Int.reduceBNe, Nat.reduceBNe, Int.reduceAdd, Int.reduceSub, Int.reduceMul, Int.reduceNeg]
  refine AllB.mk fun b2 h_b2 => ?_; have hn_b2 := h_b2; (try simp only [fresh_add, fresh_set, ne_eq] at hn_b2); have hr_b2 := hn_b2; (try simp only [@eq_comm Nat b2] at hr_b2); simp (dsimp := false) (maxSteps := 4000000) only [enc_mk, hn_b2, hr_b2, go_sem, ↓reduceIte, Nat.reduceEqDiff, Nat.reduceLT, Nat.reduceLeDiff, Nat.reduceAdd, Nat.reduceMul, Nat.reduceSub, reduceCtorEq, Int.reduceToNat, Int.reduceLT, Int.reduceLE, Int.reduceEq, Int.reduceNe, Int.reduceBEq, Nat.reduceBEq, Int.reduceBNe, Nat.reduceBNe, Int.reduceAdd, Int.reduceSub, Int.reduceMul, Int.reduceNeg]
  have nr_hb := (Fresh.ne_rd (by simp only [hn_b2] : Fresh H b2) hb)
  by_cases h : s.name = 0
  · simp (dsimp := false) (maxSteps := 4000000) only [hb, nr_hb, h, enc_mk, hn_b2, hr_b2, go_sem, ↓reduceIte, Nat.reduceEqDiff, Nat.reduceLT, Nat.reduceLeDiff, Nat.reduceAdd, Nat.reduceMul, Nat.reduceSub, reduceCtorEq, Int.reduceToNat, Int.reduceLT, Int.reduceLE, Int.reduceEq, Int.reduceNe, Int.reduceBEq, Nat.reduceBEq, Int.reduceBNe, Nat.reduceBNe, Int.reduceAdd, Int.reduceSub, Int.reduceMul, Int.reduceNeg]
    exact ⟨H, (AH.le_add (AH.le_refl _) ((by simp only [fresh_add, fresh_set, ne_eq, hn_b2, not_false_eq_true, and_self] : Fresh _ b2).2)), (by first | exact ⟨by simp [thrP, h], rfl⟩ | rfl)⟩
  · simp (dsimp := false) (maxSteps := 4000000) only [h, enc_mk, hn_b2, hr_b2, go_sem, ↓reduceIte, Nat.reduceEqDiff, Nat.reduceLT, Nat.reduceLeDiff, Nat.reduceAdd, Nat.reduceMul, Nat.reduceSub, reduceCtorEq, Int.reduceToNat, Int.reduceLT, Int.reduceLE, Int.reduceEq, Int.reduceNe, Int.reduceBEq, Nat.reduceBEq, Int.reduceBNe, Nat.reduceBNe, Int.reduceAdd, Int.reduceSub, Int.reduceMul, Int.reduceNeg]
    exact ⟨H, (AH.le_add (AH.le_refl _) ((by simp only [fresh_add, fresh_set, ne_eq, hn_b2, not_false_eq_true, and_self] : Fresh _ b2).2)), (by first | exact ⟨by simp [thrP, h], rfl⟩ | rfl)⟩
theorem _root_.Go.AX.Keep.at1 {A : AH} {b : Nat} {k : ABlk} : Keep A ((A.del b).add b k) (· = b) := ⟨rfl, fun b' hb _ => by rw [find_add, if_neg hb, find_del, if_neg hb]⟩
theorem heard_k (ln : Nat) (lb : Option Addr) (lc : Nat) (D : List Bool) (db : Option Addr) (dc bm r : Nat) (x : Bool) (A : AH) (hm : A.find bm = some (mst lb ln lc db D.length dc r)) (hD : SlcIn A 1 db dc (D.map encb)) (hr : r < 1000000000) :
    ACalls Try.prog 98 #[.pointer (some ⟨bm, 0, none⟩), .bool x] A (fun v H' => v = .bool (x && !gone D r) ∧ H'.find bm = some (mst lb ln lc db D.length dc (r + 1)) ∧ Keep A H' (· = bm)) :=
  (heard_c ln lb lc D db dc bm r x A hm hD hr).mono fun v H' ⟨h1, h2⟩ => ⟨h1, by rw [← h2, find_add_self], h2 ▸ Keep.at1⟩
theorem and_one {a b : Int} (a0 : 0 ≤ a) (a1 : a < 18446744073709551616) (b0 : 0 ≤ b) (b1 : b < 18446744073709551616) : ibits .and .u64 (ibits .and .u64 a b) 1 = (a % 2) * (b % 2) := by
  obtain ⟨x, rfl⟩ : ∃ x : Nat, a = x := ⟨a.toNat, by omega⟩
  obtain ⟨y, rfl⟩ : ∃ y : Nat, b = y := ⟨b.toNat, by omega⟩
  have e : ∀ p q : Nat, p < 18446744073709551616 → q < 18446744073709551616 → ibits .and .u64 (p : Int) (q : Int) = ((p &&& q : Nat) : Int) := fun p q hp hq => by
    show IntKind.u64.wrap ((BitVec.ofInt IntKind.u64.bits (p : Int) &&& BitVec.ofInt IntKind.u64.bits (q : Int)).toNat : Int) = _
    have hbits : IntKind.u64.bits = 64 := rfl
    rw [BitVec.toNat_and, BitVec.ofInt_natCast, BitVec.ofInt_natCast, BitVec.toNat_ofNat, BitVec.toNat_ofNat, hbits, Nat.mod_eq_of_lt (by omega), Nat.mod_eq_of_lt (by omega)]
    have : p &&& q ≤ p := Nat.and_le_left
    exact u64_eq (by omega) (by omega)
  have hle : x &&& y ≤ x := Nat.and_le_left
  rw [e x y (by omega) (by omega), show (1 : Int) = ((1 : Nat) : Int) from rfl, e _ _ (by omega) (by omega), Nat.and_one_is_mod]
  have h2 : (x &&& y) % 2 = (x % 2) * (y % 2) := by
    have h3 := Nat.and_mod_two_pow (a := x) (b := y) (n := 1)
    rw [Nat.pow_one] at h3
    rw [h3]
    rcases Nat.mod_two_eq_zero_or_one x with h | h <;> rcases Nat.mod_two_eq_zero_or_one y with h' | h' <;> rw [h, h'] <;> rfl
  rw [h2, Int.natCast_mul]
  rfl
theorem mid_eq {a b : Int} (a0 : 0 ≤ a) (a1 : a ≤ top) (b0 : 0 ≤ b) (b1 : b ≤ top) : IntKind.u64.wrap (IntKind.u64.wrap (a / 2 + b / 2) + ibits .and .u64 (ibits .and .u64 a b) 1) = (a + b) / 2 := by
  unfold top at a1 b1
  rw [and_one a0 (by omega) b0 (by omega), u64_eq (x := a / 2 + b / 2) (by omega) (by omega)]
  rcases Int.emod_two_eq a with h | h <;> rcases Int.emod_two_eq b with h' | h' <;> rw [h, h'] <;> rw [u64_eq (by omega) (by omega)] <;> omega
theorem search_c (L : List Slv) (lb : Option Addr) (lc : Nat) (D : List Bool) (db : Option Addr) (dc bm r : Nat) (A : AH) (hm : A.find bm = some (mst lb L.length lc db D.length dc r)) (kL : ∀ B, Keep A B (· = bm) → SlcIn B 2 lb lc (L.map enc)) (kD : ∀ B, Keep A B (· = bm) → SlcIn B 1 db dc (D.map encb))
    (hr : r < 900000000) :
    ACalls Try.prog 66 #[.pointer (some ⟨bm, 0, none⟩)] A (fun v H' => v = .tuple #[.int .u64 (srch L D r).1, .bool (srch L D r).2.2] ∧ H'.find bm = some (mst lb L.length lc db D.length dc (r + (srch L D r).2.1)) ∧ Keep A H' (· = bm)) := by
  have hL := kL A Keep.refl
  have hD := kD A Keep.refl
  have f0 : ∀ {B : AH} {r : Nat}, B.find bm = some (mst lb L.length lc db D.length dc r) → B.rd ⟨bm, 0, none⟩ = some (.slice lb L.length lc) := fun h => by rw [rd_find h]; rfl
  have m0 := f0 hm
  refine ACalls.enter2 Try.func66 rfl Try.ntmps66 Try.results66 (by simp) ?_; simp (dsimp := false) (maxSteps := 4000000) only [m0, go_sem, ↓reduceIte, Nat.reduceEqDiff, Nat.reduceLT, Nat.reduceLeDiff, Nat.reduceAdd, Nat.reduceMul, Nat.reduceSub, reduceCtorEq, Int.reduceToNat, Int.reduceLT, Int.reduceLE, Int.reduceEq, Int.reduceNe, Int.reduceBEq, Nat.reduceBEq, Int.reduceBNe, Nat.reduceBNe, Int.reduceAdd, Int.reduceSub, Int.reduceMul, Int.reduceNeg]
  refine (Answers_c L 18446744073709551615 lb lc _ hL).mono ?_; rintro _ _ ⟨rfl, rfl⟩
  simp (dsimp := false) (maxSteps := 4000000) only [m0, go_sem, ↓reduceIte, Nat.reduceEqDiff, Nat.reduceLT, Nat.reduceLeDiff, Nat.reduceAdd, Nat.reduceMul, Nat.reduceSub, reduceCtorEq, Int.reduceToNat, Int.reduceLT, Int.reduceLE, Int.reduceEq, Int.reduceNe, Int.reduceBEq, Nat.reduceBEq, Int.reduceBNe, Nat.reduceBNe, Int.reduceAdd, Int.reduceSub, Int.reduceMul, Int.reduceNeg]
  refine (heard_k L.length lb lc D db dc bm r _ _ hm hD (by omega)).mono ?_; rintro _ A1 ⟨rfl, m1, K1⟩
  have hL1 := kL _ K1
  have hD1 := kD _ K1
  cases hh : (ans L 18446744073709551615 && !gone D r) with
  | false =>
    have e : srch L D r = (0, 1, false) := by
      rw [srch, if_neg]
      unfold top
      rw [hh]; simp
    simp (dsimp := false) (maxSteps := 4000000) only [m0, go_sem, ↓reduceIte, Nat.reduceEqDiff, Nat.reduceLT, Nat.reduceLeDiff, Nat.reduceAdd, Nat.reduceMul, Nat.reduceSub, reduceCtorEq, Int.reduceToNat, Int.reduceLT, Int.reduceLE, Int.reduceEq, Int.reduceNe, Int.reduceBEq, Nat.reduceBEq, Int.reduceBNe, Nat.reduceBNe, Int.reduceAdd, Int.reduceSub, Int.reduceMul, Int.reduceNeg]
    rw [e]
    exact ⟨A1, AH.le_refl _, rfl, m1, K1⟩
  | true =>
  have e : srch L D r = if (thr L (seaF L D 64 (r + 1) 0 top) && !gone D (r + 65)) = true then (seaF L D 64 (r + 1) 0 top, 66, true) else (0, 66, false) := by
    rw [srch, if_pos]
    unfold top
    exact hh
  generalize hv : seaF L D 64 (r + 1) 0 top = hg at e
  simp (dsimp := false) (maxSteps := 4000000) only [m0, go_sem, ↓reduceIte, Nat.reduceEqDiff, Nat.reduceLT, Nat.reduceLeDiff, Nat.reduceAdd, Nat.reduceMul, Nat.reduceSub, reduceCtorEq, Int.reduceToNat, Int.reduceLT, Int.reduceLE, Int.reduceEq, Int.reduceNe, Int.reduceBEq, Nat.reduceBEq, Int.reduceBNe, Nat.reduceBNe, Int.reduceAdd, Int.reduceSub, Int.reduceMul, Int.reduceNeg]
  refine AllB.mk fun b5 h_b5 => ?_
  have hne : ¬ b5 = bm := h_b5.ne_find m1
  have fb5 : Fresh A b5 := K1.fresh h_b5 hne
  simp (dsimp := false) (maxSteps := 4000000) only [m0, go_sem, ↓reduceIte, Nat.reduceEqDiff, Nat.reduceLT, Nat.reduceLeDiff, Nat.reduceAdd, Nat.reduceMul, Nat.reduceSub, reduceCtorEq, Int.reduceToNat, Int.reduceLT, Int.reduceLE, Int.reduceEq, Int.reduceNe, Int.reduceBEq, Nat.reduceBEq, Int.reduceBNe, Nat.reduceBNe, Int.reduceAdd, Int.reduceSub, Int.reduceMul, Int.reduceNeg]
  refine AWp.loopr (ι := Nat × Int × Int) (fun x B => x.1 ≤ 64 ∧ (0 ≤ x.2.1 ∧ x.2.1 ≤ top) ∧ (0 ≤ x.2.2 ∧ x.2.2 ≤ top) ∧ hg = seaF L D (64 - x.1) (r + 1 + x.1) x.2.1 x.2.2 ∧ B.find bm = some (mst lb L.length lc db D.length dc (r + 1 + x.1)) ∧ B.find b5 = some (.cells [.int .u64 x.2.2] 24 1) ∧ Keep A B (· = bm))
    (fun x => [(16, .int .i64 x.1), (4, .int .u64 x.2.1), (5, .pointer (some ⟨b5, 0, none⟩)), (0, .pointer (some ⟨bm, 0, none⟩))]) (fun x => 64 - x.1) (0, 0, top) (A1.add b5 (.cells [.int .u64 18446744073709551615] 24 1))
    ⟨by decide, ⟨by decide, by decide⟩, ⟨by decide, by decide⟩, hv.symm, by rw [find_add_ne _ hne]; exact m1, find_add_self _ _ _, K1.trans (Keep.add h_b5)⟩ (FrLe.of_lks ?_) (AH.le_refl _) fun x B hi Q again out => ?_
  · simp (dsimp := false) (maxSteps := 4000000) only [m0, go_sem, ↓reduceIte, Nat.reduceEqDiff, Nat.reduceLT, Nat.reduceLeDiff, Nat.reduceAdd, Nat.reduceMul, Nat.reduceSub, reduceCtorEq, Int.reduceToNat, Int.reduceLT, Int.reduceLE, Int.reduceEq, Int.reduceNe, Int.reduceBEq, Nat.reduceBEq, Int.reduceBNe, Nat.reduceBNe, Int.reduceAdd, Int.reduceSub, Int.reduceMul, Int.reduceNeg]
  clear m1 K1 hL1 hD1 m0 hm
  obtain ⟨i, low, high⟩ := x
  obtain ⟨hi, ⟨l0, l1⟩, ⟨g0, g1⟩, hs, hm, h5, hK⟩ := hi
  dsimp only at hi l0 l1 g0 g1 hs hm h5 again ⊢
  have hLB := kL _ hK
  have hDB := kD _ hK
  have m0 := f0 hm
  have m5 : B.rd ⟨b5, 0, none⟩ = some (.int .u64 high) := by rw [rd_find h5]; rfl
  by_cases h : (i : Int) < 64
  · have ee := i64_succ (i := i) (by omega)
    obtain ⟨q, hq⟩ : ∃ q, 64 - i = q + 1 := ⟨63 - i, by omega⟩
    have hq2 : 64 - (i + 1) = q := by omega
    have e1 : low.tdiv 2 = low / 2 := Int.tdiv_eq_ediv_of_nonneg l0
    have e2 : high.tdiv 2 = high / 2 := Int.tdiv_eq_ediv_of_nonneg g0
    have tl := l1
    have tg := g1
    unfold top at tl tg
    have e3 : IntKind.u64.wrap (low / 2) = low / 2 := u64_eq (by omega) (by omega)
    have e4 : IntKind.u64.wrap (high / 2) = high / 2 := u64_eq (by omega) (by omega)
    have e5 := mid_eq l0 l1 g0 g1
    have c0 : 0 ≤ (low + high) / 2 := by omega
    have c1 : (low + high) / 2 ≤ 18446744073709551615 := by omega
    rw [hq, seaF] at hs
    simp (dsimp := false) (maxSteps := 4000000) only [h, e1, e2, e3, e4, m5, e5, m0, m0, go_sem, ↓reduceIte, Nat.reduceEqDiff, Nat.reduceLT, Nat.reduceLeDiff, Nat.reduceAdd, Nat.reduceMul, Nat.reduceSub, reduceCtorEq, Int.reduceToNat, Int.reduceLT, Int.reduceLE, Int.reduceEq, Int.reduceNe, Int.reduceBEq, Nat.reduceBEq, Int.reduceBNe, Nat.reduceBNe, Int.reduceAdd, Int.reduceSub, Int.reduceMul, Int.reduceNeg]
    refine (Answers_c L ((low + high) / 2) lb lc _ hLB).mono ?_; rintro _ _ ⟨rfl, rfl⟩
    simp (dsimp := false) (maxSteps := 4000000) only [m0, go_sem, ↓reduceIte, Nat.reduceEqDiff, Nat.reduceLT, Nat.reduceLeDiff, Nat.reduceAdd, Nat.reduceMul, Nat.reduceSub, reduceCtorEq, Int.reduceToNat, Int.reduceLT, Int.reduceLE, Int.reduceEq, Int.reduceNe, Int.reduceBEq, Nat.reduceBEq, Int.reduceBNe, Nat.reduceBNe, Int.reduceAdd, Int.reduceSub, Int.reduceMul, Int.reduceNeg]
    refine (heard_k L.length lb lc D db dc bm (r + 1 + i) _ _ hm hDB (by omega)).monoW ?_; rintro _ B1 ⟨rfl, m1, K1⟩
    have h51 := K1.find hne h5
    refine ⟨_, le_at h51, ?_⟩
    have K2 : ∀ k', Keep A ((B1.del b5).add b5 k') (· = bm) := fun k' => (hK.trans K1).then Keep.at1 fun b hb => .inr (hb ▸ fb5)
    have m2 : ∀ k', ((B1.del b5).add b5 k').find bm = some (mst lb L.length lc db D.length dc (r + 1 + (i + 1))) := fun k' => by
      rw [find_add_ne _ hne, find_del, if_neg (fun h => hne h.symm)]; exact m1
    cases hh : (ans L ((low + high) / 2) && !gone D (r + 1 + i)) with
    | true =>
      rw [if_pos hh] at hs
      simp (dsimp := false) (maxSteps := 4000000) only [ee, m0, go_sem, ↓reduceIte, Nat.reduceEqDiff, Nat.reduceLT, Nat.reduceLeDiff, Nat.reduceAdd, Nat.reduceMul, Nat.reduceSub, reduceCtorEq, Int.reduceToNat, Int.reduceLT, Int.reduceLE, Int.reduceEq, Int.reduceNe, Int.reduceBEq, Nat.reduceBEq, Int.reduceBNe, Nat.reduceBNe, Int.reduceAdd, Int.reduceSub, Int.reduceMul, Int.reduceNeg]
      refine again (i + 1, low, (low + high) / 2) _ _ _ ⟨by simp only; omega, ⟨l0, l1⟩, ⟨c0, c1⟩, ?_, m2 _, find_add_self _ _ _, K2 _⟩ (FrLe.of_lks (by simp (dsimp := false) (maxSteps := 4000000) only [m0, go_sem, ↓reduceIte, Nat.reduceEqDiff, Nat.reduceLT, Nat.reduceLeDiff, Nat.reduceAdd, Nat.reduceMul, Nat.reduceSub, reduceCtorEq, Int.reduceToNat, Int.reduceLT, Int.reduceLE, Int.reduceEq, Int.reduceNe, Int.reduceBEq, Nat.reduceBEq, Int.reduceBNe, Nat.reduceBNe, Int.reduceAdd, Int.reduceSub, Int.reduceMul, Int.reduceNeg])) (AH.le_refl _) (by simp only; omega)
      simp only [hq2, ← Nat.add_assoc]; exact hs
    | false =>
      rw [if_neg (by rw [hh]; simp)] at hs
      by_cases hc : (low + high) / 2 < 18446744073709551615
      · have e6 : IntKind.u64.wrap ((low + high) / 2 + 1) = (low + high) / 2 + 1 := u64_eq (by omega) (by omega)
        have hc' : (low + high) / 2 < top := hc
        rw [if_pos hc'] at hs
        simp (dsimp := false) (maxSteps := 4000000) only [ee, hc, e6, m0, go_sem, ↓reduceIte, Nat.reduceEqDiff, Nat.reduceLT, Nat.reduceLeDiff, Nat.reduceAdd, Nat.reduceMul, Nat.reduceSub, reduceCtorEq, Int.reduceToNat, Int.reduceLT, Int.reduceLE, Int.reduceEq, Int.reduceNe, Int.reduceBEq, Nat.reduceBEq, Int.reduceBNe, Nat.reduceBNe, Int.reduceAdd, Int.reduceSub, Int.reduceMul, Int.reduceNeg]
        refine again (i + 1, (low + high) / 2 + 1, high) _ _ _ ⟨by simp only; omega, ⟨by simp only; omega, by simp only [top]; omega⟩, ⟨g0, g1⟩, ?_, m2 _, find_add_self _ _ _, K2 _⟩ (FrLe.of_lks (by simp (dsimp := false) (maxSteps := 4000000) only [m0, go_sem, ↓reduceIte, Nat.reduceEqDiff, Nat.reduceLT, Nat.reduceLeDiff, Nat.reduceAdd, Nat.reduceMul, Nat.reduceSub, reduceCtorEq, Int.reduceToNat, Int.reduceLT, Int.reduceLE, Int.reduceEq, Int.reduceNe, Int.reduceBEq, Nat.reduceBEq, Int.reduceBNe, Nat.reduceBNe, Int.reduceAdd, Int.reduceSub, Int.reduceMul, Int.reduceNeg])) (AH.le_refl _) (by simp only; omega)
        simp only [hq2, ← Nat.add_assoc]; exact hs
      · have hc' : ¬ (low + high) / 2 < top := hc
        rw [if_neg hc'] at hs
        simp (dsimp := false) (maxSteps := 4000000) only [ee, hc, m0, go_sem, ↓reduceIte, Nat.reduceEqDiff, Nat.reduceLT, Nat.reduceLeDiff, Nat.reduceAdd, Nat.reduceMul, Nat.reduceSub, reduceCtorEq, Int.reduceToNat, Int.reduceLT, Int.reduceLE, Int.reduceEq, Int.reduceNe, Int.reduceBEq, Nat.reduceBEq, Int.reduceBNe, Nat.reduceBNe, Int.reduceAdd, Int.reduceSub, Int.reduceMul, Int.reduceNeg]
        refine again (i + 1, low, high) _ _ _ ⟨by simp only; omega, ⟨l0, l1⟩, ⟨g0, g1⟩, ?_, m2 _, find_add_self _ _ _, K2 _⟩ (FrLe.of_lks (by simp (dsimp := false) (maxSteps := 4000000) only [m0, go_sem, ↓reduceIte, Nat.reduceEqDiff, Nat.reduceLT, Nat.reduceLeDiff, Nat.reduceAdd, Nat.reduceMul, Nat.reduceSub, reduceCtorEq, Int.reduceToNat, Int.reduceLT, Int.reduceLE, Int.reduceEq, Int.reduceNe, Int.reduceBEq, Nat.reduceBEq, Int.reduceBNe, Nat.reduceBNe, Int.reduceAdd, Int.reduceSub, Int.reduceMul, Int.reduceNeg])) (AH.le_refl _) (by simp only; omega)
        simp only [hq2, ← Nat.add_assoc]; exact hs
  · obtain rfl : i = 64 := by omega
    rw [Nat.sub_self, seaF] at hs
    rw [hs] at e
    simp (dsimp := false) (maxSteps := 4000000) only [h, m0, go_sem, ↓reduceIte, Nat.reduceEqDiff, Nat.reduceLT, Nat.reduceLeDiff, Nat.reduceAdd, Nat.reduceMul, Nat.reduceSub, reduceCtorEq, Int.reduceToNat, Int.reduceLT, Int.reduceLE, Int.reduceEq, Int.reduceNe, Int.reduceBEq, Nat.reduceBEq, Int.reduceBNe, Nat.reduceBNe, Int.reduceAdd, Int.reduceSub, Int.reduceMul, Int.reduceNeg]
    refine out _ _ _ (by simp) ?_
    simp (dsimp := false) (maxSteps := 4000000) only [m0, m0, go_sem, ↓reduceIte, Nat.reduceEqDiff, Nat.reduceLT, Nat.reduceLeDiff, Nat.reduceAdd, Nat.reduceMul, Nat.reduceSub, reduceCtorEq, Int.reduceToNat, Int.reduceLT, Int.reduceLE, Int.reduceEq, Int.reduceNe, Int.reduceBEq, Nat.reduceBEq, Int.reduceBNe, Nat.reduceBNe, Int.reduceAdd, Int.reduceSub, Int.reduceMul, Int.reduceNeg]
    refine (ContainsFunc_c 99 [.pointer (some ⟨b5, 0, none⟩)] (by kernel_rfl) (thrP high) L lb lc _ hLB fun s _ => thrP_c s high b5 _ m5).mono ?_; rintro _ _ ⟨rfl, rfl⟩
    simp (dsimp := false) (maxSteps := 4000000) only [m0, go_sem, ↓reduceIte, Nat.reduceEqDiff, Nat.reduceLT, Nat.reduceLeDiff, Nat.reduceAdd, Nat.reduceMul, Nat.reduceSub, reduceCtorEq, Int.reduceToNat, Int.reduceLT, Int.reduceLE, Int.reduceEq, Int.reduceNe, Int.reduceBEq, Nat.reduceBEq, Int.reduceBNe, Nat.reduceBNe, Int.reduceAdd, Int.reduceSub, Int.reduceMul, Int.reduceNeg]
    refine (heard_k L.length lb lc D db dc bm (r + 1 + 64) _ _ hm hDB (by omega)).mono ?_; rintro _ B1 ⟨rfl, m1, K1⟩
    have h51 := K1.find hne h5
    have m51 : B1.rd ⟨b5, 0, none⟩ = some (.int .u64 high) := by rw [rd_find h51]; rfl
    have m2 : B1.find bm = some (mst lb L.length lc db D.length dc (r + 66)) := m1
    cases hh : (L.any (thrP high) && !gone D (r + 1 + 64)) with
    | true =>
      have e2 : srch L D r = (high, 66, true) := by rw [e, if_pos]; exact hh
      simp (dsimp := false) (maxSteps := 4000000) only [m51, m0, go_sem, ↓reduceIte, Nat.reduceEqDiff, Nat.reduceLT, Nat.reduceLeDiff, Nat.reduceAdd, Nat.reduceMul, Nat.reduceSub, reduceCtorEq, Int.reduceToNat, Int.reduceLT, Int.reduceLE, Int.reduceEq, Int.reduceNe, Int.reduceBEq, Nat.reduceBEq, Int.reduceBNe, Nat.reduceBNe, Int.reduceAdd, Int.reduceSub, Int.reduceMul, Int.reduceNeg]
      rw [e2]
      exact ⟨B1, AH.le_refl _, rfl, m2, hK.trans K1⟩
    | false =>
      have e2 : srch L D r = (0, 66, false) := by
        rw [e, if_neg]
        intro h2
        have h3 : (L.any (thrP high) && !gone D (r + 1 + 64)) = true := h2
        rw [hh] at h3; cases h3
      simp (dsimp := false) (maxSteps := 4000000) only [m0, go_sem, ↓reduceIte, Nat.reduceEqDiff, Nat.reduceLT, Nat.reduceLeDiff, Nat.reduceAdd, Nat.reduceMul, Nat.reduceSub, reduceCtorEq, Int.reduceToNat, Int.reduceLT, Int.reduceLE, Int.reduceEq, Int.reduceNe, Int.reduceBEq, Nat.reduceBEq, Int.reduceBNe, Nat.reduceBNe, Int.reduceAdd, Int.reduceSub, Int.reduceMul, Int.reduceNeg]
      rw [e2]
      exact ⟨B1, AH.le_refl _, rfl, m2, hK.trans K1⟩
end Go.Proofs.Ytgikjbfpckjkoaa.BapN
