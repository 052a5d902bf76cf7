/- req: Take. -/
import Derived.Test.YtgikjbfpckjkoaaReq3
namespace Go.Proofs.Ytgikjbfpckjkoaa.Req
set_option linter.unusedSimpArgs false
set_option linter.unusedVariables false
open Go Go.AX Go.Proofs Ty Go.Proofs.Ytgikjbfpckjkoaa.CatB
set_option maxHeartbeats 4000000
set_option maxRecDepth 10000

theorem Equal_c {X Y : List Int} {p q : Option Addr} {c c' n m : Nat} {H : AH} (h1 : SlcIn H 1 p c (X.map encB)) (hn : n = X.length) (h2 : SlcIn H 1 q c' (Y.map encB)) (hm : m = Y.length) (hX : Bts X) (hY : Bts Y) :
    ACalls Try.prog 76 #[.slice p n c, .slice q m c'] H (fun v H' => v = .bool (decide (X = Y)) ∧ H = H') := by
  refine ACalls.enter2 Try.func76 rfl Try.ntmps76 Try.results76 (by simp) ?_; simp (dsimp := false) (maxSteps := 4000000) only [cnv_bytes Try.underlying44 Try.underlying5 Try.underlying9 h1 hn, cnv_bytes Try.underlying44 Try.underlying5 Try.underlying9 h2 hm, go_sem, ↓reduceIte, Nat.reduceEqDiff, Nat.reduceLT, Nat.reduceLeDiff, Nat.reduceAdd, Nat.reduceMul, Nat.reduceSub, reduceCtorEq, Int.reduceToNat, Int.reduceLT, Int.reduceLE, Int.reduceEq, Int.reduceNe, Int.reduceBEq, Nat.reduceBEq, Int.reduceBNe, Nat.reduceBNe, Int.reduceAdd, Int.reduceSub, Int.reduceMul, Int.reduceNeg]
  exact ⟨H, (AH.le_refl _), (by first | exact ⟨by rw [beq_bstr hX hY], rfl⟩ | rfl)⟩
theorem or8 {x y : Int} (hx : 0 ≤ x ∧ x < 256) (hy : 0 ≤ y ∧ y < 256) : ibits .or .i64 (IntKind.i64.wrap (x * 2 ^ min 8 64)) y = 256 * x + y := by
  have : IntKind.i64.wrap (x * 2 ^ min 8 64) = x * 2 ^ 8 := i64_eq (by show -9223372036854775808 ≤ x * 256; omega) (by show x * 256 < 9223372036854775808; omega)
  rw [this, or_shift hx.1 hy.1 (by show y < 256; omega) (by show x * 256 < 9223372036854775808; omega) (by omega)]
  show x * 256 + y = _
  omega
/-- The bytes of a slice, one by one. -/
theorem byte_rd {B : List Int} {b o cap : Nat} {H : AH} (hs : SlcIn H 1 (some ⟨b, o, none⟩) cap (B.map encB)) {j : Nat} {x : Int} (h : B[j]? = some x) : H.rd ⟨b, o + j, none⟩ = some (.int .u8 x) := by
  have := hs.rd b o rfl j 0 (encB x) _ (map_get h) rfl
  simpa using this
theorem byte_row {B : List Int} {b o cap : Nat} {H : AH} (hs : SlcIn H 1 (some ⟨b, o, none⟩) cap (B.map encB)) (j n : Nat) (hn : n ≠ 0) (h : j + n ≤ B.length) : H.row b (o + j) n = some (((B.drop j).take n).map (Value.int .u8)) := by
  refine row_of_rd (by simp; omega) hn fun i c hi => ?_
  rw [List.getElem?_map] at hi
  obtain ⟨x, hx, rfl⟩ := Option.map_eq_some_iff.1 hi
  rw [List.getElem?_take] at hx
  split at hx
  · rw [List.getElem?_drop] at hx
    rw [show o + j + i = o + (j + i) from by omega]
    exact byte_rd hs hx
  · cases hx
structure Q where
  (i k n f r a b c d y : Int)
  deriving DecidableEq
def Q.v (x : Q) : Value := qv x.i x.k x.n x.f x.r x.a x.b x.c x.d x.y
def Q.good (x : Q) : Bool := goodQ x.i x.k x.n x.f x.r x.a x.b x.c x.d x.y
def Q.put (x : Q) : List Int := putL x.i x.k x.n x.f x.r x.a x.b x.c x.d x.y
def Q0 : Q := ⟨0, 0, 0, 0, 0, 0, 0, 0, 0, 0⟩
def tkA (k : Int) (R : List Int) (j : Nat) : Int := if k = 2 then R.getD j 0 else 0
def cand : List Int → Q
  | _ :: _ :: i0 :: i1 :: k :: n :: f :: r :: y :: R => ⟨256 * i0 + i1, k, n, f, r, tkA k R 0, tkA k R 1, tkA k R 2, tkA k R 3, y⟩
  | _ => Q0
def okT (B : List Int) : Bool := decide (9 ≤ B.length) && ((cand B).good && decide ((cand B).put = B))
def TakeX (B : List Int) : Q := if okT B = true then cand B else Q0
def TakeE (B : List Int) : Int := if okT B = true then 0 else 2
theorem okT_9 (x0 x1 i0 i1 k n f r y : Int) (R : List Int) : okT (x0 :: x1 :: i0 :: i1 :: k :: n :: f :: r :: y :: R) = (goodQ (256 * i0 + i1) k n f r (tkA k R 0) (tkA k R 1) (tkA k R 2) (tkA k R 3) y && decide (putL (256 * i0 + i1) k n f r (tkA k R 0) (tkA k R 1) (tkA k R 2) (tkA k R 3) y = x0 :: x1 :: i0 :: i1 :: k :: n :: f :: r :: y :: R)) := by
  have h : 9 ≤ (x0 :: x1 :: i0 :: i1 :: k :: n :: f :: r :: y :: R).length := by simp
  rw [okT, decide_eq_true h, Bool.true_and]; rfl
theorem Bts_put {i k n f r a b c d y : Int} (h : goodQ i k n f r a b c d y = true) (ha : 0 ≤ a ∧ a < 256) (hb : 0 ≤ b ∧ b < 256) (hc : 0 ≤ c ∧ c < 256) (hd : 0 ≤ d ∧ d < 256) : Bts (putL i k n f r a b c d y) := by
  obtain ⟨g1, g2, g3, g4, g5, g6⟩ := (of_decide_eq_true h : GoodQ i k n f r a b c d y)
  intro x hx
  unfold putL at hx
  split at hx
  · simp only [List.mem_cons, List.not_mem_nil, or_false] at hx
    omega
  · simp only [List.mem_cons, List.not_mem_nil, or_false] at hx
    omega
theorem Bts_get {R : List Int} (h : Bts R) (j : Nat) : 0 ≤ R.getD j 0 ∧ R.getD j 0 < 256 := by
  rw [List.getD_eq_getElem?_getD]
  cases hj : R[j]? with
  | none => exact ⟨Int.le_refl 0, by decide⟩
  | some x => exact h x (List.mem_of_getElem? hj)
theorem cp4 (i k n f r y : Int) (R : List Int) : lput [.int .i64 i, .int .i64 k, .int .i64 n, .int .i64 f, .int .i64 r, .int .u8 0, .int .u8 0, .int .u8 0, .int .u8 0, .int .i64 y] 5 ((R.take 4).map (Value.int .u8)) =
    [.int .i64 i, .int .i64 k, .int .i64 n, .int .i64 f, .int .i64 r, .int .u8 (R.getD 0 0), .int .u8 (R.getD 1 0), .int .u8 (R.getD 2 0), .int .u8 (R.getD 3 0), .int .i64 y] := by
  match R with
  | [] => rfl
  | [_] => rfl
  | [_, _] => rfl
  | [_, _, _] => rfl
  | _ :: _ :: _ :: _ :: _ => rfl
theorem Take_9 (x0 x1 i0 i1 k n f r y : Int) (R : List Int) (base : Option Addr) (cap : Nat) (H : AH) (hs : SlcIn H 1 base cap ((x0 :: x1 :: i0 :: i1 :: k :: n :: f :: r :: y :: R).map encB)) (hB : Bts (x0 :: x1 :: i0 :: i1 :: k :: n :: f :: r :: y :: R)) :
    ACalls Try.prog 28 #[.slice base (R.length + 9) cap] H (fun v H' => v = .tuple #[(TakeX (x0 :: x1 :: i0 :: i1 :: k :: n :: f :: r :: y :: R)).v, .int .i64 (TakeE (x0 :: x1 :: i0 :: i1 :: k :: n :: f :: r :: y :: R))] ∧ H = H') := by
  obtain ⟨b, o, rfl⟩ := hs.at_ 0 (by simp)
  have hle := hs.le
  have hbig := hs.big
  simp only [List.length_map, List.length_cons] at hle hbig
  have r2 := byte_rd hs (j := 2) rfl
  have r3 := byte_rd hs (j := 3) rfl
  have r4 := byte_rd hs (j := 4) rfl
  have r5 := byte_rd hs (j := 5) rfl
  have r6 := byte_rd hs (j := 6) rfl
  have r7 := byte_rd hs (j := 7) rfl
  have r8 := byte_rd hs (j := 8) rfl
  have hR : Bts R := fun x hx => hB x (by simp [hx])
  have ho := or8 (hB i0 (by simp)) (hB i1 (by simp))
  have t0 := hB i0 (by simp)
  have t1 := hB i1 (by simp)
  have tk := hB k (by simp)
  have tn := hB n (by simp)
  have tf := hB f (by simp)
  have tr := hB r (by simp)
  have ty := hB y (by simp)
  have w0 : IntKind.i64.wrap i0 = i0 := i64_eq (by omega) (by omega)
  have w1 : IntKind.i64.wrap i1 = i1 := i64_eq (by omega) (by omega)
  have wk : IntKind.i64.wrap k = k := i64_eq (by omega) (by omega)
  have wn : IntKind.i64.wrap n = n := i64_eq (by omega) (by omega)
  have wf : IntKind.i64.wrap f = f := i64_eq (by omega) (by omega)
  have wr : IntKind.i64.wrap r = r := i64_eq (by omega) (by omega)
  have wy : IntKind.i64.wrap y = y := i64_eq (by omega) (by omega)
  have a3 : o + 2 + 1 = o + 3 := rfl
  have a4 : o + 2 + 2 = o + 4 := rfl
  have a5 : o + 2 + 3 = o + 5 := rfl
  have a6 : o + 2 + 4 = o + 6 := rfl
  have a7 : o + 2 + 5 = o + 7 := rfl
  have a8 : o + 2 + 6 = o + 8 := rfl
  have hc2 : ¬ cap = 2 := by omega
  have h9 : ¬ ((R.length + 9 : Nat) : Int) < 9 := by omega
  have c0 : ((2 : Int)) ≤ ((R.length + 9 : Nat) : Int) := by omega
  have l0 : R.length + 9 - 2 = R.length + 7 := by omega
  have d0 : (0 : Int) < ((R.length + 7 : Nat) : Int) := by omega
  have d1 : (1 : Int) < ((R.length + 7 : Nat) : Int) := by omega
  have d2 : (2 : Int) < ((R.length + 7 : Nat) : Int) := by omega
  have d3 : (3 : Int) < ((R.length + 7 : Nat) : Int) := by omega
  have d4 : (4 : Int) < ((R.length + 7 : Nat) : Int) := by omega
  have d5 : (5 : Int) < ((R.length + 7 : Nat) : Int) := by omega
  have d6 : (6 : Int) < ((R.length + 7 : Nat) : Int) := by omega
  refine ACalls.enter2 Try.func28 rfl Try.ntmps28 Try.results28 (by simp) ?_; simp (dsimp := false) (maxSteps := 4000000) only [hc2, h9, c0, l0, d0, d1, d2, d3, d4, d5, d6, a3, a4, a5, a6, a7, a8, w0, w1, wk, wn, wf, wr, wy, ho, go_sem, ↓reduceIte, Nat.reduceEqDiff, Nat.reduceLT, Nat.reduceLeDiff, Nat.reduceAdd, Nat.reduceMul, Nat.reduceSub, reduceCtorEq, Int.reduceToNat, Int.reduceLT, Int.reduceLE, Int.reduceEq, Int.reduceNe, Int.reduceBEq, Nat.reduceBEq, Int.reduceBNe, Nat.reduceBNe, Int.reduceAdd, Int.reduceSub, Int.reduceMul, Int.reduceNeg]
  refine AllB.mk fun b2 h_b2 => ?_; have hn_b2 := h_b2; (try simp only [fresh_add, fresh_set, ne_eq] at hn_b2); have hr_b2 := hn_b2; (try simp only [@eq_comm Nat b2] at hr_b2); simp (dsimp := false) (maxSteps := 4000000) only [hc2, h9, c0, l0, d0, d1, d2, d3, d4, d5, d6, a3, a4, a5, a6, a7, a8, w0, w1, wk, wn, wf, wr, wy, ho, hn_b2, hr_b2, go_sem, ↓reduceIte, Nat.reduceEqDiff, Nat.reduceLT, Nat.reduceLeDiff, Nat.reduceAdd, Nat.reduceMul, Nat.reduceSub, reduceCtorEq, Int.reduceToNat, Int.reduceLT, Int.reduceLE, Int.reduceEq, Int.reduceNe, Int.reduceBEq, Nat.reduceBEq, Int.reduceBNe, Nat.reduceBNe, Int.reduceAdd, Int.reduceSub, Int.reduceMul, Int.reduceNeg]
  have nr_r2 := (Fresh.ne_rd (by simp only [hn_b2] : Fresh H b2) r2)
  refine AWp.gen [.pu, .pu, .rd, .pu, .pu, .pu, .pu, .rd, .pu, .pu, .pu, .pu, .rd, .pu, .pu, .pu, .rd, .pu, .pu, .pu, .rd, .pu, .pu, .pu, .rd, .pu, .pu, .pu, .rd, .pu, .pu, .al, .ch] [0, 1, 3, 7, 15, 0, 32, 96, 224, 511, 0, 1024, 3072, 7168, 0, 16384, 49152, 114688, 0, 262144, 786432, 1835008, 0, 4194304, 12582912, 29360128, 0, 67108864, 201326592, 469762048, 1073741823, 0, 4294967295] 0 (_) mixed (by kernel_rfl) (AH.le_refl _) ?_
  simp (dsimp := false) (maxSteps := 4000000) only [r2, r3, r4, r5, r6, r7, r8, nr_r2, AH.le_refl, hc2, h9, c0, l0, d0, d1, d2, d3, d4, d5, d6, a3, a4, a5, a6, a7, a8, w0, w1, wk, wn, wf, wr, wy, ho, hn_b2, hr_b2, go_sem, ↓reduceIte, Nat.reduceEqDiff, Nat.reduceLT, Nat.reduceLeDiff, Nat.reduceAdd, Nat.reduceMul, Nat.reduceSub, reduceCtorEq, Int.reduceToNat, Int.reduceLT, Int.reduceLE, Int.reduceEq, Int.reduceNe, Int.reduceBEq, Nat.reduceBEq, Int.reduceBNe, Nat.reduceBNe, Int.reduceAdd, Int.reduceSub, Int.reduceMul, Int.reduceNeg]
  refine AllB.mk fun b5 h_b5 => ?_; have hn_b5 := h_b5; (try simp only [fresh_add, fresh_set, ne_eq] at hn_b5); have hr_b5 := hn_b5; (try simp only [@eq_comm Nat b5] at hr_b5); simp (dsimp := false) (maxSteps := 4000000) only [hc2, h9, c0, l0, d0, d1, d2, d3, d4, d5, d6, a3, a4, a5, a6, a7, a8, w0, w1, wk, wn, wf, wr, wy, ho, hn_b2, hr_b2, hn_b5, hr_b5, go_sem, ↓reduceIte, Nat.reduceEqDiff, Nat.reduceLT, Nat.reduceLeDiff, Nat.reduceAdd, Nat.reduceMul, Nat.reduceSub, reduceCtorEq, Int.reduceToNat, Int.reduceLT, Int.reduceLE, Int.reduceEq, Int.reduceNe, Int.reduceBEq, Nat.reduceBEq, Int.reduceBNe, Nat.reduceBNe, Int.reduceAdd, Int.reduceSub, Int.reduceMul, Int.reduceNeg]
  by_cases k2 : k = 2
  case neg =>
    
    simp (dsimp := false) (maxSteps := 4000000) only [k2, hc2, h9, c0, l0, d0, d1, d2, d3, d4, d5, d6, a3, a4, a5, a6, a7, a8, w0, w1, wk, wn, wf, wr, wy, ho, hn_b2, hr_b2, hn_b5, hr_b5, go_sem, ↓reduceIte, Nat.reduceEqDiff, Nat.reduceLT, Nat.reduceLeDiff, Nat.reduceAdd, Nat.reduceMul, Nat.reduceSub, reduceCtorEq, Int.reduceToNat, Int.reduceLT, Int.reduceLE, Int.reduceEq, Int.reduceNe, Int.reduceBEq, Nat.reduceBEq, Int.reduceBNe, Nat.reduceBNe, Int.reduceAdd, Int.reduceSub, Int.reduceMul, Int.reduceNeg]
    have ka : tkA k R 0 = 0 := if_neg k2
    have kb : tkA k R 1 = 0 := if_neg k2
    have kc : tkA k R 2 = 0 := if_neg k2
    have kd : tkA k R 3 = 0 := if_neg k2
    refine (Good_c (256 * i0 + i1) k n f r 0 0 0 0 y _).mono ?_; rintro _ _ ⟨rfl, rfl⟩
    cases g : goodQ (256 * i0 + i1) k n f r 0 0 0 0 y with
    | false =>
      have hf : okT (x0 :: x1 :: i0 :: i1 :: k :: n :: f :: r :: y :: R) = false := by rw [okT_9, ka, kb, kc, kd, g]; rfl
      simp (dsimp := false) (maxSteps := 4000000) only [hc2, h9, c0, l0, d0, d1, d2, d3, d4, d5, d6, a3, a4, a5, a6, a7, a8, w0, w1, wk, wn, wf, wr, wy, ho, hn_b2, hr_b2, hn_b5, hr_b5, go_sem, ↓reduceIte, Nat.reduceEqDiff, Nat.reduceLT, Nat.reduceLeDiff, Nat.reduceAdd, Nat.reduceMul, Nat.reduceSub, reduceCtorEq, Int.reduceToNat, Int.reduceLT, Int.reduceLE, Int.reduceEq, Int.reduceNe, Int.reduceBEq, Nat.reduceBEq, Int.reduceBNe, Nat.reduceBNe, Int.reduceAdd, Int.reduceSub, Int.reduceMul, Int.reduceNeg]
      exact ⟨H, (AH.le_add (AH.le_add (AH.le_refl _) ((by simp only [fresh_add, fresh_set, ne_eq, hn_b2, not_false_eq_true, and_self] : Fresh _ b2).2)) ((by simp only [fresh_add, fresh_set, ne_eq, hn_b5, not_false_eq_true, and_self] : Fresh _ b5).2)), (by first | exact ⟨by rw [TakeX, TakeE, hf]; rfl, rfl⟩ | rfl)⟩
    | true =>
      simp (dsimp := false) (maxSteps := 4000000) only [hc2, h9, c0, l0, d0, d1, d2, d3, d4, d5, d6, a3, a4, a5, a6, a7, a8, w0, w1, wk, wn, wf, wr, wy, ho, hn_b2, hr_b2, hn_b5, hr_b5, go_sem, ↓reduceIte, Nat.reduceEqDiff, Nat.reduceLT, Nat.reduceLeDiff, Nat.reduceAdd, Nat.reduceMul, Nat.reduceSub, reduceCtorEq, Int.reduceToNat, Int.reduceLT, Int.reduceLE, Int.reduceEq, Int.reduceNe, Int.reduceBEq, Nat.reduceBEq, Int.reduceBNe, Nat.reduceBNe, Int.reduceAdd, Int.reduceSub, Int.reduceMul, Int.reduceNeg]
      refine (put_c (256 * i0 + i1) k n f r 0 0 0 0 y _ (of_decide_eq_true g)).mono ?_; rintro _ A ⟨b', c', rfl, hO, hK⟩
      have hf2 : A.find b2 = some (.cells [.int .i64 0, .int .i64 0, .int .i64 0, .int .i64 0, .int .i64 0, .int .u8 0, .int .u8 0, .int .u8 0, .int .u8 0, .int .i64 0] 43 10) := hK.find (fun h => h) (by (show AH.find _ _ = _; simp only [find_add_self, find_add_ne, find_fresh, fresh_add, ne_eq, not_false_eq_true, true_and, and_true, and_self, hc2, h9, c0, l0, d0, d1, d2, d3, d4, d5, d6, a3, a4, a5, a6, a7, a8, w0, w1, wk, wn, wf, wr, wy, ho, hn_b2, hr_b2, hn_b5, hr_b5]))
      have hf5 : A.find b5 = some (.cells [.int .i64 (256 * i0 + i1), .int .i64 k, .int .i64 n, .int .i64 f, .int .i64 r, .int .u8 (0), .int .u8 (0), .int .u8 (0), .int .u8 (0), .int .i64 y] 43 10) := hK.find (fun h => h) (by (show AH.find _ _ = _; simp only [find_add_self, find_add_ne, find_fresh, fresh_add, ne_eq, not_false_eq_true, true_and, and_true, and_self, hc2, h9, c0, l0, d0, d1, d2, d3, d4, d5, d6, a3, a4, a5, a6, a7, a8, w0, w1, wk, wn, wf, wr, wy, ho, hn_b2, hr_b2, hn_b5, hr_b5]))
      have hHA : H.le A := AH.le_trans (AH.le_add (AH.le_add (AH.le_refl _) ((by simp only [fresh_add, fresh_set, ne_eq, hn_b2, not_false_eq_true, and_self] : Fresh _ b2).2)) ((by simp only [fresh_add, fresh_set, ne_eq, hn_b5, not_false_eq_true, and_self] : Fresh _ b5).2)) hK.all
      have hsA : SlcIn A 1 (some ⟨b, o, none⟩) cap ((x0 :: x1 :: i0 :: i1 :: k :: n :: f :: r :: y :: R).map encB) := (((hs.add (by simp only [fresh_add, ne_eq, hn_b2, not_false_eq_true, and_self] : Fresh _ b2)).add (by simp only [fresh_add, ne_eq, hn_b5, not_false_eq_true, and_self] : Fresh _ b5))).keep hK fun _ _ h => h
      simp (dsimp := false) (maxSteps := 4000000) only [hc2, h9, c0, l0, d0, d1, d2, d3, d4, d5, d6, a3, a4, a5, a6, a7, a8, w0, w1, wk, wn, wf, wr, wy, ho, hn_b2, hr_b2, hn_b5, hr_b5, go_sem, ↓reduceIte, Nat.reduceEqDiff, Nat.reduceLT, Nat.reduceLeDiff, Nat.reduceAdd, Nat.reduceMul, Nat.reduceSub, reduceCtorEq, Int.reduceToNat, Int.reduceLT, Int.reduceLE, Int.reduceEq, Int.reduceNe, Int.reduceBEq, Nat.reduceBEq, Int.reduceBNe, Nat.reduceBNe, Int.reduceAdd, Int.reduceSub, Int.reduceMul, Int.reduceNeg]
      refine (Equal_c hO.slc rfl hsA rfl (Bts_put g ⟨by decide, by decide⟩ ⟨by decide, by decide⟩ ⟨by decide, by decide⟩ ⟨by decide, by decide⟩) hB).monoW ?_; rintro _ _ ⟨rfl, rfl⟩
      refine ⟨_, top2 hf2 hf5, ?_⟩
      by_cases he : putL (256 * i0 + i1) k n f r (0) (0) (0) (0) y = (x0 :: x1 :: i0 :: i1 :: k :: n :: f :: r :: y :: R)
      · have hf : okT (x0 :: x1 :: i0 :: i1 :: k :: n :: f :: r :: y :: R) = true := by rw [okT_9, ka, kb, kc, kd, g, decide_eq_true he]; rfl
        simp (dsimp := false) (maxSteps := 4000000) only [decide_eq_true he, hc2, h9, c0, l0, d0, d1, d2, d3, d4, d5, d6, a3, a4, a5, a6, a7, a8, w0, w1, wk, wn, wf, wr, wy, ho, hn_b2, hr_b2, hn_b5, hr_b5, go_sem, ↓reduceIte, Nat.reduceEqDiff, Nat.reduceLT, Nat.reduceLeDiff, Nat.reduceAdd, Nat.reduceMul, Nat.reduceSub, reduceCtorEq, Int.reduceToNat, Int.reduceLT, Int.reduceLE, Int.reduceEq, Int.reduceNe, Int.reduceBEq, Nat.reduceBEq, Int.reduceBNe, Nat.reduceBNe, Int.reduceAdd, Int.reduceSub, Int.reduceMul, Int.reduceNeg]
        exact ⟨H, le_top2 hHA h_b2 hn_b5.2 hn_b5.1, by rw [TakeX, TakeE, hf]; simp only [if_true, cand, Q.v, qv, ka, kb, kc, kd], rfl⟩
      · have hf : okT (x0 :: x1 :: i0 :: i1 :: k :: n :: f :: r :: y :: R) = false := by rw [okT_9, ka, kb, kc, kd, g, decide_eq_false he]; rfl
        simp (dsimp := false) (maxSteps := 4000000) only [decide_eq_false he, hc2, h9, c0, l0, d0, d1, d2, d3, d4, d5, d6, a3, a4, a5, a6, a7, a8, w0, w1, wk, wn, wf, wr, wy, ho, hn_b2, hr_b2, hn_b5, hr_b5, go_sem, ↓reduceIte, Nat.reduceEqDiff, Nat.reduceLT, Nat.reduceLeDiff, Nat.reduceAdd, Nat.reduceMul, Nat.reduceSub, reduceCtorEq, Int.reduceToNat, Int.reduceLT, Int.reduceLE, Int.reduceEq, Int.reduceNe, Int.reduceBEq, Nat.reduceBEq, Int.reduceBNe, Nat.reduceBNe, Int.reduceAdd, Int.reduceSub, Int.reduceMul, Int.reduceNeg]
        exact ⟨H, le_top2 hHA h_b2 hn_b5.2 hn_b5.1, by rw [TakeX, TakeE, hf]; rfl, rfl⟩
    
  subst k2
  have c7 : ((7 : Int)) ≤ ((R.length + 7 : Nat) : Int) := by omega
  have l7 : R.length + 7 - 7 = R.length := by omega
  have o9 : o + 2 + 7 = o + 9 := rfl
  simp (dsimp := false) (maxSteps := 4000000) only [hc2, h9, c0, l0, d0, d1, d2, d3, d4, d5, d6, a3, a4, a5, a6, a7, a8, w0, w1, wk, wn, wf, wr, wy, ho, hn_b2, hr_b2, hn_b5, hr_b5, go_sem, ↓reduceIte, Nat.reduceEqDiff, Nat.reduceLT, Nat.reduceLeDiff, Nat.reduceAdd, Nat.reduceMul, Nat.reduceSub, reduceCtorEq, Int.reduceToNat, Int.reduceLT, Int.reduceLE, Int.reduceEq, Int.reduceNe, Int.reduceBEq, Nat.reduceBEq, Int.reduceBNe, Nat.reduceBNe, Int.reduceAdd, Int.reduceSub, Int.reduceMul, Int.reduceNeg]
  refine AWp.gen [.pu, .pu, .pu, .pu, .ch] [0, 1, 0, 4, 15] 0 (_) mixed (by kernel_rfl) (AH.le_refl _) ?_
  simp (dsimp := false) (maxSteps := 4000000) only [c7, l7, o9, AH.le_refl, hc2, h9, c0, l0, d0, d1, d2, d3, d4, d5, d6, a3, a4, a5, a6, a7, a8, w0, w1, wk, wn, wf, wr, wy, ho, hn_b2, hr_b2, hn_b5, hr_b5, go_sem, ↓reduceIte, Nat.reduceEqDiff, Nat.reduceLT, Nat.reduceLeDiff, Nat.reduceAdd, Nat.reduceMul, Nat.reduceSub, reduceCtorEq, Int.reduceToNat, Int.reduceLT, Int.reduceLE, Int.reduceEq, Int.reduceNe, Int.reduceBEq, Nat.reduceBEq, Int.reduceBNe, Nat.reduceBNe, Int.reduceAdd, Int.reduceSub, Int.reduceMul, Int.reduceNeg]
  refine CPY.into (m := R.length) (new := (R.take 4).map (Value.int .u8)) rfl se_44 rfl ?_ (by rw [wrs_add_self, if_pos ⟨by simp; omega, by simp, by rw [List.all_map, List.all_eq_true]; intro _ _; rfl⟩, cp4]) ?_
  · intro α F K hk
    rcases Nat.eq_zero_or_pos R.length with h0 | h0
    · have : R = [] := List.eq_nil_of_length_eq_zero h0
      subst this
      exact firstCells_none F K hk
    · have hc : ¬ cap - 2 = 7 := by omega
      simp only [hc, if_false]
      refine firstCells_row ?_ F K hk
      have hrow := byte_row hs 9 (Nat.min R.length 4) (by show min _ _ ≠ 0; omega) (by show _ + min _ _ ≤ _; simp; omega)
      rw [Nat.mul_one]
      have hrow2 := row_mono (k := .cells [.int .i64 0, .int .i64 0, .int .i64 0, .int .i64 0, .int .i64 0, .int .u8 0, .int .u8 0, .int .u8 0, .int .u8 0, .int .i64 0] 43 10) h_b2 hrow
      have hrow3 := row_mono (k := .cells [.int .i64 (256 * i0 + i1), .int .i64 2, .int .i64 n, .int .i64 f, .int .i64 r, .int .u8 0, .int .u8 0, .int .u8 0, .int .u8 0, .int .i64 y] 43 10) h_b5 hrow2
      refine hrow3.trans ?_
      congr 1
      show List.map _ (List.take (min R.length 4) R) = _
      rcases Nat.le_total R.length 4 with h | h
      · rw [Nat.min_eq_left h, List.take_length, List.take_of_length_le h]
      · rw [Nat.min_eq_right h]
  simp (dsimp := false) (maxSteps := 4000000) only [AH.le_refl, hc2, h9, c0, l0, d0, d1, d2, d3, d4, d5, d6, a3, a4, a5, a6, a7, a8, w0, w1, wk, wn, wf, wr, wy, ho, hn_b2, hr_b2, hn_b5, hr_b5, go_sem, ↓reduceIte, Nat.reduceEqDiff, Nat.reduceLT, Nat.reduceLeDiff, Nat.reduceAdd, Nat.reduceMul, Nat.reduceSub, reduceCtorEq, Int.reduceToNat, Int.reduceLT, Int.reduceLE, Int.reduceEq, Int.reduceNe, Int.reduceBEq, Nat.reduceBEq, Int.reduceBNe, Nat.reduceBNe, Int.reduceAdd, Int.reduceSub, Int.reduceMul, Int.reduceNeg]
  have ka : tkA 2 R 0 = (R.getD 0 0) := if_pos rfl
  have kb : tkA 2 R 1 = (R.getD 1 0) := if_pos rfl
  have kc : tkA 2 R 2 = (R.getD 2 0) := if_pos rfl
  have kd : tkA 2 R 3 = (R.getD 3 0) := if_pos rfl
  refine (Good_c (256 * i0 + i1) 2 n f r (R.getD 0 0) (R.getD 1 0) (R.getD 2 0) (R.getD 3 0) y _).mono ?_; rintro _ _ ⟨rfl, rfl⟩
  cases g : goodQ (256 * i0 + i1) 2 n f r (R.getD 0 0) (R.getD 1 0) (R.getD 2 0) (R.getD 3 0) y with
  | false =>
    have hf : okT (x0 :: x1 :: i0 :: i1 :: 2 :: n :: f :: r :: y :: R) = false := by rw [okT_9, ka, kb, kc, kd, g]; rfl
    simp (dsimp := false) (maxSteps := 4000000) only [hc2, h9, c0, l0, d0, d1, d2, d3, d4, d5, d6, a3, a4, a5, a6, a7, a8, w0, w1, wk, wn, wf, wr, wy, ho, hn_b2, hr_b2, hn_b5, hr_b5, go_sem, ↓reduceIte, Nat.reduceEqDiff, Nat.reduceLT, Nat.reduceLeDiff, Nat.reduceAdd, Nat.reduceMul, Nat.reduceSub, reduceCtorEq, Int.reduceToNat, Int.reduceLT, Int.reduceLE, Int.reduceEq, Int.reduceNe, Int.reduceBEq, Nat.reduceBEq, Int.reduceBNe, Nat.reduceBNe, Int.reduceAdd, Int.reduceSub, Int.reduceMul, Int.reduceNeg]
    exact ⟨H, (AH.le_add (AH.le_add (AH.le_refl _) ((by simp only [fresh_add, fresh_set, ne_eq, hn_b2, not_false_eq_true, and_self] : Fresh _ b2).2)) ((by simp only [fresh_add, fresh_set, ne_eq, hn_b5, not_false_eq_true, and_self] : Fresh _ b5).2)), (by first | exact ⟨by rw [TakeX, TakeE, hf]; rfl, rfl⟩ | rfl)⟩
  | true =>
    simp (dsimp := false) (maxSteps := 4000000) only [hc2, h9, c0, l0, d0, d1, d2, d3, d4, d5, d6, a3, a4, a5, a6, a7, a8, w0, w1, wk, wn, wf, wr, wy, ho, hn_b2, hr_b2, hn_b5, hr_b5, go_sem, ↓reduceIte, Nat.reduceEqDiff, Nat.reduceLT, Nat.reduceLeDiff, Nat.reduceAdd, Nat.reduceMul, Nat.reduceSub, reduceCtorEq, Int.reduceToNat, Int.reduceLT, Int.reduceLE, Int.reduceEq, Int.reduceNe, Int.reduceBEq, Nat.reduceBEq, Int.reduceBNe, Nat.reduceBNe, Int.reduceAdd, Int.reduceSub, Int.reduceMul, Int.reduceNeg]
    refine (put_c (256 * i0 + i1) 2 n f r (R.getD 0 0) (R.getD 1 0) (R.getD 2 0) (R.getD 3 0) y _ (of_decide_eq_true g)).mono ?_; rintro _ A ⟨b', c', rfl, hO, hK⟩
    have hf2 : A.find b2 = some (.cells [.int .i64 0, .int .i64 0, .int .i64 0, .int .i64 0, .int .i64 0, .int .u8 0, .int .u8 0, .int .u8 0, .int .u8 0, .int .i64 0] 43 10) := hK.find (fun h => h) (by (show AH.find _ _ = _; simp only [find_add_self, find_add_ne, find_fresh, fresh_add, ne_eq, not_false_eq_true, true_and, and_true, and_self, hc2, h9, c0, l0, d0, d1, d2, d3, d4, d5, d6, a3, a4, a5, a6, a7, a8, w0, w1, wk, wn, wf, wr, wy, ho, hn_b2, hr_b2, hn_b5, hr_b5]))
    have hf5 : A.find b5 = some (.cells [.int .i64 (256 * i0 + i1), .int .i64 2, .int .i64 n, .int .i64 f, .int .i64 r, .int .u8 ((R.getD 0 0)), .int .u8 ((R.getD 1 0)), .int .u8 ((R.getD 2 0)), .int .u8 ((R.getD 3 0)), .int .i64 y] 43 10) := hK.find (fun h => h) (by (show AH.find _ _ = _; simp only [find_add_self, find_add_ne, find_fresh, fresh_add, ne_eq, not_false_eq_true, true_and, and_true, and_self, hc2, h9, c0, l0, d0, d1, d2, d3, d4, d5, d6, a3, a4, a5, a6, a7, a8, w0, w1, wk, wn, wf, wr, wy, ho, hn_b2, hr_b2, hn_b5, hr_b5]))
    have hHA : H.le A := AH.le_trans (AH.le_add (AH.le_add (AH.le_refl _) ((by simp only [fresh_add, fresh_set, ne_eq, hn_b2, not_false_eq_true, and_self] : Fresh _ b2).2)) ((by simp only [fresh_add, fresh_set, ne_eq, hn_b5, not_false_eq_true, and_self] : Fresh _ b5).2)) hK.all
    have hsA : SlcIn A 1 (some ⟨b, o, none⟩) cap ((x0 :: x1 :: i0 :: i1 :: 2 :: n :: f :: r :: y :: R).map encB) := (((hs.add (by simp only [fresh_add, ne_eq, hn_b2, not_false_eq_true, and_self] : Fresh _ b2)).add (by simp only [fresh_add, ne_eq, hn_b5, not_false_eq_true, and_self] : Fresh _ b5))).keep hK fun _ _ h => h
    simp (dsimp := false) (maxSteps := 4000000) only [hc2, h9, c0, l0, d0, d1, d2, d3, d4, d5, d6, a3, a4, a5, a6, a7, a8, w0, w1, wk, wn, wf, wr, wy, ho, hn_b2, hr_b2, hn_b5, hr_b5, go_sem, ↓reduceIte, Nat.reduceEqDiff, Nat.reduceLT, Nat.reduceLeDiff, Nat.reduceAdd, Nat.reduceMul, Nat.reduceSub, reduceCtorEq, Int.reduceToNat, Int.reduceLT, Int.reduceLE, Int.reduceEq, Int.reduceNe, Int.reduceBEq, Nat.reduceBEq, Int.reduceBNe, Nat.reduceBNe, Int.reduceAdd, Int.reduceSub, Int.reduceMul, Int.reduceNeg]
    refine (Equal_c hO.slc rfl hsA rfl (Bts_put g (Bts_get hR 0) (Bts_get hR 1) (Bts_get hR 2) (Bts_get hR 3)) hB).monoW ?_; rintro _ _ ⟨rfl, rfl⟩
    refine ⟨_, top2 hf2 hf5, ?_⟩
    by_cases he : putL (256 * i0 + i1) 2 n f r ((R.getD 0 0)) ((R.getD 1 0)) ((R.getD 2 0)) ((R.getD 3 0)) y = (x0 :: x1 :: i0 :: i1 :: 2 :: n :: f :: r :: y :: R)
    · have hf : okT (x0 :: x1 :: i0 :: i1 :: 2 :: n :: f :: r :: y :: R) = true := by rw [okT_9, ka, kb, kc, kd, g, decide_eq_true he]; rfl
      simp (dsimp := false) (maxSteps := 4000000) only [decide_eq_true he, hc2, h9, c0, l0, d0, d1, d2, d3, d4, d5, d6, a3, a4, a5, a6, a7, a8, w0, w1, wk, wn, wf, wr, wy, ho, hn_b2, hr_b2, hn_b5, hr_b5, go_sem, ↓reduceIte, Nat.reduceEqDiff, Nat.reduceLT, Nat.reduceLeDiff, Nat.reduceAdd, Nat.reduceMul, Nat.reduceSub, reduceCtorEq, Int.reduceToNat, Int.reduceLT, Int.reduceLE, Int.reduceEq, Int.reduceNe, Int.reduceBEq, Nat.reduceBEq, Int.reduceBNe, Nat.reduceBNe, Int.reduceAdd, Int.reduceSub, Int.reduceMul, Int.reduceNeg]
      exact ⟨H, le_top2 hHA h_b2 hn_b5.2 hn_b5.1, by rw [TakeX, TakeE, hf]; simp only [if_true, cand, Q.v, qv, ka, kb, kc, kd], rfl⟩
    · have hf : okT (x0 :: x1 :: i0 :: i1 :: 2 :: n :: f :: r :: y :: R) = false := by rw [okT_9, ka, kb, kc, kd, g, decide_eq_false he]; rfl
      simp (dsimp := false) (maxSteps := 4000000) only [decide_eq_false he, hc2, h9, c0, l0, d0, d1, d2, d3, d4, d5, d6, a3, a4, a5, a6, a7, a8, w0, w1, wk, wn, wf, wr, wy, ho, hn_b2, hr_b2, hn_b5, hr_b5, go_sem, ↓reduceIte, Nat.reduceEqDiff, Nat.reduceLT, Nat.reduceLeDiff, Nat.reduceAdd, Nat.reduceMul, Nat.reduceSub, reduceCtorEq, Int.reduceToNat, Int.reduceLT, Int.reduceLE, Int.reduceEq, Int.reduceNe, Int.reduceBEq, Nat.reduceBEq, Int.reduceBNe, Nat.reduceBNe, Int.reduceAdd, Int.reduceSub, Int.reduceMul, Int.reduceNeg]
      exact ⟨H, le_top2 hHA h_b2 hn_b5.2 hn_b5.1, by rw [TakeX, TakeE, hf]; rfl, rfl⟩
theorem Take_c (B : List Int) (base : Option Addr) (cap : Nat) (H : AH) (hs : SlcIn H 1 base cap (B.map encB)) (hB : Bts B) :
    ACalls Try.prog 28 #[.slice base B.length cap] H (fun v H' => v = .tuple #[(TakeX B).v, .int .i64 (TakeE B)] ∧ H = H') := by
  by_cases h9 : B.length < 9
  · have h9' : (B.length : Int) < 9 := by omega
    have hf : okT B = false := by rw [okT, decide_eq_false (by omega)]; rfl
    refine ACalls.enter2 Try.func28 rfl Try.ntmps28 Try.results28 (by simp) ?_; simp (dsimp := false) (maxSteps := 4000000) only [go_sem, ↓reduceIte, Nat.reduceEqDiff, Nat.reduceLT, Nat.reduceLeDiff, Nat.reduceAdd, Nat.reduceMul, Nat.reduceSub, reduceCtorEq, Int.reduceToNat, Int.reduceLT, Int.reduceLE, Int.reduceEq, Int.reduceNe, Int.reduceBEq, Nat.reduceBEq, Int.reduceBNe, Nat.reduceBNe, Int.reduceAdd, Int.reduceSub, Int.reduceMul, Int.reduceNeg]
    refine AllB.mk fun b2 h_b2 => ?_; have hn_b2 := h_b2; (try simp only [fresh_add, fresh_set, ne_eq] at hn_b2); have hr_b2 := hn_b2; (try simp only [@eq_comm Nat b2] at hr_b2); simp (dsimp := false) (maxSteps := 4000000) only [hn_b2, hr_b2, go_sem, ↓reduceIte, Nat.reduceEqDiff, Nat.reduceLT, Nat.reduceLeDiff, Nat.reduceAdd, Nat.reduceMul, Nat.reduceSub, reduceCtorEq, Int.reduceToNat, Int.reduceLT, Int.reduceLE, Int.reduceEq, Int.reduceNe, Int.reduceBEq, Nat.reduceBEq, Int.reduceBNe, Nat.reduceBNe, Int.reduceAdd, Int.reduceSub, Int.reduceMul, Int.reduceNeg]
    simp (dsimp := false) (maxSteps := 4000000) only [h9', hn_b2, hr_b2, go_sem, ↓reduceIte, Nat.reduceEqDiff, Nat.reduceLT, Nat.reduceLeDiff, Nat.reduceAdd, Nat.reduceMul, Nat.reduceSub, reduceCtorEq, Int.reduceToNat, Int.reduceLT, Int.reduceLE, Int.reduceEq, Int.reduceNe, Int.reduceBEq, Nat.reduceBEq, Int.reduceBNe, Nat.reduceBNe, Int.reduceAdd, Int.reduceSub, Int.reduceMul, Int.reduceNeg]
    exact ⟨H, (AH.le_add (AH.le_refl _) ((by simp only [fresh_add, fresh_set, ne_eq, hn_b2, not_false_eq_true, and_self] : Fresh _ b2).2)), (by first | exact ⟨by rw [TakeX, TakeE, hf]; rfl, rfl⟩ | rfl)⟩
  · match B, hs, hB, h9 with
    | x0 :: x1 :: i0 :: i1 :: k :: n :: f :: r :: y :: R, hs, hB, _ => exact Take_9 x0 x1 i0 i1 k n f r y R base cap H hs hB
    | [], _, _, h => exact absurd (by simp) h
    | [_], _, _, h => exact absurd (by simp) h
    | [_, _], _, _, h => exact absurd (by simp) h
    | [_, _, _], _, _, h => exact absurd (by simp) h
    | [_, _, _, _], _, _, h => exact absurd (by simp) h
    | [_, _, _, _, _], _, _, h => exact absurd (by simp) h
    | [_, _, _, _, _, _], _, _, h => exact absurd (by simp) h
    | [_, _, _, _, _, _, _], _, _, h => exact absurd (by simp) h
    | [_, _, _, _, _, _, _, _], _, _, h => exact absurd (by simp) h
end Go.Proofs.Ytgikjbfpckjkoaa.Req
