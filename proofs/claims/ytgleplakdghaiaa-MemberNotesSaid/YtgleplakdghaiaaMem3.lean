/- member: There, New, Record; the reference's Record. -/
import Derived.Test.YtgleplakdghaiaaMem2
namespace Go.Proofs.Ytgleplakdghaiaa.Mem
set_option linter.unusedSimpArgs false
set_option linter.unusedVariables false
open Go Go.AX Go.Proofs Ty
set_option maxHeartbeats 4000000
set_option maxRecDepth 10000

structure MemAt (A : AH) (bm ba : Nat) (M : List Int) : Prop where
  top : A.find bm = some (.cells [.slice (some ⟨ba, 0, none⟩) M.length M.length] 48 1)
  row : ∃ sz, A.find ba = some (.cells (M.map (Value.int .i64)) 3 sz) ∧ M.length ≤ sz
  ne : bm ≠ ba
theorem MemAt.rd0 {A : AH} {bm ba : Nat} {M : List Int} (h : MemAt A bm ba M) : A.rd ⟨bm, 0, none⟩ = some (.slice (some ⟨ba, 0, none⟩) M.length M.length) := by rw [rd_find h.top]; rfl
theorem MemAt.rd {A : AH} {bm ba : Nat} {M : List Int} (h : MemAt A bm ba M) {i : Nat} {x : Int} (hx : M[i]? = some x) : A.rd ⟨ba, i, none⟩ = some (.int .i64 x) := by
  obtain ⟨sz, h1, _⟩ := h.row
  rw [rd_find h1, List.getElem?_map, hx]; rfl
theorem MemAt.keep {A A' : AH} {bm ba : Nat} {M : List Int} {ex : Nat → Prop} (h : MemAt A bm ba M) (hk : Keep A A' ex) (h1 : ¬ ex bm) (h2 : ¬ ex ba) : MemAt A' bm ba M :=
  ⟨hk.find h1 h.top, by obtain ⟨sz, h3, h4⟩ := h.row; exact ⟨sz, hk.find h2 h3, h4⟩, h.ne⟩
def thereM (M : List Int) (n : Int) : Bool := decide (0 ≤ n) && decide (n < M.length) && decide (M.getD n.toNat 3 < 3)
theorem There_c {A : AH} {bm ba : Nat} {M : List Int} (h : MemAt A bm ba M) (n : Int) :
    ACalls Try.prog 10 #[.pointer (some ⟨bm, 0, none⟩), .int .i64 n] A (fun v H' => v = .bool (thereM M n) ∧ A = H') := by
  have r0 := h.rd0
  refine ACalls.enter2 Try.func10 rfl Try.ntmps10 Try.results10 (by simp) ?_; simp (dsimp := false) (maxSteps := 4000000) only [go_sem, ↓reduceIte, Nat.reduceEqDiff, Nat.reduceLT, Nat.reduceLeDiff, Nat.reduceAdd, Nat.reduceMul, Nat.reduceSub, reduceCtorEq, Int.reduceToNat, Int.reduceLT, Int.reduceLE, Int.reduceEq, Int.reduceNe, Int.reduceBEq, Nat.reduceBEq, Int.reduceBNe, Nat.reduceBNe, Int.reduceAdd, Int.reduceSub, Int.reduceMul, Int.reduceNeg]
  by_cases h0 : 0 ≤ n
  case neg =>
    simp (dsimp := false) (maxSteps := 4000000) only [r0, h0, go_sem, ↓reduceIte, Nat.reduceEqDiff, Nat.reduceLT, Nat.reduceLeDiff, Nat.reduceAdd, Nat.reduceMul, Nat.reduceSub, reduceCtorEq, Int.reduceToNat, Int.reduceLT, Int.reduceLE, Int.reduceEq, Int.reduceNe, Int.reduceBEq, Nat.reduceBEq, Int.reduceBNe, Nat.reduceBNe, Int.reduceAdd, Int.reduceSub, Int.reduceMul, Int.reduceNeg]
    exact ⟨A, AH.le_refl _, by simp [thereM, h0], rfl⟩
  by_cases h1 : n < M.length
  case neg =>
    simp (dsimp := false) (maxSteps := 4000000) only [r0, h0, h1, go_sem, ↓reduceIte, Nat.reduceEqDiff, Nat.reduceLT, Nat.reduceLeDiff, Nat.reduceAdd, Nat.reduceMul, Nat.reduceSub, reduceCtorEq, Int.reduceToNat, Int.reduceLT, Int.reduceLE, Int.reduceEq, Int.reduceNe, Int.reduceBEq, Nat.reduceBEq, Int.reduceBNe, Nat.reduceBNe, Int.reduceAdd, Int.reduceSub, Int.reduceMul, Int.reduceNeg]
    exact ⟨A, AH.le_refl _, by simp [thereM, h1], rfl⟩
  obtain ⟨i, rfl⟩ : ∃ i : Nat, n = i := ⟨n.toNat, by omega⟩
  obtain ⟨x, hx⟩ := get_some (l := M) (i := i) (by omega)
  have r1 := h.rd hx
  have hg : M.getD i 3 = x := by simp [List.getD_eq_getElem?_getD, hx]
  by_cases h2 : x < 3
  · simp (dsimp := false) (maxSteps := 4000000) only [r0, r1, h0, h1, h2, Nat.zero_add, Nat.mul_one, go_sem, ↓reduceIte, Nat.reduceEqDiff, Nat.reduceLT, Nat.reduceLeDiff, Nat.reduceAdd, Nat.reduceMul, Nat.reduceSub, reduceCtorEq, Int.reduceToNat, Int.reduceLT, Int.reduceLE, Int.reduceEq, Int.reduceNe, Int.reduceBEq, Nat.reduceBEq, Int.reduceBNe, Nat.reduceBNe, Int.reduceAdd, Int.reduceSub, Int.reduceMul, Int.reduceNeg]
    exact ⟨A, AH.le_refl _, by simp [thereM, h1, h2, hx], rfl⟩
  · simp (dsimp := false) (maxSteps := 4000000) only [r0, r1, h0, h1, h2, Nat.zero_add, Nat.mul_one, go_sem, ↓reduceIte, Nat.reduceEqDiff, Nat.reduceLT, Nat.reduceLeDiff, Nat.reduceAdd, Nat.reduceMul, Nat.reduceSub, reduceCtorEq, Int.reduceToNat, Int.reduceLT, Int.reduceLE, Int.reduceEq, Int.reduceNe, Int.reduceBEq, Nat.reduceBEq, Int.reduceBNe, Nat.reduceBNe, Int.reduceAdd, Int.reduceSub, Int.reduceMul, Int.reduceNeg]
    exact ⟨A, AH.le_refl _, by simp [thereM, h1, h2, hx], rfl⟩
theorem New_bad (n : Int) (hn : n < 1 ∨ 32 < n) (H : AH) : ACalls Try.prog 4 #[.int .i64 n] H (fun v H' => v = .tuple #[.pointer none, .int .i64 1] ∧ H = H') := by
  refine ACalls.enter2 Try.func4 rfl Try.ntmps4 Try.results4 (by simp) ?_; simp (dsimp := false) (maxSteps := 4000000) only [go_sem, ↓reduceIte, Nat.reduceEqDiff, Nat.reduceLT, Nat.reduceLeDiff, Nat.reduceAdd, Nat.reduceMul, Nat.reduceSub, reduceCtorEq, Int.reduceToNat, Int.reduceLT, Int.reduceLE, Int.reduceEq, Int.reduceNe, Int.reduceBEq, Nat.reduceBEq, Int.reduceBNe, Nat.reduceBNe, Int.reduceAdd, Int.reduceSub, Int.reduceMul, Int.reduceNeg]
  by_cases h : n < 1
  · simp (dsimp := false) (maxSteps := 4000000) only [h, go_sem, ↓reduceIte, Nat.reduceEqDiff, Nat.reduceLT, Nat.reduceLeDiff, Nat.reduceAdd, Nat.reduceMul, Nat.reduceSub, reduceCtorEq, Int.reduceToNat, Int.reduceLT, Int.reduceLE, Int.reduceEq, Int.reduceNe, Int.reduceBEq, Nat.reduceBEq, Int.reduceBNe, Nat.reduceBNe, Int.reduceAdd, Int.reduceSub, Int.reduceMul, Int.reduceNeg]
    exact ⟨H, (AH.le_refl _), (by first | exact ⟨rfl, rfl⟩ | rfl)⟩
  · have h2 : 32 < n := by omega
    simp (dsimp := false) (maxSteps := 4000000) only [h, h2, go_sem, ↓reduceIte, Nat.reduceEqDiff, Nat.reduceLT, Nat.reduceLeDiff, Nat.reduceAdd, Nat.reduceMul, Nat.reduceSub, reduceCtorEq, Int.reduceToNat, Int.reduceLT, Int.reduceLE, Int.reduceEq, Int.reduceNe, Int.reduceBEq, Nat.reduceBEq, Int.reduceBNe, Nat.reduceBNe, Int.reduceAdd, Int.reduceSub, Int.reduceMul, Int.reduceNeg]
    exact ⟨H, (AH.le_refl _), (by first | exact ⟨rfl, rfl⟩ | rfl)⟩
theorem New_c (n : Nat) (h1 : 1 ≤ n) (h2 : n ≤ 32) (H : AH) : ACalls Try.prog 4 #[.int .i64 n] H (fun v H' => ∃ bm ba, v = .tuple #[.pointer (some ⟨bm, 0, none⟩), .int .i64 0] ∧ MemAt H' bm ba (List.replicate n 0) ∧ Fresh H bm ∧ Fresh H ba ∧ Keep H H' fun _ => False) := by
  have n1 : ¬ (n : Int) < 1 := by omega
  have n2 : ¬ (32 : Int) < n := by omega
  refine ACalls.enter2 Try.func4 rfl Try.ntmps4 Try.results4 (by simp) ?_; simp (dsimp := false) (maxSteps := 4000000) only [go_sem, ↓reduceIte, Nat.reduceEqDiff, Nat.reduceLT, Nat.reduceLeDiff, Nat.reduceAdd, Nat.reduceMul, Nat.reduceSub, reduceCtorEq, Int.reduceToNat, Int.reduceLT, Int.reduceLE, Int.reduceEq, Int.reduceNe, Int.reduceBEq, Nat.reduceBEq, Int.reduceBNe, Nat.reduceBNe, Int.reduceAdd, Int.reduceSub, Int.reduceMul, Int.reduceNeg]
  simp (dsimp := false) (maxSteps := 4000000) only [n1, n2, go_sem, ↓reduceIte, Nat.reduceEqDiff, Nat.reduceLT, Nat.reduceLeDiff, Nat.reduceAdd, Nat.reduceMul, Nat.reduceSub, reduceCtorEq, Int.reduceToNat, Int.reduceLT, Int.reduceLE, Int.reduceEq, Int.reduceNe, Int.reduceBEq, Nat.reduceBEq, Int.reduceBNe, Nat.reduceBNe, Int.reduceAdd, Int.reduceSub, Int.reduceMul, Int.reduceNeg]
  refine ⟨Int.le_refl _, by omega, by omega, ?_⟩
  refine AllB.mk fun b11 h_b11 => ?_
  simp (dsimp := false) (maxSteps := 4000000) only [go_sem, ↓reduceIte, Nat.reduceEqDiff, Nat.reduceLT, Nat.reduceLeDiff, Nat.reduceAdd, Nat.reduceMul, Nat.reduceSub, reduceCtorEq, Int.reduceToNat, Int.reduceLT, Int.reduceLE, Int.reduceEq, Int.reduceNe, Int.reduceBEq, Nat.reduceBEq, Int.reduceBNe, Nat.reduceBNe, Int.reduceAdd, Int.reduceSub, Int.reduceMul, Int.reduceNeg]
  refine AllB.mk fun b13 h_b13 => ?_
  simp (dsimp := false) (maxSteps := 4000000) only [go_sem, ↓reduceIte, Nat.reduceEqDiff, Nat.reduceLT, Nat.reduceLeDiff, Nat.reduceAdd, Nat.reduceMul, Nat.reduceSub, reduceCtorEq, Int.reduceToNat, Int.reduceLT, Int.reduceLE, Int.reduceEq, Int.reduceNe, Int.reduceBEq, Nat.reduceBEq, Int.reduceBNe, Nat.reduceBNe, Int.reduceAdd, Int.reduceSub, Int.reduceMul, Int.reduceNeg]
  have hz : zf [Value.int .i64 0] n = (List.replicate n (0 : Int)).map (Value.int .i64) := by rw [zf_one, List.map_replicate]
  have hne : b13 ≠ b11 := h_b13.ne_find (find_add_self _ _ _)
  rw [hz]
  rw [hz] at h_b13
  refine ⟨_, AH.le_refl _, b13, b11, rfl, ⟨?_, ⟨n, ?_, by simp⟩, hne⟩, ?_, h_b11, (Keep.refl.nw h_b11).nw h_b13⟩
  · rw [find_add_self, List.length_replicate]
  · rw [find_add_ne _ hne, find_add_self]
  · exact (Keep.refl.nw h_b11).fr h_b13
def numB (B : List Bool) : Nat → Int
  | 0 => 0
  | i + 1 => numB B i + if B[i]? = some true then 2 ^ i else 0
theorem numB_bd (B : List Bool) : ∀ i, 0 ≤ numB B i ∧ numB B i < 2 ^ i
  | 0 => by simp [numB]
  | i + 1 => by
    have := numB_bd B i
    have hp : (2 : Int) ^ (i + 1) = 2 ^ i * 2 := Int.pow_succ _ _
    rw [numB]
    split <;> omega
def digs (x : Int) : List Int := [x / 16777216 % 256, x / 65536 % 256, x / 256 % 256, x % 256]
theorem dig_step {x : Int} {i : Nat} (hi : i < 32) (h0 : 0 ≤ x) (h1 : x < 2 ^ i) :
    digs (x + 2 ^ i) = (digs x).set (3 - i / 8) ((digs x).getD (3 - i / 8) 0 + 2 ^ (i % 8)) ∧ 0 ≤ (digs x).getD (3 - i / 8) 0 ∧ (digs x).getD (3 - i / 8) 0 < 2 ^ (i % 8) := by
  have hc : i = 0 ∨ i = 1 ∨ i = 2 ∨ i = 3 ∨ i = 4 ∨ i = 5 ∨ i = 6 ∨ i = 7 ∨ i = 8 ∨ i = 9 ∨ i = 10 ∨ i = 11 ∨ i = 12 ∨ i = 13 ∨ i = 14 ∨ i = 15 ∨ i = 16 ∨ i = 17 ∨ i = 18 ∨ i = 19 ∨ i = 20 ∨ i = 21 ∨ i = 22 ∨ i = 23 ∨ i = 24 ∨ i = 25 ∨ i = 26 ∨ i = 27 ∨ i = 28 ∨ i = 29 ∨ i = 30 ∨ i = 31 := by omega
  rcases hc with rfl | rfl | rfl | rfl | rfl | rfl | rfl | rfl | rfl | rfl | rfl | rfl | rfl | rfl | rfl | rfl | rfl | rfl | rfl | rfl | rfl | rfl | rfl | rfl | rfl | rfl | rfl | rfl | rfl | rfl | rfl | rfl <;> (simp at h1; simp [digs]; omega)
theorem or_all8 : ∀ (v : Fin 256) (i : Fin 8), (v.val : Int) < 2 ^ i.val → ibits .or .u8 v.val (IntKind.u8.wrap (1 * 2 ^ min i.val 8)) = v.val + 2 ^ i.val := by decide +kernel
theorem or_put {d : Int} {r : Nat} (h0 : 0 ≤ d) (hr : r < 8) (h1 : d < 2 ^ r) : ibits .or .u8 d (IntKind.u8.wrap (1 * 2 ^ min r 8)) = d + 2 ^ r := by
  have h2 : (2 : Int) ^ r ≤ 256 := by
    have : r = 0 ∨ r = 1 ∨ r = 2 ∨ r = 3 ∨ r = 4 ∨ r = 5 ∨ r = 6 ∨ r = 7 := by omega
    rcases this with rfl | rfl | rfl | rfl | rfl | rfl | rfl | rfl <;> decide
  have := or_all8 ⟨d.toNat, by omega⟩ ⟨r, hr⟩ (by simp only; rw [Int.toNat_of_nonneg h0]; exact h1)
  simp only at this
  rw [Int.toNat_of_nonneg h0] at this
  exact this
end Go.Proofs.Ytgleplakdghaiaa.Mem
