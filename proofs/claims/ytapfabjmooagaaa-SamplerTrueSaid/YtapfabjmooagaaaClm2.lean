/- What is looked at lies in its bit. -/
import Derived.Test.YtapfabjmooagaaaClm
namespace Go.Proofs.Ytapfabjmooagaaa.Clm
set_option linter.unusedSimpArgs false
set_option linter.unusedVariables false
open Go Go.AX Go.Proofs Ty Go.Proofs.Ytapfabjmooagaaa.Srt Go.Proofs.Ytapfabjmooagaaa.Tck Go.Proofs.Ytapfabjmooagaaa.Send Go.Proofs.Ytapfabjmooagaaa.Wire
set_option maxHeartbeats 4000000
set_option maxRecDepth 10000

theorem look {S K : List Stp} (hs : good S = true) (cs : calm S) (hk : good K = true) (ck : calm K) {n : Int} (h0 : 0 ≤ n) (h1 : n < 1073741824) {i : Nat} (hi : i < 11) {m : Int} (hm0 : 16 * (i : Int) + 7 ≤ m) (hm1 : m ≤ 16 * (i : Int) + 9) :
    (0 ≤ localv K (globalv S n) ∧ localv K (globalv S n) ≤ 1150000000) ∧ globalv S (n + 16 * i) ≤ globalv K (localv K (globalv S n) + m) ∧ globalv K (localv K (globalv S n) + m) < globalv S (n + 16 * i + 16) := by
  have hz := V_zero hk
  have hzs := V_zero hs
  obtain ⟨a1, a2, a3, a4⟩ := gfact hs cs h0 (by omega : n ≤ 1200000000)
  have hN := local_V hk a1 (by omega)
  have hub : globalv S n ≤ 1090000000 := by
    rcases a4 with a4 | a4
    · omega
    · by_cases hu : globalv S n = 0
      · omega
      · have r := V_range hs cs (a := 0) (b := globalv S n - 1) (by omega)
        omega
  have rK := V_range hk ck (a := 0) (b := globalv S n) (by omega)
  have hNb : 0 ≤ localv K (globalv S n) ∧ localv K (globalv S n) ≤ 1150000000 := by omega
  obtain ⟨w1, w2, w3, w4⟩ := gfact hk ck (x := localv K (globalv S n) + m) (by omega) (by omega)
  have ga : globalv S (n + 16 * i) = globalv S n ∨ (globalv S (n + 16 * i) - 1 - globalv S n) * 990000 < 16 * i * 1000000 := by
    by_cases hi0 : i = 0
    · left; subst hi0; simp
    · right
      exact (gap hs cs (x := n) (k := 16 * i) h0 (by omega) (by omega) (by omega)).2.1
  have gb := (gap hs cs (x := n) (k := 16 * i + 16) h0 (by omega) (by omega) (by omega)).2.2
  rw [← Int.add_assoc] at gb
  refine ⟨hNb, ?_⟩
  generalize globalv S (n + 16 * (i : Int) + 16) = b at *
  generalize globalv S (n + 16 * (i : Int)) = a at *
  generalize globalv S n = u at *
  generalize localv K u = N at *
  generalize globalv K (N + m) = w at *
  have hwu : u < w := by
    rcases Int.lt_or_le u w with h | h
    · exact h
    · have r := V_range hk ck h
      omega
  have r1 := V_range hk ck (a := u) (b := w) (by omega)
  have r2 := V_range hk ck (a := u) (b := w - 1) (by omega)
  omega
theorem low_look {S K : List Stp} (hs : good S = true) (cs : calm S) (hk : good K = true) (ck : calm K) {n : Int} (h0 : 0 ≤ n) (h1 : n < 1073741824) {F : List Bool} (hF : F.length = 11) {R : List Sp} (hJ : JoinOf (fsp S n F 11) R) {i : Nat} (hi : i < 11) {x : Bool} (hx : F[i]? = some x) {m : Int} (hm0 : 16 * (i : Int) + 7 ≤ m) (hm1 : m ≤ 16 * (i : Int) + 9) :
    lowB R (globalv K (localv K (globalv S n) + m)) = !x := by
  obtain ⟨_, l1, l2⟩ := look hs cs hk ck h0 h1 hi hm0 hm1
  generalize globalv K (localv K (globalv S n) + m) = w at *
  cases x with
  | false =>
    rw [Bool.not_false, lowB_iff, hJ.same]
    exact ⟨bsp S n i, fsp_has hx 11 hi, l1, l2⟩
  | true =>
    rw [Bool.not_true, lowB_not, hJ.same]
    rintro ⟨s, hsm, s1, s2⟩
    have hin : ∀ {q : Nat}, s ∈ fsp S n F q → ∃ j, j < q ∧ s = bsp S n j ∧ F[j]? = some false := by
      intro q
      induction q with
      | zero => intro h; cases h
      | succ q ih =>
        intro h
        rcases List.mem_append.1 h with h | h
        · obtain ⟨j, hj, e, hf⟩ := ih h
          exact ⟨j, by omega, e, hf⟩
        · split at h
          · rename_i hf
            simp at h
            exact ⟨q, by omega, h, hf⟩
          · cases h
    obtain ⟨j, hj, rfl, hf⟩ := hin hsm
    have hji : j ≠ i := fun e => by subst e; rw [hx] at hf; cases hf
    simp only [bsp] at s1 s2
    rcases Nat.lt_or_gt_of_ne hji with h | h
    · have := gmono hs (show n + 16 * (j : Int) + 16 ≤ n + 16 * i by omega)
      omega
    · have := gmono hs (show n + 16 * (i : Int) + 16 ≤ n + 16 * j by omega)
      omega
end Go.Proofs.Ytapfabjmooagaaa.Clm
