/- baptize: runs, in plain words. -/
import Derived.Test.YtgikjbfpckjkoaaBap3
namespace Go.Proofs.Ytgikjbfpckjkoaa.BapN
set_option linter.unusedSimpArgs false
set_option linter.unusedVariables false
open Go Go.AX Go.Proofs Ty
set_option maxHeartbeats 4000000
set_option maxRecDepth 10000

def setN (L : List Slv) (p n : Int) : List Slv := L.map fun s => if s.phys = p then ⟨s.phys, n⟩ else s
theorem setN_at {L : List Slv} {k : Nat} {s : Slv} (hu : uniq L) (hx : L[k]? = some s) (n : Int) : setN L s.phys n = L.set k ⟨s.phys, n⟩ := by
  apply List.ext_getElem?
  intro i
  rw [setN, List.getElem?_map, List.getElem?_set]
  by_cases h : k = i
  · subst h
    rw [if_pos rfl, hx]
    simp [lt_of_get hx]
  · rw [if_neg h]
    cases hi : L[i]? with
    | none => rfl
    | some t =>
      simp only [Option.map_some, Option.some.injEq]
      rw [if_neg]
      intro e
      exact h (hu k i s t hx hi e.symm)
def runF (D : List Bool) (most : Int) : Nat → List Slv → Nat → List Slv × Nat × Int
  | 0, L, r => (L, r, 0)
  | f + 1, L, r => if ((atN L L.length).isSome && (freev L most).isNone) = true then (L, r, 11)
    else if (srch L D r).2.2 = true then runF D most f (setN L (srch L D r).1 ((freev L most).getD 0)) (r + (srch L D r).2.1 + 1)
    else if (srch L D r).2.1 = 1 ∧ gone D r = false then (L, r + 1, 0) else runF D most f L (r + (srch L D r).2.1)
def mu (L : List Slv) (D : List Bool) (r : Nat) : Nat := cntZ L + (D.length - r)
def rng (L : List Slv) : Prop := ∀ s ∈ L, 0 ≤ s.phys ∧ s.phys ≤ top
theorem srch_cases (L : List Slv) (D : List Bool) (r : Nat) : srch L D r = (0, 1, false) ∨ srch L D r = (0, 66, false) ∨ ((srch L D r).2 = (66, true) ∧ thr L (srch L D r).1 = true) := by
  unfold srch
  split
  · split
    · rename_i h
      rw [Bool.and_eq_true] at h
      exact .inr (.inr ⟨rfl, h.1⟩)
    · exact .inr (.inl rfl)
  · exact .inl rfl
theorem srch_pos (L : List Slv) (D : List Bool) (r : Nat) : 1 ≤ (srch L D r).2.1 ∧ (srch L D r).2.1 ≤ 66 := by
  rcases srch_cases L D r with h | h | h
  · rw [h]; simp
  · rw [h]; simp
  · rw [h.1]; simp
theorem srch_found {L : List Slv} {D : List Bool} {r : Nat} (h : (srch L D r).2.2 = true) : ∃ (k : Nat) (s : Slv), L[k]? = some s ∧ s.name = 0 ∧ s.phys = (srch L D r).1 ∧ (srch L D r).2.1 = 66 ∧ (atN L L.length).isSome = true := by
  rcases srch_cases L D r with h1 | h1 | ⟨h1, h2⟩
  · rw [h1] at h; cases h
  · rw [h1] at h; cases h
  · obtain ⟨s, hs, ht⟩ := List.any_eq_true.1 h2
    obtain ⟨k, hk⟩ := List.mem_iff_getElem?.1 hs
    simp only [thrP, Bool.and_eq_true, beq_iff_eq] at ht
    refine ⟨k, s, hk, ht.1, ht.2, by rw [h1], ?_⟩
    cases hn : atN L L.length with
    | some _ => rfl
    | none => exact absurd ht.1 (atN_none (Nat.le_refl _) hn k s (lt_of_get hk) hk)
theorem seaF_hit {L : List Slv} {D : List Bool} {m : Int} (hm : ∀ c, ans L c = decide (m ≤ c)) (hmt : m ≤ top) : ∀ (k r : Nat) (low high : Int), D.length ≤ r → low ≤ m → m ≤ high → high - low < 2 ^ k → seaF L D k r low high = m
  | 0, r, low, high, _, h1, h2, h3 => by rw [seaF]; simp at h3; omega
  | k + 1, r, low, high, hr, h1, h2, h3 => by
    rw [seaF, gone_no hr, hm]
    have hp : (2 : Int) ^ (k + 1) = 2 * 2 ^ k := by rw [Int.pow_succ]; omega
    rw [hp] at h3
    generalize hX : (2 : Int) ^ k = X at h3
    by_cases h : m ≤ (low + high) / 2
    · rw [decide_eq_true h, if_pos (show (true && !false) = true from rfl)]
      exact seaF_hit hm hmt k (r + 1) low _ (by omega) h1 h (by rw [hX]; omega)
    · rw [decide_eq_false h, if_neg (by simp), if_pos (by omega)]
      exact seaF_hit hm hmt k (r + 1) _ high (by omega) (by omega) h2 (by rw [hX]; omega)
theorem srch_clean {L : List Slv} {D : List Bool} {r : Nat} (hL : rng L) (hr : D.length ≤ r) (h : (srch L D r).2.2 = false) : (srch L D r).2.1 = 1 ∧ gone D r = false ∧ ∀ s ∈ L, ¬ s.name = 0 := by
  have g : ∀ q, r ≤ q → gone D q = false := fun q hq => gone_no (by omega)
  cases hn : atN L L.length with
  | none =>
    have h0 : ∀ s ∈ L, ¬ s.name = 0 := fun s hs => by
      obtain ⟨k, hk⟩ := List.mem_iff_getElem?.1 hs
      exact atN_none (Nat.le_refl _) hn k s (lt_of_get hk) hk
    have ha : ans L top = false := by
      rw [ans, List.any_eq_false]
      intro s hs
      simp [ansP, h0 s hs]
    refine ⟨?_, g r (Nat.le_refl _), h0⟩
    rw [srch, if_neg (by rw [ha]; simp)]
  | some k =>
    exfalso
    obtain ⟨u, hu, hu0⟩ := atN_name (Nat.le_refl _) hn
    have hleast := atN_least (Nat.le_refl _) hn hu
    have hur := hL u (List.mem_of_getElem? hu)
    have hm : ∀ c, ans L c = decide (u.phys ≤ c) := fun c => by
      by_cases hc : u.phys ≤ c
      · rw [decide_eq_true hc]
        exact List.any_eq_true.2 ⟨u, List.mem_of_getElem? hu, by simp [ansP, hu0, hc]⟩
      · rw [decide_eq_false hc, ans, List.any_eq_false]
        intro s hs
        obtain ⟨j, hj⟩ := List.mem_iff_getElem?.1 hs
        by_cases hs0 : s.name = 0
        · have := hleast j s (lt_of_get hj) hj hs0
          simp only [ansP, Bool.and_eq_true, decide_eq_true_eq, not_and]
          intro _; omega
        · simp [ansP, hs0]
    have hs := seaF_hit (D := D) hm hur.2 64 (r + 1) 0 top (by omega) hur.1 hur.2 (by unfold top; decide)
    have ht : thr L u.phys = true := List.any_eq_true.2 ⟨u, List.mem_of_getElem? hu, by simp [thrP, hu0]⟩
    have e : srch L D r = (u.phys, 66, true) := by
      rw [srch, hm, decide_eq_true hur.2, g r (Nat.le_refl _), if_pos (show (true && !false) = true from rfl), hs, ht, g (r + 65) (by omega), if_pos (show (true && !false) = true from rfl)]
    rw [e] at h
    cases h
theorem rng_setN {L : List Slv} (h : rng L) (p n : Int) : rng (setN L p n) := fun s hs => by
  obtain ⟨t, ht, rfl⟩ := List.mem_map.1 hs
  have := h t ht
  split
  · exact this
  · exact this
theorem setN_len (L : List Slv) (p n : Int) : (setN L p n).length = L.length := by simp [setN]
/-- One round of a run. -/
inductive Turn (D : List Bool) (most : Int) (L : List Slv) (r : Nat) : Prop where
  | full (h : ((atN L L.length).isSome && (freev L most).isNone) = true)
  | found (h1 : ((atN L L.length).isSome && (freev L most).isNone) = false) (h2 : (srch L D r).2.2 = true) (n k : Nat)
  | done (h1 : ((atN L L.length).isSome && (freev L most).isNone) = false) (h2 : (srch L D r).2.2 = false) (h3 : (srch L D r).2.1 = 1 ∧ gone D r = false)
  | lost (h1 : ((atN L L.length).isSome && (freev L most).isNone) = false) (h2 : (srch L D r).2.2 = false) (h3 : ¬ ((srch L D r).2.1 = 1 ∧ gone D r = false))
theorem run_full {D : List Bool} {most : Int} {L : List Slv} {r f : Nat} (h : ((atN L L.length).isSome && (freev L most).isNone) = true) : runF D most (f + 1) L r = (L, r, 11) := by rw [runF, if_pos h]
theorem run_found {D : List Bool} {most : Int} {L : List Slv} {r f : Nat} {n : Int} (h : ((atN L L.length).isSome && (freev L most).isNone) = false) (h2 : (srch L D r).2.2 = true) (hn : freev L most = some n) :
    runF D most (f + 1) L r = runF D most f (setN L (srch L D r).1 n) (r + (srch L D r).2.1 + 1) := by rw [runF, if_neg (by rw [h]; simp), if_pos h2, hn]; rfl
theorem run_done {D : List Bool} {most : Int} {L : List Slv} {r f : Nat} (h : ((atN L L.length).isSome && (freev L most).isNone) = false) (h2 : (srch L D r).2.2 = false) (h3 : (srch L D r).2.1 = 1 ∧ gone D r = false) :
    runF D most (f + 1) L r = (L, r + 1, 0) := by rw [runF, if_neg (by rw [h]; simp), if_neg (by rw [h2]; simp), if_pos h3]
theorem run_lost {D : List Bool} {most : Int} {L : List Slv} {r f : Nat} (h : ((atN L L.length).isSome && (freev L most).isNone) = false) (h2 : (srch L D r).2.2 = false) (h3 : ¬ ((srch L D r).2.1 = 1 ∧ gone D r = false)) :
    runF D most (f + 1) L r = runF D most f L (r + (srch L D r).2.1) := by rw [runF, if_neg (by rw [h]; simp), if_neg (by rw [h2]; simp), if_neg h3]
theorem lost_lt {D : List Bool} {L : List Slv} {r : Nat} (hL : rng L) (h2 : (srch L D r).2.2 = false) (h3 : ¬ ((srch L D r).2.1 = 1 ∧ gone D r = false)) : r < D.length := by
  rcases Nat.lt_or_ge r D.length with h | h
  · exact h
  · have := srch_clean hL h h2
    exact absurd ⟨this.1, this.2.1⟩ h3
theorem mu_lost {D : List Bool} {L : List Slv} {r : Nat} (hL : rng L) (h2 : (srch L D r).2.2 = false) (h3 : ¬ ((srch L D r).2.1 = 1 ∧ gone D r = false)) : mu L D (r + (srch L D r).2.1) < mu L D r := by
  have h4 := lost_lt hL h2 h3
  have h5 := srch_pos L D r
  unfold mu; omega
theorem found_at {D : List Bool} {most : Int} {L : List Slv} {r : Nat} (hu : uniq L) (h1 : ((atN L L.length).isSome && (freev L most).isNone) = false) (h2 : (srch L D r).2.2 = true) :
    ∃ (n : Int) (k : Nat) (s : Slv), freev L most = some n ∧ L[k]? = some s ∧ s.name = 0 ∧ s.phys = (srch L D r).1 ∧ (srch L D r).2.1 = 66 ∧ setN L (srch L D r).1 n = L.set k ⟨s.phys, n⟩ ∧ uniq (setN L (srch L D r).1 n) ∧ cntZ (setN L (srch L D r).1 n) < cntZ L ∧ idxG (fun t => t.phys == (srch L D r).1) L 0 = k := by
  obtain ⟨k, s, hk, h0, hp, h6, ha⟩ := srch_found h2
  cases hf : freev L most with
  | none => rw [ha, hf] at h1; cases h1
  | some n =>
    obtain ⟨n1, _⟩ := freev_some hf
    have e := setN_at hu hk n
    rw [hp] at e
    refine ⟨n, k, s, rfl, hk, h0, hp, h6, hp ▸ e, ?_, ?_, ?_⟩
    · rw [e, ← hp]; exact uniq_set hu hk
    · rw [e]; exact cntZ_set hk h0 (by omega) _
    · rw [← hp]; exact idx_phys hu hk
end Go.Proofs.Ytgikjbfpckjkoaa.BapN
