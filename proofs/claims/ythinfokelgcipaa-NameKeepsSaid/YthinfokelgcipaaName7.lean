/- What an assignment comes to: plain properties. -/
import Derived.Test.YthinfokelgcipaaName6
namespace Go.Proofs.Ythinfokelgcipaa.Name
set_option linter.unusedSimpArgs false
set_option linter.unusedVariables false
open Go Go.AX Go.Proofs Ty
set_option maxHeartbeats 2000000

structure GoodI (L : List Slv) : Prop where
  len : L.length ≤ 32
  rng : ∀ (i : Nat) (s : Slv), L[i]? = some s → 0 ≤ s.name ∧ s.name ≤ 254
  dis : ∀ (i j : Nat) (s t : Slv), i < j → L[i]? = some s → L[j]? = some t → ¬ s.phys = t.phys ∧ (s.name = t.name → ¬ 0 < t.name)

theorem clash_iff {s t : Slv} : clash s t = false ↔ ¬ s.phys = t.phys ∧ (s.name = t.name → ¬ 0 < t.name) := by
  unfold clash
  by_cases h1 : s.phys = t.phys <;> by_cases h2 : s.name = t.name <;> by_cases h3 : 0 < t.name <;> simp [h1, h2, h3]
  all_goals omega
theorem okS_iff {l : List Slv} {s : Slv} : okS l s = true ↔ 0 ≤ s.name ∧ s.name ≤ 254 ∧ ∀ t ∈ l, clash t s = false := by
  unfold okS
  simp only [Bool.and_eq_true, decide_eq_true_eq, Bool.not_eq_true', List.any_eq_false, Bool.not_eq_true, and_assoc]
theorem goodR_iff : ∀ (L seen : List Slv), goodR seen L = true ↔ ∀ (i : Nat) (s : Slv), L[i]? = some s → okS (seen ++ L.take i) s = true
  | [], seen => by simp [goodR]
  | x :: l, seen => by
    rw [goodR, Bool.and_eq_true, goodR_iff l]
    constructor
    · intro ⟨h1, h2⟩ i s h
      cases i with
      | zero => simp at h; subst h; simpa using h1
      | succ i => simpa using h2 i s (by simpa using h)
    · intro h
      exact ⟨by simpa using h 0 x rfl, fun i s hi => by simpa using h (i + 1) s (by simpa using hi)⟩
theorem mem_take_iff {L : List Slv} {i : Nat} {t : Slv} : t ∈ L.take i ↔ ∃ j, j < i ∧ L[j]? = some t := by
  rw [List.mem_iff_getElem?]
  constructor
  · intro ⟨j, h⟩
    rw [List.getElem?_take] at h
    split at h
    · exact ⟨j, ‹_›, h⟩
    · cases h
  · intro ⟨j, h1, h2⟩
    exact ⟨j, by rw [List.getElem?_take, if_pos h1]; exact h2⟩
theorem goodN_iff {L : List Slv} : goodN L = true ↔ GoodI L := by
  unfold goodN
  rw [Bool.and_eq_true, decide_eq_true_eq, goodR_iff]
  constructor
  · intro ⟨h1, h2⟩
    refine ⟨h1, fun i s h => ?_, fun i j s t hij hi hj => ?_⟩
    · have := okS_iff.1 (h2 i s h); exact ⟨this.1, this.2.1⟩
    · have := okS_iff.1 (h2 j t hj)
      exact clash_iff.1 (this.2.2 s (by rw [List.nil_append]; exact mem_take_iff.2 ⟨i, hij, hi⟩))
  · intro h
    refine ⟨h.len, fun i s hi => okS_iff.2 ⟨(h.rng i s hi).1, (h.rng i s hi).2, fun t ht => ?_⟩⟩
    rw [List.nil_append] at ht
    obtain ⟨j, hj, hjt⟩ := mem_take_iff.1 ht
    exact clash_iff.2 (h.dis j i t s hj hjt hi)
theorem GoodI.uniq {L : List Slv} (h : GoodI L) : uniq L := by
  intro i j s t hi hj hp
  rcases Nat.lt_trichotomy i j with h1 | h1 | h1
  · exact absurd hp (h.dis i j s t h1 hi hj).1
  · exact h1
  · exact absurd hp.symm (h.dis j i t s h1 hj hi).1
theorem GoodI.names {L : List Slv} (h : GoodI L) {i j : Nat} {s t : Slv} (hi : L[i]? = some s) (hj : L[j]? = some t) (hn : s.name = t.name) (h0 : 0 < s.name) : i = j := by
  rcases Nat.lt_trichotomy i j with h1 | h1 | h1
  · exact absurd (by omega) ((h.dis i j s t h1 hi hj).2 hn)
  · exact h1
  · exact absurd (by omega) ((h.dis j i t s h1 hj hi).2 hn.symm)

/-! ### Who is least -/
theorem atN_none {L : List Slv} : ∀ {i : Nat}, i ≤ L.length → atN L i = none → ∀ (j : Nat) (s : Slv), j < i → L[j]? = some s → ¬ s.name = 0
  | 0, _, _, j, s, hj, _ => by omega
  | i + 1, hi, h, j, s, hj, hs => by
    obtain ⟨t, hx⟩ := get_some (l := L) (i := i) (by omega)
    cases hat : atN L i with
    | none =>
      rw [atN_first hx hat] at h
      by_cases hji : j = i
      · subst hji; rw [hx] at hs; cases hs
        intro h0; rw [if_pos h0] at h; cases h
      · exact atN_none (by omega) hat j s (by omega) hs
    | some k =>
      obtain ⟨t', ht', _⟩ := atN_name (by omega) hat
      rw [atN_next hx ht' hat] at h
      split at h <;> cases h
theorem atN_least {L : List Slv} : ∀ {i k : Nat} {u : Slv}, i ≤ L.length → atN L i = some k → L[k]? = some u → ∀ (j : Nat) (s : Slv), j < i → L[j]? = some s → s.name = 0 → u.phys ≤ s.phys
  | 0, _, _, _, _, _, j, s, hj, _, _ => by omega
  | i + 1, k, u, hi, h, hu, j, s, hj, hs, h0 => by
    obtain ⟨t, hx⟩ := get_some (l := L) (i := i) (by omega)
    cases hat : atN L i with
    | none =>
      rw [atN_first hx hat] at h
      by_cases hji : j = i
      · subst hji; rw [hx] at hs; cases hs
        rw [if_pos h0] at h; cases h; rw [hx] at hu; cases hu; omega
      · exact absurd h0 (atN_none (by omega) hat j s (by omega) hs)
    | some k' =>
      obtain ⟨t', ht', _⟩ := atN_name (by omega) hat
      rw [atN_next hx ht' hat] at h
      have ih := atN_least (by omega) hat ht'
      split at h
      · rename_i hc; cases h; rw [hx] at hu; cases hu
        by_cases hji : j = i
        · subst hji; rw [hx] at hs; cases hs; omega
        · have := ih j s (by omega) hs h0; omega
      · rename_i hc; cases h; rw [ht'] at hu; cases hu
        by_cases hji : j = i
        · subst hji; rw [hx] at hs; cases hs
          have : ¬ s.phys < u.phys := fun hl => hc ⟨h0, hl⟩
          omega
        · exact ih j s (by omega) hs h0

/-! ### The first free name -/
def used (L : List Slv) (n : Int) : Prop := ∃ (i : Nat) (s : Slv), L[i]? = some s ∧ s.name = n
theorem any_used {L : List Slv} {n : Int} : (L.any fun s => s.name == n) = true ↔ used L n := by
  rw [List.any_eq_true]
  constructor
  · intro ⟨s, h1, h2⟩
    obtain ⟨i, hi⟩ := List.mem_iff_getElem?.1 h1
    exact ⟨i, s, hi, by simpa using h2⟩
  · intro ⟨i, s, h1, h2⟩
    exact ⟨s, List.mem_of_getElem? h1, by simpa using h2⟩
theorem freeF_some {L : List Slv} {m : Int} : ∀ {f : Nat} {n r : Int}, freeF L m f n = some r → ¬ used L r ∧ ∀ x, n ≤ x → x < r → used L x
  | 0, _, _, h => by cases h
  | f + 1, n, r, h => by
    rw [freeF] at h
    split at h
    · split at h
      · rename_i hu
        have ih := freeF_some h
        refine ⟨ih.1, fun x h1 h2 => ?_⟩
        by_cases hx : x = n
        · subst hx; exact any_used.1 hu
        · exact ih.2 x (by omega) h2
      · rename_i hu
        cases h
        exact ⟨fun h => hu (any_used.2 h), fun x h1 h2 => by omega⟩
    · cases h
theorem freeF_none {L : List Slv} {m : Int} : ∀ {f : Nat} {n : Int}, freeF L m f n = none → m < n + f → ∀ x, n ≤ x → x ≤ m → used L x
  | 0, n, _, hf, x, h1, h2 => by omega
  | f + 1, n, h, hf, x, h1, h2 => by
    rw [freeF] at h
    split at h
    · split at h
      · rename_i hu
        by_cases hx : x = n
        · subst hx; exact any_used.1 hu
        · exact freeF_none h (by omega) x (by omega) h2
      · cases h
    · omega
theorem freev_some {L : List Slv} {most n : Int} (h : freev L most = some n) : 1 ≤ n ∧ n ≤ 254 ∧ ¬ used L n ∧ ∀ x, 1 ≤ x → x < n → used L x := by
  have h1 := freeF_ge h
  have h2 := freeF_some h
  have h3 := (lim_le most).1
  exact ⟨h1.1, by omega, h2.1, h2.2⟩
/-- Not all of so many are had by so few. -/
theorem pigeon : ∀ (k : Nat) (L : List Slv), (∀ x : Int, 1 ≤ x → x ≤ k → used L x) → k ≤ L.length
  | 0, _, _ => by omega
  | k + 1, L, h => by
    obtain ⟨i, s, hi, hn⟩ := h (k + 1) (by omega) (by omega)
    have hl := lt_of_get hi
    have := pigeon k (L.eraseIdx i) fun x h1 h2 => by
      obtain ⟨j, t, hj, ht⟩ := h x h1 (by omega)
      have hji : ¬ j = i := fun e => by subst e; rw [hi] at hj; cases hj; omega
      by_cases hlt : j < i
      · exact ⟨j, t, by rw [List.getElem?_eraseIdx, if_pos hlt]; exact hj, ht⟩
      · exact ⟨j - 1, t, by rw [List.getElem?_eraseIdx, if_neg (by omega), show j - 1 + 1 = j from by omega]; exact hj, ht⟩
    rw [List.length_eraseIdx, if_pos hl] at this
    omega
theorem freev_not {L : List Slv} {most : Int} (hL : L.length ≤ 32) (hm : 64 ≤ most) : ¬ freev L most = none := by
  intro h
  have h3 : 64 ≤ lim most := by unfold lim; split <;> omega
  have := pigeon 64 L fun x h1 h2 => freeF_none h (by have := (lim_le most).1; omega) x h1 (by omega)
  omega

/-! ### What holds as names are given -/
structure Run (L0 L : List Slv) : Prop where
  good : GoodI L
  len : L.length = L0.length
  at_ : ∀ (i : Nat) (s t : Slv), L0[i]? = some s → L[i]? = some t → t.phys = s.phys ∧ (¬ s.name = 0 → t.name = s.name)
  fill : ∀ (i : Nat) (s t : Slv), L0[i]? = some s → L[i]? = some t → s.name = 0 → ∀ x, 1 ≤ x → x ≤ t.name → used L x
  ord : ∀ (i k : Nat) (si sk ti tk : Slv), L0[i]? = some si → L0[k]? = some sk → L[i]? = some ti → L[k]? = some tk → si.name = 0 → sk.name = 0 → 0 < ti.name → tk.phys < ti.phys → 0 < tk.name ∧ tk.name ≤ ti.name

theorem Run.start {L : List Slv} (h : GoodI L) : Run L L where
  good := h
  len := rfl
  at_ := fun i s t h1 h2 => by rw [h1] at h2; cases h2; exact ⟨rfl, fun _ => rfl⟩
  fill := fun i s t h1 h2 h0 x hx1 hx2 => by rw [h1] at h2; cases h2; omega
  ord := fun i k si sk ti tk h1 h2 h3 h4 h5 h6 h7 _ => by rw [h1] at h3; cases h3; omega

theorem set_at {L : List Slv} {k : Nat} {s v : Slv} (hk : L[k]? = some s) (i : Nat) : (L.set k v)[i]? = if i = k then some v else L[i]? := by
  rw [List.getElem?_set]
  have := lt_of_get hk
  by_cases h : i = k
  · subst h; simp [this]
  · rw [if_neg (fun e => h e.symm), if_neg h]
theorem Run.step {L0 L : List Slv} (h : Run L0 L) {k : Nat} {s : Slv} {n most : Int} (hat : atN L L.length = some k) (hs : L[k]? = some s) (hf : freev L most = some n) : Run L0 (L.set k ⟨s.phys, n⟩) := by
  obtain ⟨n1, n2, n3, n4⟩ := freev_some hf
  obtain ⟨s', hs', hs0⟩ := atN_name (Nat.le_refl _) hat
  rw [hs] at hs'; cases hs'
  have hG := set_at (v := ⟨s.phys, n⟩) hs
  have usd : ∀ x, used L x → ¬ x = 0 → used (L.set k ⟨s.phys, n⟩) x := fun x ⟨j, t, hj, ht⟩ h0 => by
    refine ⟨j, t, ?_, ht⟩
    rw [hG, if_neg ?_]
    · exact hj
    · intro e; subst e; rw [hs] at hj; cases hj; omega
  have hlt : ∀ (i : Nat) (si ti : Slv), L0[i]? = some si → L[i]? = some ti → si.name = 0 → ti.name < n := fun i si ti h1 h2 h3 => by
    rcases Int.lt_or_le ti.name n with h4 | h4
    · exact h4
    · exact absurd (h.fill i si ti h1 h2 h3 n n1 h4) n3
  refine ⟨⟨?_, ?_, ?_⟩, ?_, ?_, ?_, ?_⟩
  · rw [List.length_set]; exact h.good.len
  · intro i t ht
    rw [hG] at ht
    split at ht
    · cases ht; exact ⟨by simp only; omega, n2⟩
    · exact h.good.rng i t ht
  · intro i j a b hij ha hb
    rw [hG] at ha hb
    split at ha
    · rename_i hi
      subst hi
      rw [if_neg (by omega)] at hb
      cases ha
      have := h.good.dis i j s b hij hs hb
      refine ⟨this.1, fun e => ?_⟩
      exact absurd ⟨j, b, hb, e.symm⟩ n3
    · split at hb
      · rename_i hj
        subst hj
        cases hb
        have := h.good.dis i j a s hij ha hs
        refine ⟨this.1, fun e => ?_⟩
        exact absurd ⟨i, a, ha, e⟩ n3
      · exact h.good.dis i j a b hij ha hb
  · rw [List.length_set]; exact h.len
  · intro i a b ha hb
    rw [hG] at hb
    split at hb
    · rename_i hi
      subst hi
      cases hb
      have := h.at_ i a s ha hs
      exact ⟨this.1, fun h0 => by have := this.2 h0; omega⟩
    · exact h.at_ i a b ha hb
  · intro i a b ha hb h0 x hx1 hx2
    rw [hG] at hb
    split at hb
    · rename_i hi
      subst hi
      cases hb
      by_cases hxn : x = n
      · exact ⟨i, _, by rw [hG, if_pos rfl], hxn.symm⟩
      · simp only at hx2
        exact usd x (n4 x hx1 (by omega)) (by omega)
    · exact usd x (h.fill i a b ha hb h0 x hx1 hx2) (by omega)
  · intro i j si sj ti tj h1 h2 h3 h4 h5 h6 h7 h8
    rw [hG] at h3 h4
    split at h3
    · rename_i hi
      subst hi
      cases h3
      split at h4
      · rename_i hj
        cases h4
        simp only at h8; omega
      · simp only at h8 h7 ⊢
        have hl := hlt j sj tj h2 h4 h6
        by_cases h0 : tj.name = 0
        · have := atN_least (Nat.le_refl _) hat hs j tj (lt_of_get h4) h4 h0
          omega
        · have := (h.good.rng j tj h4).1
          omega
    · split at h4
      · rename_i hj
        subst hj
        cases h4
        have := h.ord i j si sj ti s h1 h2 h3 hs h5 h6 h7 h8
        omega
      · exact h.ord i j si sj ti tj h1 h2 h3 h4 h5 h6 h7 h8

theorem assign_run {most : Int} {L0 : List Slv} : ∀ (f : Nat) (L : List Slv), Run L0 L → cntZ L < f →
    Run L0 (assignF most f L).1 ∧ ((assignF most f L).2 = 0 ∨ (assignF most f L).2 = 11) ∧ ((assignF most f L).2 = 0 → ∀ (i : Nat) (s : Slv), (assignF most f L).1[i]? = some s → ¬ s.name = 0) ∧ (64 ≤ most → (assignF most f L).2 = 0)
  | 0, L, _, hc => by omega
  | f + 1, L, h, hc => by
    cases hat : atN L L.length with
    | none =>
      rw [assign_none hat]
      exact ⟨h, .inl rfl, fun _ i s hs => atN_none (Nat.le_refl _) hat i s (lt_of_get hs) hs, fun _ => rfl⟩
    | some k =>
      obtain ⟨s, hs, hs0⟩ := atN_name (Nat.le_refl _) hat
      cases hf : freev L most with
      | none =>
        rw [assign_full hat hf]
        exact ⟨h, .inr rfl, fun h => absurd h (show ¬ (11 : Int) = 0 from by decide), fun hm => absurd hf (freev_not h.good.len hm)⟩
      | some n =>
        rw [assign_next hat hf hs]
        have n1 := (freev_some hf).1
        exact assign_run f _ (h.step hat hs hf) (by have := cntZ_set (n := n) hs hs0 (by omega) s.phys; omega)

end Go.Proofs.Ythinfokelgcipaa.Name
