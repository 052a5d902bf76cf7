/- wire.Join: spans, joined. -/
import Derived.Test.YtapfabjmooagaaaWire1
namespace Go.Proofs.Ytapfabjmooagaaa.Wire
set_option linter.unusedSimpArgs false
set_option linter.unusedVariables false
open Go Go.AX Go.Proofs Ty Go.Proofs.Ytapfabjmooagaaa.Srt Go.Proofs.Ytapfabjmooagaaa.CatP
set_option maxHeartbeats 4000000
set_option maxRecDepth 10000

def low (X : List Sp) (t : Int) : Prop := ∃ s ∈ X, s.1 ≤ t ∧ t < s.2
structure Plain (R : List Sp) : Prop where
  up : ∀ s ∈ R, s.1 < s.2
  apart : R.Pairwise fun x y => x.2 < y.1
theorem plain_cons {a : Sp} {R : List Sp} (h : Plain (a :: R)) : a.1 < a.2 ∧ (∀ s ∈ R, a.2 < s.1) ∧ Plain R :=
  ⟨h.up a (List.mem_cons_self ..), (List.pairwise_cons.1 h.apart).1, ⟨fun s hs => h.up s (List.mem_cons_of_mem _ hs), (List.pairwise_cons.1 h.apart).2⟩⟩
theorem plain_ge {a : Sp} {R : List Sp} (h : Plain (a :: R)) {t : Int} (ht : low (a :: R) t) : a.1 ≤ t := by
  obtain ⟨s, hs, h1, h2⟩ := ht
  obtain ⟨p1, p2, p3⟩ := plain_cons h
  rcases List.mem_cons.1 hs with rfl | hs
  · exact h1
  · have := p2 s hs; omega
theorem plain_gap {a : Sp} {R : List Sp} (h : Plain (a :: R)) : ¬ low (a :: R) a.2 := by
  rintro ⟨s, hs, h1, h2⟩
  obtain ⟨p1, p2, p3⟩ := plain_cons h
  rcases List.mem_cons.1 hs with rfl | hs
  · omega
  · have := p2 s hs; omega
theorem low_cons (a : Sp) (R : List Sp) (t : Int) : low (a :: R) t ↔ (a.1 ≤ t ∧ t < a.2) ∨ low R t := by simp [low]
theorem low_app (X Y : List Sp) (t : Int) : low (X ++ Y) t ↔ low X t ∨ low Y t := by
  simp only [low, List.mem_append]
  constructor
  · rintro ⟨s, h | h, h2⟩
    · exact .inl ⟨s, h, h2⟩
    · exact .inr ⟨s, h, h2⟩
  · rintro (⟨s, h, h2⟩ | ⟨s, h, h2⟩)
    · exact ⟨s, .inl h, h2⟩
    · exact ⟨s, .inr h, h2⟩
theorem plain_tail {a : Sp} {R : List Sp} (h : Plain (a :: R)) (t : Int) : low R t ↔ low (a :: R) t ∧ a.2 ≤ t := by
  obtain ⟨p1, p2, p3⟩ := plain_cons h
  rw [low_cons]
  constructor
  · rintro ⟨s, hs, h1, h2⟩
    have := p2 s hs
    exact ⟨.inr ⟨s, hs, h1, h2⟩, by omega⟩
  · rintro ⟨h1 | h1, h2⟩
    · omega
    · exact h1
theorem plain_uniq : ∀ {R S : List Sp}, Plain R → Plain S → (∀ t, low R t ↔ low S t) → R = S
  | [], [], _, _, _ => rfl
  | [], b :: S, _, hS, h => by
    have := plain_cons hS
    exact absurd ((h b.1).2 ⟨b, List.mem_cons_self .., Int.le_refl _, this.1⟩) (fun ⟨s, hs, _⟩ => by cases hs)
  | a :: R, [], hR, _, h => by
    have := plain_cons hR
    exact absurd ((h a.1).1 ⟨a, List.mem_cons_self .., Int.le_refl _, this.1⟩) (fun ⟨s, hs, _⟩ => by cases hs)
  | a :: R, b :: S, hR, hS, h => by
    have pa := plain_cons hR
    have pb := plain_cons hS
    have h1 : a.1 = b.1 := by
      have h2 := plain_ge hS ((h a.1).1 ⟨a, List.mem_cons_self .., Int.le_refl _, pa.1⟩)
      have h3 := plain_ge hR ((h b.1).2 ⟨b, List.mem_cons_self .., Int.le_refl _, pb.1⟩)
      omega
    have h2 : a.2 = b.2 := by
      rcases Int.lt_trichotomy a.2 b.2 with h4 | h4 | h4
      · exact absurd ((h a.2).2 ⟨b, List.mem_cons_self .., by omega, h4⟩) (plain_gap hR)
      · exact h4
      · exact absurd ((h b.2).1 ⟨a, List.mem_cons_self .., by omega, h4⟩) (plain_gap hS)
    have hab : a = b := Prod.ext h1 h2
    subst hab
    rw [plain_uniq pa.2.2 pb.2.2 fun t => by rw [plain_tail hR, plain_tail hS, h t]]
def stp (R : List Sp) (s : Sp) : List Sp := match R.getLast? with
  | none => [s]
  | some l => if s.1 ≤ l.2 then R.dropLast ++ [(l.1, if s.2 > l.2 then s.2 else l.2)] else R ++ [s]
structure Mrg (P R : List Sp) : Prop where
  plain : Plain R
  same : ∀ t, low R t ↔ low P t
  from_ : ∀ x ∈ R, ∃ y ∈ P, x.1 = y.1
theorem stp_snoc (R : List Sp) (l s : Sp) : stp (R ++ [l]) s = if s.1 ≤ l.2 then R ++ [(l.1, if s.2 > l.2 then s.2 else l.2)] else R ++ [l] ++ [s] := by
  simp [stp]
theorem Mrg.step {P R : List Sp} {s : Sp} (h : Mrg P R) (hs : s.1 < s.2) (hge : ∀ y ∈ P, y.1 ≤ s.1) : Mrg (P ++ [s]) (stp R s) := by
  rcases List.eq_nil_or_concat R with rfl | ⟨R, l, rfl⟩
  · have e : stp [] s = [s] := rfl
    rw [e]
    refine ⟨⟨fun x hx => ?_, by simp⟩, fun t => ?_, fun x hx => ?_⟩
    · simp at hx; subst hx; exact hs
    · rw [low_app, ← h.same]
      constructor
      · exact .inr
      · rintro (⟨x, hx, _⟩ | h2)
        · cases hx
        · exact h2
    · simp at hx; subst hx; exact ⟨x, by simp, rfl⟩
  · rw [List.concat_eq_append] at h ⊢
    have hl : l.1 < l.2 := h.plain.up l (by simp)
    have hls : l.1 ≤ s.1 := by
      obtain ⟨y, hy, e⟩ := h.from_ l (by simp)
      rw [e]; exact hge y hy
    have hpw := List.pairwise_append.1 h.plain.apart
    rw [stp_snoc]
    split
    · rename_i hm
      generalize hmx : (if s.2 > l.2 then s.2 else l.2) = m
      have hm1 : l.2 ≤ m ∧ s.2 ≤ m ∧ (m = l.2 ∨ m = s.2) := by subst hmx; split <;> omega
      refine ⟨⟨fun x hx => ?_, ?_⟩, fun t => ?_, fun x hx => ?_⟩
      · rcases List.mem_append.1 hx with hx | hx
        · exact h.plain.up x (by simp [hx])
        · simp at hx; subst hx; show l.1 < m; omega
      · rw [List.pairwise_append]
        refine ⟨hpw.1, by simp, fun x hx y hy => ?_⟩
        simp at hy; subst hy
        exact hpw.2.2 x hx l (by simp)
      · rw [low_app, low_app, ← h.same, low_app]
        have : low [((l.1, m) : Sp)] t ↔ low [l] t ∨ low [s] t := by
          simp only [low_cons]
          constructor
          · rintro (⟨h1, h2⟩ | ⟨x, hx, _⟩)
            · by_cases h3 : t < l.2
              · exact .inl (.inl ⟨h1, h3⟩)
              · exact .inr (.inl ⟨by omega, by omega⟩)
            · cases hx
          · rintro ((⟨h1, h2⟩ | ⟨x, hx, _⟩) | (⟨h1, h2⟩ | ⟨x, hx, _⟩))
            · exact .inl ⟨by omega, by omega⟩
            · cases hx
            · exact .inl ⟨by omega, by omega⟩
            · cases hx
        rw [this, or_assoc]
      · rcases List.mem_append.1 hx with hx | hx
        · obtain ⟨y, hy, e⟩ := h.from_ x (by simp [hx])
          exact ⟨y, by simp [hy], e⟩
        · simp at hx; subst hx
          obtain ⟨y, hy, e⟩ := h.from_ l (by simp)
          exact ⟨y, by simp [hy], e⟩
    · rename_i hm
      refine ⟨⟨fun x hx => ?_, ?_⟩, fun t => ?_, fun x hx => ?_⟩
      · rcases List.mem_append.1 hx with hx | hx
        · exact h.plain.up x hx
        · simp at hx; subst hx; exact hs
      · rw [List.pairwise_append]
        refine ⟨h.plain.apart, by simp, fun x hx y hy => ?_⟩
        simp at hy; subst hy
        rcases List.mem_append.1 hx with hx | hx
        · have h1 := hpw.2.2 x hx l (by simp)
          omega
        · simp at hx; subst hx; omega
      · rw [low_app (R ++ [l]), low_app P, h.same]
      · rcases List.mem_append.1 hx with hx | hx
        · obtain ⟨y, hy, e⟩ := h.from_ x hx
          exact ⟨y, by simp [hy], e⟩
        · simp at hx; subst hx; exact ⟨x, by simp, rfl⟩
/-- R is what X comes to, joined. -/
structure JoinOf (X R : List Sp) : Prop where
  plain : Plain R
  same : ∀ t, low R t ↔ low X t
  small : R.length ≤ X.length
  ends : ∀ s ∈ R, (∃ y ∈ X, s.1 = y.1) ∧ ∃ y ∈ X, s.2 = y.2
theorem JoinOf.uniq {X Y R S : List Sp} (h : JoinOf X R) (k : JoinOf Y S) (hs : ∀ t, low X t ↔ low Y t) : R = S :=
  plain_uniq h.plain k.plain fun t => by rw [h.same, k.same, hs]
def mrgF (S : List Sp) (i : Nat) : List Sp := (S.take i).foldl stp []
theorem mrgF_succ {S : List Sp} {i : Nat} {s : Sp} (h : S[i]? = some s) : mrgF S (i + 1) = stp (mrgF S i) s := by
  rw [mrgF, List.take_add_one, h]; simp [mrgF, List.foldl_append]
theorem stp_len (R : List Sp) (s : Sp) : (stp R s).length ≤ R.length + 1 := by
  rcases List.eq_nil_or_concat R with rfl | ⟨R, l, rfl⟩
  · simp [stp]
  · rw [List.concat_eq_append, stp_snoc]; split <;> simp
theorem mrgF_len {S : List Sp} : ∀ (i : Nat), i ≤ S.length → (mrgF S i).length ≤ i
  | 0, _ => by simp [mrgF]
  | i + 1, h => by
    obtain ⟨s, hs⟩ := get_some (l := S) (i := i) (by omega)
    rw [mrgF_succ hs]
    have := stp_len (mrgF S i) s
    have := mrgF_len (S := S) i (by omega)
    omega
theorem mrgF_mrg {S : List Sp} (hup : ∀ s ∈ S, s.1 < s.2) (hso : S.Pairwise fun x y => x.1 ≤ y.1) : ∀ i, i ≤ S.length → Mrg (S.take i) (mrgF S i)
  | 0, _ => ⟨⟨fun s h => by simp [mrgF] at h, by simp [mrgF]⟩, fun t => by simp [mrgF], fun x h => by simp [mrgF] at h⟩
  | i + 1, h => by
    obtain ⟨s, hs⟩ := get_some (l := S) (i := i) (by omega)
    rw [mrgF_succ hs, List.take_add_one, hs]
    refine (mrgF_mrg hup hso i (by omega)).step (hup s (List.mem_of_getElem? hs)) fun y hy => ?_
    obtain ⟨j, hj⟩ := List.mem_iff_getElem?.1 hy
    rw [List.getElem?_take] at hj
    split at hj
    · rename_i hji
      have h1 := lt_of_get hs
      have h2 := lt_of_get hj
      have := List.pairwise_iff_getElem.1 hso j i h2 h1 hji
      rw [List.getElem?_eq_getElem h2] at hj
      rw [List.getElem?_eq_getElem h1] at hs
      cases hj; cases hs; exact this
    · cases hj
theorem stp_to {R P : List Sp} {s : Sp} (h : ∀ x ∈ R, ∃ y ∈ P, x.2 = y.2) : ∀ x ∈ stp R s, ∃ y ∈ P ++ [s], x.2 = y.2 := by
  intro x hx
  rcases List.eq_nil_or_concat R with rfl | ⟨R, l, rfl⟩
  · simp [stp] at hx; subst hx; exact ⟨x, by simp, rfl⟩
  · rw [List.concat_eq_append] at h hx
    rw [stp_snoc] at hx
    have hl := h l (by simp)
    obtain ⟨y, hy, e⟩ := hl
    split at hx
    · rcases List.mem_append.1 hx with hx | hx
      · obtain ⟨y, hy, e⟩ := h x (by simp [hx]); exact ⟨y, by simp [hy], e⟩
      · simp at hx; subst hx
        simp only
        split
        · exact ⟨s, by simp, rfl⟩
        · exact ⟨y, by simp [hy], e⟩
    · rcases List.mem_append.1 hx with hx | hx
      · obtain ⟨y, hy, e⟩ := h x hx; exact ⟨y, by simp [hy], e⟩
      · simp at hx; subst hx; exact ⟨x, by simp, rfl⟩
theorem mrgF_to {S : List Sp} : ∀ (i : Nat), i ≤ S.length → ∀ x ∈ mrgF S i, ∃ y ∈ S.take i, x.2 = y.2
  | 0, _, x, hx => by simp [mrgF] at hx
  | i + 1, h, x, hx => by
    obtain ⟨s, hs⟩ := get_some (l := S) (i := i) (by omega)
    rw [mrgF_succ hs] at hx
    rw [List.take_add_one, hs]
    exact stp_to (mrgF_to i (by omega)) x hx
def up (s : Sp) : Bool := decide (s.2 ≤ s.1)
theorem join_of {X S : List Sp} (hp : S.Perm (X.filter fun x => !up x)) (hso : S.Pairwise fun x y => x.1 ≤ y.1) : JoinOf X (mrgF S S.length) := by
  have hmem : ∀ s, s ∈ S ↔ s ∈ X ∧ s.1 < s.2 := fun s => by
    rw [hp.mem_iff, List.mem_filter]; simp [up]
  have hup : ∀ s ∈ S, s.1 < s.2 := fun s hs => ((hmem s).1 hs).2
  have hm := mrgF_mrg hup hso S.length (Nat.le_refl _)
  rw [List.take_length] at hm
  refine ⟨hm.plain, fun t => ?_, ?_, fun s hs => ⟨?_, ?_⟩⟩
  · rw [hm.same]
    constructor
    · rintro ⟨s, hs, h1⟩; exact ⟨s, ((hmem s).1 hs).1, h1⟩
    · rintro ⟨s, hs, h1, h2⟩; exact ⟨s, (hmem s).2 ⟨hs, by omega⟩, h1, h2⟩
  · have h1 := mrgF_len (S := S) S.length (Nat.le_refl _)
    have h2 := hp.length_eq
    have h3 := List.length_filter_le (fun x => !up x) X
    omega
  · obtain ⟨y, hy, e⟩ := hm.from_ s hs
    exact ⟨y, ((hmem y).1 hy).1, e⟩
  · obtain ⟨y, hy, e⟩ := mrgF_to S.length (Nat.le_refl _) s hs
    rw [List.take_length] at hy
    exact ⟨y, ((hmem y).1 hy).1, e⟩
end Go.Proofs.Ytapfabjmooagaaa.Wire
