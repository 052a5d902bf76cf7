/- wire's reference: Join, in plain words. -/
import Derived.Test.YtapfabjmooagaaaWire4
namespace Go.Proofs.Ytapfabjmooagaaa.Wire
set_option linter.unusedSimpArgs false
set_option linter.unusedVariables false
open Go Go.AX Go.Proofs Ty Go.Proofs.Ytapfabjmooagaaa.Srt Go.Proofs.Ytapfabjmooagaaa.CatP
set_option maxHeartbeats 4000000
set_option maxRecDepth 10000

theorem countP_lt {p q : Sp → Bool} : ∀ {X : List Sp}, (∀ s ∈ X, p s = true → q s = true) → (∃ s ∈ X, q s = true ∧ p s = false) → X.countP p < X.countP q
  | [], _, h => by obtain ⟨s, hs, _⟩ := h; cases hs
  | x :: X, h1, h2 => by
    rw [List.countP_cons, List.countP_cons]
    have hle : X.countP p ≤ X.countP q := List.countP_mono_left fun s hs hp => h1 s (List.mem_cons_of_mem _ hs) hp
    obtain ⟨s, hs, hq, hp⟩ := h2
    rcases List.mem_cons.1 hs with rfl | hs
    · rw [hq, hp]; simp; omega
    · have := countP_lt (X := X) (fun s hs hp => h1 s (List.mem_cons_of_mem _ hs) hp) ⟨s, hs, hq, hp⟩
      have h3 : p x = true → q x = true := h1 x (List.mem_cons_self ..)
      cases hp : p x with
      | true => rw [h3 hp]; simp; omega
      | false => simp; omega
def lastTo (R : List Sp) : Option Int := R.getLast?.map (·.2)
theorem lastTo_snoc (R : List Sp) (l : Sp) : lastTo (R ++ [l]) = some l.2 := by simp [lastTo]
theorem lastTo_nil : lastTo [] = none := rfl
def after (E : Option Int) (s : Int) : Prop := ∀ e, E = some e → e < s
def afterB (E : Option Int) (s : Int) : Bool := match E with | none => true | some e => decide (e < s)
theorem afterB_iff {E : Option Int} {s : Int} : afterB E s = true ↔ after E s := by
  cases E <;> simp [afterB, after]
def cand (X : List Sp) (E : Option Int) (s : Sp) : Bool := decide (s.1 < s.2) && !lowB X (s.1 - 1) && afterB E s.1
theorem cand_iff {X : List Sp} {E : Option Int} {s : Sp} : cand X E s = true ↔ s.1 < s.2 ∧ ¬ low X (s.1 - 1) ∧ after E s.1 := by
  simp only [cand, Bool.and_eq_true, decide_eq_true_eq, Bool.not_eq_true', lowB_not, afterB_iff, and_assoc]
theorem descend {X : List Sp} {E : Option Int} (hE : ∀ e, E = some e → ¬ low X e) : ∀ (n : Nat) (t : Int), X.countP (fun s => decide (s.1 ≤ t)) ≤ n → low X t → after E t → ∃ s ∈ X, cand X E s = true ∧ s.1 ≤ t
  | 0, t, hc, ⟨s, hs, h1, h2⟩, _ => by
    have : 0 < X.countP (fun s => decide (s.1 ≤ t)) := List.countP_pos_iff.2 ⟨s, hs, by simpa using h1⟩
    omega
  | n + 1, t, hc, ⟨s, hs, h1, h2⟩, ha => by
    have hes : after E s.1 := fun e he => by
      rcases Int.lt_or_le e s.1 with h | h
      · exact h
      · have := ha e he
        exact absurd ⟨s, hs, h, by omega⟩ (hE e he)
    by_cases hl : low X (s.1 - 1)
    · have hlt : X.countP (fun x => decide (x.1 ≤ s.1 - 1)) < X.countP (fun x => decide (x.1 ≤ t)) :=
        countP_lt (fun x _ hx => by simp at hx ⊢; omega) ⟨s, hs, by simpa using h1, by simp; omega⟩
      obtain ⟨c, hc1, hc2, hc3⟩ := descend hE n (s.1 - 1) (by omega) hl fun e he => by
        have h3 := hes e he
        rcases Int.lt_or_le e (s.1 - 1) with h | h
        · exact h
        · have : e = s.1 - 1 := by omega
          exact absurd (this ▸ hl) (hE e he)
      exact ⟨c, hc1, hc2, by omega⟩
    · exact ⟨s, hs, cand_iff.2 ⟨by omega, hl, hes⟩, h1⟩
def better (b : Option Int) (t : Int) : Bool := match b with | none => true | some b => decide (t < b)
def bst (X : List Sp) (E : Option Int) (i : Nat) : Option Int := (X.take i).foldl (fun b s => if cand X E s && better b s.1 then some s.1 else b) none
theorem bst_succ {X : List Sp} {E : Option Int} {i : Nat} {s : Sp} (h : X[i]? = some s) : bst X E (i + 1) = if cand X E s && better (bst X E i) s.1 then some s.1 else bst X E i := by
  rw [bst, List.take_add_one, h]; simp [bst, List.foldl_append]
theorem bst_spec {X : List Sp} {E : Option Int} : ∀ i, i ≤ X.length → (bst X E i = none → ∀ s ∈ X.take i, cand X E s = false) ∧ (∀ b, bst X E i = some b → (∃ s ∈ X, cand X E s = true ∧ s.1 = b) ∧ ∀ s ∈ X.take i, cand X E s = true → b ≤ s.1)
  | 0, _ => ⟨fun _ s hs => by simp at hs, fun b h => by simp [bst] at h⟩
  | i + 1, hi => by
    obtain ⟨s, hs⟩ := get_some (l := X) (i := i) (by omega)
    obtain ⟨h1, h2⟩ := bst_spec (X := X) (E := E) i (by omega)
    rw [bst_succ hs, List.take_add_one, hs]
    cases hb : bst X E i with
    | none =>
      have h1 := h1 hb
      cases hc : cand X E s with
      | true =>
        simp only [better, Bool.and_true, if_true]
        refine ⟨fun h => (by cases h), fun b h => ?_⟩
        cases h
        refine ⟨⟨s, List.mem_of_getElem? hs, hc, rfl⟩, fun x hx hxc => ?_⟩
        rcases List.mem_append.1 hx with hx | hx
        · rw [h1 x hx] at hxc; cases hxc
        · simp at hx; rw [hx]; exact Int.le_refl _
      | false =>
        simp only [Bool.false_and, Bool.false_eq_true, if_false]
        refine ⟨fun _ x hx => ?_, fun b h => by cases h⟩
        rcases List.mem_append.1 hx with hx | hx
        · exact h1 x hx
        · simp at hx; rw [hx]; exact hc
    | some b0 =>
      obtain ⟨h3, h4⟩ := h2 b0 hb
      cases hc : cand X E s with
      | true =>
        by_cases hlt : s.1 < b0
        · simp only [better, decide_eq_true hlt, Bool.and_self, if_true]
          refine ⟨fun h => (by cases h), fun b h => ?_⟩
          cases h
          refine ⟨⟨s, List.mem_of_getElem? hs, hc, rfl⟩, fun x hx hxc => ?_⟩
          rcases List.mem_append.1 hx with hx | hx
          · have := h4 x hx hxc; omega
          · simp at hx; rw [hx]; exact Int.le_refl _
        · simp only [better, decide_eq_false hlt, Bool.and_false, Bool.false_eq_true, if_false]
          refine ⟨fun h => (by cases h), fun b h => ?_⟩
          cases h
          refine ⟨h3, fun x hx hxc => ?_⟩
          rcases List.mem_append.1 hx with hx | hx
          · exact h4 x hx hxc
          · simp at hx; rw [hx]; omega
      | false =>
        simp only [Bool.false_and, Bool.false_eq_true, if_false]
        refine ⟨fun h => (by cases h), fun b h => ?_⟩
        cases h
        refine ⟨h3, fun x hx hxc => ?_⟩
        rcases List.mem_append.1 hx with hx | hx
        · exact h4 x hx hxc
        · simp at hx; rw [hx, hc] at hxc; cases hxc
structure Inv (X R : List Sp) : Prop where
  plain : Plain R
  sub : ∀ t, low R t → low X t
  stop : ∀ e, lastTo R = some e → ¬ low X e ∧ ∀ t, t < e → low X t → low R t
  ends : ∀ s ∈ R, (∃ y ∈ X, s.1 = y.1) ∧ ∃ y ∈ X, s.2 = y.2
  cnt : R.length + X.countP (fun s => afterB (lastTo R) s.1) ≤ X.length
theorem Inv.start (X : List Sp) : Inv X [] :=
  ⟨⟨fun s h => (by cases h), List.Pairwise.nil⟩, fun t ⟨s, h, _⟩ => (by cases h), fun e h => by simp [lastTo] at h, fun s h => (by cases h), by simp [List.countP_le_length]⟩
theorem plain_last {R : List Sp} (h : Plain R) {e : Int} (he : lastTo R = some e) : ∀ x ∈ R, x.2 ≤ e := by
  rcases List.eq_nil_or_concat R with rfl | ⟨R, l, rfl⟩
  · simp [lastTo] at he
  · rw [List.concat_eq_append] at h he ⊢
    rw [lastTo_snoc] at he
    cases he
    intro x hx
    rcases List.mem_append.1 hx with hx | hx
    · have := (List.pairwise_append.1 h.apart).2.2 x hx l (by simp)
      have := h.up l (by simp)
      omega
    · simp at hx; rw [hx]; exact Int.le_refl _
theorem Inv.done {X R : List Sp} (h : Inv X R) (hb : bst X (lastTo R) X.length = none) : JoinOf X R := by
  have hn := (bst_spec (X := X) (E := lastTo R) X.length (Nat.le_refl _)).1 hb
  rw [List.take_length] at hn
  refine ⟨h.plain, fun t => ⟨h.sub t, fun ht => ?_⟩, ?_, h.ends⟩
  · by_cases ha : after (lastTo R) t
    · obtain ⟨s, hs, hc, _⟩ := descend (fun e he => (h.stop e he).1) _ t (Nat.le_refl _) ht ha
      rw [hn s hs] at hc; cases hc
    · have : ∃ e, lastTo R = some e ∧ t ≤ e := by
        cases hl : lastTo R with
        | none => exact absurd (fun e he => by rw [hl] at he; cases he) ha
        | some e => exact ⟨e, rfl, by
            rcases Int.lt_or_le e t with h2 | h2
            · exact absurd (fun e' he' => by rw [hl] at he'; cases he'; exact h2) ha
            · exact h2⟩
      obtain ⟨e, he, hte⟩ := this
      obtain ⟨s1, s2⟩ := h.stop e he
      rcases Int.lt_or_le t e with h2 | h2
      · exact s2 t h2 ht
      · have : t = e := by omega
        exact absurd (this ▸ ht) s1
  · have := h.cnt
    omega
theorem Inv.next {X R : List Sp} (h : Inv X R) {b to : Int} (hb : bst X (lastTo R) X.length = some b) (hlow : ∀ t, b ≤ t → t < to → low X t) (hto : ¬ low X to) (hbt : b ≤ to) (hend : to = b ∨ ∃ s ∈ X, s.2 = to) :
    Inv X (R ++ [(b, to)]) ∧ X.countP (fun s => afterB (lastTo (R ++ [(b, to)])) s.1) < X.countP (fun s => afterB (lastTo R) s.1) := by
  obtain ⟨⟨s0, hs0, hc0, hsb⟩, hmin⟩ := (bst_spec (X := X) (E := lastTo R) X.length (Nat.le_refl _)).2 b hb
  rw [List.take_length] at hmin
  obtain ⟨k1, k2, k3⟩ := cand_iff.1 hc0
  rw [hsb] at k1 k2 k3
  have hlb : low X b := ⟨s0, hs0, by omega, by omega⟩
  have hlt : b < to := by
    rcases Int.lt_or_le b to with h1 | h1
    · exact h1
    · have : to = b := by omega
      exact absurd (this ▸ hlb) hto
  have hcnt : X.countP (fun s => afterB (lastTo (R ++ [(b, to)])) s.1) < X.countP (fun s => afterB (lastTo R) s.1) := by
    refine countP_lt (fun s hs hp => ?_) ⟨s0, hs0, afterB_iff.2 (by rw [hsb]; exact k3), ?_⟩
    · rw [afterB_iff] at hp ⊢
      have h1 := hp to (lastTo_snoc R _)
      intro e he
      have := k3 e he
      omega
    · rw [lastTo_snoc]; simp [afterB]; omega
  refine ⟨⟨⟨fun x hx => ?_, ?_⟩, fun t ht => ?_, fun e he => ?_, fun x hx => ?_, ?_⟩, hcnt⟩
  · rcases List.mem_append.1 hx with hx | hx
    · exact h.plain.up x hx
    · simp at hx; rw [hx]; exact hlt
  · rw [List.pairwise_append]
    refine ⟨h.plain.apart, by simp, fun x hx y hy => ?_⟩
    simp at hy; rw [hy]
    cases hl : lastTo R with
    | none =>
      rcases List.eq_nil_or_concat R with h1 | ⟨R, l, h1⟩
      · rw [h1] at hx; cases hx
      · rw [h1, List.concat_eq_append, lastTo_snoc] at hl; cases hl
    | some e =>
      have h1 := plain_last h.plain hl x hx
      have h2 := k3 e hl
      show x.2 < b
      omega
  · rw [low_app] at ht
    rcases ht with ht | ⟨s, hs, h1, h2⟩
    · exact h.sub t ht
    · simp at hs; subst hs; exact hlow t h1 h2
  · rw [lastTo_snoc] at he
    cases he
    refine ⟨hto, fun t ht hx => ?_⟩
    rw [low_app]
    by_cases h1 : b ≤ t
    · exact .inr ⟨(b, to), by simp, h1, ht⟩
    · left
      by_cases ha : after (lastTo R) t
      · obtain ⟨s, hs, hc, hst⟩ := descend (fun e he => (h.stop e he).1) _ t (Nat.le_refl _) hx ha
        have := hmin s hs hc
        omega
      · cases hl : lastTo R with
        | none => exact absurd (fun e he => by rw [hl] at he; cases he) ha
        | some e =>
          obtain ⟨s1, s2⟩ := h.stop e hl
          rcases Int.lt_trichotomy t e with h2 | h2 | h2
          · exact s2 t h2 hx
          · exact absurd (h2 ▸ hx) s1
          · exact absurd (fun e' he' => by rw [hl] at he'; cases he'; exact h2) ha
  · rcases List.mem_append.1 hx with hx | hx
    · exact h.ends x hx
    · simp at hx; subst hx
      refine ⟨⟨s0, hs0, hsb.symm⟩, ?_⟩
      rcases hend with h1 | ⟨s, hs, h1⟩
      · omega
      · exact ⟨s, hs, h1.symm⟩
  · have := h.cnt
    simp only [List.length_append, List.length_singleton]
    omega
end Go.Proofs.Ytapfabjmooagaaa.Wire
