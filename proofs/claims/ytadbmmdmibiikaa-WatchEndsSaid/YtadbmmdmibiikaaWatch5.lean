/- Two masters, and the reference's: they go together. -/
import Derived.Test.YtadbmmdmibiikaaWatch4
namespace Go.Proofs.Ytadbmmdmibiikaa.Watch
set_option linter.unusedSimpArgs false
set_option linter.unusedVariables false
open Go Go.AX Go.Proofs Ty
set_option maxHeartbeats 4000000
set_option maxRecDepth 10000

structure Rel (p : Pr) (r : Rr) : Prop where
  a : p.r0 = r.r0
  b : p.r1 = r.r1
  c : p.r0 = 2 ∨ p.r0 = 3 → p.s0 = sil r 0
  d : p.r1 = 2 ∨ p.r1 = 3 → p.s1 = sil r 1

theorem wt_iff (r s n : Int) : wt r s n = true ↔ (r = 2 ∧ 4 ≤ s) ∨ (r = 3 ∧ 8 + n ≤ s) := by
  unfold wt
  by_cases a : r = 2
  · subst a; simp
  · by_cases b : r = 3
    · subst b; simp
    · simp [a, b]
theorem act_neg (p : Pr) : act p < 0 ↔ p.r0 ≠ 1 ∧ p.r1 ≠ 1 := by
  unfold act
  by_cases a : p.r0 = 1
  · simp [a]
  · by_cases b : p.r1 = 1
    · simp [a, b]
    · simp [a, b]
theorem rel_t0 {p : Pr} {r : Rr} (h : Rel p r) : Rel (t0P p) (ud r 0) := by
  obtain ⟨a, b, c, d⟩ := h
  have hc : (act p < 0 ∧ wt p.r0 p.s0 0 = true) ↔ (due r 0 ∧ r.r0 ≠ 1 ∧ r.r1 ≠ 1) := by
    rw [act_neg, wt_iff, ← a, ← b]
    unfold due
    rw [show roleR r 0 = r.r0 from rfl, ← a]
    constructor
    · rintro ⟨h1, h2 | h2⟩
      · exact ⟨.inl ⟨h2.1, by rw [← c (.inl h2.1)]; exact h2.2⟩, h1⟩
      · exact ⟨.inr ⟨h2.1, by rw [← c (.inr h2.1)]; exact h2.2⟩, h1⟩
    · rintro ⟨h2 | h2, h1⟩
      · exact ⟨h1, .inl ⟨h2.1, by rw [c (.inl h2.1)]; exact h2.2⟩⟩
      · exact ⟨h1, .inr ⟨h2.1, by rw [c (.inr h2.1)]; exact h2.2⟩⟩
  unfold t0P ud
  by_cases hx : act p < 0 ∧ wt p.r0 p.s0 0 = true
  · rw [if_pos hx, if_pos (hc.1 hx), if_pos rfl]
    exact ⟨rfl, b, fun h => by simp at h, fun h => d h⟩
  · rw [if_neg hx, if_neg (fun h => hx (hc.2 h))]
    exact ⟨a, b, c, d⟩
def t1Q (q : Pr) : Pr := if act q < 0 ∧ wt q.r1 q.s1 1 = true then { q with r1 := 1, s1 := 0 } else q
theorem t1Q_eq (p : Pr) : tkP p = t1Q (t0P p) := by
  unfold tkP t1P t1Q
  have : (t0P p).r1 = p.r1 ∧ (t0P p).s1 = p.s1 := by unfold t0P; split <;> exact ⟨rfl, rfl⟩
  rw [this.1, this.2]
theorem rel_t1 {p : Pr} {r : Rr} (h : Rel p r) : Rel (t1Q p) (ud r 1) := by
  obtain ⟨a, b, c, d⟩ := h
  have hc : (act p < 0 ∧ wt p.r1 p.s1 1 = true) ↔ (due r 1 ∧ r.r0 ≠ 1 ∧ r.r1 ≠ 1) := by
    rw [act_neg, wt_iff, ← a, ← b]
    unfold due
    rw [show roleR r 1 = r.r1 from rfl, ← b]
    constructor
    · rintro ⟨h1, h2 | h2⟩
      · exact ⟨.inl ⟨h2.1, by rw [← d (.inl h2.1)]; exact h2.2⟩, h1⟩
      · exact ⟨.inr ⟨h2.1, by rw [← d (.inr h2.1)]; exact h2.2⟩, h1⟩
    · rintro ⟨h2 | h2, h1⟩
      · exact ⟨h1, .inl ⟨h2.1, by rw [d (.inl h2.1)]; exact h2.2⟩⟩
      · exact ⟨h1, .inr ⟨h2.1, by rw [d (.inr h2.1)]; exact h2.2⟩⟩
  unfold t1Q ud
  by_cases hx : act p < 0 ∧ wt p.r1 p.s1 1 = true
  · rw [if_pos hx, if_pos (hc.1 hx), if_neg (by decide)]
    exact ⟨a, rfl, fun h => c h, fun h => by simp at h⟩
  · rw [if_neg hx, if_neg (fun h => hx (hc.2 h))]
    exact ⟨a, b, c, d⟩
theorem rel_fin {q : Pr} {r : Rr} (h : Rel q r) (ok : r.Ok) : act q = resR r ∧ Rel (fin1 (fin0 q (act q)) (act q)) (finR r) := by
  obtain ⟨a, b, c, d⟩ := h
  obtain ⟨⟨o1, o2⟩, ⟨o3, o4⟩, ⟨o5, o6⟩, o7⟩ := ok
  have h1 : act q = resR r := by unfold act resR; rw [a, b]
  refine ⟨h1, ?_⟩
  obtain ⟨r0, s0, r1, s1⟩ := q
  obtain ⟨R0, R1, t0, t1, now, last⟩ := r
  simp only at a b o1 o2 o3 o4 o5 o6
  subst a; subst b
  simp only [sil, if_true] at c d
  rcases Classical.em (r0 = 1) with e0 | e0
  · subst e0
    have : act ⟨1, s0, r1, s1⟩ = 0 := rfl
    rw [this]
    simp only [fin0, fin1, finR, if_true, Int.lt_irrefl, if_false]
    rcases Classical.em (r1 = 3) with e3 | e3
    · subst e3
      exact ⟨by simp, by simp, fun h => by simp at h, fun h => by simp [sil]⟩
    · refine ⟨by simp, by simp, fun h => by simp at h, fun h => ?_⟩
      simp only [e3, if_false] at h ⊢
      simp only [sil]
      split <;> simp at * <;> omega
  · rcases Classical.em (r1 = 1) with e1 | e1
    · subst e1
      have : act ⟨r0, s0, 1, s1⟩ = 1 := by simp [act, e0]
      rw [this]
      simp only [fin0, fin1, finR, e0, if_true, if_false, show ¬ (1 : Int) < 0 by decide]
      rcases Classical.em (r0 = 3) with e3 | e3
      · subst e3
        exact ⟨by simp, by simp, fun h => by simp [sil], fun h => by simp at h⟩
      · refine ⟨by simp, by simp, fun h => ?_, fun h => by simp at h⟩
        simp only [e3, if_false] at h ⊢
        simp only [sil]
        split <;> simp at * <;> omega
    · have : act ⟨r0, s0, r1, s1⟩ = -1 := by simp [act, e0, e1]
      rw [this]
      simp only [fin0, fin1, finR, e0, e1, if_true, if_false, show (-1 : Int) < 0 by decide]
      refine ⟨rfl, rfl, fun h => ?_, fun h => ?_⟩
      · have := c h; simp only [sil, if_true] at this ⊢; split at this <;> split <;> omega
      · have := d h; simp only [sil] at this ⊢; simp only [show ¬ (1 : Nat) = 0 by decide, if_false] at this ⊢; split at this <;> split <;> omega
theorem finR_ok {r : Rr} (h : r.Ok) (hn : r.now < 1000000) : (finR r).Ok ∧ (finR r).now = r.now + 1 := by
  obtain ⟨⟨o1, o2⟩, ⟨o3, o4⟩, ⟨o5, o6⟩, o7⟩ := h
  unfold finR
  split
  · refine ⟨⟨⟨o1, by simp only; omega⟩, ?_, ⟨by simp only; omega, by simp⟩, by simp only; omega⟩, rfl⟩
    simp only; split <;> omega
  · split
    · refine ⟨⟨?_, ⟨o3, by simp only; omega⟩, ⟨by simp only; omega, by simp⟩, by simp only; omega⟩, rfl⟩
      simp only; split <;> omega
    · exact ⟨⟨⟨o1, by simp only; omega⟩, ⟨o3, by simp only; omega⟩, ⟨o5, by simp only; omega⟩, by simp only; omega⟩, rfl⟩
theorem rel_round {p : Pr} {r : Rr} (h : Rel p r) (ok : r.Ok) (hn : r.now < 1000000) : act (tkP p) = resR (us r 2) ∧ Rel (roundP p) (roundR r) ∧ (roundR r).Ok ∧ (roundR r).now = r.now + 1 := by
  obtain ⟨ok1, hn1⟩ := ud_ok ok 0
  obtain ⟨ok2, hn2⟩ := ud_ok ok1 1
  have h2 := rel_t1 (rel_t0 h)
  rw [← t1Q_eq] at h2
  obtain ⟨h3, h4⟩ := rel_fin h2 ok2
  obtain ⟨h5, h6⟩ := finR_ok ok2 (by rw [hn2, hn1]; exact hn)
  exact ⟨h3, h4, h5, by rw [show roundR r = finR (ud (ud r 0) 1) from rfl, h6, hn2, hn1]⟩

/-- How large the silent rounds are. -/
structure Bd (p : Pr) (i : Int) : Prop where
  a : 0 ≤ p.s0 ∧ p.s0 ≤ i
  b : 0 ≤ p.s1 ∧ p.s1 ≤ i
theorem Bd.round {p : Pr} {i : Int} (h : Bd p i) (hi : 0 ≤ i) : Bd (roundP p) (i + 1) := by
  obtain ⟨a, b⟩ := h
  unfold roundP fin1 fin0 tkP t1P t0P
  refine ⟨?_, ?_⟩ <;> split <;> split <;> (try simp only) <;> (repeat' split) <;> (try simp only) <;> omega
theorem Bd.crash {p : Pr} {i : Int} (h : Bd p i) (hi : 0 ≤ i) (n : Nat) : Bd (crashP p n) (i + 1) ∧ Bd (restartP p n) (i + 1) := by
  obtain ⟨a, b⟩ := h
  unfold crashP restartP setP
  refine ⟨⟨?_, ?_⟩, ⟨?_, ?_⟩⟩ <;> (repeat' split) <;> (try simp only) <;> omega
theorem rel_crash {p : Pr} {r : Rr} (h : Rel p r) (ok : r.Ok) (n : Nat) (hn : n < 2) : role p n = roleR r n ∧ Rel (crashP p n) (crashR r n) ∧ (crashR r n).Ok ∧ (crashR r n).now = r.now ∧ Rel (restartP p n) (restartR r n) ∧ (restartR r n).Ok ∧ (restartR r n).now = r.now := by
  obtain ⟨a, b, c, d⟩ := h
  obtain ⟨o1, o2, o3, o4⟩ := ok
  obtain ⟨r0, s0, r1, s1⟩ := p
  obtain ⟨R0, R1, t0, t1, now, last⟩ := r
  simp only at a b o1 o2 o3 o4
  subst a; subst b
  simp only [sil] at c d
  obtain rfl | rfl : n = 0 ∨ n = 1 := by omega
  · simp only [role, roleR, crashP, crashR, restartP, restartR, setP, if_true]
    by_cases e : r0 = 4
    · simp only [e, if_true]
      refine ⟨trivial, ⟨rfl, rfl, fun h => by simp at h, d⟩, ⟨o1, o2, o3, o4⟩, trivial, ⟨rfl, rfl, fun _ => ?_, d⟩, ⟨⟨by simp only; omega, by simp⟩, o2, o3, o4⟩, trivial⟩
      simp only [sil, if_true]; split <;> omega
    · simp only [e, if_false]
      exact ⟨trivial, ⟨rfl, rfl, fun h => by simp at h, d⟩, ⟨o1, o2, o3, o4⟩, trivial, ⟨rfl, rfl, c, d⟩, ⟨o1, o2, o3, o4⟩, trivial⟩
  · simp only [role, roleR, crashP, crashR, restartP, restartR, setP, show ¬ (1 : Nat) = 0 by decide, if_false]
    by_cases e : r1 = 4
    · simp only [e, if_true]
      refine ⟨trivial, ⟨rfl, rfl, c, fun h => by simp at h⟩, ⟨o1, o2, o3, o4⟩, trivial, ⟨rfl, rfl, c, fun _ => ?_⟩, ⟨o1, ⟨by simp only; omega, by simp⟩, o3, o4⟩, trivial⟩
      simp only [sil, show ¬ (1 : Nat) = 0 by decide, if_false]; split <;> omega
    · simp only [e, if_false]
      exact ⟨trivial, ⟨rfl, rfl, c, fun h => by simp at h⟩, ⟨o1, o2, o3, o4⟩, trivial, ⟨rfl, rfl, c, d⟩, ⟨o1, o2, o3, o4⟩, trivial⟩
end Go.Proofs.Ytadbmmdmibiikaa.Watch
