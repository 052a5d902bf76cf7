/- Oscillators off by one part of a hundred at most. -/
import Derived.Test.YtapfabjmooagaaaSend3
namespace Go.Proofs.Ytapfabjmooagaaa.Clm
set_option linter.unusedSimpArgs false
set_option linter.unusedVariables false
open Go Go.AX Go.Proofs Ty Go.Proofs.Ytapfabjmooagaaa.Tck Go.Proofs.Ytapfabjmooagaaa.Send
set_option maxHeartbeats 4000000
set_option maxRecDepth 10000

def calm (L : List Stp) : Prop := ∀ s ∈ L, -10000 ≤ s.rate ∧ s.rate ≤ 10000
theorem sumT_calm (t : Int) : ∀ (l : List Stp) (last : Int), goodR last l = true → calm l → -10000 ≤ sumT (t + 1) l - sumT t l ∧ sumT (t + 1) l - sumT t l ≤ 10000
  | [], _, _, _ => by simp [sumT]
  | [s], last, h, hc => by
    obtain ⟨g1, g2, _, _, _⟩ := goodR_cons h
    obtain ⟨g3, g4⟩ := hc s (by simp)
    simp only [sumT, toOf, Int.add_zero]
    by_cases hs : t + 1 ≤ s.at_
    · rw [pos_neg (show t + 1 - s.at_ ≤ 0 from by omega), pos_neg (show t - s.at_ ≤ 0 from by omega)]; omega
    · rw [pos_of (show 0 ≤ t + 1 - s.at_ from by omega), pos_of (show 0 ≤ t - s.at_ from by omega), show t + 1 - s.at_ = (t - s.at_) + 1 from by omega, Int.add_mul, Int.one_mul]; omega
  | s :: s' :: l, last, h, hc => by
    obtain ⟨g1, g2, _, _, g5⟩ := goodR_cons h
    obtain ⟨g3, g4⟩ := hc s (by simp)
    obtain ⟨k1, k2, k3, k4, k5⟩ := goodR_cons g5
    have e : ∀ u, sumT u (s :: s' :: l) = pos ((if s'.at_ < u then s'.at_ else u) - s.at_) * s.rate + sumT u (s' :: l) := fun u => rfl
    rw [e, e]
    by_cases hs : t + 1 ≤ s'.at_
    · have hg : goodR (s'.at_ - 1) (s' :: l) = true := by simp only [goodR, okS_ok (last := s'.at_ - 1) (s := s') (by omega), k5, Bool.and_self]
      rw [sumT_late (t + 1) (s' :: l) _ hg (by omega), sumT_late t (s' :: l) _ hg (by omega), if_neg (by omega), if_neg (by omega)]
      by_cases hs2 : t + 1 ≤ s.at_
      · rw [pos_neg (show t + 1 - s.at_ ≤ 0 from by omega), pos_neg (show t - s.at_ ≤ 0 from by omega)]; omega
      · rw [pos_of (show 0 ≤ t + 1 - s.at_ from by omega), pos_of (show 0 ≤ t - s.at_ from by omega), show t + 1 - s.at_ = (t - s.at_) + 1 from by omega, Int.add_mul, Int.one_mul]; omega
    · have ih := sumT_calm t (s' :: l) _ g5 fun x hx => hc x (List.mem_cons_of_mem _ hx)
      have e2 : (if s'.at_ < t + 1 then s'.at_ else t + 1) = (if s'.at_ < t then s'.at_ else t) := by split <;> split <;> omega
      rw [e2]; omega
def V (L : List Stp) (t : Int) : Int := t * 1000000 + sumT t L
theorem V_nat {L : List Stp} (hg : good L = true) (hc : calm L) (a : Int) : ∀ n : Nat, (n : Int) * 990000 ≤ V L (a + n) - V L a ∧ V L (a + n) - V L a ≤ (n : Int) * 1010000
  | 0 => by simp
  | n + 1 => by
    have ih := V_nat hg hc a n
    have h := sumT_calm (a + n) L _ (good_R hg).2 hc
    have e : a + ((n + 1 : Nat) : Int) = a + n + 1 := by omega
    rw [e]
    unfold V at ih ⊢
    omega
theorem V_range {L : List Stp} (hg : good L = true) (hc : calm L) {a b : Int} (h : a ≤ b) : (b - a) * 990000 ≤ V L b - V L a ∧ V L b - V L a ≤ (b - a) * 1010000 := by
  have := V_nat hg hc a (b - a).toNat
  rw [show a + ((b - a).toNat : Int) = b by omega, show ((b - a).toNat : Int) = b - a by omega] at this
  exact this
theorem V_zero {L : List Stp} (hg : good L = true) : V L 0 = 0 := by
  have := sumT_range (t := 0) (by omega) (good_R hg).2
  unfold V
  omega
theorem local_V {L : List Stp} (hg : good L = true) {t : Int} (h0 : 0 ≤ t) (h1 : t ≤ 4294967296) : localv L t = V L t / 1000000 := by
  rw [(localv_div hg t).1, clamp_id h0 h1]; rfl
theorem gfact {L : List Stp} (hg : good L = true) (hc : calm L) {x : Int} (h0 : 0 ≤ x) (h1 : x ≤ 1200000000) :
    0 ≤ globalv L x ∧ globalv L x ≤ 2000000000 ∧ x * 1000000 ≤ V L (globalv L x) ∧ (globalv L x = 0 ∨ V L (globalv L x - 1) < x * 1000000) := by
  obtain ⟨a1, a2, a3, a4⟩ := globalv_spec L x
  generalize globalv L x = u at *
  have hz := V_zero hg
  by_cases hu : u = 0
  · subst hu
    rcases a3 with a3 | a3
    · omega
    · have := of_decide_eq_true a3
      rw [local_V hg (by omega) (by omega)] at this
      exact ⟨by omega, by omega, by omega, .inl rfl⟩
  · have hb : V L (u - 1) < x * 1000000 := by
      rcases a4 with a4 | a4
      · exact absurd a4 hu
      · have := of_decide_eq_false a4
        rw [local_V hg (by omega) (by omega)] at this
        omega
    have hr := V_range hg hc (a := 0) (b := u - 1) (by omega)
    refine ⟨a1, by omega, ?_, .inr hb⟩
    rcases a3 with a3 | a3
    · omega
    · have := of_decide_eq_true a3
      rw [local_V hg (by omega) (by omega)] at this
      omega
/-- How far apart two ticks are that an oscillator counts k apart. -/
theorem gap {L : List Stp} (hg : good L = true) (hc : calm L) {x k : Int} (h0 : 0 ≤ x) (hk : 2 ≤ k) (hk2 : k ≤ 1000) (h1 : x ≤ 1100000000) :
    globalv L x < globalv L (x + k) ∧ (globalv L (x + k) - 1 - globalv L x) * 990000 < k * 1000000 ∧ k * 1000000 ≤ (globalv L (x + k) - globalv L x + 1) * 1010000 := by
  obtain ⟨a1, a2, a3, a4⟩ := gfact hg hc h0 (by omega : x ≤ 1200000000)
  obtain ⟨b1, b2, b3, b4⟩ := gfact hg hc (x := x + k) (by omega) (by omega)
  have hz := V_zero hg
  have hs := gstrict hg h0 (show x + 2 ≤ x + k by omega) (by omega)
  generalize globalv L x = u at *
  generalize globalv L (x + k) = v at *
  have r1 := V_range hg hc (a := u) (b := v - 1) (by omega)
  refine ⟨hs, by omega, ?_⟩
  rcases a4 with a4 | a4
  · subst a4
    have r2 := V_range hg hc (a := 0) (b := v) (by omega)
    omega
  · have r2 := V_range hg hc (a := u - 1) (b := v) (by omega)
    omega
theorem fits {S K : List Stp} (hs : good S = true) (cs : calm S) (hk : good K = true) (ck : calm K) {n : Int} (h0 : 0 ≤ n) (h1 : n < 1073741824) :
    124 ≤ localv K (globalv S (n + 128)) - localv K (globalv S n) ∧ localv K (globalv S (n + 128)) - localv K (globalv S n) ≤ 132 := by
  obtain ⟨g1, g2, g3⟩ := gap hs cs (x := n) (k := 128) h0 (by omega) (by omega) (by omega)
  obtain ⟨a1, a2, _, _⟩ := gfact hs cs h0 (by omega : n ≤ 1200000000)
  obtain ⟨b1, b2, _, _⟩ := gfact hs cs (x := n + 128) (by omega) (by omega)
  have r := V_range hk ck (a := globalv S n) (b := globalv S (n + 128)) (by omega)
  rw [local_V hk a1 (by omega), local_V hk b1 (by omega)]
  generalize globalv S n = u at *
  generalize globalv S (n + 128) = v at *
  omega
end Go.Proofs.Ytapfabjmooagaaa.Clm
