/- send: SendOwn. -/
import Derived.Test.YtapfabjmooagaaaSend2
namespace Go.Proofs.Ytapfabjmooagaaa.Send
set_option linter.unusedSimpArgs false
set_option linter.unusedVariables false
open Go Go.AX Go.Proofs Ty Go.Proofs.Ytapfabjmooagaaa.Srt Go.Proofs.Ytapfabjmooagaaa.Wire Go.Proofs.Ytapfabjmooagaaa.Tck Go.Proofs.Ytapfabjmooagaaa.UaP
set_option maxHeartbeats 4000000
set_option maxRecDepth 10000

theorem lmono {L : List Stp} (hg : good L = true) : ∀ (n : Nat) {a b : Int}, 0 ≤ a → a ≤ b → b ≤ 4294967296 → b - a ≤ n → localv L a ≤ localv L b
  | 0, a, b, h0, h1, h2, h3 => by
    have : a = b := by omega
    rw [this]; exact Int.le_refl _
  | n + 1, a, b, h0, h1, h2, h3 => by
    by_cases h : a = b
    · rw [h]; exact Int.le_refl _
    · have k1 := local_mono hg h0 (by omega)
      have k2 := lmono hg n (a := a + 1) (b := b) (by omega) (by omega) h2 (by omega)
      omega
theorem lmono' {L : List Stp} (hg : good L = true) {a b : Int} (h0 : 0 ≤ a) (h1 : a ≤ b) (h2 : b ≤ 4294967296) : localv L a ≤ localv L b := lmono hg (b - a).toNat h0 h1 h2 (by omega)
theorem lstep {L : List Stp} (hg : good L = true) {t : Int} (h0 : 0 ≤ t) (h1 : t < 4294967296) : localv L (t + 1) ≤ localv L t + 2 := by
  rw [(localv_div hg t).1, (localv_div hg (t + 1)).1, clamp_id h0 (by omega), clamp_id (by omega) (by omega)]
  have := sumT_step t L _ (good_R hg).2
  omega
theorem lzero {L : List Stp} (hg : good L = true) : localv L 0 = 0 := by
  have := local_off hg (t := 0) (by omega) (by omega)
  rw [(localv_div hg 0).1, clamp_id (by omega) (by omega)]
  have := sumT_range (t := 0) (by omega) (good_R hg).2
  omega
theorem gmono {L : List Stp} (hg : good L = true) {x y : Int} (h : x ≤ y) : globalv L x ≤ globalv L y := by
  obtain ⟨a1, a2, a3, a4⟩ := globalv_spec L x
  obtain ⟨b1, b2, b3, b4⟩ := globalv_spec L y
  rcases Int.lt_or_le (globalv L y) (globalv L x) with hlt | hle
  · exfalso
    rcases a4 with a4 | a4
    · omega
    · rcases b3 with b3 | b3
      · omega
      · have c1 := of_decide_eq_false a4
        have c2 := of_decide_eq_true b3
        have c3 := lmono' hg b1 (show globalv L y ≤ globalv L x - 1 by omega) (by omega)
        omega
  · exact hle
theorem gstrict {L : List Stp} (hg : good L = true) {x y : Int} (h0 : 0 ≤ x) (h : x + 2 ≤ y) (hy : x ≤ 4000000000) : globalv L x < globalv L y := by
  obtain ⟨a1, a2, a3, a4⟩ := globalv_spec L x
  obtain ⟨b1, b2, b3, b4⟩ := globalv_spec L y
  have hm := gmono hg (show x ≤ y by omega)
  rcases Int.lt_or_le (globalv L x) (globalv L y) with hlt | hle
  · exact hlt
  · exfalso
    have he : globalv L y = globalv L x := by omega
    rw [he] at b3
    generalize globalv L x = g at *
    by_cases hz : g = 0
    · rcases b3 with b3 | b3
      · omega
      · have c2 := of_decide_eq_true b3
        rw [hz, lzero hg] at c2
        omega
    · rcases a4 with a4 | a4
      · exact hz a4
      · have c1 := of_decide_eq_false a4
        have c4 := local_off hg (t := g - 1) (by omega) (by omega)
        rcases b3 with b3 | b3
        · subst b3
          omega
        · have c2 := of_decide_eq_true b3
          have c3 := lstep hg (t := g - 1) (by omega) (by omega)
          rw [show g - 1 + 1 = g by omega] at c3
          omega
theorem fsp_has {L : List Stp} {t : Int} {F : List Bool} {j : Nat} (h : F[j]? = some false) : ∀ i, j < i → bsp L t j ∈ fsp L t F i
  | 0, hj => by omega
  | i + 1, hj => by
    rw [fsp, List.mem_append]
    by_cases hji : j = i
    · subst hji; right; rw [if_pos h]; simp
    · exact .inl (fsp_has h i (by omega))
end Go.Proofs.Ytapfabjmooagaaa.Send
