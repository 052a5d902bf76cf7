/- member: what the one has missed and the other. -/
import Derived.Test.YtgleplakdghaiaaMem7
namespace Go.Proofs.Ytgleplakdghaiaa.Mem
set_option linter.unusedSimpArgs false
set_option linter.unusedVariables false
open Go Go.AX Go.Proofs Ty
set_option maxHeartbeats 4000000
set_option maxRecDepth 10000

def lo (r : Int) : Int := if r < 3 then r else 3
theorem lo_bd {r : Int} (h : 0 ≤ r) : 0 ≤ lo r ∧ lo r ≤ 3 := by unfold lo; split <;> omega
theorem snd_all (t : List Ent) : snd t t.length = false ↔ sendsOf t = [] := by
  rw [snd, List.take_length, sendsOf, List.filter_eq_nil_iff, List.any_eq_false]
theorem wasd_all (ks : List Int) (t : List Ent) : wasd ks t t.length = (sendsOf t).any (hd ks) := by
  rw [wasd, List.take_length, sendsOf, List.any_filter]
theorem st_rel (ks : List Int) (t : List Ent) {r : Int} (h : 0 ≤ r) : stM ks t (lo r) = lo (stR ks t r) := by
  unfold stM stR
  by_cases h1 : sendsOf t = []
  · have h2 : wasd ks t t.length = false := by rw [wasd_all, h1]; rfl
    rw [if_pos h1, h2, (snd_all t).2 h1]
    simp
  · have h2 : snd t t.length = true := by
      cases hs : snd t t.length with
      | true => rfl
      | false => exact absurd ((snd_all t).1 hs) h1
    rw [if_neg h1, wasd_all, h2]
    cases (sendsOf t).any (hd ks) with
    | true => simp [lo]
    | false =>
      simp only [Bool.false_eq_true, if_false, if_true]
      unfold lo
      (repeat' split) <;> omega
theorem n_rel (ks : List Int) (T : List Tb) (R : List Int) (i : Nat) (h : ∀ r ∈ R, 0 ≤ r) : nM ks T (R.map lo) i = (nR ks T R i).map lo := by
  apply List.ext_getElem?
  intro j
  simp only [nM, nR, List.getElem?_mapIdx, List.getElem?_map]
  cases hr : R[j]? with
  | none => rfl
  | some r =>
    have h0 := h r (List.mem_of_getElem? hr)
    simp only [Option.map_some]
    by_cases hj : j < i
    · rw [if_pos hj, if_pos hj]
      cases T[j]? with
      | none => rfl
      | some t => simp only [st_rel ks t.2.2 h0]
    · rw [if_neg hj, if_neg hj]
theorem isB_lo (R : List Int) : isB (R.map lo) = isB R := by
  rw [isB, isB, List.map_map]
  apply List.map_congr_left
  intro r _
  simp only [Function.comp, lo]
  split <;> simp <;> omega
theorem nR_bd {ks : List Int} {T : List Tb} {R : List Int} {b : Int} {i : Nat} (hb : 0 ≤ b) (h : ∀ r ∈ R, 0 ≤ r ∧ r ≤ b) : ∀ r ∈ nR ks T R i, 0 ≤ r ∧ r ≤ b + 1 := fun r hr => by
  obtain ⟨j, hj⟩ := List.mem_iff_getElem?.1 hr
  simp only [nR, List.getElem?_mapIdx] at hj
  cases hR : R[j]? with
  | none => rw [hR] at hj; cases hj
  | some x =>
    rw [hR] at hj
    have hx := h x (List.mem_of_getElem? hR)
    simp only [Option.map_some, Option.some.injEq] at hj
    subst hj
    split
    · split
      · unfold stR
        split
        · omega
        · split <;> omega
      · omega
    · omega
theorem there_lo {R : List Int} {i : Nat} {x : Int} (hx : R[i]? = some x) : thereM (R.map lo) i = decide (x < 3) := by
  have hl := lt_of_get hx
  have h1 : (i : Int) < R.length := by omega
  simp only [thereM, List.length_map, h1, decide_true, Bool.true_and, Int.toNat_natCast, List.getD_eq_getElem?_getD, List.getElem?_map, hx, Option.map_some, Option.getD_some, lo]
  split <;> simp <;> omega
end Go.Proofs.Ytgleplakdghaiaa.Mem
