/- Slices that are given by their rows. -/
import Derived.Test.YthinfokelgcipaaAx11
namespace Go.AX
set_option linter.unusedSimpArgs false
set_option linter.unusedVariables false
open Go Go.RowKit

/-- A slice's elements, each as the row of its cells. -/
structure SlcIn (H : AH) (sz : Nat) (base : Option Addr) (cap : Nat) (R : List (List Value)) : Prop where
  le : R.length ≤ cap
  big : cap < 9223372036854775808
  at_ : ∀ i, i < R.length → ∃ b o, base = some ⟨b, o, none⟩
  rd : ∀ b o, base = some ⟨b, o, none⟩ → ∀ i j r c, R[i]? = some r → r[j]? = some c → H.rd ⟨b, o + (i * sz + j), none⟩ = some c
  row : ∀ b o, base = some ⟨b, o, none⟩ → ∀ i r, R[i]? = some r → H.row b (o + i * sz) sz = some r

theorem Fresh.ne_row {H : AH} {b b' o n : Nat} {l : List Value} (h : Fresh H b) (ha : H.row b' o n = some l) : b ≠ b' := by
  rintro rfl
  unfold AH.row at ha
  rw [h.2] at ha
  simp only at ha
  rw [if_neg (Nat.not_lt.2 h.1)] at ha
  cases ha
theorem rd_mono {H : AH} {b b' o : Nat} {k : ABlk} {v : Value} (hf : Fresh H b) (h : H.rd ⟨b', o, none⟩ = some v) : (H.add b k).rd ⟨b', o, none⟩ = some v := by
  rw [rd_add_ne H (hf.ne_rd h)]; exact h
theorem row_mono {H : AH} {b b' o n : Nat} {k : ABlk} {v : List Value} (hf : Fresh H b) (h : H.row b' o n = some v) : (H.add b k).row b' o n = some v := by
  rw [row_add_ne H (hf.ne_row h)]; exact h
theorem SlcIn.add {H : AH} {sz : Nat} {base : Option Addr} {cap : Nat} {R : List (List Value)} {b : Nat} {k : ABlk} (h : SlcIn H sz base cap R) (hf : Fresh H b) : SlcIn (H.add b k) sz base cap R :=
  ⟨h.le, h.big, h.at_, fun b' o hb i j r c h1 h2 => rd_mono hf (h.rd b' o hb i j r c h1 h2), fun b' o hb i r h1 => row_mono hf (h.row b' o hb i r h1)⟩

theorem flat_get {sz : Nat} : ∀ {R : List (List Value)} (_ : ∀ r ∈ R, r.length = sz) (i j : Nat) (r : List Value) (c : Value), R[i]? = some r → r[j]? = some c → R.flatten[i * sz + j]? = some c
  | [], _, _, _, _, _, h, _ => by simp at h
  | r0 :: R, hR, 0, j, r, c, h, hc => by
    simp at h; subst h
    have hj : j < r0.length := by
      rcases Nat.lt_or_ge j r0.length with h | h
      · exact h
      · rw [List.getElem?_eq_none h] at hc; cases hc
    simp only [List.flatten_cons, Nat.zero_mul, Nat.zero_add]
    rw [List.getElem?_append_left hj]; exact hc
  | r0 :: R, hR, i + 1, j, r, c, h, hc => by
    have h0 : r0.length = sz := hR r0 (by simp)
    simp only [List.getElem?_cons_succ] at h
    simp only [List.flatten_cons]
    rw [List.getElem?_append_right (by rw [h0, Nat.succ_mul]; omega), h0, show (i + 1) * sz + j - sz = i * sz + j from by rw [Nat.succ_mul]; omega]
    exact flat_get (fun r hr => hR r (by simp [hr])) i j r c h hc
theorem flat_len {sz : Nat} : ∀ {R : List (List Value)} (_ : ∀ r ∈ R, r.length = sz), R.flatten.length = R.length * sz
  | [], _ => by simp
  | r0 :: R, hR => by
    have h0 : r0.length = sz := hR r0 (by simp)
    simp only [List.flatten_cons, List.length_append, h0, List.length_cons, Nat.succ_mul, flat_len (fun r hr => hR r (by simp [hr]) : ∀ r ∈ R, r.length = sz)]
    omega
theorem flat_row {sz : Nat} : ∀ {R : List (List Value)} (_ : ∀ r ∈ R, r.length = sz) (i : Nat) (r : List Value), R[i]? = some r → (R.flatten.drop (i * sz)).take sz = r
  | [], _, _, _, h => by simp at h
  | r0 :: R, hR, 0, r, h => by
    have h0 : r0.length = sz := hR r0 (by simp)
    simp at h; subst h
    simp [← h0]
  | r0 :: R, hR, i + 1, r, h => by
    have h0 : r0.length = sz := hR r0 (by simp)
    simp only [List.getElem?_cons_succ] at h
    simp only [List.flatten_cons]
    rw [List.drop_append, List.drop_eq_nil_of_le (by rw [h0, Nat.succ_mul]; omega), List.nil_append, h0, show (i + 1) * sz - sz = i * sz from by rw [Nat.succ_mul]; omega]
    exact flat_row (fun r hr => hR r (by simp [hr])) i r h
theorem SlcIn.own {H : AH} {sz : Nat} {cap e m b : Nat} {R : List (List Value)} (hR : ∀ r ∈ R, r.length = sz) (hl : R.length ≤ cap) (hb : cap < 9223372036854775808) : SlcIn (H.add b (.cells R.flatten e m)) sz (some ⟨b, 0, none⟩) cap R :=
  ⟨hl, hb, fun _ _ => ⟨b, 0, rfl⟩,
   fun b' o h i j r c h1 h2 => by
    cases h
    rw [rd_add_self, Nat.zero_add]; exact flat_get hR i j r c h1 h2,
   fun b' o h i r h1 => by
    cases h
    have hi : i < R.length := by
      rcases Nat.lt_or_ge i R.length with h | h
      · exact h
      · rw [List.getElem?_eq_none h] at h1; cases h1
    have : (i + 1) * sz ≤ R.length * sz := Nat.mul_le_mul_right _ (by omega)
    rw [row_add_self, Nat.zero_add, if_pos (by rw [flat_len hR]; rw [Nat.succ_mul] at this; omega), flat_row hR i r h1]⟩
theorem SlcIn.take {H : AH} {sz : Nat} {base : Option Addr} {cap n : Nat} {R : List (List Value)} (h : SlcIn H sz base cap R) : SlcIn H sz base cap (R.take n) :=
  ⟨by have := h.le; simp; omega, h.big, fun i hi => h.at_ i (by simp at hi; omega),
   fun b o hb i j r c h1 h2 => h.rd b o hb i j r c (by rw [List.getElem?_take] at h1; split at h1 <;> first | exact h1 | cases h1) h2,
   fun b o hb i r h1 => h.row b o hb i r (by rw [List.getElem?_take] at h1; split at h1 <;> first | exact h1 | cases h1)⟩
theorem SlcIn.get {H : AH} {sz : Nat} {base : Option Addr} {cap i : Nat} {R : List (List Value)} {r : List Value} (h : SlcIn H sz base cap R) (hi : R[i]? = some r) :
    ∃ b o, base = some ⟨b, o, none⟩ ∧ H.row b (o + i * sz) sz = some r ∧ ∀ (j : Nat) (c : Value), r[j]? = some c → H.rd ⟨b, o + i * sz + j, none⟩ = some c := by
  have hlt : i < R.length := by
    rcases Nat.lt_or_ge i R.length with h | h
    · exact h
    · rw [List.getElem?_eq_none h] at hi; cases hi
  obtain ⟨b, o, rfl⟩ := h.at_ i hlt
  exact ⟨b, o, rfl, h.row b o rfl i r hi, fun j c hc => by rw [Nat.add_assoc]; exact h.rd b o rfl i j r c hi hc⟩
theorem rows_of {α : Type} {f : α → List Value} {G : α → Prop} : ∀ {R : List (List Value)}, (∀ (i : Nat) (r : List Value), R[i]? = some r → ∃ s, r = f s ∧ G s) → ∃ L : List α, R = L.map f ∧ ∀ s ∈ L, G s
  | [], _ => ⟨[], rfl, fun s h => by cases h⟩
  | r :: R, h => by
    obtain ⟨s, rfl, hs⟩ := h 0 r rfl
    obtain ⟨L, rfl, hL⟩ := rows_of (R := R) fun i r hr => h (i + 1) r (by simpa using hr)
    exact ⟨s :: L, rfl, fun s' h' => by
      rcases List.mem_cons.1 h' with h' | h'
      · subst h'; exact hs
      · exact hL s' h'⟩

end Go.AX
