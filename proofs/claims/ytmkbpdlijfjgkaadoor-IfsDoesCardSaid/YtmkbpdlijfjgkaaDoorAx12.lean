/- Slices that are given by their rows. -/
import Derived.Test.YtmkbpdlijfjgkaaDoorAx11
namespace Go.AX
set_option linter.unusedSimpArgs false
set_option linter.unusedVariables false
open Go Go.RowKit

/-- A slice's elements, each as the row of its cells. -/
structure SlcIn (H : AH) (sz : Nat) (base : Option Addr) (cap : Nat) (R : List (List Value)) : Prop where
  le : R.length ≤ cap
  big : R.length < 9223372036854775808
  at_ : ∀ i, i < R.length → ∃ b o, base = some ⟨b, o, none⟩
  rd : ∀ b o, base = some ⟨b, o, none⟩ → ∀ i j r c, R[i]? = some r → r[j]? = some c → H.rd ⟨b, o + (i * sz + j), none⟩ = some c
  row : ∀ b o, base = some ⟨b, o, none⟩ → ∀ i r, R[i]? = some r → H.row b (o + i * sz) sz = some r

theorem baseRow_of {w : World} {b : Nat} : ∀ (l : List Value) (off : Nat), (∀ (j : Nat), j < l.length → w.cell? ⟨b, off + j, none⟩ = l[j]?) → baseRow w b off l.length = some l
  | [], _, _ => rfl
  | v :: l, off, h => by
    have h0 := h 0 (by simp)
    simp at h0
    simp only [List.length_cons, baseRow, h0, Option.bind_some]
    rw [baseRow_of l (off + 1) (fun j hj => by
      have := h (j + 1) (by simp; omega)
      rw [show off + (j + 1) = off + 1 + j from by omega] at this
      simpa using this)]
    rfl
theorem row_of_rd {H : AH} {b off n : Nat} {l : List Value} (hn : n = l.length) (h0 : n ≠ 0) (h : ∀ (j : Nat) (c : Value), l[j]? = some c → H.rd ⟨b, off + j, none⟩ = some c) : H.row b off n = some l := by
  subst hn
  have hj : ∀ j, j < l.length → H.rd ⟨b, off + j, none⟩ = l[j]? := fun j hj => by rw [h j _ (List.getElem?_eq_getElem hj), List.getElem?_eq_getElem hj]
  unfold AH.row
  cases hf : H.find b with
  | none =>
    have hlt : b < H.w0.heap.size := by
      have := hj 0 (by omega)
      simp only [AH.rd, hf] at this
      split at this
      · assumption
      · rw [List.getElem?_eq_getElem (by omega)] at this; cases this
    simp only [hlt, if_true]
    refine baseRow_of l off fun j hj' => ?_
    have := hj j hj'
    simp only [AH.rd, hf, hlt, if_true] at this
    exact this
  | some k =>
    cases k with
    | amap es =>
      have := hj 0 (by omega)
      simp only [AH.rd, hf] at this
      rw [List.getElem?_eq_getElem (by omega)] at this; cases this
    | obj o =>
      have := hj 0 (by omega)
      simp only [AH.rd, hf] at this
      rw [List.getElem?_eq_getElem (by omega)] at this; cases this
    | cells cs e sz =>
      have hc : ∀ j, j < l.length → cs[off + j]? = l[j]? := fun j hj' => by
        have := hj j hj'
        simpa [AH.rd, hf] using this
      have hle : off + l.length ≤ cs.length := by
        have := hc (l.length - 1) (by omega)
        rw [List.getElem?_eq_getElem (show l.length - 1 < l.length by omega)] at this
        rcases Nat.lt_or_ge (off + (l.length - 1)) cs.length with h | h
        · omega
        · rw [List.getElem?_eq_none h] at this; cases this
      simp only
      rw [if_pos hle]
      congr 1
      apply List.ext_getElem?
      intro j
      rw [List.getElem?_take]
      split
      · rename_i hj'; rw [List.getElem?_drop]; exact hc j hj'
      · rename_i hj'; rw [List.getElem?_eq_none (by omega)]
theorem Fresh.ne_row {H : AH} {b b' o n : Nat} {l : List Value} (h : Fresh H b) (ha : H.row b' o n = some l) : b ≠ b' := by
  rintro rfl
  unfold AH.row at ha
  rw [h.2] at ha
  simp only at ha
  rw [if_neg (Nat.not_lt.2 h.1)] at ha
  cases ha
theorem rd_mono {H : AH} {b b' o : Nat} {k : ABlk} {v : Value} (hf : Fresh H b) (h : H.rd ⟨b', o, none⟩ = some v) : (H.add b k).rd ⟨b', o, none⟩ = some v := by
  rw [rd_add_ne H (hf.ne_rd h)]; exact h
theorem row_mono {H : AH} {b b' o n : Nat} {k : ABlk} {v : List Value} (hf : Fresh H b) (h : H.row b' o n = some v) : (H.add b k).row b' o n = some v := by
  rw [row_add_ne H (hf.ne_row h)]; exact h
theorem SlcIn.add {H : AH} {sz : Nat} {base : Option Addr} {cap : Nat} {R : List (List Value)} {b : Nat} {k : ABlk} (h : SlcIn H sz base cap R) (hf : Fresh H b) : SlcIn (H.add b k) sz base cap R :=
  ⟨h.le, h.big, h.at_, fun b' o hb i j r c h1 h2 => rd_mono hf (h.rd b' o hb i j r c h1 h2), fun b' o hb i r h1 => row_mono hf (h.row b' o hb i r h1)⟩

theorem flat_get {sz : Nat} : ∀ {R : List (List Value)} (_ : ∀ r ∈ R, r.length = sz) (i j : Nat) (r : List Value) (c : Value), R[i]? = some r → r[j]? = some c → R.flatten[i * sz + j]? = some c
  | [], _, _, _, _, _, h, _ => by simp at h
  | r0 :: R, hR, 0, j, r, c, h, hc => by
    simp at h; subst h
    have hj : j < r0.length := by
      rcases Nat.lt_or_ge j r0.length with h | h
      · exact h
      · rw [List.getElem?_eq_none h] at hc; cases hc
    simp only [List.flatten_cons, Nat.zero_mul, Nat.zero_add]
    rw [List.getElem?_append_left hj]; exact hc
  | r0 :: R, hR, i + 1, j, r, c, h, hc => by
    have h0 : r0.length = sz := hR r0 (by simp)
    simp only [List.getElem?_cons_succ] at h
    simp only [List.flatten_cons]
    rw [List.getElem?_append_right (by rw [h0, Nat.succ_mul]; omega), h0, show (i + 1) * sz + j - sz = i * sz + j from by rw [Nat.succ_mul]; omega]
    exact flat_get (fun r hr => hR r (by simp [hr])) i j r c h hc
theorem flat_len {sz : Nat} : ∀ {R : List (List Value)} (_ : ∀ r ∈ R, r.length = sz), R.flatten.length = R.length * sz
  | [], _ => by simp
  | r0 :: R, hR => by
    have h0 : r0.length = sz := hR r0 (by simp)
    simp only [List.flatten_cons, List.length_append, h0, List.length_cons, Nat.succ_mul, flat_len (fun r hr => hR r (by simp [hr]) : ∀ r ∈ R, r.length = sz)]
    omega
theorem flat_row {sz : Nat} : ∀ {R : List (List Value)} (_ : ∀ r ∈ R, r.length = sz) (i : Nat) (r : List Value), R[i]? = some r → (R.flatten.drop (i * sz)).take sz = r
  | [], _, _, _, h => by simp at h
  | r0 :: R, hR, 0, r, h => by
    have h0 : r0.length = sz := hR r0 (by simp)
    simp at h; subst h
    simp [← h0]
  | r0 :: R, hR, i + 1, r, h => by
    have h0 : r0.length = sz := hR r0 (by simp)
    simp only [List.getElem?_cons_succ] at h
    simp only [List.flatten_cons]
    rw [List.drop_append, List.drop_eq_nil_of_le (by rw [h0, Nat.succ_mul]; omega), List.nil_append, h0, show (i + 1) * sz - sz = i * sz from by rw [Nat.succ_mul]; omega]
    exact flat_row (fun r hr => hR r (by simp [hr])) i r h
theorem SlcIn.own {H : AH} {sz : Nat} {cap e m b : Nat} {R : List (List Value)} (hR : ∀ r ∈ R, r.length = sz) (hl : R.length ≤ cap) (hb : R.length < 9223372036854775808) : SlcIn (H.add b (.cells R.flatten e m)) sz (some ⟨b, 0, none⟩) cap R :=
  ⟨hl, hb, fun _ _ => ⟨b, 0, rfl⟩,
   fun b' o h i j r c h1 h2 => by
    cases h
    rw [rd_add_self, Nat.zero_add]; exact flat_get hR i j r c h1 h2,
   fun b' o h i r h1 => by
    cases h
    have hi : i < R.length := by
      rcases Nat.lt_or_ge i R.length with h | h
      · exact h
      · rw [List.getElem?_eq_none h] at h1; cases h1
    have : (i + 1) * sz ≤ R.length * sz := Nat.mul_le_mul_right _ (by omega)
    rw [row_add_self, Nat.zero_add, if_pos (by rw [flat_len hR]; rw [Nat.succ_mul] at this; omega), flat_row hR i r h1]⟩
theorem SlcIn.nil {H : AH} {sz cap : Nat} : SlcIn H sz none cap [] where
  le := by simp
  big := by simp
  at_ := fun i hi => by simp at hi
  rd := fun b o h => by cases h
  row := fun b o h => by cases h
theorem SlcIn.take {H : AH} {sz : Nat} {base : Option Addr} {cap n : Nat} {R : List (List Value)} (h : SlcIn H sz base cap R) : SlcIn H sz base cap (R.take n) :=
  ⟨by have := h.le; simp; omega, by have := h.big; simp; omega, fun i hi => h.at_ i (by simp at hi; omega),
   fun b o hb i j r c h1 h2 => h.rd b o hb i j r c (by rw [List.getElem?_take] at h1; split at h1 <;> first | exact h1 | cases h1) h2,
   fun b o hb i r h1 => h.row b o hb i r (by rw [List.getElem?_take] at h1; split at h1 <;> first | exact h1 | cases h1)⟩
theorem SlcIn.get {H : AH} {sz : Nat} {base : Option Addr} {cap i : Nat} {R : List (List Value)} {r : List Value} (h : SlcIn H sz base cap R) (hi : R[i]? = some r) :
    ∃ b o, base = some ⟨b, o, none⟩ ∧ H.row b (o + i * sz) sz = some r ∧ ∀ (j : Nat) (c : Value), r[j]? = some c → H.rd ⟨b, o + i * sz + j, none⟩ = some c := by
  have hlt : i < R.length := by
    rcases Nat.lt_or_ge i R.length with h | h
    · exact h
    · rw [List.getElem?_eq_none h] at hi; cases hi
  obtain ⟨b, o, rfl⟩ := h.at_ i hlt
  exact ⟨b, o, rfl, h.row b o rfl i r hi, fun j c hc => by rw [Nat.add_assoc]; exact h.rd b o rfl i j r c hi hc⟩
theorem flat_inv {sz : Nat} : ∀ {R : List (List Value)} (_ : ∀ r ∈ R, r.length = sz) (j : Nat) (c : Value), R.flatten[j]? = some c → ∃ i k r, R[i]? = some r ∧ r[k]? = some c ∧ j = i * sz + k
  | [], _, _, _, h => by simp at h
  | r0 :: R, hR, j, c, h => by
    have h0 : r0.length = sz := hR r0 (by simp)
    rw [List.flatten_cons] at h
    by_cases hj : j < sz
    · rw [List.getElem?_append_left (by omega)] at h
      exact ⟨0, j, r0, rfl, h, by omega⟩
    · rw [List.getElem?_append_right (by omega)] at h
      obtain ⟨i, k, r, h1, h2, h3⟩ := flat_inv (fun r hr => hR r (by simp [hr])) (j - r0.length) c h
      exact ⟨i + 1, k, r, by simpa using h1, h2, by rw [Nat.succ_mul]; omega⟩
theorem flat_set {sz : Nat} : ∀ {R : List (List Value)} (_ : ∀ r ∈ R, r.length = sz) (i j : Nat) (r : List Value) (v : Value), R[i]? = some r → j < sz → R.flatten.set (i * sz + j) v = (R.set i (r.set j v)).flatten
  | [], _, _, _, _, _, h, _ => by simp at h
  | r0 :: R, hR, 0, j, r, v, h, hj => by
    have h0 : r0.length = sz := hR r0 (by simp)
    simp at h; subst h
    rw [List.flatten_cons, Nat.zero_mul, Nat.zero_add, List.set_append_left (h := by omega)]; rfl
  | r0 :: R, hR, i + 1, j, r, v, h, hj => by
    have h0 : r0.length = sz := hR r0 (by simp)
    simp only [List.getElem?_cons_succ] at h
    rw [List.flatten_cons, List.set_append_right _ _ (by rw [h0, Nat.succ_mul]; omega), h0, show (i + 1) * sz + j - sz = i * sz + j from by rw [Nat.succ_mul]; omega, flat_set (fun r hr => hR r (by simp [hr])) i j r v h hj]
    rfl
theorem SlcIn.srow {H : AH} {sz n cap : Nat} {base : Option Addr} {R : List (List Value)} (h : SlcIn H sz base cap R) (hR : ∀ r ∈ R, r.length = sz) (hsz : sz ≠ 0) (hn : n = R.length) (h1 : R ≠ [] ∨ base = none) : srow H sz (.slice base n cap) = some R.flatten := by
  subst hn
  cases base with
  | none =>
    have : R = [] := by
      cases R with
      | nil => rfl
      | cons r R => obtain ⟨b, o, hb⟩ := h.at_ 0 (by simp); cases hb
    subst this; rfl
  | some a =>
    have hne : R ≠ [] := h1.resolve_right (by simp)
    have h0 : R.length ≠ 0 := fun e => hne (List.eq_nil_of_length_eq_zero e)
    obtain ⟨b, o, ha⟩ := h.at_ 0 (by omega)
    cases ha
    show H.row b o (R.length * sz) = some R.flatten
    refine row_of_rd (flat_len hR).symm (by intro e; rcases Nat.mul_eq_zero.1 e with e | e <;> contradiction) fun j c hj => ?_
    obtain ⟨i, k, r, h1, h2, rfl⟩ := flat_inv hR j c hj
    exact h.rd b o rfl i k r c h1 h2
/-- New blocks on top. -/
inductive Ext (H : AH) : AH → Prop where
  | refl : Ext H H
  | add {A : AH} {b : Nat} {k : ABlk} : Ext H A → Fresh A b → Ext H (A.add b k)
theorem Ext.le {H A : AH} (h : Ext H A) : H.le A := by
  induction h with
  | refl => exact AH.le_refl _
  | add _ hf ih => exact AH.le_add ih hf.2
theorem Ext.trans {H A B : AH} (h : Ext H A) (k : Ext A B) : Ext H B := by
  induction k with
  | refl => exact h
  | add _ hf ih => exact Ext.add ih hf
theorem SlcIn.ext {H A : AH} {sz : Nat} {base : Option Addr} {cap : Nat} {R : List (List Value)} (h : SlcIn H sz base cap R) (hx : Ext H A) : SlcIn A sz base cap R := by
  induction hx with
  | refl => exact h
  | add _ hf ih => exact ih.add hf
theorem rows_of {α : Type} {f : α → List Value} {G : α → Prop} : ∀ {R : List (List Value)}, (∀ (i : Nat) (r : List Value), R[i]? = some r → ∃ s, r = f s ∧ G s) → ∃ L : List α, R = L.map f ∧ ∀ s ∈ L, G s
  | [], _ => ⟨[], rfl, fun s h => by cases h⟩
  | r :: R, h => by
    obtain ⟨s, rfl, hs⟩ := h 0 r rfl
    obtain ⟨L, rfl, hL⟩ := rows_of (R := R) fun i r hr => h (i + 1) r (by simpa using hr)
    exact ⟨s :: L, rfl, fun s' h' => by
      rcases List.mem_cons.1 h' with h' | h'
      · subst h'; exact hs
      · exact hL s' h'⟩

/-! ### A call upon a block of our own -/
theorem adel_none {α : Type} (t : Nat) : ∀ l : List (Nat × α), alk t l = none → adel t l = l
  | [], _ => rfl
  | (k, v) :: r, h => by
    rw [alk_cons] at h
    split at h
    · cases h
    · rename_i hne
      simp only [adel, hne, if_false, adel_none t r h]
theorem del_fresh {H : AH} {b : Nat} (h : Fresh H b) : H.del b = H := by
  unfold AH.del
  rw [adel_none b H.own h.2]
theorem del_add_self {H : AH} {b : Nat} {k : ABlk} : (H.add b k).del b = H.del b := by simp [AH.del, AH.add, adel]
theorem del_add_ne {H : AH} {b b' : Nat} {k : ABlk} (h : b ≠ b') : (H.add b k).del b' = (H.del b').add b k := by simp [AH.del, AH.add, adel, Ne.symm h]
theorem rd_find {H : AH} {b off e sz : Nat} {cs : List Value} (h : H.find b = some (.cells cs e sz)) : H.rd ⟨b, off, none⟩ = cs[off]? := by simp [AH.rd, h]
theorem row_find {H : AH} {b off n e sz : Nat} {cs : List Value} (h : H.find b = some (.cells cs e sz)) (hl : off + n ≤ cs.length) : H.row b off n = some ((cs.drop off).take n) := by simp [AH.row, h, hl]
theorem del_del {H : AH} {b : Nat} : (H.del b).del b = H.del b := by
  unfold AH.del
  rw [adel_none b (adel b H.own) (by rw [alk_adel]; simp)]
theorem AH.le_under {A B : AH} {b : Nat} {k : ABlk} (h : A.le B) : (A.add b k).le (B.add b k) :=
  ⟨h.1, fun b' k' hk => by
    rw [find_add] at hk ⊢
    split at hk
    · rename_i e; rw [if_pos e]; exact hk
    · rename_i e; rw [if_neg e]; exact h.2 _ _ hk⟩
theorem AH.le_cons {A C : AH} {b : Nat} {k : ABlk} (hb : C.find b = some k) (h : A.le C) : (A.add b k).le C :=
  ⟨h.1, fun b' k' hk => by
    rw [find_add] at hk
    split at hk
    · rename_i e; subst e; cases hk; exact hb
    · exact h.2 _ _ hk⟩
theorem find_fresh {H : AH} {b : Nat} (h : Fresh H b) : H.find b = none := h.2
theorem le_at {H : AH} {b : Nat} {k : ABlk} (hq : H.find b = some k) : ((H.del b).add b k).le H :=
  ⟨rfl, fun b' k' h => by
    rw [find_add] at h
    split at h
    · rename_i e; subst e; cases h; exact hq
    · rename_i e; rw [find_del, if_neg e] at h; exact h⟩
theorem ACalls.at {P : Program} {f : FuncId} {args : Array Value} {H : AH} {b : Nat} {k : ABlk} {K : Value → AH → Prop} (hq : H.find b = some k) (h : ACalls P f args ((H.del b).add b k) K) : ACalls P f args H K := h.weak (le_at hq)

end Go.AX
