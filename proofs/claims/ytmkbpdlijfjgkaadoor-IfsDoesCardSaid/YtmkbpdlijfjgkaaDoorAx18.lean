/- Slices, by their rows, over heaps of which it is said what has stayed. -/
import Derived.Test.YtmkbpdlijfjgkaaDoorAx17
namespace Go.AX
set_option linter.unusedSimpArgs false
set_option linter.unusedVariables false
open Go Go.RowKit

/-! ### What has stayed -/
structure Keep (H H' : AH) (ex : Nat → Prop) : Prop where
  w0 : H'.w0 = H.w0
  at_ : ∀ b, ¬ ex b → ((H.find b).isSome ∨ b < H.w0.heap.size) → H'.find b = H.find b
theorem Keep.refl {H : AH} {ex : Nat → Prop} : Keep H H ex := ⟨rfl, fun _ _ _ => rfl⟩
theorem Keep.mono {H H' : AH} {ex ex' : Nat → Prop} (h : Keep H H' ex) (he : ∀ b, ex b → ex' b) : Keep H H' ex' := ⟨h.w0, fun b hb => h.at_ b fun hx => hb (he b hx)⟩
theorem Keep.trans {A B C : AH} {ex : Nat → Prop} (h : Keep A B ex) (k : Keep B C ex) : Keep A C ex := ⟨k.w0.trans h.w0, fun b hb hk => by
  have h1 := h.at_ b hb hk
  rw [← h1]
  exact k.at_ b hb (by rw [h1, h.w0]; exact hk)⟩
theorem Keep.add {H : AH} {b : Nat} {k : ABlk} {ex : Nat → Prop} (hf : Fresh H b) : Keep H (H.add b k) ex := ⟨rfl, fun b' _ hk => by
  rw [find_add]
  split
  · rename_i e; subst e
    rcases hk with hk | hk
    · rw [hf.2] at hk; cases hk
    · exact absurd hf.1 (by have : H.base = H.w0.heap.size := rfl; omega)
  · rfl⟩
theorem Keep.put {H : AH} {b : Nat} {k : ABlk} : Keep H ((H.del b).add b k) (· = b) := ⟨rfl, fun b' hb _ => by
  rw [find_add, if_neg hb, find_del, if_neg hb]⟩
theorem Keep.ext {H A : AH} {ex : Nat → Prop} (h : Ext H A) : Keep H A ex := by
  induction h with
  | refl => exact .refl
  | add _ hf ih => exact ih.trans (Keep.add hf)
theorem Keep.find {H H' : AH} {ex : Nat → Prop} {b : Nat} {k : ABlk} (h : Keep H H' ex) (hb : ¬ ex b) (hf : H.find b = some k) : H'.find b = some k := by rw [h.at_ b hb (by rw [hf]; exact .inl rfl), hf]
theorem Keep.le {H0 H H' : AH} {ex : Nat → Prop} (h : Keep H H' ex) (hl : H0.le H) (he : ∀ b, ex b → H0.find b = none) : H0.le H' := ⟨hl.1.trans h.w0.symm, fun b k hb => by
  refine h.find (fun hx => ?_) (hl.2 b k hb)
  rw [he b hx] at hb; cases hb⟩
theorem Keep.fresh {H H' : AH} {ex : Nat → Prop} {b : Nat} (h : Keep H H' ex) (hf : Fresh H' b) (hb : ¬ ex b) : Fresh H b := ⟨h.w0 ▸ hf.1, by
  cases hx : H.find b with
  | none => rfl
  | some k => have := h.find hb hx; rw [hf.2] at this; cases this⟩

/-! ### Slices -/
theorem SlcIn.same {H H' : AH} {sz : Nat} {base : Option Addr} {cap : Nat} {R : List (List Value)} (h : SlcIn H sz base cap R) (hw : H'.w0 = H.w0) (hf : R ≠ [] → ∀ a, base = some a → H'.find a.block = H.find a.block) : SlcIn H' sz base cap R := by
  have hrd : R ≠ [] → ∀ b o o', base = some ⟨b, o, none⟩ → H'.rd ⟨b, o', none⟩ = H.rd ⟨b, o', none⟩ := fun hn b o o' hb => by
    unfold AH.rd
    have := hf hn _ hb
    simp only at this
    rw [this, hw]
  have hrow : R ≠ [] → ∀ b o o' n, base = some ⟨b, o, none⟩ → H'.row b o' n = H.row b o' n := fun hn b o o' n hb => by
    unfold AH.row
    have := hf hn _ hb
    simp only at this
    rw [this, hw]
  have hne : ∀ {i : Nat} {r : List Value}, R[i]? = some r → R ≠ [] := fun h1 hx => by rw [hx] at h1; simp at h1
  exact ⟨h.le, h.big, h.at_, fun b o hb i j r c h1 h2 => by rw [hrd (hne h1) b o _ hb]; exact h.rd b o hb i j r c h1 h2, fun b o hb i r h1 => by rw [hrow (hne h1) b o _ _ hb]; exact h.row b o hb i r h1⟩
theorem row_known {H : AH} {b o n : Nat} {l : List Value} (h : H.row b o n = some l) : (H.find b).isSome ∨ b < H.w0.heap.size := by
  unfold AH.row at h
  cases hf : H.find b with
  | some k => exact .inl rfl
  | none =>
    rw [hf] at h
    simp only at h
    split at h
    · rename_i hlt; exact .inr hlt
    · cases h
theorem SlcIn.keep {H H' : AH} {sz : Nat} {base : Option Addr} {cap : Nat} {R : List (List Value)} {ex : Nat → Prop} (h : SlcIn H sz base cap R) (hk : Keep H H' ex) (hb : ∀ a, base = some a → ¬ ex a.block) : SlcIn H' sz base cap R :=
  h.same hk.w0 fun hn a ha => hk.at_ _ (hb a ha) (by
    cases R with
    | nil => exact absurd rfl hn
    | cons r R =>
      obtain ⟨b, o, h2⟩ := h.at_ 0 (by simp)
      rw [h2] at ha; cases ha
      exact row_known (h.row b o h2 0 r rfl))
theorem SlcIn.of_find {H : AH} {sz cap e m b : Nat} {R : List (List Value)} (hf : H.find b = some (.cells R.flatten e m)) (hR : ∀ r ∈ R, r.length = sz) (hl : R.length ≤ cap) (hb : R.length < 9223372036854775808) : SlcIn H sz (some ⟨b, 0, none⟩) cap R :=
  (SlcIn.own (H := H.del b) (e := e) (m := m) hR hl hb).same rfl fun _ a ha => by
    cases ha
    rw [hf, find_add_self]
theorem SlcIn.tail {H : AH} {sz b o cap : Nat} {r : List Value} {R : List (List Value)} (h : SlcIn H sz (some ⟨b, o, none⟩) cap (r :: R)) : SlcIn H sz (some ⟨b, if cap = 1 then o else o + 1 * sz, none⟩) (cap - 1) R := by
  have hle := h.le
  have hbig := h.big
  simp only [List.length_cons] at hle hbig
  by_cases hc : cap = 1
  · have hR : R = [] := List.eq_nil_of_length_eq_zero (by omega)
    subst hR
    rw [if_pos hc]
    exact ⟨by simp, by simp, fun i hi => by simp at hi, fun b o _ i j r c h1 _ => by simp at h1, fun b o _ i r h1 => by simp at h1⟩
  · rw [if_neg hc, Nat.one_mul]
    refine ⟨by omega, by omega, fun i hi => ⟨b, o + sz, rfl⟩, fun b' o' hb i j r' c h1 h2 => ?_, fun b' o' hb i r' h1 => ?_⟩
    · cases hb
      have := h.rd b o rfl (i + 1) j r' c (by simpa using h1) h2
      rw [show o + ((i + 1) * sz + j) = o + sz + (i * sz + j) from by rw [Nat.succ_mul]; omega] at this
      exact this
    · cases hb
      have := h.row b o rfl (i + 1) r' (by simpa using h1)
      rw [show o + (i + 1) * sz = o + sz + i * sz from by rw [Nat.succ_mul]; omega] at this
      exact this

theorem flat_lput {sz : Nat} : ∀ {R : List (List Value)} (_ : ∀ r ∈ R, r.length = sz) (i : Nat) (r' : List Value), i < R.length → r'.length = sz → lput R.flatten (i * sz) r' = (R.set i r').flatten
  | [], _, _, _, h, _ => by simp at h
  | r0 :: R, hR, 0, r', _, h => by
    have h0 : r0.length = sz := hR r0 (by simp)
    rw [lput_eq _ _ _ (by simp [h, h0]), Nat.zero_mul, Nat.zero_add, h, ← h0, List.flatten_cons, List.drop_left]
    simp
  | r0 :: R, hR, i + 1, r', hi, h => by
    have h0 : r0.length = sz := hR r0 (by simp)
    have hRl := flat_len (fun r hr => hR r (by simp [hr]) : ∀ r ∈ R, r.length = sz)
    have ih := flat_lput (fun r hr => hR r (by simp [hr]) : ∀ r ∈ R, r.length = sz) i r' (by simpa using hi) h
    have hm : (i + 1) * sz ≤ R.length * sz := Nat.mul_le_mul_right _ (by simp at hi; omega)
    rw [Nat.succ_mul] at hm
    rw [lput_eq _ _ _ (by rw [hRl, h]; omega)] at ih
    rw [List.set_cons_succ, List.flatten_cons, List.flatten_cons, ← ih, lput_eq _ _ _ (by rw [List.length_append, hRl, h0, h, Nat.succ_mul]; omega), Nat.succ_mul]
    rw [List.take_append, List.drop_append, List.take_of_length_le (show r0.length ≤ i * sz + sz from by omega), List.drop_eq_nil_of_le (show r0.length ≤ i * sz + sz + r'.length from by omega), h0,
      show i * sz + sz - sz = i * sz from by omega, show i * sz + sz + r'.length - sz = i * sz + r'.length from by omega]
    simp
theorem lput_append : ∀ (vs A B : List Value) (off : Nat), off + vs.length ≤ A.length → lput (A ++ B) off vs = lput A off vs ++ B
  | [], _, _, _, _ => rfl
  | v :: vs, A, B, off, h => by
    simp only [List.length_cons] at h
    simp only [lput]
    rw [List.set_append_left (h := by omega), lput_append vs _ _ _ (by simp; omega)]

/-- One row written. -/
theorem SlcIn.put {H : AH} {sz b o cap e m i : Nat} {cs r' : List Value} {R : List (List Value)} (h : SlcIn H sz (some ⟨b, o, none⟩) cap R) (hz : sz ≠ 0) (hf : H.find b = some (.cells cs e m)) (hi : i < R.length) (hr' : r'.length = sz) :
    SlcIn ((H.del b).add b (.cells (lput cs (o + i * sz) r') e m)) sz (some ⟨b, o, none⟩) cap (R.set i r') ∧ o + i * sz + sz ≤ cs.length := by
  have hin : ∀ (i : Nat) (r : List Value), R[i]? = some r → o + i * sz + sz ≤ cs.length ∧ r.length = sz := fun i r hr => by
    have h1 := h.row b o rfl i r hr
    refine ⟨?_, row_length h1⟩
    unfold AH.row at h1
    rw [hf] at h1
    simp only at h1
    split at h1
    · assumption
    · cases h1
  have hii := (hin i _ (List.getElem?_eq_getElem hi)).1
  have hget := lput_get r' cs (o + i * sz)
  have hrd : ∀ (i' j : Nat) (r : List Value) (c : Value), (R.set i r')[i']? = some r → r[j]? = some c → (lput cs (o + i * sz) r')[o + (i' * sz + j)]? = some c := fun i' j r c h1 h2 => by
    rw [hget _ (by omega)]
    rw [List.getElem?_set] at h1
    have hj : j < r.length := by
      rcases Nat.lt_or_ge j r.length with h | h
      · exact h
      · rw [List.getElem?_eq_none h] at h2; cases h2
    by_cases e : i = i'
    · subst e
      rw [if_pos rfl, if_pos hi] at h1
      cases h1
      rw [if_pos (by omega), show o + (i * sz + j) - (o + i * sz) = j from by omega]; exact h2
    · rw [if_neg e] at h1
      have h3 := hin i' r h1
      have h4 := h.rd b o rfl i' j r c h1 h2
      have hne : ¬ (o + i * sz ≤ o + (i' * sz + j) ∧ o + (i' * sz + j) < o + i * sz + r'.length) := by
        rcases Nat.lt_or_gt_of_ne e with h5 | h5
        · have := Nat.mul_le_mul_right sz (show i + 1 ≤ i' from h5); rw [Nat.succ_mul] at this; omega
        · have := Nat.mul_le_mul_right sz (show i' + 1 ≤ i from h5); rw [Nat.succ_mul] at this; omega
      rw [if_neg hne]
      rw [rd_find hf] at h4; exact h4
  have hlen : ∀ (i' : Nat) (r : List Value), (R.set i r')[i']? = some r → r.length = sz := fun i' r h1 => by
    by_cases e : i = i'
    · subst e
      rw [List.getElem?_set_self hi] at h1
      cases h1; exact hr'
    · rw [List.getElem?_set_ne e] at h1
      exact (hin i' r h1).2
  refine ⟨⟨by rw [List.length_set]; exact h.le, by rw [List.length_set]; exact h.big, fun _ _ => ⟨b, o, rfl⟩, fun b' o' hb i' j r c h1 h2 => ?_, fun b' o' hb i' r h1 => ?_⟩, hii⟩
  · cases hb
    rw [rd_add_self]; exact hrd i' j r c h1 h2
  · cases hb
    exact row_of_rd (hlen i' r h1).symm hz fun j c hc => by rw [rd_add_self, Nat.add_assoc]; exact hrd i' j r c h1 hc

/-- An append to a slice of our own, of which nothing but the new one is kept. -/
theorem APD.own2 {P : Program} {H : AH} {t t2 e sz bt b n cap m bs : Nat} {zs cs new : List Value} {x : Value} {k : Value → AH → Prop} (hE : slE P t = some (e, sz, zs, bt)) (hz : zs.length = sz) (hbt : bt ≠ 0) (hni : nInt (P.underlying t2) = true)
    (hb : H.find b = some (.cells cs e bs)) (hcs : cs.length = n * sz) (hbs : cap * sz ≤ bs) (hx : slen x = some m) (hnew : srow H sz x = some new) (hnc : n ≤ cap) (hsc : new.all scal = true) (hroom : (2 * (n + m) + 192) * bt ≤ 281474976710656)
    (hk : ∀ b' c' bs' HH, (b' = b ∨ Fresh H b') → n + m ≤ c' → c' * sz ≤ bs' → (H.del b).add b' (.cells (cs ++ new) e bs') = HH → k (.slice (some ⟨b', 0, none⟩) (n + m) c') HH) : APD P (some t) (some t2) [.slice (some ⟨b, 0, none⟩) n cap, x] H k := fun ts ty h0 h1 => by
  have hl : new.length = m * sz := (qrun_firstCells (P := P) hnew hx).2
  have hncs : n * sz ≤ cap * sz := Nat.mul_le_mul_right _ hnc
  have hrow : srow H sz (.slice (some ⟨b, 0, none⟩) n cap) = some cs := by
    show H.row b 0 (n * sz) = some cs
    unfold AH.row
    rw [hb]
    simp only
    rw [if_pos (by omega), List.drop_zero, List.take_of_length_le (by omega)]
  have base := apd_run (P := P) (H := H) (ts := ts) (ty := ty) (s := .slice (some ⟨b, 0, none⟩) n cap) (x := x)
    (k := fun v H' => (v = .slice (some ⟨b, 0, none⟩) (n + m) cap ∧ n + m ≤ cap ∧ H' = H.set b (.cells (cs ++ new) e bs)) ∨ (∃ b' c', Fresh H b' ∧ n + m ≤ c' ∧ v = .slice (some ⟨b', 0, none⟩) (n + m) c' ∧ H' = H.add b' (.cells (cs ++ new) e (c' * sz))) ∨ (m = 0 ∧ v = .slice (some ⟨b, 0, none⟩) n cap ∧ H' = H)) (by
    rw [h0, h1]
    refine ⟨hni, ?_⟩
    show wo (slE P t) _
    rw [hE]
    refine ⟨hz, hbt, ?_⟩
    rw [hx]
    show wo (srow H sz (.slice (some ⟨b, 0, none⟩) n cap)) _
    rw [hrow]
    show wo (srow H sz x) _
    rw [hnew]
    refine ⟨fun h => .inr (.inr ⟨h.1, rfl, rfl⟩), fun h => ?_, fun h => ⟨hroom, fun b' hb' c' hc' => .inr (.inl ⟨b', c', hb', hc', rfl, rfl⟩)⟩⟩
    have happ : H.app b (0 + n * sz) new = some (H.set b (.cells (cs ++ new) e bs)) := by
      unfold AH.app
      rw [hb]
      simp only
      rw [if_pos ⟨by omega, by
        rw [hl, Nat.zero_add, ← Nat.add_mul]
        exact Nat.le_trans (Nat.mul_le_mul_right _ h.2) hbs, hsc⟩, Nat.zero_add, List.take_of_length_le (by omega), List.drop_eq_nil_of_le (by omega), List.append_nil]
    show wo (H.app b (0 + n * sz) new) _
    rw [happ]
    exact .inl ⟨rfl, h.2, rfl⟩)
  refine base.post (fun v H' h => ?_) (fun w nx w' h => value_only (α := Unit) h)
  rcases h with ⟨rfl, hle, rfl⟩ | ⟨b', c', hf, hle, rfl, rfl⟩ | ⟨rfl, rfl, rfl⟩
  · refine ⟨_, fun _ w hs => hs.of_find (H' := (H.del b).add b (.cells (cs ++ new) e bs)) rfl fun b'' => ?_, hk b cap bs _ (.inl rfl) hle hbs rfl⟩
    rw [find_add, find_set, find_del]
    by_cases h : b'' = b <;> simp [h]
  · refine ⟨(H.del b).add b' (.cells (cs ++ new) e (c' * sz)), fun _ w hs => hs.mono ⟨rfl, fun b'' k'' h => ?_⟩, hk b' c' _ _ (.inr hf) hle (Nat.le_refl _) rfl⟩
    rw [find_add] at h ⊢
    split at h
    · rename_i e; rw [if_pos e]; exact h
    · rename_i e; rw [if_neg e]
      rw [find_del] at h
      split at h
      · cases h
      · exact h
  · have hn0 : new = [] := List.eq_nil_of_length_eq_zero (by rw [hl, Nat.zero_mul])
    refine ⟨_, fun _ w hs => hs.of_find (H' := (H'.del b).add b (.cells (cs ++ new) e bs)) rfl fun b'' => ?_, hk b cap bs _ (.inl rfl) (by omega) hbs rfl⟩
    rw [find_add, find_del, hn0, List.append_nil]
    by_cases h : b'' = b <;> simp [h, hb]

/-! ### Slices of our own -/
structure OwnS (H0 H : AH) (e sz : Nat) (base : Option Addr) (cap : Nat) (R : List (List Value)) : Prop where
  rows : ∀ r ∈ R, r.length = sz
  le : R.length ≤ cap
  big : R.length < 9223372036854775808
  at_ : (base = none ∧ R = [] ∧ cap = 0) ∨ ∃ b bs, base = some ⟨b, 0, none⟩ ∧ H.find b = some (.cells R.flatten e bs) ∧ cap * sz ≤ bs ∧ Fresh H0 b
section
variable {H0 H : AH} {e sz cap : Nat} {base : Option Addr} {R : List (List Value)}
theorem OwnS.nil : OwnS H0 H e sz none 0 [] := ⟨by simp, by simp, by simp, .inl ⟨rfl, rfl, rfl⟩⟩
theorem OwnS.new {b m n : Nat} {cs : List Value} (hf : Fresh H b) (hl : H0.le H) (hc : cs = R.flatten) (hm : m = n * sz) (hn : n = R.length) (hR : ∀ r ∈ R, r.length = sz) (hb : R.length < 9223372036854775808) : OwnS H0 (H.add b (.cells cs e m)) e sz (some ⟨b, 0, none⟩) n R :=
  ⟨hR, by omega, hb, .inr ⟨b, _, rfl, by rw [find_add_self, hc, hm], Nat.le_refl _, Fresh.of_le hl hf⟩⟩
theorem OwnS.slc (h : OwnS H0 H e sz base cap R) : SlcIn H sz base cap R := by
  rcases h.at_ with ⟨rfl, rfl, rfl⟩ | ⟨b, _, rfl, hf, _⟩
  · exact SlcIn.nil
  · exact SlcIn.of_find hf h.rows h.le h.big
theorem OwnS.keep {H' : AH} {ex : Nat → Prop} (h : OwnS H0 H e sz base cap R) (hk : Keep H H' ex) (hb : ∀ a, base = some a → ¬ ex a.block) : OwnS H0 H' e sz base cap R :=
  ⟨h.rows, h.le, h.big, by
    rcases h.at_ with h1 | ⟨b, bs, h1, hf, h2⟩
    · exact .inl h1
    · exact .inr ⟨b, bs, h1, hk.find (hb _ h1) hf, h2⟩⟩
theorem OwnS.fresh (h : OwnS H0 H e sz base cap R) (a : Addr) (ha : base = some a) : Fresh H0 a.block := by
  rcases h.at_ with ⟨h1, _⟩ | ⟨b, _, h1, _, _, h2⟩
  · rw [ha] at h1; cases h1
  · rw [ha] at h1; cases h1; exact h2
def exB (base : Option Addr) (b : Nat) : Prop := ∃ a, base = some a ∧ b = a.block
theorem exB_none {b : Nat} : ¬ exB none b := fun ⟨_, h, _⟩ => by cases h
theorem exB_some {a : Addr} {b : Nat} : exB (some a) b ↔ b = a.block := ⟨fun ⟨_, h, h2⟩ => by cases h; exact h2, fun h => ⟨a, rfl, h⟩⟩
/-- An append to a slice of our own: in place, or in a block that is new. -/
theorem APD.grow {P : Program} {t t2 bt n m : Nat} {zs : List Value} {x : Value} {k : Value → AH → Prop} {R' : List (List Value)} (hO : OwnS H0 H e sz base cap R) (hl : H0.le H) (hE : slE P t = some (e, sz, zs, bt)) (hz : zs.length = sz) (hbt : bt ≠ 0) (hni : nInt (P.underlying t2) = true)
    (hn : n = R.length) (hm : m = R'.length) (hx : slen x = some m) (hnew : srow H sz x = some R'.flatten) (hR' : ∀ r ∈ R', r.length = sz) (hsc : R'.flatten.all scal = true) (hroom : (2 * (n + m) + 192) * bt ≤ 281474976710656)
    (hk : ∀ base' cap' H', OwnS H0 H' e sz base' cap' (R ++ R') → Keep H H' (exB base) → (∀ a, base' = some a → (∃ a', base = some a' ∧ a.block = a'.block) ∨ Fresh H a.block) → k (.slice base' (n + m) cap') H') :
    APD P (some t) (some t2) [.slice base n cap, x] H k := by
  subst hn; subst hm
  have hrows : ∀ r ∈ R ++ R', r.length = sz := fun r hr => by
    rcases List.mem_append.1 hr with h | h
    · exact hO.rows r h
    · exact hR' r h
  have hbig : (R ++ R').length < 9223372036854775808 := by
    rw [List.length_append]
    have : 1 ≤ bt := Nat.pos_of_ne_zero hbt
    have := Nat.mul_le_mul_left (2 * (R.length + R'.length) + 192) this
    omega
  rcases hO.at_ with ⟨rfl, rfl, rfl⟩ | ⟨b, bs, rfl, hf, hbs, hfr⟩
  · refine APD.std ?_
    refine ⟨hni, ?_⟩
    show wo (slE P t) _
    rw [hE]
    refine ⟨hz, hbt, ?_⟩
    simp only [hx, wo_some, srow_none, List.length_nil, if_true, hnew]
    refine ⟨fun h => ?_, fun h => by omega, fun h => ⟨hroom, fun b' hb' c' hc' => ?_⟩⟩
    · have hn : R' = [] := List.eq_nil_of_length_eq_zero h.1
      subst hn
      exact hk none 0 H (by simpa using hO) .refl (fun a ha => by cases ha)
    · refine hk (some ⟨b', 0, none⟩) c' _ ⟨hrows, by simp only [List.nil_append]; simpa using hc', hbig, .inr ⟨b', _, rfl, ?_, Nat.le_refl _, Fresh.of_le hl hb'⟩⟩ (Keep.add hb') (fun a ha => by cases ha; exact .inr hb')
      rw [find_add_self]; rfl
  · refine APD.own2 hE hz hbt hni hf (flat_len hO.rows) hbs hx hnew hO.le hsc hroom fun b' c' bs' HH hb' hc' hbs' hHH => ?_
    subst hHH
    refine hk (some ⟨b', 0, none⟩) c' _ ⟨hrows, by rw [List.length_append]; exact hc', hbig, .inr ⟨b', bs', rfl, by rw [find_add_self, List.flatten_append], hbs', ?_⟩⟩ ⟨rfl, fun b'' hne hkn => ?_⟩ (fun a ha => by
      cases ha
      rcases hb' with h | h
      · exact .inl ⟨_, rfl, h⟩
      · exact .inr h)
    · rcases hb' with rfl | h
      · exact hfr
      · exact Fresh.of_le hl h
    · have hne' : b'' ≠ b := fun h => hne (exB_some.2 h)
      rw [find_add, find_del, if_neg hne']
      split
      · rename_i h; subst h
        rcases hb' with h | h
        · exact absurd h hne'
        · rcases hkn with hkn | hkn
          · rw [h.2] at hkn; cases hkn
          · have := h.1; omega
      · rfl
theorem OwnS.put {b i : Nat} {r' : List Value} (h : OwnS H0 H e sz (some ⟨b, 0, none⟩) cap R) (hi : i < R.length) (hr' : r'.length = sz) : ∃ bs, H.find b = some (.cells R.flatten e bs) ∧ R.length * sz ≤ bs ∧ OwnS H0 ((H.del b).add b (.cells (lput R.flatten (i * sz) r') e bs)) e sz (some ⟨b, 0, none⟩) cap (R.set i r') := by
  rcases h.at_ with ⟨h1, _⟩ | ⟨b', bs, h1, hf, hbs, hfr⟩
  · cases h1
  · cases h1
    refine ⟨bs, hf, Nat.le_trans (Nat.mul_le_mul_right _ h.le) hbs, fun r hr => ?_, by rw [List.length_set]; exact h.le, by rw [List.length_set]; exact h.big, .inr ⟨b, bs, rfl, by rw [find_add_self, flat_lput h.rows i r' hi hr'], hbs, hfr⟩⟩
    rcases List.mem_or_eq_of_mem_set hr with h2 | h2
    · exact h.rows r h2
    · rw [h2]; exact hr'
/-- No more room behind. -/
theorem OwnS.clip (h : OwnS H0 H e sz base cap R) : OwnS H0 H e sz base (if base.isNone then 0 else R.length) R := by
  rcases h.at_ with ⟨rfl, rfl, rfl⟩ | ⟨b, bs, rfl, hf, hbs, hfr⟩
  · exact OwnS.nil
  · exact ⟨h.rows, by simp, h.big, .inr ⟨b, bs, rfl, hf, Nat.le_trans (Nat.mul_le_mul_right _ h.le) hbs, hfr⟩⟩
end

theorem at_eq {H : AH} {b : Nat} {k : ABlk} (h : H.find b = some k) : AEq H ((H.del b).add b k) := ⟨rfl, fun x => by
  rw [find_add, find_del]
  split
  · rename_i e; subst e; exact h
  · rfl⟩
theorem Keep.eq {A B : AH} {ex : Nat → Prop} (h : AEq A B) : Keep A B ex := ⟨h.1.symm, fun x _ _ => (h.2 x).symm⟩
theorem Keep.puts {H : AH} {b : Nat} {k k' : ABlk} : Keep ((H.del b).add b k) ((H.del b).add b k') (· = b) := ⟨rfl, fun b' hb _ => by
  rw [find_add, if_neg hb, find_add, if_neg hb]⟩
/-- What a block of ours is written in leaves all that was there for H. -/
theorem Keep.out {H A A' : AH} {ex : Nat → Prop} (h : Keep H A fun _ => False) (k : Keep A A' ex) (he : ∀ b, ex b → Fresh H b) : Keep H A' fun _ => False := ⟨k.w0.trans h.w0, fun b _ hk => by
  have h1 := h.at_ b (fun h => h) hk
  rw [← h1]
  refine k.at_ b (fun hx => ?_) (by rw [h1, h.w0]; exact hk)
  have hf := he b hx
  rcases hk with hk | hk
  · rw [hf.2] at hk; cases hk
  · have := hf.1; omega⟩
theorem Keep.all {H A : AH} (h : Keep H A fun _ => False) : H.le A := h.le (AH.le_refl _) fun _ hx => hx.elim
theorem Keep.then {A B C : AH} {ex ex' : Nat → Prop} (h : Keep A B ex) (k : Keep B C ex') (he : ∀ b, ex' b → ex b ∨ Fresh A b) : Keep A C ex := ⟨k.w0.trans h.w0, fun b hb hk => by
  have h1 := h.at_ b hb hk
  rw [← h1]
  refine k.at_ b (fun hx => ?_) (by rw [h1, h.w0]; exact hk)
  rcases he b hx with h2 | h2
  · exact hb h2
  · rcases hk with hk | hk
    · rw [h2.2] at hk; cases hk
    · have := h2.1; omega⟩
theorem Keep.nw {A B : AH} {b : Nat} {k : ABlk} (h : Keep A B fun _ => False) (hf : Fresh B b) : Keep A (B.add b k) fun _ => False := h.trans (Keep.add hf)
theorem Keep.ow {A B C : AH} {ex : Nat → Prop} (h : Keep A B fun _ => False) (k : Keep B C ex) (he : ∀ b, ex b → Fresh A b) : Keep A C fun _ => False := h.then k fun b hb => .inr (he b hb)
theorem Keep.fr {A B : AH} {b : Nat} (h : Keep A B fun _ => False) (hf : Fresh B b) : Fresh A b := Fresh.of_le h.all hf
theorem ACalls.monoW {P : Program} {f : FuncId} {args : Array Value} {H : AH} {K K' : Value → AH → Prop} (h : ACalls P f args H K) (hk : ∀ v H', K v H' → ∃ H2, H2.le H' ∧ K' v H2) : ACalls P f args H K' :=
  fun E w hs => (h E w hs).mono fun e w' ⟨v, H', h1, h2, h3⟩ => by
    obtain ⟨H2, h4, h5⟩ := hk v H' h3
    exact ⟨v, H2, h1, h2.mono h4, h5⟩
theorem APD.growW {H0 H : AH} {e sz cap n m : Nat} {base : Option Addr} {R : List (List Value)} {P : Program} {t t2 bt : Nat} {zs : List Value} {x : Value} {k : Value → AH → Prop} {R' : List (List Value)} (hO : OwnS H0 H e sz base cap R) (hl : H0.le H) (hE : slE P t = some (e, sz, zs, bt)) (hz : zs.length = sz) (hbt : bt ≠ 0) (hni : nInt (P.underlying t2) = true)
    (hn : n = R.length) (hm : m = R'.length) (hx : slen x = some m) (hnew : srow H sz x = some R'.flatten) (hR' : ∀ r ∈ R', r.length = sz) (hsc : R'.flatten.all scal = true) (hroom : (2 * (n + m) + 192) * bt ≤ 281474976710656)
    (hk : ∀ base' cap' H', OwnS H0 H' e sz base' cap' (R ++ R') → Keep H H' (exB base) → (∀ a, base' = some a → (∃ a', base = some a' ∧ a.block = a'.block) ∨ Fresh H a.block) → ∃ H2, H2.le H' ∧ k (.slice base' (n + m) cap') H2) :
    APD P (some t) (some t2) [.slice base n cap, x] H k := fun ts ty h0 h1 =>
  ((APD.grow (k := fun v H' => ∃ H2, H2.le H' ∧ k v H2) hO hl hE hz hbt hni hn hm hx hnew hR' hsc hroom hk) ts ty h0 h1).post (fun v H' ⟨H2, h2, h3⟩ => ⟨H2, fun _ _ hs => hs.mono h2, h3⟩) (fun w nx w' h => value_only (α := Unit) h)
theorem Keep.del {H : AH} {b : Nat} : Keep H (H.del b) (· = b) := ⟨rfl, fun b' hb _ => by rw [find_del, if_neg hb]⟩
theorem Keep.dels {H A : AH} {b : Nat} (h : Keep H A fun _ => False) (hf : Fresh H b) : Keep H (A.del b) (fun _ => False) ∧ Fresh (A.del b) b :=
  ⟨h.ow Keep.del fun _ e => e ▸ hf, ⟨h.w0 ▸ hf.1, by rw [find_del, if_pos rfl]⟩⟩
theorem top1 {A : AH} {b1 : Nat} {k1 : ABlk} (h1 : A.find b1 = some k1) : ((A.del b1).add b1 k1).le A := le_at h1
theorem top2 {A : AH} {b1 b2 : Nat} {k1 k2 : ABlk} (h1 : A.find b1 = some k1) (h2 : A.find b2 = some k2) : ((((A.del b1).del b2).add b1 k1).add b2 k2).le A :=
  AH.le_cons h2 (AH.le_cons h1 (AH.le_trans AH.le_del AH.le_del))
theorem top3 {A : AH} {b1 b2 b3 : Nat} {k1 k2 k3 : ABlk} (h1 : A.find b1 = some k1) (h2 : A.find b2 = some k2) (h3 : A.find b3 = some k3) : ((((((A.del b1).del b2).del b3).add b1 k1).add b2 k2).add b3 k3).le A :=
  AH.le_cons h3 (AH.le_cons h2 (AH.le_cons h1 (AH.le_trans AH.le_del (AH.le_trans AH.le_del AH.le_del))))
theorem OwnS.del {H0 H : AH} {e sz cap b : Nat} {base : Option Addr} {R : List (List Value)} (h : OwnS H0 H e sz base cap R) (hb : ∀ a, base = some a → a.block ≠ b) : OwnS H0 (H.del b) e sz base cap R := h.keep Keep.del hb
theorem OwnS.added {H0 H : AH} {e sz cap b : Nat} {base : Option Addr} {R : List (List Value)} {k : ABlk} (h : OwnS H0 H e sz base cap R) (hf : Fresh H b) : OwnS H0 (H.add b k) e sz base cap R := h.keep (Keep.add hf) (ex := fun _ => False) fun _ _ h => h
theorem OwnS.ne {H0 H : AH} {e sz cap b : Nat} {base : Option Addr} {R : List (List Value)} (h : OwnS H0 H e sz base cap R) (hf : Fresh H b) (a : Addr) (ha : base = some a) : a.block ≠ b := by
  rcases h.at_ with ⟨h1, _⟩ | ⟨b', _, h1, h2, _⟩
  · rw [ha] at h1; cases h1
  · rw [ha] at h1; cases h1
    exact fun e => hf.ne_find h2 e.symm
theorem zf_rows {zs : List Value} {n m : Nat} (hm : m = n * zs.length) : zf zs m = (List.replicate n zs).flatten := by
  subst hm
  apply List.ext_getElem?
  intro i
  by_cases hi : i < n * zs.length
  · have hz : 0 < zs.length := by
      rcases Nat.eq_zero_or_pos zs.length with h | h
      · rw [h] at hi; omega
      · exact h
    have h1 : i / zs.length < n := (Nat.div_lt_iff_lt_mul hz).2 hi
    have h2 : i % zs.length < zs.length := Nat.mod_lt _ hz
    have h3 := flat_get (R := List.replicate n zs) (sz := zs.length) (fun r hr => by rw [List.eq_of_mem_replicate hr]) (i / zs.length) (i % zs.length) zs zs[i % zs.length] (by rw [List.getElem?_replicate, if_pos h1]) (List.getElem?_eq_getElem h2)
    rw [show i / zs.length * zs.length + i % zs.length = i from by rw [Nat.mul_comm]; exact Nat.div_add_mod _ _] at h3
    rw [h3]
    simp [zf, hi, h2]
  · rw [List.getElem?_eq_none (by simp [zf]; omega), List.getElem?_eq_none]
    rw [flat_len (sz := zs.length) (fun r hr => by rw [List.eq_of_mem_replicate hr]), List.length_replicate]; omega
/-- Where nothing that lay has turned. -/
theorem Sat.belowed {E : Nat → Option Obj} {H : AH} {w w' : World} (h : Sat E H w) (hb : Below w.heap.size w w') : Sat E H w' :=
  ⟨h.below.trans (hb.mono h.below.size), fun b k hk => by
    obtain ⟨h1, h2, h3⟩ := h.known b k hk
    exact ⟨h1, Nat.lt_of_lt_of_le h2 hb.size, ok_congr (hb.block b h2) h3⟩, fun b o ho => by
    obtain ⟨h1, h2, h3⟩ := h.far b o ho
    have hlt : b < w.heap.size := (Array.getElem?_eq_some_iff.1 h3).1
    exact ⟨h1, h2, by rw [hb.block b hlt]; exact h3⟩⟩
theorem ACalls.of_calls {P : Program} {f : FuncId} {args : Array Value} {H : AH} {u : Value} (h : ∀ w, Calls P f args w fun e W' => e = .returned u ∧ Below w.heap.size w W') : ACalls P f args H (fun v H' => v = u ∧ H = H') := fun E w hs =>
  (h w).mono fun e w' ⟨h1, h2⟩ => ⟨u, H, h1, hs.belowed h2, rfl, rfl⟩
end Go.AX
