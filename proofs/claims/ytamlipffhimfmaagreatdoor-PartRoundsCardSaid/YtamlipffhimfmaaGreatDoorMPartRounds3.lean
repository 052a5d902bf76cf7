/- Texts of mine, one behind another. -/
import Derived.Test.YtamlipffhimfmaaGreatDoorMPartRounds2
import Derived.RangeFuncNested
import Derived.RangeFuncBound
import Derived.RangeFuncCalls
import Derived.RangeFuncLeaves
import Derived.RangeFuncFrom
import Derived.Shelf.Abstract
import Derived.Shelf.RegionOpen
import Derived.WalkKit
import Derived.OwnWalkIn
import Derived.TacticsInMore
import Derived.LoopNIn
import Derived.LoopIn
import Derived.Test.YtamlipffhimfmaaGreatDoorProg
/- Slices, by their rows, over heaps of which it is said what has stayed. -/
namespace Go.AX
set_option linter.unusedSimpArgs false
set_option linter.unusedVariables false
open Go Go.RowKit

structure Keep (H H' : AH) (ex : Nat → Prop) : Prop where
  w0 : H'.w0 = H.w0
  at_ : ∀ b, ¬ ex b → ((H.find b).isSome ∨ b < H.w0.heap.size) → H'.find b = H.find b
theorem Keep.refl {H : AH} {ex : Nat → Prop} : Keep H H ex := ⟨rfl, fun _ _ _ => rfl⟩
theorem Keep.mono {H H' : AH} {ex ex' : Nat → Prop} (h : Keep H H' ex) (he : ∀ b, ex b → ex' b) : Keep H H' ex' := ⟨h.w0, fun b hb => h.at_ b fun hx => hb (he b hx)⟩
theorem Keep.trans {A B C : AH} {ex : Nat → Prop} (h : Keep A B ex) (k : Keep B C ex) : Keep A C ex := ⟨k.w0.trans h.w0, fun b hb hk => by
  have h1 := h.at_ b hb hk
  rw [← h1]
  exact k.at_ b hb (by rw [h1, h.w0]; exact hk)⟩
theorem Keep.add {H : AH} {b : Nat} {k : ABlk} {ex : Nat → Prop} (hf : Fresh H b) : Keep H (H.add b k) ex := ⟨rfl, fun b' _ hk => by
  rw [find_add]
  split
  · rename_i e; subst e
    rcases hk with hk | hk
    · rw [hf.2] at hk; cases hk
    · exact absurd hf.1 (by have : H.base = H.w0.heap.size := rfl; omega)
  · rfl⟩
theorem Keep.put {H : AH} {b : Nat} {k : ABlk} : Keep H ((H.del b).add b k) (· = b) := ⟨rfl, fun b' hb _ => by
  rw [find_add, if_neg hb, find_del, if_neg hb]⟩
theorem Keep.ext {H A : AH} {ex : Nat → Prop} (h : Ext H A) : Keep H A ex := by
  induction h with
  | refl => exact .refl
  | add _ hf ih => exact ih.trans (Keep.add hf)
theorem Keep.find {H H' : AH} {ex : Nat → Prop} {b : Nat} {k : ABlk} (h : Keep H H' ex) (hb : ¬ ex b) (hf : H.find b = some k) : H'.find b = some k := by rw [h.at_ b hb (by rw [hf]; exact .inl rfl), hf]
theorem Keep.le {H0 H H' : AH} {ex : Nat → Prop} (h : Keep H H' ex) (hl : H0.le H) (he : ∀ b, ex b → H0.find b = none) : H0.le H' := ⟨hl.1.trans h.w0.symm, fun b k hb => by
  refine h.find (fun hx => ?_) (hl.2 b k hb)
  rw [he b hx] at hb; cases hb⟩
theorem Keep.fresh {H H' : AH} {ex : Nat → Prop} {b : Nat} (h : Keep H H' ex) (hf : Fresh H' b) (hb : ¬ ex b) : Fresh H b := ⟨h.w0 ▸ hf.1, by
  cases hx : H.find b with
  | none => rfl
  | some k => have := h.find hb hx; rw [hf.2] at this; cases this⟩

theorem SlcIn.same {H H' : AH} {sz : Nat} {base : Option Addr} {cap : Nat} {R : List (List Value)} (h : SlcIn H sz base cap R) (hw : H'.w0 = H.w0) (hf : R ≠ [] → ∀ a, base = some a → H'.find a.block = H.find a.block) : SlcIn H' sz base cap R := by
  have hrd : R ≠ [] → ∀ b o o', base = some ⟨b, o, none⟩ → H'.rd ⟨b, o', none⟩ = H.rd ⟨b, o', none⟩ := fun hn b o o' hb => by
    unfold AH.rd
    have := hf hn _ hb
    simp only at this
    rw [this, hw]
  have hrow : R ≠ [] → ∀ b o o' n, base = some ⟨b, o, none⟩ → H'.row b o' n = H.row b o' n := fun hn b o o' n hb => by
    unfold AH.row
    have := hf hn _ hb
    simp only at this
    rw [this, hw]
  have hne : ∀ {i : Nat} {r : List Value}, R[i]? = some r → R ≠ [] := fun h1 hx => by rw [hx] at h1; simp at h1
  exact ⟨h.le, h.big, h.at_, fun b o hb i j r c h1 h2 => by rw [hrd (hne h1) b o _ hb]; exact h.rd b o hb i j r c h1 h2, fun b o hb i r h1 => by rw [hrow (hne h1) b o _ _ hb]; exact h.row b o hb i r h1⟩
theorem row_known {H : AH} {b o n : Nat} {l : List Value} (h : H.row b o n = some l) : (H.find b).isSome ∨ b < H.w0.heap.size := by
  unfold AH.row at h
  cases hf : H.find b with
  | some k => exact .inl rfl
  | none =>
    rw [hf] at h
    simp only at h
    split at h
    · rename_i hlt; exact .inr hlt
    · cases h
theorem SlcIn.keep {H H' : AH} {sz : Nat} {base : Option Addr} {cap : Nat} {R : List (List Value)} {ex : Nat → Prop} (h : SlcIn H sz base cap R) (hk : Keep H H' ex) (hb : ∀ a, base = some a → ¬ ex a.block) : SlcIn H' sz base cap R :=
  h.same hk.w0 fun hn a ha => hk.at_ _ (hb a ha) (by
    cases R with
    | nil => exact absurd rfl hn
    | cons r R =>
      obtain ⟨b, o, h2⟩ := h.at_ 0 (by simp)
      rw [h2] at ha; cases ha
      exact row_known (h.row b o h2 0 r rfl))
theorem SlcIn.of_find {H : AH} {sz cap e m b : Nat} {R : List (List Value)} (hf : H.find b = some (.cells R.flatten e m)) (hR : ∀ r ∈ R, r.length = sz) (hl : R.length ≤ cap) (hb : R.length < 9223372036854775808) : SlcIn H sz (some ⟨b, 0, none⟩) cap R :=
  (SlcIn.own (H := H.del b) (e := e) (m := m) hR hl hb).same rfl fun _ a ha => by
    cases ha
    rw [hf, find_add_self]
theorem SlcIn.tail {H : AH} {sz b o cap : Nat} {r : List Value} {R : List (List Value)} (h : SlcIn H sz (some ⟨b, o, none⟩) cap (r :: R)) : SlcIn H sz (some ⟨b, if cap = 1 then o else o + 1 * sz, none⟩) (cap - 1) R := by
  have hle := h.le
  have hbig := h.big
  simp only [List.length_cons] at hle hbig
  by_cases hc : cap = 1
  · have hR : R = [] := List.eq_nil_of_length_eq_zero (by omega)
    subst hR
    rw [if_pos hc]
    exact ⟨by simp, by simp, fun i hi => by simp at hi, fun b o _ i j r c h1 _ => by simp at h1, fun b o _ i r h1 => by simp at h1⟩
  · rw [if_neg hc, Nat.one_mul]
    refine ⟨by omega, by omega, fun i hi => ⟨b, o + sz, rfl⟩, fun b' o' hb i j r' c h1 h2 => ?_, fun b' o' hb i r' h1 => ?_⟩
    · cases hb
      have := h.rd b o rfl (i + 1) j r' c (by simpa using h1) h2
      rw [show o + ((i + 1) * sz + j) = o + sz + (i * sz + j) from by rw [Nat.succ_mul]; omega] at this
      exact this
    · cases hb
      have := h.row b o rfl (i + 1) r' (by simpa using h1)
      rw [show o + (i + 1) * sz = o + sz + i * sz from by rw [Nat.succ_mul]; omega] at this
      exact this

theorem flat_lput {sz : Nat} : ∀ {R : List (List Value)} (_ : ∀ r ∈ R, r.length = sz) (i : Nat) (r' : List Value), i < R.length → r'.length = sz → lput R.flatten (i * sz) r' = (R.set i r').flatten
  | [], _, _, _, h, _ => by simp at h
  | r0 :: R, hR, 0, r', _, h => by
    have h0 : r0.length = sz := hR r0 (by simp)
    rw [lput_eq _ _ _ (by simp [h, h0]), Nat.zero_mul, Nat.zero_add, h, ← h0, List.flatten_cons, List.drop_left]
    simp
  | r0 :: R, hR, i + 1, r', hi, h => by
    have h0 : r0.length = sz := hR r0 (by simp)
    have hRl := flat_len (fun r hr => hR r (by simp [hr]) : ∀ r ∈ R, r.length = sz)
    have ih := flat_lput (fun r hr => hR r (by simp [hr]) : ∀ r ∈ R, r.length = sz) i r' (by simpa using hi) h
    have hm : (i + 1) * sz ≤ R.length * sz := Nat.mul_le_mul_right _ (by simp at hi; omega)
    rw [Nat.succ_mul] at hm
    rw [lput_eq _ _ _ (by rw [hRl, h]; omega)] at ih
    rw [List.set_cons_succ, List.flatten_cons, List.flatten_cons, ← ih, lput_eq _ _ _ (by rw [List.length_append, hRl, h0, h, Nat.succ_mul]; omega), Nat.succ_mul]
    rw [List.take_append, List.drop_append, List.take_of_length_le (show r0.length ≤ i * sz + sz from by omega), List.drop_eq_nil_of_le (show r0.length ≤ i * sz + sz + r'.length from by omega), h0,
      show i * sz + sz - sz = i * sz from by omega, show i * sz + sz + r'.length - sz = i * sz + r'.length from by omega]
    simp
theorem SlcIn.put {H : AH} {sz b o cap e m i : Nat} {cs r' : List Value} {R : List (List Value)} (h : SlcIn H sz (some ⟨b, o, none⟩) cap R) (hz : sz ≠ 0) (hf : H.find b = some (.cells cs e m)) (hi : i < R.length) (hr' : r'.length = sz) :
    SlcIn ((H.del b).add b (.cells (lput cs (o + i * sz) r') e m)) sz (some ⟨b, o, none⟩) cap (R.set i r') ∧ o + i * sz + sz ≤ cs.length := by
  have hin : ∀ (i : Nat) (r : List Value), R[i]? = some r → o + i * sz + sz ≤ cs.length ∧ r.length = sz := fun i r hr => by
    have h1 := h.row b o rfl i r hr
    refine ⟨?_, row_length h1⟩
    unfold AH.row at h1
    rw [hf] at h1
    simp only at h1
    split at h1
    · assumption
    · cases h1
  have hii := (hin i _ (List.getElem?_eq_getElem hi)).1
  have hget := lput_get r' cs (o + i * sz)
  have hrd : ∀ (i' j : Nat) (r : List Value) (c : Value), (R.set i r')[i']? = some r → r[j]? = some c → (lput cs (o + i * sz) r')[o + (i' * sz + j)]? = some c := fun i' j r c h1 h2 => by
    rw [hget _ (by omega)]
    rw [List.getElem?_set] at h1
    have hj : j < r.length := by
      rcases Nat.lt_or_ge j r.length with h | h
      · exact h
      · rw [List.getElem?_eq_none h] at h2; cases h2
    by_cases e : i = i'
    · subst e
      rw [if_pos rfl, if_pos hi] at h1
      cases h1
      rw [if_pos (by omega), show o + (i * sz + j) - (o + i * sz) = j from by omega]; exact h2
    · rw [if_neg e] at h1
      have h3 := hin i' r h1
      have h4 := h.rd b o rfl i' j r c h1 h2
      have hne : ¬ (o + i * sz ≤ o + (i' * sz + j) ∧ o + (i' * sz + j) < o + i * sz + r'.length) := by
        rcases Nat.lt_or_gt_of_ne e with h5 | h5
        · have := Nat.mul_le_mul_right sz (show i + 1 ≤ i' from h5); rw [Nat.succ_mul] at this; omega
        · have := Nat.mul_le_mul_right sz (show i' + 1 ≤ i from h5); rw [Nat.succ_mul] at this; omega
      rw [if_neg hne]
      rw [rd_find hf] at h4; exact h4
  have hlen : ∀ (i' : Nat) (r : List Value), (R.set i r')[i']? = some r → r.length = sz := fun i' r h1 => by
    by_cases e : i = i'
    · subst e
      rw [List.getElem?_set_self hi] at h1
      cases h1; exact hr'
    · rw [List.getElem?_set_ne e] at h1
      exact (hin i' r h1).2
  refine ⟨⟨by rw [List.length_set]; exact h.le, by rw [List.length_set]; exact h.big, fun _ _ => ⟨b, o, rfl⟩, fun b' o' hb i' j r c h1 h2 => ?_, fun b' o' hb i' r h1 => ?_⟩, hii⟩
  · cases hb
    rw [rd_add_self]; exact hrd i' j r c h1 h2
  · cases hb
    exact row_of_rd (hlen i' r h1).symm hz fun j c hc => by rw [rd_add_self, Nat.add_assoc]; exact hrd i' j r c h1 hc

theorem APD.own2 {P : Program} {H : AH} {t t2 e sz bt b n cap m bs : Nat} {zs cs new : List Value} {x : Value} {k : Value → AH → Prop} (hE : slE P t = some (e, sz, zs, bt)) (hz : zs.length = sz) (hbt : bt ≠ 0) (hni : nInt (P.underlying t2) = true)
    (hb : H.find b = some (.cells cs e bs)) (hcs : cs.length = n * sz) (hbs : cap * sz ≤ bs) (hx : slen x = some m) (hnew : srow H sz x = some new) (hnc : n ≤ cap) (hsc : new.all scal = true) (hroom : (2 * (n + m) + 192) * bt ≤ 281474976710656)
    (hk : ∀ b' c' bs' HH, (b' = b ∨ Fresh H b') → n + m ≤ c' → c' * sz ≤ bs' → (H.del b).add b' (.cells (cs ++ new) e bs') = HH → k (.slice (some ⟨b', 0, none⟩) (n + m) c') HH) : APD P (some t) (some t2) [.slice (some ⟨b, 0, none⟩) n cap, x] H k := fun ts ty h0 h1 => by
  have hl : new.length = m * sz := (qrun_firstCells (P := P) hnew hx).2
  have hncs : n * sz ≤ cap * sz := Nat.mul_le_mul_right _ hnc
  have hrow : srow H sz (.slice (some ⟨b, 0, none⟩) n cap) = some cs := by
    show H.row b 0 (n * sz) = some cs
    unfold AH.row
    rw [hb]
    simp only
    rw [if_pos (by omega), List.drop_zero, List.take_of_length_le (by omega)]
  have base := apd_run (P := P) (H := H) (ts := ts) (ty := ty) (s := .slice (some ⟨b, 0, none⟩) n cap) (x := x)
    (k := fun v H' => (v = .slice (some ⟨b, 0, none⟩) (n + m) cap ∧ n + m ≤ cap ∧ H' = H.set b (.cells (cs ++ new) e bs)) ∨ (∃ b' c', Fresh H b' ∧ n + m ≤ c' ∧ v = .slice (some ⟨b', 0, none⟩) (n + m) c' ∧ H' = H.add b' (.cells (cs ++ new) e (c' * sz))) ∨ (m = 0 ∧ v = .slice (some ⟨b, 0, none⟩) n cap ∧ H' = H)) (by
    rw [h0, h1]
    refine ⟨hni, ?_⟩
    show wo (slE P t) _
    rw [hE]
    refine ⟨hz, hbt, ?_⟩
    rw [hx]
    show wo (srow H sz (.slice (some ⟨b, 0, none⟩) n cap)) _
    rw [hrow]
    show wo (srow H sz x) _
    rw [hnew]
    refine ⟨fun h => .inr (.inr ⟨h.1, rfl, rfl⟩), fun h => ?_, fun h => ⟨hroom, fun b' hb' c' hc' => .inr (.inl ⟨b', c', hb', hc', rfl, rfl⟩)⟩⟩
    have happ : H.app b (0 + n * sz) new = some (H.set b (.cells (cs ++ new) e bs)) := by
      unfold AH.app
      rw [hb]
      simp only
      rw [if_pos ⟨by omega, by
        rw [hl, Nat.zero_add, ← Nat.add_mul]
        exact Nat.le_trans (Nat.mul_le_mul_right _ h.2) hbs, hsc⟩, Nat.zero_add, List.take_of_length_le (by omega), List.drop_eq_nil_of_le (by omega), List.append_nil]
    show wo (H.app b (0 + n * sz) new) _
    rw [happ]
    exact .inl ⟨rfl, h.2, rfl⟩)
  refine base.post (fun v H' h => ?_) (fun w nx w' h => value_only (α := Unit) h)
  rcases h with ⟨rfl, hle, rfl⟩ | ⟨b', c', hf, hle, rfl, rfl⟩ | ⟨rfl, rfl, rfl⟩
  · refine ⟨_, fun _ w hs => hs.of_find (H' := (H.del b).add b (.cells (cs ++ new) e bs)) rfl fun b'' => ?_, hk b cap bs _ (.inl rfl) hle hbs rfl⟩
    rw [find_add, find_set, find_del]
    by_cases h : b'' = b <;> simp [h]
  · refine ⟨(H.del b).add b' (.cells (cs ++ new) e (c' * sz)), fun _ w hs => hs.mono ⟨rfl, fun b'' k'' h => ?_⟩, hk b' c' _ _ (.inr hf) hle (Nat.le_refl _) rfl⟩
    rw [find_add] at h ⊢
    split at h
    · rename_i e; rw [if_pos e]; exact h
    · rename_i e; rw [if_neg e]
      rw [find_del] at h
      split at h
      · cases h
      · exact h
  · have hn0 : new = [] := List.eq_nil_of_length_eq_zero (by rw [hl, Nat.zero_mul])
    refine ⟨_, fun _ w hs => hs.of_find (H' := (H'.del b).add b (.cells (cs ++ new) e bs)) rfl fun b'' => ?_, hk b cap bs _ (.inl rfl) (by omega) hbs rfl⟩
    rw [find_add, find_del, hn0, List.append_nil]
    by_cases h : b'' = b <;> simp [h, hb]

structure OwnS (H0 H : AH) (e sz : Nat) (base : Option Addr) (cap : Nat) (R : List (List Value)) : Prop where
  rows : ∀ r ∈ R, r.length = sz
  le : R.length ≤ cap
  big : R.length < 9223372036854775808
  at_ : (base = none ∧ R = [] ∧ cap = 0) ∨ ∃ b bs, base = some ⟨b, 0, none⟩ ∧ H.find b = some (.cells R.flatten e bs) ∧ cap * sz ≤ bs ∧ Fresh H0 b
section
variable {H0 H : AH} {e sz cap : Nat} {base : Option Addr} {R : List (List Value)}
theorem OwnS.nil : OwnS H0 H e sz none 0 [] := ⟨by simp, by simp, by simp, .inl ⟨rfl, rfl, rfl⟩⟩
theorem OwnS.new {b m n : Nat} {cs : List Value} (hf : Fresh H b) (hl : H0.le H) (hc : cs = R.flatten) (hm : m = n * sz) (hn : n = R.length) (hR : ∀ r ∈ R, r.length = sz) (hb : R.length < 9223372036854775808) : OwnS H0 (H.add b (.cells cs e m)) e sz (some ⟨b, 0, none⟩) n R :=
  ⟨hR, by omega, hb, .inr ⟨b, _, rfl, by rw [find_add_self, hc, hm], Nat.le_refl _, Fresh.of_le hl hf⟩⟩
theorem OwnS.slc (h : OwnS H0 H e sz base cap R) : SlcIn H sz base cap R := by
  rcases h.at_ with ⟨rfl, rfl, rfl⟩ | ⟨b, _, rfl, hf, _⟩
  · exact SlcIn.nil
  · exact SlcIn.of_find hf h.rows h.le h.big
theorem OwnS.keep {H' : AH} {ex : Nat → Prop} (h : OwnS H0 H e sz base cap R) (hk : Keep H H' ex) (hb : ∀ a, base = some a → ¬ ex a.block) : OwnS H0 H' e sz base cap R :=
  ⟨h.rows, h.le, h.big, by
    rcases h.at_ with h1 | ⟨b, bs, h1, hf, h2⟩
    · exact .inl h1
    · exact .inr ⟨b, bs, h1, hk.find (hb _ h1) hf, h2⟩⟩
theorem OwnS.fresh (h : OwnS H0 H e sz base cap R) (a : Addr) (ha : base = some a) : Fresh H0 a.block := by
  rcases h.at_ with ⟨h1, _⟩ | ⟨b, _, h1, _, _, h2⟩
  · rw [ha] at h1; cases h1
  · rw [ha] at h1; cases h1; exact h2
def exB (base : Option Addr) (b : Nat) : Prop := ∃ a, base = some a ∧ b = a.block
theorem exB_some {a : Addr} {b : Nat} : exB (some a) b ↔ b = a.block := ⟨fun ⟨_, h, h2⟩ => by cases h; exact h2, fun h => ⟨a, rfl, h⟩⟩
theorem APD.grow {P : Program} {t t2 bt n m : Nat} {zs : List Value} {x : Value} {k : Value → AH → Prop} {R' : List (List Value)} (hO : OwnS H0 H e sz base cap R) (hl : H0.le H) (hE : slE P t = some (e, sz, zs, bt)) (hz : zs.length = sz) (hbt : bt ≠ 0) (hni : nInt (P.underlying t2) = true)
    (hn : n = R.length) (hm : m = R'.length) (hx : slen x = some m) (hnew : srow H sz x = some R'.flatten) (hR' : ∀ r ∈ R', r.length = sz) (hsc : R'.flatten.all scal = true) (hroom : (2 * (n + m) + 192) * bt ≤ 281474976710656)
    (hk : ∀ base' cap' H', OwnS H0 H' e sz base' cap' (R ++ R') → Keep H H' (exB base) → (∀ a, base' = some a → (∃ a', base = some a' ∧ a.block = a'.block) ∨ Fresh H a.block) → k (.slice base' (n + m) cap') H') :
    APD P (some t) (some t2) [.slice base n cap, x] H k := by
  subst hn; subst hm
  have hrows : ∀ r ∈ R ++ R', r.length = sz := fun r hr => by
    rcases List.mem_append.1 hr with h | h
    · exact hO.rows r h
    · exact hR' r h
  have hbig : (R ++ R').length < 9223372036854775808 := by
    rw [List.length_append]
    have : 1 ≤ bt := Nat.pos_of_ne_zero hbt
    have := Nat.mul_le_mul_left (2 * (R.length + R'.length) + 192) this
    omega
  rcases hO.at_ with ⟨rfl, rfl, rfl⟩ | ⟨b, bs, rfl, hf, hbs, hfr⟩
  · refine APD.std ?_
    refine ⟨hni, ?_⟩
    show wo (slE P t) _
    rw [hE]
    refine ⟨hz, hbt, ?_⟩
    simp only [hx, wo_some, srow_none, List.length_nil, if_true, hnew]
    refine ⟨fun h => ?_, fun h => by omega, fun h => ⟨hroom, fun b' hb' c' hc' => ?_⟩⟩
    · have hn : R' = [] := List.eq_nil_of_length_eq_zero h.1
      subst hn
      exact hk none 0 H (by simpa using hO) .refl (fun a ha => by cases ha)
    · refine hk (some ⟨b', 0, none⟩) c' _ ⟨hrows, by simp only [List.nil_append]; simpa using hc', hbig, .inr ⟨b', _, rfl, ?_, Nat.le_refl _, Fresh.of_le hl hb'⟩⟩ (Keep.add hb') (fun a ha => by cases ha; exact .inr hb')
      rw [find_add_self]; rfl
  · refine APD.own2 hE hz hbt hni hf (flat_len hO.rows) hbs hx hnew hO.le hsc hroom fun b' c' bs' HH hb' hc' hbs' hHH => ?_
    subst hHH
    refine hk (some ⟨b', 0, none⟩) c' _ ⟨hrows, by rw [List.length_append]; exact hc', hbig, .inr ⟨b', bs', rfl, by rw [find_add_self, List.flatten_append], hbs', ?_⟩⟩ ⟨rfl, fun b'' hne hkn => ?_⟩ (fun a ha => by
      cases ha
      rcases hb' with h | h
      · exact .inl ⟨_, rfl, h⟩
      · exact .inr h)
    · rcases hb' with rfl | h
      · exact hfr
      · exact Fresh.of_le hl h
    · have hne' : b'' ≠ b := fun h => hne (exB_some.2 h)
      rw [find_add, find_del, if_neg hne']
      split
      · rename_i h; subst h
        rcases hb' with h | h
        · exact absurd h hne'
        · rcases hkn with hkn | hkn
          · rw [h.2] at hkn; cases hkn
          · have := h.1; omega
      · rfl
theorem OwnS.put {b i : Nat} {r' : List Value} (h : OwnS H0 H e sz (some ⟨b, 0, none⟩) cap R) (hi : i < R.length) (hr' : r'.length = sz) : ∃ bs, H.find b = some (.cells R.flatten e bs) ∧ R.length * sz ≤ bs ∧ OwnS H0 ((H.del b).add b (.cells (lput R.flatten (i * sz) r') e bs)) e sz (some ⟨b, 0, none⟩) cap (R.set i r') := by
  rcases h.at_ with ⟨h1, _⟩ | ⟨b', bs, h1, hf, hbs, hfr⟩
  · cases h1
  · cases h1
    refine ⟨bs, hf, Nat.le_trans (Nat.mul_le_mul_right _ h.le) hbs, fun r hr => ?_, by rw [List.length_set]; exact h.le, by rw [List.length_set]; exact h.big, .inr ⟨b, bs, rfl, by rw [find_add_self, flat_lput h.rows i r' hi hr'], hbs, hfr⟩⟩
    rcases List.mem_or_eq_of_mem_set hr with h2 | h2
    · exact h.rows r h2
    · rw [h2]; exact hr'
theorem OwnS.clip (h : OwnS H0 H e sz base cap R) : OwnS H0 H e sz base (if base.isNone then 0 else R.length) R := by
  rcases h.at_ with ⟨rfl, rfl, rfl⟩ | ⟨b, bs, rfl, hf, hbs, hfr⟩
  · exact OwnS.nil
  · exact ⟨h.rows, by simp, h.big, .inr ⟨b, bs, rfl, hf, Nat.le_trans (Nat.mul_le_mul_right _ h.le) hbs, hfr⟩⟩
end

theorem Keep.eq {A B : AH} {ex : Nat → Prop} (h : AEq A B) : Keep A B ex := ⟨h.1.symm, fun x _ _ => (h.2 x).symm⟩
theorem Keep.out {H A A' : AH} {ex : Nat → Prop} (h : Keep H A fun _ => False) (k : Keep A A' ex) (he : ∀ b, ex b → Fresh H b) : Keep H A' fun _ => False := ⟨k.w0.trans h.w0, fun b _ hk => by
  have h1 := h.at_ b (fun h => h) hk
  rw [← h1]
  refine k.at_ b (fun hx => ?_) (by rw [h1, h.w0]; exact hk)
  have hf := he b hx
  rcases hk with hk | hk
  · rw [hf.2] at hk; cases hk
  · have := hf.1; omega⟩
theorem Keep.all {H A : AH} (h : Keep H A fun _ => False) : H.le A := h.le (AH.le_refl _) fun _ hx => hx.elim
theorem Keep.then {A B C : AH} {ex ex' : Nat → Prop} (h : Keep A B ex) (k : Keep B C ex') (he : ∀ b, ex' b → ex b ∨ Fresh A b) : Keep A C ex := ⟨k.w0.trans h.w0, fun b hb hk => by
  have h1 := h.at_ b hb hk
  rw [← h1]
  refine k.at_ b (fun hx => ?_) (by rw [h1, h.w0]; exact hk)
  rcases he b hx with h2 | h2
  · exact hb h2
  · rcases hk with hk | hk
    · rw [h2.2] at hk; cases hk
    · have := h2.1; omega⟩
theorem Keep.nw {A B : AH} {b : Nat} {k : ABlk} (h : Keep A B fun _ => False) (hf : Fresh B b) : Keep A (B.add b k) fun _ => False := h.trans (Keep.add hf)
theorem Keep.ow {A B C : AH} {ex : Nat → Prop} (h : Keep A B fun _ => False) (k : Keep B C ex) (he : ∀ b, ex b → Fresh A b) : Keep A C fun _ => False := h.then k fun b hb => .inr (he b hb)
theorem Keep.fr {A B : AH} {b : Nat} (h : Keep A B fun _ => False) (hf : Fresh B b) : Fresh A b := Fresh.of_le h.all hf
theorem ACalls.monoW {P : Program} {f : FuncId} {args : Array Value} {H : AH} {K K' : Value → AH → Prop} (h : ACalls P f args H K) (hk : ∀ v H', K v H' → ∃ H2, H2.le H' ∧ K' v H2) : ACalls P f args H K' :=
  fun E w hs => (h E w hs).mono fun e w' ⟨v, H', h1, h2, h3⟩ => by
    obtain ⟨H2, h4, h5⟩ := hk v H' h3
    exact ⟨v, H2, h1, h2.mono h4, h5⟩
theorem APD.growW {H0 H : AH} {e sz cap n m : Nat} {base : Option Addr} {R : List (List Value)} {P : Program} {t t2 bt : Nat} {zs : List Value} {x : Value} {k : Value → AH → Prop} {R' : List (List Value)} (hO : OwnS H0 H e sz base cap R) (hl : H0.le H) (hE : slE P t = some (e, sz, zs, bt)) (hz : zs.length = sz) (hbt : bt ≠ 0) (hni : nInt (P.underlying t2) = true)
    (hn : n = R.length) (hm : m = R'.length) (hx : slen x = some m) (hnew : srow H sz x = some R'.flatten) (hR' : ∀ r ∈ R', r.length = sz) (hsc : R'.flatten.all scal = true) (hroom : (2 * (n + m) + 192) * bt ≤ 281474976710656)
    (hk : ∀ base' cap' H', OwnS H0 H' e sz base' cap' (R ++ R') → Keep H H' (exB base) → (∀ a, base' = some a → (∃ a', base = some a' ∧ a.block = a'.block) ∨ Fresh H a.block) → ∃ H2, H2.le H' ∧ k (.slice base' (n + m) cap') H2) :
    APD P (some t) (some t2) [.slice base n cap, x] H k := fun ts ty h0 h1 =>
  ((APD.grow (k := fun v H' => ∃ H2, H2.le H' ∧ k v H2) hO hl hE hz hbt hni hn hm hx hnew hR' hsc hroom hk) ts ty h0 h1).post (fun v H' ⟨H2, h2, h3⟩ => ⟨H2, fun _ _ hs => hs.mono h2, h3⟩) (fun w nx w' h => value_only (α := Unit) h)
theorem Keep.del {H : AH} {b : Nat} : Keep H (H.del b) (· = b) := ⟨rfl, fun b' hb _ => by rw [find_del, if_neg hb]⟩
theorem Keep.dels {H A : AH} {b : Nat} (h : Keep H A fun _ => False) (hf : Fresh H b) : Keep H (A.del b) (fun _ => False) ∧ Fresh (A.del b) b :=
  ⟨h.ow Keep.del fun _ e => e ▸ hf, ⟨h.w0 ▸ hf.1, by rw [find_del, if_pos rfl]⟩⟩
theorem top2 {A : AH} {b1 b2 : Nat} {k1 k2 : ABlk} (h1 : A.find b1 = some k1) (h2 : A.find b2 = some k2) : ((((A.del b1).del b2).add b1 k1).add b2 k2).le A :=
  AH.le_cons h2 (AH.le_cons h1 (AH.le_trans AH.le_del AH.le_del))
theorem OwnS.del {H0 H : AH} {e sz cap b : Nat} {base : Option Addr} {R : List (List Value)} (h : OwnS H0 H e sz base cap R) (hb : ∀ a, base = some a → a.block ≠ b) : OwnS H0 (H.del b) e sz base cap R := h.keep Keep.del hb
theorem OwnS.added {H0 H : AH} {e sz cap b : Nat} {base : Option Addr} {R : List (List Value)} {k : ABlk} (h : OwnS H0 H e sz base cap R) (hf : Fresh H b) : OwnS H0 (H.add b k) e sz base cap R := h.keep (Keep.add hf) (ex := fun _ => False) fun _ _ h => h
theorem OwnS.ne {H0 H : AH} {e sz cap b : Nat} {base : Option Addr} {R : List (List Value)} (h : OwnS H0 H e sz base cap R) (hf : Fresh H b) (a : Addr) (ha : base = some a) : a.block ≠ b := by
  rcases h.at_ with ⟨h1, _⟩ | ⟨b', _, h1, h2, _⟩
  · rw [ha] at h1; cases h1
  · rw [ha] at h1; cases h1
    exact fun e => hf.ne_find h2 e.symm
theorem zf_rows {zs : List Value} {n m : Nat} (hm : m = n * zs.length) : zf zs m = (List.replicate n zs).flatten := by
  subst hm
  apply List.ext_getElem?
  intro i
  by_cases hi : i < n * zs.length
  · have hz : 0 < zs.length := by
      rcases Nat.eq_zero_or_pos zs.length with h | h
      · rw [h] at hi; omega
      · exact h
    have h1 : i / zs.length < n := (Nat.div_lt_iff_lt_mul hz).2 hi
    have h2 : i % zs.length < zs.length := Nat.mod_lt _ hz
    have h3 := flat_get (R := List.replicate n zs) (sz := zs.length) (fun r hr => by rw [List.eq_of_mem_replicate hr]) (i / zs.length) (i % zs.length) zs zs[i % zs.length] (by rw [List.getElem?_replicate, if_pos h1]) (List.getElem?_eq_getElem h2)
    rw [show i / zs.length * zs.length + i % zs.length = i from by rw [Nat.mul_comm]; exact Nat.div_add_mod _ _] at h3
    rw [h3]
    simp [zf, hi, h2]
  · rw [List.getElem?_eq_none (by simp [zf]; omega), List.getElem?_eq_none]
    rw [flat_len (sz := zs.length) (fun r hr => by rw [List.eq_of_mem_replicate hr]), List.length_replicate]; omega
theorem Sat.belowed {E : Nat → Option Obj} {H : AH} {w w' : World} (h : Sat E H w) (hb : Below w.heap.size w w') : Sat E H w' :=
  ⟨h.below.trans (hb.mono h.below.size), fun b k hk => by
    obtain ⟨h1, h2, h3⟩ := h.known b k hk
    exact ⟨h1, Nat.lt_of_lt_of_le h2 hb.size, ok_congr (hb.block b h2) h3⟩, fun b o ho => by
    obtain ⟨h1, h2, h3⟩ := h.far b o ho
    have hlt : b < w.heap.size := (Array.getElem?_eq_some_iff.1 h3).1
    exact ⟨h1, h2, by rw [hb.block b hlt]; exact h3⟩⟩
theorem ACalls.of_calls {P : Program} {f : FuncId} {args : Array Value} {H : AH} {u : Value} (h : ∀ w, Calls P f args w fun e W' => e = .returned u ∧ Below w.heap.size w W') : ACalls P f args H (fun v H' => v = u ∧ H = H') := fun E w hs =>
  (h w).mono fun e w' ⟨h1, h2⟩ => ⟨u, H, h1, hs.belowed h2, rfl, rfl⟩
end Go.AX

/- file: header, New, Good, Same, and their references: what each comes to. -/
namespace Go.Proofs.YtamlipffhimfmaaGreatDoor.File
set_option linter.unusedSimpArgs false
set_option linter.unusedVariables false
open Go Go.AX Go.Proofs Ty
set_option maxHeartbeats 4000000
set_option maxRecDepth 10000

abbrev Rc := Int × Int × Int × Int
def enc (r : Rc) : List Value := [.int .u8 r.1, .int .u8 r.2.1, .int .u8 r.2.2.1, .int .u8 r.2.2.2]
def zr : Rc := (0, 0, 0, 0)
theorem enc_len (r : Rc) : (enc r).length = 4 := rfl
theorem enc_scal (r : Rc) : (enc r).all scal = true := rfl
theorem rows4 (R : List Rc) : ∀ r ∈ R.map enc, r.length = 4 := fun r hr => by
  obtain ⟨w, _, rfl⟩ := List.mem_map.1 hr
  rfl
theorem scal4 (l : List Rc) : ((l.map enc).flatten).all scal = true := by
  rw [List.all_flatten, List.all_map, List.all_eq_true]
  intro r _; rfl
theorem map_get {α : Type} {f : α → List Value} {L : List α} {i : Nat} {s : α} (h : L[i]? = some s) : (L.map f)[i]? = some (f s) := by rw [List.getElem?_map, h]; rfl
theorem eqlRc {u : Option TypeDesc} {H : AH} {a b : Operand} {kk : Value → Prop} (r s : Rc) : bin u Tryz.prog H .eql 26 a b (.agg (enc r).toArray) (.agg (enc s).toArray) kk = (u = Tryz.prog.underlying 26 ∧ nv (.bool (decide (r = s))) kk) := by
  obtain ⟨r1, r2, r3, r4⟩ := r
  obtain ⟨s1, s2, s3, s4⟩ := s
  unfold enc; rw [eql_26]
  have : ((r1 == s1) && ((r2 == s2) && ((r3 == s3) && (r4 == s4)))) = decide ((r1, r2, r3, r4) = (s1, s2, s3, s4)) := by
    rw [Bool.eq_iff_iff]; simp [Prod.mk.injEq]
  rw [this]
theorem neqRc {u : Option TypeDesc} {H : AH} {a b : Operand} {kk : Value → Prop} (r s : Rc) : bin u Tryz.prog H .neq 26 a b (.agg (enc r).toArray) (.agg (enc s).toArray) kk = (u = Tryz.prog.underlying 26 ∧ nv (.bool (!decide (r = s))) kk) := by
  obtain ⟨r1, r2, r3, r4⟩ := r
  obtain ⟨s1, s2, s3, s4⟩ := s
  unfold enc; rw [neq_26]
  have : ((r1 == s1) && ((r2 == s2) && ((r3 == s3) && (r4 == s4)))) = decide ((r1, r2, r3, r4) = (s1, s2, s3, s4)) := by
    rw [Bool.eq_iff_iff]; simp [Prod.mk.injEq]
  rw [this]

def hd (perm n : Int) : Rc := (IntKind.u8.wrap n, IntKind.u8.wrap perm, 165, ibits .xor .u8 (ibits .xor .u8 (IntKind.u8.wrap n) (IntKind.u8.wrap perm)) 165)
theorem header_c (perm n : Int) (H : AH) : ACalls Tryz.prog 98 #[.int .i64 perm, .int .i64 n] H (fun v H' => v = .agg (enc (hd perm n)).toArray ∧ H = H') := by
  refine ACalls.enter2 Tryz.func98 rfl Tryz.ntmps98 Tryz.results98 (by simp) ?_; simp (dsimp := false) (maxSteps := 4000000) only [go_sem]
  refine AllB.mk fun b1 h_b1 => ?_; have hn_b1 := h_b1; (try simp only [fresh_add, fresh_set, ne_eq] at hn_b1); have hr_b1 := hn_b1; (try simp only [@eq_comm Nat b1] at hr_b1); simp (dsimp := false) (maxSteps := 4000000) only [hn_b1, hr_b1, go_sem]
  exact ⟨H, (AH.le_add (AH.le_refl _) ((by simp only [fresh_add, fresh_set, ne_eq, hn_b1, not_false_eq_true, and_self] : Fresh _ b1).2)), (by first | exact ⟨rfl, rfl⟩ | rfl)⟩
theorem Header_c (perm n : Int) (H : AH) : ACalls Tryz.prog 83 #[.int .i64 perm, .int .i64 n] H (fun v H' => v = .agg (enc (hd perm n)).toArray ∧ H = H') := by
  refine ACalls.enter2 Tryz.func83 rfl Tryz.ntmps83 Tryz.results83 (by simp) ?_; simp (dsimp := false) (maxSteps := 4000000) only [go_sem]
  refine AllB.mk fun b1 h_b1 => ?_; have hn_b1 := h_b1; (try simp only [fresh_add, fresh_set, ne_eq] at hn_b1); have hr_b1 := hn_b1; (try simp only [@eq_comm Nat b1] at hr_b1); simp (dsimp := false) (maxSteps := 4000000) only [hn_b1, hr_b1, go_sem]
  exact ⟨H, (AH.le_add (AH.le_refl _) ((by simp only [fresh_add, fresh_set, ne_eq, hn_b1, not_false_eq_true, and_self] : Fresh _ b1).2)), (by first | exact ⟨rfl, rfl⟩ | rfl)⟩

def fv (p : Int) (base : Option Addr) (n cap : Nat) : Value := .agg #[.int .i64 p, .slice base n cap]
def fbad (p : Int) : Value := .tuple #[.agg #[.int .i64 0, .slice none 0 0], .int .i64 p]
def okNew (perm n : Int) : Prop := 0 ≤ perm ∧ perm ≤ 7 ∧ 0 ≤ n ∧ n < 256
def newR (perm : Int) (n : Nat) : List Rc := hd perm n :: List.replicate n zr

theorem newR_snoc (perm : Int) (m n : Nat) : (hd perm m :: List.replicate n zr) ++ [zr] = hd perm m :: List.replicate (n + 1) zr := by
  rw [List.replicate_succ']; rfl
theorem RefNew_c (perm : Int) (n : Nat) (h : okNew perm n) (H : AH) : ACalls Tryz.prog 47 #[.int .i64 perm, .int .i64 n] H (fun v H' => ∃ base cap, v = .tuple #[fv perm base (n + 1) cap, .int .i64 0] ∧ OwnS H H' 26 4 base cap ((newR perm n).map enc) ∧ Keep H H' fun _ => False) := by
  obtain ⟨h0, h1, h2, h3⟩ := h
  have a : ¬ perm < 0 := by omega
  have b : ¬ 7 < perm := by omega
  have c : ¬ (n : Int) < 0 := by omega
  have d : ¬ (255 : Int) < n := by omega
  refine ACalls.enter2 Tryz.func47 rfl Tryz.ntmps47 Tryz.results47 (by simp) ?_; simp (dsimp := false) (maxSteps := 4000000) only [a, b, c, d, enc_len, enc_scal, go_sem]
  refine AllB.mk fun b4 h_b4 => ?_; have hn_b4 := h_b4; (try simp only [fresh_add, fresh_set, ne_eq] at hn_b4); have hr_b4 := hn_b4; (try simp only [@eq_comm Nat b4] at hr_b4); simp (dsimp := false) (maxSteps := 4000000) only [a, b, c, d, enc_len, enc_scal, hn_b4, hr_b4, go_sem]
  refine (Header_c perm n _).mono ?_; rintro _ _ ⟨rfl, rfl⟩
  simp (dsimp := false) (maxSteps := 4000000) only [a, b, c, d, enc_len, enc_scal, hn_b4, hr_b4, go_sem]
  refine AllB.mk fun bl h_bl => ?_; have hn_bl := h_bl; (try simp only [fresh_add, fresh_set, ne_eq] at hn_bl); have hr_bl := hn_bl; (try simp only [@eq_comm Nat bl] at hr_bl); simp (dsimp := false) (maxSteps := 4000000) only [a, b, c, d, enc_len, enc_scal, hn_b4, hr_b4, hn_bl, hr_bl, go_sem]
  refine AllB.mk fun b6 h_b6 => ?_; have hn_b6 := h_b6; (try simp only [fresh_add, fresh_set, ne_eq] at hn_b6); have hr_b6 := hn_b6; (try simp only [@eq_comm Nat b6] at hr_b6); simp (dsimp := false) (maxSteps := 4000000) only [a, b, c, d, enc_len, enc_scal, hn_b4, hr_b4, hn_bl, hr_bl, hn_b6, hr_b6, go_sem]
  have n64 : ¬ b6 = b4 := hn_b6.2.1
  have f4 : Fresh H b4 := h_b4
  have f6 : Fresh H b6 := hn_b6.2.2
  have fl : Fresh H bl := hn_bl.2
  refine AWp.loopr (ι := Nat) (fun i A => i ≤ n ∧ ∃ B base cap, A = (B.add b4 (.cells [.int .i64 0, .slice none 0 0] 72 2)).add b6 (.cells [.int .i64 perm, .slice base (i + 1) cap] 72 2) ∧ OwnS H B 26 4 base cap ((hd perm n :: List.replicate i zr).map enc) ∧ (Keep H B fun _ => False) ∧ Fresh B b4 ∧ Fresh B b6)
    (fun i => [(7, .int .i64 i), (0, .int .i64 perm), (1, .int .i64 n), (4, .pointer (some ⟨b4, 0, none⟩)), (6, .pointer (some ⟨b6, 0, none⟩))]) (fun i => n - i) 0 (((H.add bl (.cells (enc (hd perm n)) 26 4)).add b4 (.cells [.int .i64 0, .slice none 0 0] 72 2)).add b6 (.cells [.int .i64 perm, .slice (some ⟨bl, 0, none⟩) 1 1] 72 2))
    ⟨by omega, _, some ⟨bl, 0, none⟩, 1, rfl, OwnS.new fl (AH.le_refl _) (by simp) rfl rfl (by simp [enc_len]) (by simp), Keep.add fl, by rw [fresh_add]; exact ⟨hr_bl.1, f4⟩, by rw [fresh_add]; exact ⟨hn_b6.1, f6⟩⟩ (FrLe.of_lks ?_) ?_ fun i A hi Q again out => ?_
  · simp (dsimp := false) (maxSteps := 4000000) only [a, b, c, d, enc_len, enc_scal, hn_b4, hr_b4, hn_bl, hr_bl, hn_b6, hr_b6, go_sem]
  · exact (by refine AH.le_cons ?_ ?_; (show AH.find _ _ = _; simp only [find_add_self, find_add_ne, find_fresh, fresh_add, fresh_set, ne_eq, not_false_eq_true, true_and, and_true, and_self, a, b, c, d, enc_len, enc_scal, hn_b4, hr_b4, hn_bl, hr_bl, hn_b6, hr_b6]); refine AH.le_cons ?_ ?_; (show AH.find _ _ = _; simp only [find_add_self, find_add_ne, find_fresh, fresh_add, fresh_set, ne_eq, not_false_eq_true, true_and, and_true, and_self, a, b, c, d, enc_len, enc_scal, hn_b4, hr_b4, hn_bl, hr_bl, hn_b6, hr_b6]); refine AH.le_cons ?_ ?_; (show AH.find _ _ = _; simp only [find_add_self, find_add_ne, find_fresh, fresh_add, fresh_set, ne_eq, not_false_eq_true, true_and, and_true, and_self, a, b, c, d, enc_len, enc_scal, hn_b4, hr_b4, hn_bl, hr_bl, hn_b6, hr_b6]); (repeat (first | exact AH.le_refl _ | refine AH.le_add ?_ ?_)); all_goals (first | exact AH.le_refl _ | (show AH.find _ _ = _; simp only [find_add_self, find_add_ne, find_fresh, fresh_add, fresh_set, ne_eq, not_false_eq_true, true_and, and_true, and_self, a, b, c, d, enc_len, enc_scal, hn_b4, hr_b4, hn_bl, hr_bl, hn_b6, hr_b6])))
  · clear hn_b6 hr_b6 h_b6 hn_b4 hr_b4 h_b4 hn_bl hr_bl h_bl fl
    
    obtain ⟨hi, B, base, cap, rfl, hO, hK, g4, g6⟩ := hi
    have n46 : ¬ b4 = b6 := fun e => n64 e.symm
    
    by_cases hlt : (i : Int) < n
    · have e1 := i64_succ (i := i) (by omega)
      
      simp (dsimp := false) (maxSteps := 4000000) only [hlt, n64, n46, g4, g6, enc_len, enc_scal, go_sem]
      refine AllB.mk fun b37 h_b37 => ?_; have hn_b37 := h_b37; (try simp only [fresh_add, fresh_set, ne_eq] at hn_b37); have hr_b37 := hn_b37; (try simp only [@eq_comm Nat b37] at hr_b37); simp (dsimp := false) (maxSteps := 4000000) only [n64, n46, g4, g6, enc_len, enc_scal, hn_b37, hr_b37, go_sem]
      have g37 : Fresh B b37 := hn_b37.2.2
      have p4 : AH.find (((B.add b4 (.cells [.int .i64 0, .slice none 0 0] 72 2)).add b6 (.cells [.int .i64 perm, .slice base (i + 1) cap] 72 2)).add b37 (.cells (enc zr) 26 4)) b4 = some (.cells [.int .i64 0, .slice none 0 0] 72 2) := by (show AH.find _ _ = _; simp only [find_add_self, find_add_ne, find_fresh, fresh_add, fresh_set, ne_eq, not_false_eq_true, true_and, and_true, and_self, n64, n46, g4, g6, enc_len, enc_scal, hn_b37, hr_b37])
      have p6 : AH.find (((B.add b4 (.cells [.int .i64 0, .slice none 0 0] 72 2)).add b6 (.cells [.int .i64 perm, .slice base (i + 1) cap] 72 2)).add b37 (.cells (enc zr) 26 4)) b6 = some (.cells [.int .i64 perm, .slice base (i + 1) cap] 72 2) := by (show AH.find _ _ = _; simp only [find_add_self, find_add_ne, find_fresh, fresh_add, fresh_set, ne_eq, not_false_eq_true, true_and, and_true, and_self, n64, n46, g4, g6, enc_len, enc_scal, hn_b37, hr_b37])
      have hOx : OwnS H (((B.add b4 (.cells [.int .i64 0, .slice none 0 0] 72 2)).add b6 (.cells [.int .i64 perm, .slice base (i + 1) cap] 72 2)).add b37 (.cells (enc zr) 26 4)) 26 4 base cap ((hd perm n :: List.replicate i zr).map enc) :=
        ((hO.added g4).added (by rw [fresh_add]; exact ⟨n64, g6⟩)).added h_b37
      have hKx : Keep H (((B.add b4 (.cells [.int .i64 0, .slice none 0 0] 72 2)).add b6 (.cells [.int .i64 perm, .slice base (i + 1) cap] 72 2)).add b37 (.cells (enc zr) 26 4)) fun _ => False :=
        ((hK.nw g4).nw (by rw [fresh_add]; exact ⟨n64, g6⟩)).nw h_b37
      refine APD.growW (x := .slice (some ⟨b37, 0, none⟩) 1 1) (R' := [enc zr]) (m := 1) hOx hKx.all se_70 rfl (by decide) (by rw [Tryz.underlying70]; rfl) (by simp) rfl rfl (by rw [srow_some, row_add_self]; rfl) (by simp [enc_len]) (by simp [enc, scal]) (by omega) fun base' cap' A' hO' hK' hN' => ?_
      have q4 : A'.find b4 = some (.cells [.int .i64 0, .slice none 0 0] 72 2) := hK'.find (fun hx => by obtain ⟨a, ha, e⟩ := hx; exact hO.ne g4 a ha e.symm) p4
      have q6 : A'.find b6 = some (.cells [.int .i64 perm, .slice base (i + 1) cap] 72 2) := hK'.find (fun hx => by obtain ⟨a, ha, e⟩ := hx; exact hO.ne g6 a ha e.symm) p6
      refine ⟨_, top2 q4 q6, ?_⟩
      
      simp (dsimp := false) (maxSteps := 4000000) only [e1, n64, n46, g4, g6, enc_len, enc_scal, go_sem]
      have hK2 := (hKx.ow hK' fun b ⟨a, ha, e⟩ => e ▸ hO.fresh a ha)
      obtain ⟨hK3, g43⟩ := hK2.dels f4
      obtain ⟨hK4, g64⟩ := hK3.dels f6
      have ne4 : ∀ a, base' = some a → a.block ≠ b4 := fun a ha e => by
        rcases hN' a ha with ⟨a', h1, h2⟩ | h1
        · exact hO.ne g4 a' h1 (h2 ▸ e)
        · exact h1.ne_find p4 e
      have ne6 : ∀ a, base' = some a → a.block ≠ b6 := fun a ha e => by
        rcases hN' a ha with ⟨a', h1, h2⟩ | h1
        · exact hO.ne g6 a' h1 (h2 ▸ e)
        · exact h1.ne_find p6 e
      have hO2 := (hO'.del ne4).del ne6
      rw [show (hd perm n :: List.replicate i zr).map enc ++ [enc zr] = (hd perm n :: List.replicate (i + 1) zr).map enc from by rw [← newR_snoc]; simp] at hO2
      exact again (i + 1) _ _ _ ⟨by omega, _, base', cap', rfl, hO2, hK4, Fresh.of_le AH.le_del g43, g64⟩ (FrLe.of_lks (by simp (dsimp := false) (maxSteps := 4000000) only [n64, n46, g4, g6, enc_len, enc_scal, go_sem])) (AH.le_refl _) (by omega)
    · obtain rfl : i = n := by omega
      simp (dsimp := false) (maxSteps := 4000000) only [hlt, n64, n46, g4, g6, enc_len, enc_scal, go_sem]
      refine out _ _ _ (by simp) ?_
      simp (dsimp := false) (maxSteps := 4000000) only [n64, n46, g4, g6, enc_len, enc_scal, go_sem]
      exact ⟨B, (by (repeat (first | exact AH.le_refl _ | refine AH.le_add ?_ ?_)); all_goals (first | exact AH.le_refl _ | (show AH.find _ _ = _; simp only [find_add_self, find_add_ne, find_fresh, fresh_add, fresh_set, ne_eq, not_false_eq_true, true_and, and_true, and_self, n64, n46, g4, g6, enc_len, enc_scal]))), base, cap, rfl, hO, hK⟩
end Go.Proofs.YtamlipffhimfmaaGreatDoor.File

/- file: Good, Same, and their references: what each comes to. -/
namespace Go.Proofs.YtamlipffhimfmaaGreatDoor.File
set_option linter.unusedSimpArgs false
set_option linter.unusedVariables false
open Go Go.AX Go.Proofs Ty
set_option maxHeartbeats 4000000
set_option maxRecDepth 10000

def goodF (perm : Int) (R : List Rc) : Bool := match R with
  | [] => false
  | r :: l => decide (0 ≤ perm) && decide (perm ≤ 7) && decide (l.length < 256) && decide (r = hd perm l.length)
theorem goodF_bad {perm : Int} {R : List Rc} (h : perm < 0 ∨ 7 < perm) : goodF perm R = false := by
  unfold goodF
  split
  · rfl
  · rcases h with h | h
    · rw [decide_eq_false (p := 0 ≤ perm) (by omega)]; simp
    · rw [decide_eq_false (p := perm ≤ 7) (by omega)]; simp
theorem Good_c (perm : Int) (R : List Rc) (base : Option Addr) (cap : Nat) (H : AH) (hs : SlcIn H 4 base cap (R.map enc)) :
    ACalls Tryz.prog 74 #[fv perm base R.length cap] H (fun v H' => v = .bool (goodF perm R) ∧ H = H') := by
  have hbig := hs.big
  simp only [List.length_map] at hbig
  unfold fv
  refine ACalls.enter2 Tryz.func74 rfl Tryz.ntmps74 Tryz.results74 (by simp) ?_; simp (dsimp := false) (maxSteps := 4000000) only [go_sem]
  refine AllB.mk fun b1 h_b1 => ?_; have hn_b1 := h_b1; (try simp only [fresh_add, fresh_set, ne_eq] at hn_b1); have hr_b1 := hn_b1; (try simp only [@eq_comm Nat b1] at hr_b1); simp (dsimp := false) (maxSteps := 4000000) only [hn_b1, hr_b1, go_sem]
  refine AWp.gen [.pu, .rd, .pu, .pu, .pu, .rd, .pu, .pu, .pu, .pu, .pu, .pu, .pu, .pu, .pu, .pu, .pu, .pu, .rd, .pu, .rd, .pu, .rd, .pu, .pu, .ch, .pu, .pu, .pu] [0, 1, 3, 7, 15, 31, 63, 127, 255, 511, 1023, 2047, 4095, 8191, 16383, 32767, 65535, 131071, 262143, 524287, 1048575, 131071, 2228223, 131071, 8519679, 31588351, 67108863, 134217727, 268435455] 26 (_) mixed (by kernel_rfl) (AH.le_refl _) ?_
  by_cases a : 0 ≤ perm
  · by_cases b : perm ≤ 7
    · cases R with
      | nil =>
        simp (dsimp := false) (maxSteps := 4000000) only [a, b, List.length_nil, Int.natCast_zero, hn_b1, hr_b1, go_sem]
        exact ⟨H, (AH.le_add (AH.le_refl _) ((by simp only [fresh_add, fresh_set, ne_eq, hn_b1, not_false_eq_true, and_self] : Fresh _ b1).2)), (by first | exact ⟨rfl, rfl⟩ | rfl)⟩
      | cons r l =>
        obtain ⟨b_, o, rfl, hrow, _⟩ := hs.get (r := enc r) (i := 0) rfl
        rw [Nat.zero_mul, Nat.add_zero] at hrow
        have n1 := h_b1.ne_row hrow
        simp only [List.length_cons] at hbig
        have c1 : (1 : Int) ≤ ((l.length + 1 : Nat) : Int) := by omega
        have c0 : (0 : Int) < ((l.length + 1 : Nat) : Int) := by omega
        have e1 : IntKind.i64.wrap (((l.length + 1 : Nat) : Int) - 1) = (l.length : Int) := by rw [i64_eq (by omega) (by omega)]; omega
        by_cases c : l.length < 256
        · have c' : ((l.length + 1 : Nat) : Int) ≤ 256 := by omega
          simp (dsimp := false) (maxSteps := 4000000) only [a, b, List.length_cons, c1, c0, c', n1, hrow, e1, AH.le_refl, hn_b1, hr_b1, go_sem]
          refine (header_c perm l.length _).mono ?_; rintro _ _ ⟨rfl, rfl⟩
          simp (dsimp := false) (maxSteps := 4000000) only [a, b, c1, c', eqlRc, AH.le_refl, hn_b1, hr_b1, go_sem]
          exact ⟨H, (AH.le_add (AH.le_refl _) ((by simp only [fresh_add, fresh_set, ne_eq, hn_b1, not_false_eq_true, and_self] : Fresh _ b1).2)), (by first | exact ⟨by simp [goodF, a, b, c], rfl⟩ | rfl)⟩
        · have c' : ¬ ((l.length + 1 : Nat) : Int) ≤ 256 := by omega
          simp (dsimp := false) (maxSteps := 4000000) only [a, b, List.length_cons, c1, c', e1, AH.le_refl, hn_b1, hr_b1, go_sem]
          exact ⟨H, (AH.le_add (AH.le_refl _) ((by simp only [fresh_add, fresh_set, ne_eq, hn_b1, not_false_eq_true, and_self] : Fresh _ b1).2)), (by first | exact ⟨by simp [goodF, c], rfl⟩ | rfl)⟩
    · simp (dsimp := false) (maxSteps := 4000000) only [a, b, hn_b1, hr_b1, go_sem]
      exact ⟨H, (AH.le_add (AH.le_refl _) ((by simp only [fresh_add, fresh_set, ne_eq, hn_b1, not_false_eq_true, and_self] : Fresh _ b1).2)), (by first | exact ⟨by unfold goodF; split <;> simp [b], rfl⟩ | rfl)⟩
  · simp (dsimp := false) (maxSteps := 4000000) only [a, hn_b1, hr_b1, go_sem]
    exact ⟨H, (AH.le_add (AH.le_refl _) ((by simp only [fresh_add, fresh_set, ne_eq, hn_b1, not_false_eq_true, and_self] : Fresh _ b1).2)), (by first | exact ⟨by unfold goodF; split <;> simp [a], rfl⟩ | rfl)⟩
theorem RefGood_c (perm : Int) (R : List Rc) (base : Option Addr) (cap : Nat) (H : AH) (hs : SlcIn H 4 base cap (R.map enc)) :
    ACalls Tryz.prog 72 #[fv perm base R.length cap] H (fun v H' => v = .bool (goodF perm R) ∧ H = H') := by
  have hbig := hs.big
  simp only [List.length_map] at hbig
  unfold fv
  refine ACalls.enter2 Tryz.func72 rfl Tryz.ntmps72 Tryz.results72 (by simp) ?_; simp (dsimp := false) (maxSteps := 4000000) only [go_sem]
  refine AllB.mk fun b1 h_b1 => ?_; have hn_b1 := h_b1; (try simp only [fresh_add, fresh_set, ne_eq] at hn_b1); have hr_b1 := hn_b1; (try simp only [@eq_comm Nat b1] at hr_b1); simp (dsimp := false) (maxSteps := 4000000) only [hn_b1, hr_b1, go_sem]
  by_cases a : perm < 0
  · simp (dsimp := false) (maxSteps := 4000000) only [a, hn_b1, hr_b1, go_sem]
    exact ⟨H, (AH.le_add (AH.le_refl _) ((by simp only [fresh_add, fresh_set, ne_eq, hn_b1, not_false_eq_true, and_self] : Fresh _ b1).2)), (by first | exact ⟨by rw [goodF_bad (.inl a)], rfl⟩ | rfl)⟩
  by_cases b : 7 < perm
  · simp (dsimp := false) (maxSteps := 4000000) only [a, b, hn_b1, hr_b1, go_sem]
    exact ⟨H, (AH.le_add (AH.le_refl _) ((by simp only [fresh_add, fresh_set, ne_eq, hn_b1, not_false_eq_true, and_self] : Fresh _ b1).2)), (by first | exact ⟨by rw [goodF_bad (.inr b)], rfl⟩ | rfl)⟩
  cases R with
  | nil =>
    simp (dsimp := false) (maxSteps := 4000000) only [a, b, List.length_nil, Int.natCast_zero, hn_b1, hr_b1, go_sem]
    exact ⟨H, (AH.le_add (AH.le_refl _) ((by simp only [fresh_add, fresh_set, ne_eq, hn_b1, not_false_eq_true, and_self] : Fresh _ b1).2)), (by first | exact ⟨rfl, rfl⟩ | rfl)⟩
  | cons r l =>
    obtain ⟨b_, o, rfl, hrow, _⟩ := hs.get (r := enc r) (i := 0) rfl
    rw [Nat.zero_mul, Nat.add_zero] at hrow
    have n1 := h_b1.ne_row hrow
    simp only [List.length_cons] at hbig
    have c1 : ¬ ((l.length + 1 : Nat) : Int) = 0 := by omega
    have c0 : (0 : Int) < ((l.length + 1 : Nat) : Int) := by omega
    have e1 : IntKind.i64.wrap (((l.length + 1 : Nat) : Int) - 1) = (l.length : Int) := by rw [i64_eq (by omega) (by omega)]; omega
    have a' : 0 ≤ perm := by omega
    have b' : perm ≤ 7 := by omega
    by_cases c : l.length < 256
    · have c' : ¬ (256 : Int) < ((l.length + 1 : Nat) : Int) := by omega
      simp (dsimp := false) (maxSteps := 4000000) only [a, b, List.length_cons, c1, c0, c', n1, hrow, e1, hn_b1, hr_b1, go_sem]
      refine AWp.gen [.pu, .rd, .pu, .rd, .pu, .rd, .pu, .rd, .pu, .pu, .ch, .pu, .pu] [0, 1, 3, 7, 0, 16, 0, 64, 192, 448, 1008, 2047, 4095] 11 (_) mixed (by kernel_rfl) (AH.le_refl _) ?_
      simp (dsimp := false) (maxSteps := 4000000) only [List.length_cons, c0, n1, hrow, e1, hn_b1, hr_b1, go_sem]
      refine (Header_c perm l.length _).mono ?_; rintro _ _ ⟨rfl, rfl⟩
      simp (dsimp := false) (maxSteps := 4000000) only [eqlRc, hn_b1, hr_b1, go_sem]
      exact ⟨H, (AH.le_add (AH.le_refl _) ((by simp only [fresh_add, fresh_set, ne_eq, hn_b1, not_false_eq_true, and_self] : Fresh _ b1).2)), (by first | exact ⟨by simp [goodF, a', b', c], rfl⟩ | rfl)⟩
    · have c' : (256 : Int) < ((l.length + 1 : Nat) : Int) := by omega
      simp (dsimp := false) (maxSteps := 4000000) only [a, b, List.length_cons, c1, c', hn_b1, hr_b1, go_sem]
      exact ⟨H, (AH.le_add (AH.le_refl _) ((by simp only [fresh_add, fresh_set, ne_eq, hn_b1, not_false_eq_true, and_self] : Fresh _ b1).2)), (by first | exact ⟨by simp [goodF, c], rfl⟩ | rfl)⟩

def sameF (p q : Int) (R S : List Rc) : Bool := decide (p = q ∧ R = S)
theorem lt_of_get {α : Type} {l : List α} {i : Nat} {s : α} (h : l[i]? = some s) : i < l.length := by
  rcases Nat.lt_or_ge i l.length with h' | h'
  · exact h'
  · rw [List.getElem?_eq_none h'] at h; cases h
theorem ext_of {R S : List Rc} {i : Nat} (hl : R.length = S.length) (hi : R.length ≤ i) (h : ∀ j, j < i → R[j]? = S[j]?) : R = S := by
  apply List.ext_getElem?
  intro j
  by_cases hj : j < i
  · exact h j hj
  · rw [List.getElem?_eq_none (by omega), List.getElem?_eq_none (by omega)]
theorem RefSame_c (p q : Int) (R S : List Rc) (b1 b2 : Option Addr) (c1 c2 : Nat) (H : AH) (hs : SlcIn H 4 b1 c1 (R.map enc)) (ht : SlcIn H 4 b2 c2 (S.map enc)) :
    ACalls Tryz.prog 48 #[fv p b1 R.length c1, fv q b2 S.length c2] H (fun v H' => v = .bool (sameF p q R S) ∧ H = H') := by
  have hbig := hs.big
  simp only [List.length_map] at hbig
  unfold fv
  refine ACalls.enter2 Tryz.func48 rfl Tryz.ntmps48 Tryz.results48 (by simp) ?_; simp (dsimp := false) (maxSteps := 4000000) only [go_sem]
  refine AllB.mk fun b3 h_b3 => ?_; have hn_b3 := h_b3; (try simp only [fresh_add, fresh_set, ne_eq] at hn_b3); have hr_b3 := hn_b3; (try simp only [@eq_comm Nat b3] at hr_b3); simp (dsimp := false) (maxSteps := 4000000) only [hn_b3, hr_b3, go_sem]
  refine AllB.mk fun b4 h_b4 => ?_; have hn_b4 := h_b4; (try simp only [fresh_add, fresh_set, ne_eq] at hn_b4); have hr_b4 := hn_b4; (try simp only [@eq_comm Nat b4] at hr_b4); simp (dsimp := false) (maxSteps := 4000000) only [hn_b3, hr_b3, hn_b4, hr_b4, go_sem]
  by_cases a : p = q
  · subst a
    by_cases hl : R.length = S.length
    · have hl' : (S.length : Int) = (R.length : Int) := by omega
      simp (dsimp := false) (maxSteps := 4000000) only [hl', hn_b3, hr_b3, hn_b4, hr_b4, go_sem]
      refine AWp.loopo (ι := Nat) (fun i => i ≤ R.length ∧ ∀ j, j < i → R[j]? = S[j]?) (fun i => [(5, .int .i64 i), (2, .pointer (some ⟨b3, 0, none⟩)), (3, .pointer (some ⟨b4, 0, none⟩))])
        (fun _ => (H.add b3 (.cells [.int .i64 p, .slice b1 R.length c1] 72 2)).add b4 (.cells [.int .i64 p, .slice b2 S.length c2] 72 2)) (fun i => R.length - i) 0 ⟨by omega, fun j hj => by omega⟩ (FrLe.of_lks ?_) (AH.le_refl _) fun i hi Q again out => ?_
      · simp (dsimp := false) (maxSteps := 4000000) only [hn_b3, hr_b3, hn_b4, hr_b4, go_sem]
      · obtain ⟨hi, hall⟩ := hi
        by_cases h : (i : Int) < R.length
        · obtain ⟨r, hr⟩ := get_some (l := R) (i := i) (by omega)
          obtain ⟨s, hsi⟩ := get_some (l := S) (i := i) (by omega)
          obtain ⟨b, o, rfl, hrow, _⟩ := hs.get (map_get (f := enc) hr)
          obtain ⟨b', o', rfl, hrow', _⟩ := ht.get (map_get (f := enc) hsi)
          have e1 := i64_succ (i := i) (by omega)
          have n1 := h_b3.ne_row hrow
          have n2 := h_b3.ne_row hrow'
          have n3 := h_b4.ne_row (row_mono h_b3 hrow)
          have n4 := h_b4.ne_row (row_mono h_b3 hrow')
          have h2 : (i : Int) < S.length := by omega
          simp (dsimp := false) (maxSteps := 4000000) only [h, hn_b3, hr_b3, hn_b4, hr_b4, go_sem]
          refine AWp.quiet mixed (by kernel_rfl) ?_
          by_cases e : r = s
          · simp (dsimp := false) (maxSteps := 4000000) only [h, h2, hrow, hrow', n1, n2, n3, n4, neqRc, e, e1, hn_b3, hr_b3, hn_b4, hr_b4, go_sem]
            refine again (i + 1) _ _ ⟨by omega, fun j hj => ?_⟩ (FrLe.of_lks (by simp (dsimp := false) (maxSteps := 4000000) only [hn_b3, hr_b3, hn_b4, hr_b4, go_sem])) (AH.le_refl _) (by omega)
            by_cases hji : j = i
            · subst hji; rw [hr, hsi, e]
            · exact hall j (by omega)
          · simp (dsimp := false) (maxSteps := 4000000) only [h, h2, hrow, hrow', n1, n2, n3, n4, neqRc, e, hn_b3, hr_b3, hn_b4, hr_b4, go_sem]
            refine out _ _ _ (by simp) ?_
            simp (dsimp := false) (maxSteps := 4000000) only [hn_b3, hr_b3, hn_b4, hr_b4, go_sem]
            exact ⟨H, (AH.le_add (AH.le_add (AH.le_refl _) ((by simp only [fresh_add, fresh_set, ne_eq, hn_b3, not_false_eq_true, and_self] : Fresh _ b3).2)) ((by simp only [fresh_add, fresh_set, ne_eq, hn_b4, not_false_eq_true, and_self] : Fresh _ b4).2)), (by first | exact ⟨by rw [sameF, decide_eq_false]; rintro ⟨_, hx⟩; subst hx; rw [hr] at hsi; cases hsi; exact e rfl, rfl⟩ | rfl)⟩
        · simp (dsimp := false) (maxSteps := 4000000) only [h, hn_b3, hr_b3, hn_b4, hr_b4, go_sem]
          refine out _ _ _ (by simp) ?_
          simp (dsimp := false) (maxSteps := 4000000) only [hn_b3, hr_b3, hn_b4, hr_b4, go_sem]
          exact ⟨H, (AH.le_add (AH.le_add (AH.le_refl _) ((by simp only [fresh_add, fresh_set, ne_eq, hn_b3, not_false_eq_true, and_self] : Fresh _ b3).2)) ((by simp only [fresh_add, fresh_set, ne_eq, hn_b4, not_false_eq_true, and_self] : Fresh _ b4).2)), (by first | exact ⟨by rw [sameF, decide_eq_true ⟨rfl, ext_of hl (by omega) hall⟩], rfl⟩ | rfl)⟩
    · have hl' : ¬ (R.length : Int) = (S.length : Int) := by omega
      simp (dsimp := false) (maxSteps := 4000000) only [hl', hn_b3, hr_b3, hn_b4, hr_b4, go_sem]
      exact ⟨H, (AH.le_add (AH.le_add (AH.le_refl _) ((by simp only [fresh_add, fresh_set, ne_eq, hn_b3, not_false_eq_true, and_self] : Fresh _ b3).2)) ((by simp only [fresh_add, fresh_set, ne_eq, hn_b4, not_false_eq_true, and_self] : Fresh _ b4).2)), (by first | exact ⟨by simp [sameF]; intro hx; subst hx; exact hl rfl, rfl⟩ | rfl)⟩
  · simp (dsimp := false) (maxSteps := 4000000) only [a, hn_b3, hr_b3, hn_b4, hr_b4, go_sem]
    exact ⟨H, (AH.le_add (AH.le_add (AH.le_refl _) ((by simp only [fresh_add, fresh_set, ne_eq, hn_b3, not_false_eq_true, and_self] : Fresh _ b3).2)) ((by simp only [fresh_add, fresh_set, ne_eq, hn_b4, not_false_eq_true, and_self] : Fresh _ b4).2)), (by first | exact ⟨by simp [sameF, a], rfl⟩ | rfl)⟩
end Go.Proofs.YtamlipffhimfmaaGreatDoor.File

/- An append to a fresh empty slice: a copy. -/
namespace Go.AX
set_option linter.unusedSimpArgs false
set_option linter.unusedVariables false
open Go Go.RowKit

theorem srow_mono {H : AH} {b sz : Nat} {k : ABlk} {x : Value} {new : List Value} (hf : Fresh H b) (h : srow H sz x = some new) : srow (H.add b k) sz x = some new := by
  unfold srow at h ⊢
  split at h
  · exact row_mono hf h
  · exact h
  · exact h
  · cases h
theorem APD.clone {P : Program} {H : AH} {t t2 e sz bt b m : Nat} {zs new : List Value} {x : Value} {k : Value → AH → Prop} (hE : slE P t = some (e, sz, zs, bt)) (hz : zs.length = sz) (hbt : bt ≠ 0) (hni : nInt (P.underlying t2) = true)
    (hf : Fresh H b) (hx : slen x = some m) (hnew : srow H sz x = some new) (hsc : new.all scal = true) (hroom : (2 * m + 192) * bt ≤ 281474976710656)
    (hk : ∀ b' c' bs', Fresh H b' → m ≤ c' → c' * sz ≤ bs' → k (.slice (some ⟨b', 0, none⟩) m c') (H.add b' (.cells new e bs'))) : APD P (some t) (some t2) [.slice (some ⟨b, 0, none⟩) 0 0, x] (H.add b (.cells [] e 0)) k := by
  have hnew' : srow (H.add b (.cells [] e 0)) sz x = some new := srow_mono hf hnew
  have := APD.own2 (P := P) (H := H.add b (.cells [] e 0)) (t := t) (t2 := t2) (e := e) (sz := sz) (bt := bt) (b := b) (n := 0) (cap := 0) (m := m) (bs := 0) (zs := zs) (cs := []) (new := new) (x := x) (k := k) hE hz hbt hni (find_add_self _ _ _) (by simp) (by simp) hx hnew' (Nat.le_refl _) hsc (by rw [Nat.zero_add]; exact hroom) fun b' c' bs' HH hb hc hbs hHH => by
    rw [del_add_self, del_fresh hf, List.nil_append] at hHH
    subst hHH
    rw [Nat.zero_add] at hc ⊢
    refine hk b' c' bs' ?_ hc hbs
    rcases hb with rfl | h
    · exact hf
    · exact Fresh.of_le (AH.le_add (AH.le_refl _) hf.2) h
  exact this
theorem APD.zero {P : Program} {H : AH} {t t2 e sz bt n cap c : Nat} {zs : List Value} {base a : Option Addr} {k : Value → AH → Prop} (hE : slE P t = some (e, sz, zs, bt)) (hni : nInt (P.underlying t2) = true) (hnc : n ≤ cap) (hk : k (.slice base n cap) H) :
    APD P (some t) (some t2) [.slice base n cap, .slice a 0 c] H k := fun ts ty h0 h1 => by
  obtain ⟨hu, i, z, hi, hz, h1', h2, h3⟩ := slE_some hE
  obtain ⟨u2, hu2⟩ : ∃ u, P.underlying t2 = some u := by cases hh : P.underlying t2 with
    | none => rw [hh] at hni; cases hni
    | some u => exact ⟨u, rfl⟩
  suffices hm : arun P (Builtin.append_ ts ty #[.slice base n cap, .slice a 0 c]) H k by
    intro E w hs
    obtain ⟨v, w', H', r1, r2, r5⟩ := arun_sound P _ _ _ w hm hs
    refine ⟨.value v, w', H', ?_, r2, r5⟩
    show (Builtin.append_ ts ty #[.slice base n cap, .slice a 0 c] >>= fun v => pure (Next.value v)).run P w = _
    simp only [Sem.run_bind, r1, Result.andThen_ok, Sem.run_pure]
  unfold Builtin.append_
  simp only [h0, h1]
  refine arun_qbind ((qrun_underlying t).trans hu) ?_
  refine arun_qbind (a := sz) (by rw [qrun_sizeOf, hi, Option.map_some, h1']) ?_
  refine arun_qbind ((qrun_underlying t2).trans hu2) ?_
  refine arun_qbind (a := false) (by cases u2 <;> first | rfl | (rw [hu2] at hni; cases hni)) ?_
  simp only [Bool.false_eq_true, if_false, Bool.not_false, if_true]
  refine arun_qbind (qrun_lenOf (n := 0) rfl) ?_
  rw [if_pos (by omega)]
  refine arun_qbind (a := #[]) ?_ ?_
  · cases a with
    | none => simp [Builtin.firstCells, qrun_pure]
    | some a => simp only [Builtin.firstCells, Nat.zero_mul]; rfl
  cases base with
  | none => exact hk
  | some a => exact hk
end Go.AX

/- The engine: copy, clear and delete; bytes as_ a string; an append of zeros to nothing. -/
namespace Go.AX
set_option linter.unusedSimpArgs false
set_option linter.unusedVariables false
open Go Go.RowKit

section
variable {P : Program} {H : AH} {n d : Nat} {ds : List (Option Tmp)} {fr : Fr} {K : Fr → AH → Prop} {q : Bool} {ty : TypeId} {pos : String} {af : Array Edge} {rest : List Oper}
def CPY (P : Program) (ts : Array TypeId) (ty : TypeId) (as_ : List Value) (H : AH) (k : Value → AH → Prop) (_t : Lk (k, H) := .mk) : Prop := ASem P (do pure (.value (← Builtin.copy_ ts ty as_.toArray))) H k
def CLR (P : Program) (ts : Array TypeId) (ty : TypeId) (as_ : List Value) (H : AH) (k : Value → AH → Prop) (_t : Lk (k, H) := .mk) : Prop := ASem P (do pure (.value (← Builtin.clear_ ts ty as_.toArray))) H k
def DEL (P : Program) (ts : Array TypeId) (ty : TypeId) (as_ : List Value) (H : AH) (k : Value → AH → Prop) (_t : Lk (k, H) := .mk) : Prop := ASem P (do pure (.value (← Builtin.delete_ ts ty as_.toArray))) H k
theorem maps_toArray (xs : Array Operand) (f : Operand → Value) : (xs.toList.map f).toArray = xs.map f := by rw [← Array.toList_map, Array.toArray_toList]
theorem T_copy {xs : Array Operand} {ts : Array TypeId} : vops q P n ds (⟨(some d), .call { callee := .builtin .copy, args := xs, argTypes := ts }, ty, pos, af, none⟩ :: rest) fr H K = (d < n ∧ q = false ∧ wvs fr xs.toList fun as_ => CPY P ts ty as_ H fun v H' => vops q P n ds rest ((d, v) :: fr) H' K) := by
  rw [← dok_some]
  apply propext
  constructor
  · rintro ⟨h1, h2, _, h3, h4⟩
    refine ⟨h1, h3, by simpa [Op.operands, Call.operands] using h2, ?_⟩
    show CPY P ts ty (xs.toList.map (evd fr)) H _
    unfold CPY
    rw [maps_toArray]; exact h4
  · rintro ⟨h1, h2, h3, h4⟩
    refine ⟨h1, by simpa [Op.operands, Call.operands] using h3, rfl, h2, ?_⟩
    have h4 : CPY P ts ty (xs.toList.map (evd fr)) H _ := h4
    unfold CPY at h4
    rw [maps_toArray] at h4; exact h4
theorem T_copy0 {xs : Array Operand} {ts : Array TypeId} : vops q P n ds (⟨none, .call { callee := .builtin .copy, args := xs, argTypes := ts }, ty, pos, af, none⟩ :: rest) fr H K = (q = false ∧ wvs fr xs.toList fun as_ => CPY P ts ty as_ H fun _ H' => vops q P n ds rest fr H' K) := by
  apply propext
  constructor
  · rintro ⟨_, h2, _, h3, h4⟩
    refine ⟨h3, by simpa [Op.operands, Call.operands] using h2, ?_⟩
    show CPY P ts ty (xs.toList.map (evd fr)) H _
    unfold CPY
    rw [maps_toArray]; exact h4
  · rintro ⟨h2, h3, h4⟩
    refine ⟨rfl, by simpa [Op.operands, Call.operands] using h3, rfl, h2, ?_⟩
    have h4 : CPY P ts ty (xs.toList.map (evd fr)) H _ := h4
    unfold CPY at h4
    rw [maps_toArray] at h4; exact h4
theorem T_clear {xs : Array Operand} {ts : Array TypeId} : vops q P n ds (⟨(some d), .call { callee := .builtin .clear, args := xs, argTypes := ts }, ty, pos, af, none⟩ :: rest) fr H K = (d < n ∧ q = false ∧ wvs fr xs.toList fun as_ => CLR P ts ty as_ H fun v H' => vops q P n ds rest ((d, v) :: fr) H' K) := by
  rw [← dok_some]
  apply propext
  constructor
  · rintro ⟨h1, h2, _, h3, h4⟩
    refine ⟨h1, h3, by simpa [Op.operands, Call.operands] using h2, ?_⟩
    show CLR P ts ty (xs.toList.map (evd fr)) H _
    unfold CLR
    rw [maps_toArray]; exact h4
  · rintro ⟨h1, h2, h3, h4⟩
    refine ⟨h1, by simpa [Op.operands, Call.operands] using h3, rfl, h2, ?_⟩
    have h4 : CLR P ts ty (xs.toList.map (evd fr)) H _ := h4
    unfold CLR at h4
    rw [maps_toArray] at h4; exact h4
theorem T_clear0 {xs : Array Operand} {ts : Array TypeId} : vops q P n ds (⟨none, .call { callee := .builtin .clear, args := xs, argTypes := ts }, ty, pos, af, none⟩ :: rest) fr H K = (q = false ∧ wvs fr xs.toList fun as_ => CLR P ts ty as_ H fun _ H' => vops q P n ds rest fr H' K) := by
  apply propext
  constructor
  · rintro ⟨_, h2, _, h3, h4⟩
    refine ⟨h3, by simpa [Op.operands, Call.operands] using h2, ?_⟩
    show CLR P ts ty (xs.toList.map (evd fr)) H _
    unfold CLR
    rw [maps_toArray]; exact h4
  · rintro ⟨h2, h3, h4⟩
    refine ⟨rfl, by simpa [Op.operands, Call.operands] using h3, rfl, h2, ?_⟩
    have h4 : CLR P ts ty (xs.toList.map (evd fr)) H _ := h4
    unfold CLR at h4
    rw [maps_toArray] at h4; exact h4
theorem T_delete {xs : Array Operand} {ts : Array TypeId} : vops q P n ds (⟨(some d), .call { callee := .builtin .delete, args := xs, argTypes := ts }, ty, pos, af, none⟩ :: rest) fr H K = (d < n ∧ q = false ∧ wvs fr xs.toList fun as_ => DEL P ts ty as_ H fun v H' => vops q P n ds rest ((d, v) :: fr) H' K) := by
  rw [← dok_some]
  apply propext
  constructor
  · rintro ⟨h1, h2, _, h3, h4⟩
    refine ⟨h1, h3, by simpa [Op.operands, Call.operands] using h2, ?_⟩
    show DEL P ts ty (xs.toList.map (evd fr)) H _
    unfold DEL
    rw [maps_toArray]; exact h4
  · rintro ⟨h1, h2, h3, h4⟩
    refine ⟨h1, by simpa [Op.operands, Call.operands] using h3, rfl, h2, ?_⟩
    have h4 : DEL P ts ty (xs.toList.map (evd fr)) H _ := h4
    unfold DEL at h4
    rw [maps_toArray] at h4; exact h4
theorem T_delete0 {xs : Array Operand} {ts : Array TypeId} : vops q P n ds (⟨none, .call { callee := .builtin .delete, args := xs, argTypes := ts }, ty, pos, af, none⟩ :: rest) fr H K = (q = false ∧ wvs fr xs.toList fun as_ => DEL P ts ty as_ H fun _ H' => vops q P n ds rest fr H' K) := by
  apply propext
  constructor
  · rintro ⟨_, h2, _, h3, h4⟩
    refine ⟨h3, by simpa [Op.operands, Call.operands] using h2, ?_⟩
    show DEL P ts ty (xs.toList.map (evd fr)) H _
    unfold DEL
    rw [maps_toArray]; exact h4
  · rintro ⟨h2, h3, h4⟩
    refine ⟨rfl, by simpa [Op.operands, Call.operands] using h3, rfl, h2, ?_⟩
    have h4 : DEL P ts ty (xs.toList.map (evd fr)) H _ := h4
    unfold DEL at h4
    rw [maps_toArray] at h4; exact h4
attribute [go_sem ↓] T_copy T_copy0 T_clear T_clear0 T_delete T_delete0
end

theorem arun_over {P : Program} {H H' : AH} {b o : Nat} {vs : List Value} {K : Unit → AH → Prop} (hw : H.wrs b o vs = some H') (hk : K () H') : arun P (storeCells ⟨b, o, none⟩ vs) H fun u A => ∃ B : AH, (∀ E w, Sat E A w → Sat E B w) ∧ K u B := by
  unfold AH.wrs at hw
  split at hw
  · rename_i cs e sz hf
    split at hw
    · rename_i hc
      cases hw
      refine arun_storeCells P b _ vs o 0 H cs e sz hf hc.1 hc.2.1 hc.2.2 ?_
      by_cases hv : vs = []
      · subst hv
        simp only [if_true]
        refine ⟨_, fun _ w hs => hs.of_find (H' := H.set b (.cells (lput cs o []) e sz)) rfl fun b' => ?_, hk⟩
        rw [find_set]
        split
        · rename_i h; subst h; rw [hf]; rfl
        · rfl
      · simp only [if_neg hv]
        exact ⟨_, fun _ _ h => h, hk⟩
    · cases hw
  · cases hw
theorem CLR.row {P : Program} {H H' : AH} {ts : Array TypeId} {ty t e sz bt b o n c : Nat} {zs : List Value} {k : Value → AH → Prop} (h0 : ts[0]? = some t) (hE : slE P t = some (e, sz, zs, bt)) (hn : n ≠ 0)
    (hw : H.wrs b o (zf zs (n * sz)) = some H') (hzl : zs.length = sz) (hk : k (.tuple #[]) H') : CLR P ts ty [.slice (some ⟨b, o, none⟩) n c] H k := by
  obtain ⟨hu, i, z, hi, hz, h1, h2, h3⟩ := slE_some hE
  suffices hm : arun P (Builtin.clear_ ts ty #[.slice (some ⟨b, o, none⟩) n c]) H (fun v A => ∃ B : AH, (∀ E w, Sat E A w → Sat E B w) ∧ k v B) by
    intro E w hs
    obtain ⟨v, w', A, r1, r2, B, r3, r5⟩ := arun_sound P _ _ _ w hm hs
    refine ⟨.value v, w', B, ?_, r3 _ _ r2, r5⟩
    show (Builtin.clear_ ts ty #[.slice (some ⟨b, o, none⟩) n c] >>= fun v => pure (Next.value v)).run P w = _
    simp only [Sem.run_bind, r1, Result.andThen_ok, Sem.run_pure]
  unfold Builtin.clear_
  simp only [h0]
  refine arun_qbind ((qrun_underlying t).trans hu) ?_
  obtain ⟨n, rfl⟩ : ∃ n', n = n' + 1 := ⟨n - 1, by omega⟩
  have ez : (Builtin.zeroCells z.cells (n + 1)).toList = zf zs ((n + 1) * sz) := by
    rw [← h2] at hzl
    have hs : z.cells.size = sz := by simpa using hzl
    subst hs
    simp only [Builtin.zeroCells, zf, ← h2, Array.toList_map, Array.toList_range, Array.length_toList]
    refine List.map_congr_left fun i hi => ?_
    have hpos : 0 < z.cells.size := by
      rcases Nat.eq_zero_or_pos z.cells.size with h | h
      · rw [h] at hi; simp at hi
      · exact h
    have hlt := Nat.mod_lt i hpos
    rw [getElem!_pos z.cells _ hlt, getElem!_pos z.cells.toList _ (by simpa using hlt)]
    simp
  show arun P (zeroValue e >>= fun z => storeCells ⟨b, o, none⟩ (Builtin.zeroCells z.cells (n + 1)).toList >>= fun _ => pure (Value.tuple #[])) H _
  refine arun_qbind (qrun_zeroValue hi hz) ?_
  rw [arun_bind, ez]
  exact arun_over (K := fun _ A => k (.tuple #[]) A) hw hk
theorem CLR.none {P : Program} {H : AH} {ts : Array TypeId} {ty t e sz bt c : Nat} {a : Option Addr} {zs : List Value} {k : Value → AH → Prop} (h0 : ts[0]? = some t) (hE : slE P t = some (e, sz, zs, bt)) (hk : k (.tuple #[]) H) : CLR P ts ty [.slice a 0 c] H k := by
  obtain ⟨hu, i, z, hi, hz, h1, h2, h3⟩ := slE_some hE
  suffices hm : arun P (Builtin.clear_ ts ty #[.slice a 0 c]) H k by
    intro E w hs
    obtain ⟨v, w', A, r1, r2, r5⟩ := arun_sound P _ _ _ w hm hs
    refine ⟨.value v, w', A, ?_, r2, r5⟩
    show (Builtin.clear_ ts ty #[.slice a 0 c] >>= fun v => pure (Next.value v)).run P w = _
    simp only [Sem.run_bind, r1, Result.andThen_ok, Sem.run_pure]
  unfold Builtin.clear_
  simp only [h0]
  refine arun_qbind ((qrun_underlying t).trans hu) ?_
  cases a <;> exact hk

theorem APD.growS {H0 H : AH} {e sz cap n m c : Nat} {base a : Option Addr} {R : List (List Value)} {P : Program} {t t2 bt : Nat} {zs : List Value} {k : Value → AH → Prop} {R' : List (List Value)} (hO : OwnS H0 H e sz base cap R) (hl : H0.le H) (hE : slE P t = some (e, sz, zs, bt)) (hz : zs.length = sz) (hsz : sz ≠ 0) (hbt : bt ≠ 0) (hni : nInt (P.underlying t2) = true)
    (hn : n = R.length) (hm : m = R'.length) (hs : SlcIn H sz a c R') (hR' : ∀ r ∈ R', r.length = sz) (hsc : R'.flatten.all scal = true) (hroom : (2 * (n + m) + 192) * bt ≤ 281474976710656)
    (hk : ∀ base' cap' H', OwnS H0 H' e sz base' cap' (R ++ R') → Keep H H' (exB base) → (∀ a, base' = some a → (∃ a', base = some a' ∧ a.block = a'.block) ∨ Fresh H a.block) → ∃ H2, H2.le H' ∧ k (.slice base' (n + m) cap') H2) :
    APD P (some t) (some t2) [.slice base n cap, .slice a m c] H k := by
  by_cases h : R' = [] ∧ a ≠ none
  · obtain ⟨rfl, _⟩ := h
    subst hm
    obtain ⟨H2, h2, h3⟩ := hk base cap H (by rw [List.append_nil]; exact hO) Keep.refl (fun a ha => .inl ⟨a, ha, rfl⟩)
    intro ts ty h0 h1
    exact ((APD.zero (k := fun v H' => ∃ H2 : AH, H2.le H' ∧ k v H2) hE hni (hn ▸ hO.le) ⟨H2, h2, h3⟩) ts ty h0 h1).post (fun v H' ⟨H2, h2, h3⟩ => ⟨H2, fun _ _ hs => hs.mono h2, h3⟩) (fun w nx w' h => value_only (α := Unit) h)
  · have h1 : R' ≠ [] ∨ a = none := by
      by_cases h2 : R' = []
      · exact .inr (Classical.byContradiction fun h3 => h ⟨h2, h3⟩)
      · exact .inl h2
    exact APD.growW hO hl hE hz hbt hni hn hm rfl (hs.srow hR' hsz hm h1) hR' hsc hroom hk

theorem SlcIn.empty {H : AH} {sz cap : Nat} {base : Option Addr} : SlcIn H sz base cap [] where
  le := by simp
  big := by simp
  at_ := fun i hi => by simp at hi
  rd := fun b o _ i j r c h => by simp at h
  row := fun b o _ i r h => by simp at h
theorem SlcIn.recap {H : AH} {sz cap cap' : Nat} {base : Option Addr} {R : List (List Value)} (h : SlcIn H sz base cap R) (hc : R.length ≤ cap') : SlcIn H sz base cap' R := ⟨hc, h.big, h.at_, h.rd, h.row⟩
theorem SlcIn.past {A B : AH} {sz cap : Nat} {base : Option Addr} {R : List (List Value)} {ex : Nat → Prop} (h : SlcIn A sz base cap R) (hn : R = [] ∨ ∀ a, base = some a → ¬ ex a.block) (hk : Keep A B ex) : SlcIn B sz base cap R := by
  rcases hn with rfl | hn
  · exact SlcIn.empty
  · exact h.keep hk hn
theorem SlcIn.apart {H : AH} {sz cap bm : Nat} {base : Option Addr} {R : List (List Value)} (h : SlcIn H sz base cap R) (hf : Fresh H bm) : R = [] ∨ ∀ a, base = some a → ¬ a.block = bm := by
  cases R with
  | nil => exact .inl rfl
  | cons r R =>
    refine .inr fun a ha => ?_
    obtain ⟨b, o, hb⟩ := h.at_ 0 (by simp)
    rw [hb] at ha; cases ha
    have := h.row b o hb 0 r rfl
    exact fun e => hf.ne_row this e.symm
theorem lt_of_get {α : Type} {l : List α} {i : Nat} {s : α} (h : l[i]? = some s) : i < l.length := by
  rcases Nat.lt_or_ge i l.length with h' | h'
  · exact h'
  · rw [List.getElem?_eq_none h'] at h; cases h
theorem map_get {α : Type} {f : α → List Value} {L : List α} {i : Nat} {s : α} (h : L[i]? = some s) : (L.map f)[i]? = some (f s) := by rw [List.getElem?_map, h]; rfl
theorem Keep.top2 {A : AH} {b1 b2 : Nat} {k1 k2 : ABlk} (h1 : A.find b1 = some k1) (h2 : A.find b2 = some k2) (hne : b2 ≠ b1) : Keep A ((((A.del b1).del b2).add b1 k1).add b2 k2) fun _ => False := ⟨rfl, fun b _ _ => by
  rw [find_add, find_add, find_del, find_del]
  by_cases e2 : b = b2
  · subst e2; rw [if_pos rfl, h2]
  · rw [if_neg e2]
    by_cases e1 : b = b1
    · subst e1; rw [if_pos rfl, h1]
    · rw [if_neg e1, if_neg e2, if_neg e1]⟩
end Go.AX

/- file: bit, may, Clone, Clip. -/
namespace Go.Proofs.YtamlipffhimfmaaGreatDoor.File
set_option linter.unusedSimpArgs false
set_option linter.unusedVariables false
open Go Go.AX Go.Proofs Ty
set_option maxHeartbeats 4000000
set_option maxRecDepth 10000

def bitF (op : Int) : Int := if op = 0 then 1 else if op = 1 then 2 else if op = 2 then 4 else 0
theorem bit_c (op : Int) (H : AH) : ACalls Tryz.prog 136 #[.int .i64 op] H (fun v H' => v = .int .i64 (bitF op) ∧ H = H') := by
  refine ACalls.enter2 Tryz.func136 rfl Tryz.ntmps136 Tryz.results136 (by simp) ?_; simp (dsimp := false) (maxSteps := 4000000) only [go_sem]
  by_cases a : op = 0
  · subst a
    simp (dsimp := false) (maxSteps := 4000000) only [go_sem]
    exact ⟨H, (AH.le_refl _), (by first | exact ⟨rfl, rfl⟩ | rfl)⟩
  by_cases b : op = 1
  · subst b
    simp (dsimp := false) (maxSteps := 4000000) only [go_sem]
    exact ⟨H, (AH.le_refl _), (by first | exact ⟨rfl, rfl⟩ | rfl)⟩
  by_cases c : op = 2
  · subst c
    simp (dsimp := false) (maxSteps := 4000000) only [go_sem]
    exact ⟨H, (AH.le_refl _), (by first | exact ⟨rfl, rfl⟩ | rfl)⟩
  simp (dsimp := false) (maxSteps := 4000000) only [a, b, c, go_sem]
  exact ⟨H, (AH.le_refl _), (by first | exact ⟨by simp [bitF, a, b, c], rfl⟩ | rfl)⟩

def mayF (p : Int) (R : List Rc) (op rec : Int) : Int :=
  if goodF p R = false then 2 else if op < 0 ∨ 2 < op then 1 else if rec < 0 ∨ (R.length : Int) ≤ rec then 4 else
  if rec = 0 then (if op = 0 then 0 else 5) else if p / bitF op % 2 = 0 then 5 else 0
theorem goodF_p {p : Int} {R : List Rc} (h : goodF p R = true) : 0 ≤ p ∧ p ≤ 7 ∧ R.length ≠ 0 ∧ R.length ≤ 256 := by
  cases R with
  | nil => simp [goodF] at h
  | cons r l =>
    simp only [goodF, Bool.and_eq_true, decide_eq_true_eq] at h
    simp only [List.length_cons]
    omega
theorem and_bit {p op : Int} (h0 : 0 ≤ p) (h1 : p ≤ 7) (a0 : 0 ≤ op) (a1 : op ≤ 2) : (ibits .and .i64 p (bitF op) = 0) = (p / bitF op % 2 = 0) := by
  have : ∀ p : Fin 8, ∀ o : Fin 3, (ibits .and .i64 ((p.1 : Nat) : Int) (bitF ((o.1 : Nat) : Int)) = 0) = (((p.1 : Nat) : Int) / bitF ((o.1 : Nat) : Int) % 2 = 0) := by
    intro p o
    rw [eq_iff_iff]
    revert p o
    decide
  have := this ⟨p.toNat, by omega⟩ ⟨op.toNat, by omega⟩
  simpa [Int.toNat_of_nonneg h0, Int.toNat_of_nonneg a0] using this
theorem bit_zero {op : Int} (h : op < 0 ∨ 2 < op) : bitF op = 0 := by
  unfold bitF
  rw [if_neg (by omega), if_neg (by omega), if_neg (by omega)]
theorem bit_nz {op : Int} (h : ¬ (op < 0 ∨ 2 < op)) : ¬ bitF op = 0 := by
  unfold bitF
  split
  · decide
  · split
    · decide
    · split
      · decide
      · omega
theorem may_c (p op rec : Int) (R : List Rc) (base : Option Addr) (cap : Nat) (H : AH) (hs : SlcIn H 4 base cap (R.map enc)) :
    ACalls Tryz.prog 127 #[fv p base R.length cap, .int .i64 op, .int .i64 rec] H (fun v H' => v = .int .i64 (mayF p R op rec) ∧ H = H') := by
  unfold fv
  have hg := fun H1 (h1 : SlcIn H1 4 base cap (R.map enc)) => Good_c p R base cap H1 h1
  unfold fv at hg
  by_cases c0 : rec = 0
  · subst c0
    refine ACalls.enter2 Tryz.func127 rfl Tryz.ntmps127 Tryz.results127 (by simp) ?_; simp (dsimp := false) (maxSteps := 4000000) only [go_sem]
    refine AllB.mk fun b1 h_b1 => ?_; have hn_b1 := h_b1; (try simp only [fresh_add, fresh_set, ne_eq] at hn_b1); have hr_b1 := hn_b1; (try simp only [@eq_comm Nat b1] at hr_b1); simp (dsimp := false) (maxSteps := 4000000) only [hn_b1, hr_b1, go_sem]
    refine (hg _ (hs.add h_b1)).mono ?_; rintro _ _ ⟨rfl, rfl⟩
    by_cases g : goodF p R = true
    · obtain ⟨h0, h1, h2, h3⟩ := goodF_p g
      have h4 : ¬ (R.length : Int) ≤ 0 := by omega
      simp (dsimp := false) (maxSteps := 4000000) only [g, hn_b1, hr_b1, go_sem]
      refine (bit_c op _).mono ?_; rintro _ _ ⟨rfl, rfl⟩
      by_cases a : op < 0 ∨ 2 < op
      · simp (dsimp := false) (maxSteps := 4000000) only [bit_zero a, hn_b1, hr_b1, go_sem]
        exact ⟨H, (AH.le_add (AH.le_refl _) ((by simp only [fresh_add, fresh_set, ne_eq, hn_b1, not_false_eq_true, and_self] : Fresh _ b1).2)), (by first | exact ⟨by simp [mayF, g, a], rfl⟩ | rfl)⟩
      · simp (dsimp := false) (maxSteps := 4000000) only [bit_nz a, h4, hn_b1, hr_b1, go_sem]
        by_cases b : op = 0
        · subst b
          simp (dsimp := false) (maxSteps := 4000000) only [hn_b1, hr_b1, go_sem]
          exact ⟨H, (AH.le_add (AH.le_refl _) ((by simp only [fresh_add, fresh_set, ne_eq, hn_b1, not_false_eq_true, and_self] : Fresh _ b1).2)), (by first | exact ⟨by simp [mayF, g, h2], rfl⟩ | rfl)⟩
        · simp (dsimp := false) (maxSteps := 4000000) only [b, hn_b1, hr_b1, go_sem]
          exact ⟨H, (AH.le_add (AH.le_refl _) ((by simp only [fresh_add, fresh_set, ne_eq, hn_b1, not_false_eq_true, and_self] : Fresh _ b1).2)), (by first | exact ⟨by simp only [mayF, g, a, h4]; simp [b], rfl⟩ | rfl)⟩
    · have g' : goodF p R = false := by simpa using g
      simp (dsimp := false) (maxSteps := 4000000) only [g', hn_b1, hr_b1, go_sem]
      exact ⟨H, (AH.le_add (AH.le_refl _) ((by simp only [fresh_add, fresh_set, ne_eq, hn_b1, not_false_eq_true, and_self] : Fresh _ b1).2)), (by first | exact ⟨by simp [mayF, g'], rfl⟩ | rfl)⟩
  · refine ACalls.enter2 Tryz.func127 rfl Tryz.ntmps127 Tryz.results127 (by simp) ?_; simp (dsimp := false) (maxSteps := 4000000) only [c0, go_sem]
    refine AllB.mk fun b1 h_b1 => ?_; have hn_b1 := h_b1; (try simp only [fresh_add, fresh_set, ne_eq] at hn_b1); have hr_b1 := hn_b1; (try simp only [@eq_comm Nat b1] at hr_b1); simp (dsimp := false) (maxSteps := 4000000) only [c0, hn_b1, hr_b1, go_sem]
    refine (hg _ (hs.add h_b1)).mono ?_; rintro _ _ ⟨rfl, rfl⟩
    by_cases g : goodF p R = true
    · obtain ⟨h0, h1, h2, h3⟩ := goodF_p g
      simp (dsimp := false) (maxSteps := 4000000) only [g, c0, hn_b1, hr_b1, go_sem]
      refine (bit_c op _).mono ?_; rintro _ _ ⟨rfl, rfl⟩
      by_cases a : op < 0 ∨ 2 < op
      · simp (dsimp := false) (maxSteps := 4000000) only [bit_zero a, c0, hn_b1, hr_b1, go_sem]
        exact ⟨H, (AH.le_add (AH.le_refl _) ((by simp only [c0, fresh_add, fresh_set, ne_eq, hn_b1, not_false_eq_true, and_self] : Fresh _ b1).2)), (by first | exact ⟨by simp [mayF, g, a], rfl⟩ | rfl)⟩
      · simp (dsimp := false) (maxSteps := 4000000) only [bit_nz a, c0, hn_b1, hr_b1, go_sem]
        by_cases b1_ : rec < 0
        · simp (dsimp := false) (maxSteps := 4000000) only [b1_, c0, hn_b1, hr_b1, go_sem]
          exact ⟨H, (AH.le_add (AH.le_refl _) ((by simp only [c0, fresh_add, fresh_set, ne_eq, hn_b1, not_false_eq_true, and_self] : Fresh _ b1).2)), (by first | exact ⟨by simp [mayF, g, a, b1_], rfl⟩ | rfl)⟩
        by_cases b2_ : (R.length : Int) ≤ rec
        · simp (dsimp := false) (maxSteps := 4000000) only [b1_, b2_, c0, hn_b1, hr_b1, go_sem]
          exact ⟨H, (AH.le_add (AH.le_refl _) ((by simp only [c0, fresh_add, fresh_set, ne_eq, hn_b1, not_false_eq_true, and_self] : Fresh _ b1).2)), (by first | exact ⟨by simp [mayF, g, a, b2_], rfl⟩ | rfl)⟩
        simp (dsimp := false) (maxSteps := 4000000) only [b1_, b2_, c0, hn_b1, hr_b1, go_sem]
        refine AWp.gen [.pu, .rd, .pu, .ch, .pu, .pu, .pu] [0, 1, 0, 4, 15, 31, 63] 4 (_) mixed (by kernel_rfl) (AH.le_refl _) ?_
        simp (dsimp := false) (maxSteps := 4000000) only [c0, hn_b1, hr_b1, go_sem]
        refine (bit_c op _).mono ?_; rintro _ _ ⟨rfl, rfl⟩
        have hab := and_bit (op := op) h0 h1 (by omega) (by omega)
        by_cases d : p / bitF op % 2 = 0
        · have d' : ibits .and .i64 p (bitF op) = 0 := by rw [hab]; exact d
          simp (dsimp := false) (maxSteps := 4000000) only [d', c0, hn_b1, hr_b1, go_sem]
          exact ⟨H, (AH.le_add (AH.le_refl _) ((by simp only [c0, fresh_add, fresh_set, ne_eq, hn_b1, not_false_eq_true, and_self] : Fresh _ b1).2)), (by first | exact ⟨by simp [mayF, g, a, b1_, b2_, c0, d], rfl⟩ | rfl)⟩
        · have d' : ¬ ibits .and .i64 p (bitF op) = 0 := by rw [hab]; exact d
          simp (dsimp := false) (maxSteps := 4000000) only [d', c0, hn_b1, hr_b1, go_sem]
          exact ⟨H, (AH.le_add (AH.le_refl _) ((by simp only [c0, fresh_add, fresh_set, ne_eq, hn_b1, not_false_eq_true, and_self] : Fresh _ b1).2)), (by first | exact ⟨by simp [mayF, g, a, b1_, b2_, c0, d], rfl⟩ | rfl)⟩
    · have g' : goodF p R = false := by simpa using g
      simp (dsimp := false) (maxSteps := 4000000) only [g', c0, hn_b1, hr_b1, go_sem]
      exact ⟨H, (AH.le_add (AH.le_refl _) ((by simp only [c0, fresh_add, fresh_set, ne_eq, hn_b1, not_false_eq_true, and_self] : Fresh _ b1).2)), (by first | exact ⟨by simp [mayF, g'], rfl⟩ | rfl)⟩

theorem Clip_c (base : Option Addr) (n cap : Nat) (H : AH) (h : n ≤ cap) :
    ACalls Tryz.prog 87 #[.slice base n cap] H (fun v H' => v = .slice base n n ∧ H = H') := by
  refine ACalls.enter2 Tryz.func87 rfl Tryz.ntmps87 Tryz.results87 (by simp) ?_; simp (dsimp := false) (maxSteps := 4000000) only [go_sem]
  have h' : (n : Int) ≤ cap := by omega
  simp (dsimp := false) (maxSteps := 4000000) only [h', Int.le_refl, go_sem]
  exact ⟨H, (AH.le_refl _), (by first | exact ⟨rfl, rfl⟩ | rfl)⟩
theorem Clone_c (R : List Rc) (base : Option Addr) (cap : Nat) (H : AH) (hs : SlcIn H 4 base cap (R.map enc)) (hR : R.length ≤ 4096) :
    ACalls Tryz.prog 88 #[.slice base R.length cap] H (fun v H' => ∃ b' c', v = .slice b' R.length c' ∧ OwnS H H' 26 4 b' c' (R.map enc) ∧ Keep H H' fun _ => False) := by
  refine ACalls.enter2 Tryz.func88 rfl Tryz.ntmps88 Tryz.results88 (by simp) ?_; simp (dsimp := false) (maxSteps := 4000000) only [go_sem]
  cases base with
  | none =>
    have hnil : R = [] := by
      cases R with
      | nil => rfl
      | cons r l =>
        obtain ⟨b, o, h, _⟩ := hs.get (r := enc r) (i := 0) rfl
        cases h
    subst hnil
    simp (dsimp := false) (maxSteps := 4000000) only [go_sem]
    exact ⟨H, AH.le_refl _, none, 0, rfl, OwnS.nil, .refl⟩
  | some a =>
    simp (dsimp := false) (maxSteps := 4000000) only [go_sem]
    refine AllB.mk fun bl h_bl => ?_
    simp (dsimp := false) (maxSteps := 4000000) only [go_sem]
    refine APD.growS (H0 := H) (a := some a) (m := R.length) (c := cap) (R := []) (R' := R.map enc) (OwnS.new h_bl (AH.le_refl _) rfl rfl rfl (by simp) (by simp)) (AH.le_add (AH.le_refl _) h_bl.2) se_70 rfl (by decide) (by decide) (by rw [Tryz.underlying70]; rfl) rfl (by simp) (hs.add h_bl) (rows4 R) (scal4 R) (by omega) fun base' cap' A' hO' hK' hN' => ?_
    refine ⟨_, AH.le_refl _, ?_⟩
    simp (dsimp := false) (maxSteps := 4000000) only [go_sem]
    exact ⟨A', AH.le_refl _, base', cap', rfl, hO', (Keep.refl.nw h_bl).ow hK' fun b ⟨a, ha, e⟩ => by cases ha; exact e ▸ h_bl⟩
end Go.Proofs.YtamlipffhimfmaaGreatDoor.File

/- file.next: what it comes to: a loop over slices.Backward. -/
namespace Go.Proofs.YtamlipffhimfmaaGreatDoor.Nxt
set_option linter.unusedSimpArgs false
set_option linter.unusedVariables false
open Go Go.Proofs Go.RowKit Go.Shelf
attribute [local go_sem] Oper.semAt_some

abbrev Al := { i : Nat // i < 4 } × Int
def encs (x : Al) : Array Value := #[.int .i64 (x.1.1 : Int), .int .u8 x.2]
def Kp (b Bs : Nat) (W W' : World) : Prop := W'.cell? ⟨Bs, 0, none⟩ = W.cell? ⟨Bs, 0, none⟩ ∧ ∀ j, j < 4 → (∃ x, W.cell? ⟨b, j, none⟩ = some (.int .u8 x)) → ∃ x, W'.cell? ⟨b, j, none⟩ = some (.int .u8 x)
def idxs (k : Nat) : List Nat := (List.range k).map (3 - ·)
theorem idxs_succ (k : Nat) : idxs (k + 1) = idxs k ++ [3 - k] := by simp [idxs, List.range_succ]

set_option maxRecDepth 100000 in
set_option maxHeartbeats 2000000 in
theorem back1_in (F : Fence) (n : Nat) (h7 : F.fn 140) (hro : F.round = none) (hn : 1 ≤ n) (l Bs b : Nat) (J Jx : List Al → World → Prop)
    (hY : ∀ pre x W, J pre W → pre.length < 4 → YieldAt F (n - 1) Tryz.prog l (encs x) W fun e W' =>
      (e = .returned (.bool true) ∧ J (pre ++ [x]) W' ∧ Kp b Bs W W') ∨ (e = .returned (.bool false) ∧ Jx (pre ++ [x]) W'))
    (W : World) (hBs : W.cell? ⟨Bs, 0, none⟩ = some (.slice (some ⟨b, 0, none⟩) 4 4)) (hc : ∀ j, j < 4 → ∃ x, W.cell? ⟨b, j, none⟩ = some (.int .u8 x)) (h0 : J [] W) :
    CallsIn F n Tryz.prog 140 #[.func (.yield l) #[] #[], .pointer (some ⟨Bs, 0, none⟩)] W fun e W' => (∃ v, e = .returned v) ∧
      ((∃ ys, ys.map (·.1.1) = idxs 4 ∧ J ys W') ∨ (∃ pre, (∃ k, k ≤ 4 ∧ pre.map (·.1.1) = idxs k) ∧ Jx pre W')) := by
  refine callsIn_of_wp Tryz.func140 rfl h7 ?_ hro
  simp only [Tryz.ntmps140, List.size_toArray, List.length_cons, List.length_nil, Nat.reduceAdd, Nat.reduceSub, Array.replicate_succ, Array.replicate_zero, List.push_toArray, List.append_toArray, List.nil_append, List.cons_append]
  gi_wp2
  gi_loopw [3] (fun i wr => ∃ (k : Nat) (pre : List Al), k ≤ 4 ∧ i = .int .i64 (3 - (k : Int)) ∧ pre.map (·.1.1) = idxs k ∧ J pre wr ∧ Kp b Bs W wr)
    (fun i _ => (intOf i + 1).toNat)
  case atStart => exact ⟨0, [], Nat.zero_le _, rfl, rfl, h0, rfl, fun j hj h => h⟩
  case round =>
    obtain ⟨k, pre, hk, rfl, hp, hJs, hK1, hK2⟩ := hrel
    have hBs' := hK1.trans hBs
    by_cases hlt : k < 4
    · obtain ⟨x, hx⟩ := hK2 (3 - k) (by omega) (hc (3 - k) (by omega))
      have hi : ((3 - k : Nat) : Int) = 3 - (k : Int) := by omega
      obtain ⟨fn, tmps, assign, body, hy, hR⟩ := hY pre (⟨3 - k, by omega⟩, x) wr hJs (by have := congrArg List.length hp; simp [idxs] at this; omega)
      dsimp only [encs] at hy
      rw [hi] at hy
      have hoff : (3 - (k : Int)).toNat = 3 - k := by omega
      have hge : 0 ≤ 3 - (k : Int) := by omega
      have hlt4 : 3 - (k : Int) < 4 := by omega
      gi_wp2
      refine hR.mono ?_
      rintro e W3 (⟨rfl, hJ3, hk3⟩ | ⟨rfl, hJx3⟩)
      · gi_wp2
        go_roundw
        case rel =>
          refine ⟨k + 1, pre ++ [(⟨3 - k, by omega⟩, x)], by omega, by simp; omega, by rw [idxs_succ, List.map_append, hp]; rfl, hJ3, hk3.1.trans hK1, fun j hj h => hk3.2 j hj (hK2 j hj h)⟩
        case measure => simp [intOf]; omega
      · gi_wp2
        refine bodyPost_ret (results_none rfl _ _ _) rfl ?_
        exact ⟨⟨_, rfl⟩, .inr ⟨_, ⟨k + 1, by omega, by rw [idxs_succ, List.map_append, hp]; rfl⟩, hJx3⟩⟩
    · obtain rfl : k = 4 := by omega
      gi_wp2
      go_end0
      exact ⟨⟨_, rfl⟩, .inl ⟨pre, hp, hJs⟩⟩

set_option maxRecDepth 100000 in
set_option maxHeartbeats 2000000 in
theorem Backward_in (F : Fence) (n : Nat) (h5 : F.fn 137) (hro : F.round = none) (a : Option Addr) (len cap : Nat) (w : World) :
    CallsIn F n Tryz.prog 137 #[.slice a len cap] w fun e w' => e = .returned (.func (.func 140) #[] #[.pointer (some ⟨w.heap.size, 0, none⟩)]) ∧ w' = w.alloc (.cells #[.slice a len cap] 105) := by
  refine callsIn_of_wp Tryz.func137 rfl h5 ?_ hro
  simp only [Tryz.ntmps137, List.size_toArray, List.length_cons, List.length_nil, Nat.reduceAdd, Nat.reduceSub, Array.replicate_succ, Array.replicate_zero, List.push_toArray, List.append_toArray, List.nil_append, List.cons_append]
  gi_wp2
  go_ret
  exact ⟨rfl, rfl⟩

theorem back_stops (F : Fence) (n : Nat) (h7 : F.fn 140) (hro : F.round = none) (hn : 1 ≤ n) (Bs b : Nat) (w : World) (hBs : Bs < w.heap.size) (hb : b < w.heap.size)
    (hc : w.cell? ⟨Bs, 0, none⟩ = some (.slice (some ⟨b, 0, none⟩) 4 4)) (hcs : ∀ j, j < 4 → ∃ x, w.cell? ⟨b, j, none⟩ = some (.int .u8 x)) :
    SeqStopsK F n Tryz.prog 140 #[.pointer (some ⟨Bs, 0, none⟩)] encs (Kp b Bs) (fun ys => ys.map (·.1.1) = idxs 4) (fun pre => ∃ k, k ≤ 4 ∧ pre.map (·.1.1) = idxs k) 4 w := fun l J Jx W hW _ _ hY h0 => by
  have hc' := (hW.cell (p := ⟨Bs, 0, none⟩) hBs).trans hc
  have hcs' : ∀ j, j < 4 → ∃ x, W.cell? ⟨b, j, none⟩ = some (.int .u8 x) := fun j hj => by
    obtain ⟨x, hx⟩ := hcs j hj
    exact ⟨x, (hW.cell (p := ⟨b, j, none⟩) hb).trans hx⟩
  refine (back1_in F n h7 hro hn l Bs b J Jx hY W hc' hcs' h0).mono ?_
  rintro e W' ⟨he, ⟨ys, h1, hj⟩ | ⟨pre, h1, hj⟩⟩
  · exact ⟨he, .inl ⟨_, h1, hj⟩⟩
  · exact ⟨he, .inr ⟨_, h1, hj⟩⟩

abbrev Rc := Int × Int × Int × Int
def at_ (r : Rc) (i : Nat) : Int := match i with | 0 => r.1 | 1 => r.2.1 | 2 => r.2.2.1 | _ => r.2.2.2
def inc (r : Rc) (i : Nat) : Rc := match i with
  | 0 => (IntKind.u8.wrap (r.1 + 1), r.2)
  | 1 => (r.1, IntKind.u8.wrap (r.2.1 + 1), r.2.2)
  | 2 => (r.1, r.2.1, IntKind.u8.wrap (r.2.2.1 + 1), r.2.2.2)
  | _ => (r.1, r.2.1, r.2.2.1, IntKind.u8.wrap (r.2.2.2 + 1))
def gone (r : Rc) : List Nat → Option Rc
  | [] => some r
  | i :: l => if at_ (inc r i) i = 0 then gone (inc r i) l else none
theorem gone_snoc (r : Rc) : ∀ (l : List Nat) (i : Nat), gone r (l ++ [i]) = (gone r l).bind fun s => if at_ (inc s i) i = 0 then some (inc s i) else none
  | [], i => by simp [gone]
  | j :: l, i => by
    simp only [List.cons_append, gone]
    split
    · exact gone_snoc _ l i
    · rfl
def nextR (r : Rc) : Rc :=
  if at_ (inc r 3) 3 ≠ 0 then inc r 3 else
  if at_ (inc (inc r 3) 2) 2 ≠ 0 then inc (inc r 3) 2 else
  if at_ (inc (inc (inc r 3) 2) 1) 1 ≠ 0 then inc (inc (inc r 3) 2) 1 else inc (inc (inc (inc r 3) 2) 1) 0
def bytes (r : Rc) : Array Value := #[.int .u8 r.1, .int .u8 r.2.1, .int .u8 r.2.2.1, .int .u8 r.2.2.2]

def Lies (W : World) (b : Nat) (r : Rc) : Prop := ∀ j, j < 4 → W.cell? ⟨b, j, none⟩ = some (.int .u8 (at_ r j)) ∧ W.frozen? ⟨b, j, none⟩ = false

theorem stop_at {r : Rc} {k : Nat} {l : List Nat} {i : Nat} {s : Rc} (h : l ++ [i] = idxs k) (hk : k ≤ 4) (hg : gone r l = some s) (hn : at_ (inc s i) i ≠ 0) : inc s i = nextR r := by
  have hk' : k = 0 ∨ k = 1 ∨ k = 2 ∨ k = 3 ∨ k = 4 := by omega
  rcases hk' with rfl | rfl | rfl | rfl | rfl
  · have := congrArg List.length h; simp [idxs] at this
  all_goals
    have h1 := congrArg List.dropLast h
    have h2 := congrArg List.getLast? h
    simp [idxs, List.range_succ] at h1 h2
    subst h1; subst h2
    simp only [gone] at hg
    (repeat' split at hg) <;> first | (cases hg; done) | (cases hg; simp [nextR, *])
theorem all_gone {r s : Rc} (hg : gone r (idxs 4) = some s) : s = nextR r := by
  simp only [idxs, List.range_succ, List.range_zero, List.nil_append, List.cons_append, List.map_cons, List.map_nil, gone, Nat.reduceSub] at hg
  (repeat' split at hg) <;> first | (cases hg; done) | (cases hg; simp [nextR, *])

def Zed (W : World) (b : Nat) : Prop := Lies W b (0, 0, 0, 0)
def II (w : World) (r : Rc) (pre : List Al) (W : World) : Prop := ∃ s, gone r (pre.map (·.1.1)) = some s ∧ Lies W w.heap.size s ∧ Zed W (w.heap.size + 1)
def IX (w : World) (r : Rc) (c : Code) (pre : List Al) (W : World) : Prop := c = .exit 0 ∧ ∃ l i s, pre.map (·.1.1) = l ++ [i] ∧ gone r l = some s ∧ at_ (inc s i) i ≠ 0 ∧ Lies W w.heap.size (inc s i) ∧ Zed W (w.heap.size + 1)
theorem at_inc_ne {r : Rc} {i j : Nat} (hi : i < 4) (hj : j < 4) (h : i ≠ j) : at_ (inc r i) j = at_ r j := by
  have hi' : i = 0 ∨ i = 1 ∨ i = 2 ∨ i = 3 := by omega
  have hj' : j = 0 ∨ j = 1 ∨ j = 2 ∨ j = 3 := by omega
  rcases hi' with rfl | rfl | rfl | rfl <;> rcases hj' with rfl | rfl | rfl | rfl <;> first | rfl | exact absurd rfl h
theorem at_inc_self {r : Rc} {i : Nat} (hi : i < 4) : at_ (inc r i) i = IntKind.u8.wrap (at_ r i + 1) := by
  have hi' : i = 0 ∨ i = 1 ∨ i = 2 ∨ i = 3 := by omega
  rcases hi' with rfl | rfl | rfl | rfl <;> rfl
theorem Lies.set {W : World} {b i : Nat} {r : Rc} (h : Lies W b r) (hi : i < 4) : Lies (W.setCell ⟨b, i, none⟩ (.int .u8 (IntKind.u8.wrap (at_ r i + 1)))) b (inc r i) := fun j hj => by
  rw [World.frozen?_setCell]
  refine ⟨?_, (h j hj).2⟩
  by_cases e : i = j
  · subst e
    rw [at_inc_self hi]
    exact World.cell?_setCell_same' _ _ _ (by rw [(h i hi).1]; rfl)
  · rw [at_inc_ne hi hj e]
    exact (World.cell?_setCell_other W ⟨b, i, none⟩ ⟨b, j, none⟩ _ (by simp only [ne_eq, Addr.mk.injEq]; omega)).trans (h j hj).1
theorem Lies.far {W : World} {b b' i : Nat} {r : Rc} {v : Value} (h : Lies W b r) (hb : b' ≠ b) : Lies (W.setCell ⟨b', i, none⟩ v) b r := fun j hj => by
  rw [World.frozen?_setCell]
  exact ⟨(World.cell?_setCell_other W ⟨b', i, none⟩ ⟨b, j, none⟩ _ (by simp only [ne_eq, Addr.mk.injEq]; omega)).trans (h j hj).1, (h j hj).2⟩
theorem lies_new (w : World) (r : Rc) (t : TypeId) : Lies (w.alloc (.cells (bytes r) t)) w.heap.size r := fun j hj => by
  have hj' : j = 0 ∨ j = 1 ∨ j = 2 ∨ j = 3 := by omega
  have hh := World.alloc_heap_new w (.cells (bytes r) t)
  rcases hj' with rfl | rfl | rfl | rfl <;> simp only [World.cell?, World.frozen?, hh] <;> simp [bytes, at_]
theorem one_new (w : World) (v : Value) (t : TypeId) : (w.alloc (.cells #[v] t)).cell? ⟨w.heap.size, 0, none⟩ = some v ∧ True := by
  have hh := World.alloc_heap_new w (.cells #[v] t)
  simp only [World.cell?, hh]; simp
theorem Lies.kept {A B : World} {b : Nat} {r : Rc} {row : Option Nat} (h : Lies A b r) (hg : A.grownBy B row) (hr : ∀ r, row = some r → ∃ o : Obj, A.heap[r]? = some o ∧ o.isCells = false) : Lies B b r := fun j hj => by
  obtain ⟨h1, h2⟩ := h j hj
  exact ⟨cell_kept h1 hg hr, (frozen_kept h1 hg hr).trans h2⟩
theorem Lies.alloc {W : World} {b : Nat} {r : Rc} (h : Lies W b r) (o : Obj) : Lies (W.alloc o) b r := h.kept (World.grownBy_alloc W o none) (fun r e => by cases e)
theorem Lies.hs {W : World} {b : Nat} {r : Rc} (h : Lies W b r) : (W.cell? ⟨b, 0, none⟩ = some (.int .u8 r.1) ∧ W.frozen? ⟨b, 0, none⟩ = false) ∧ (W.cell? ⟨b, 1, none⟩ = some (.int .u8 r.2.1) ∧ W.frozen? ⟨b, 1, none⟩ = false) ∧ (W.cell? ⟨b, 2, none⟩ = some (.int .u8 r.2.2.1) ∧ W.frozen? ⟨b, 2, none⟩ = false) ∧ (W.cell? ⟨b, 3, none⟩ = some (.int .u8 r.2.2.2) ∧ W.frozen? ⟨b, 3, none⟩ = false) :=
  ⟨h 0 (by omega), h 1 (by omega), h 2 (by omega), h 3 (by omega)⟩
theorem kp_b {b Bs : Nat} {w : World} (hBs : Bs < w.heap.size) (W : World) (l : Nat) (o o' : Obj) (hl : w.heap.size ≤ l) (h : W.heap[l]? = some o) (hc : o.isCells = false) (hw : o.isWalk = false) : Kp b Bs W (W.putObj l o') := by
  have hg := grownBy_putObj' W l o'
  have hr : ∀ r, some l = some r → ∃ o : Obj, W.heap[r]? = some o ∧ o.isCells = false := fun r e => by cases e; exact ⟨o, h, hc⟩
  exact ⟨(belowK_b (w := w) (Nat.le_refl _) W l o o' hl h hc hw).cell (p := ⟨Bs, 0, none⟩) hBs, fun j hj ⟨x, hx⟩ => ⟨x, cell_kept hx hg hr⟩⟩

def sets (W : World) (b : Nat) (r : Rc) : World := (((W.setCell ⟨b, 0, none⟩ (.int .u8 r.1)).setCell ⟨b, 1, none⟩ (.int .u8 r.2.1)).setCell ⟨b, 2, none⟩ (.int .u8 r.2.2.1)).setCell ⟨b, 3, none⟩ (.int .u8 r.2.2.2)
theorem oth (W : World) (b i j : Nat) (v : Value) (h : i ≠ j) : (W.setCell ⟨b, i, none⟩ v).cell? ⟨b, j, none⟩ = W.cell? ⟨b, j, none⟩ :=
  World.cell?_setCell_other W ⟨b, i, none⟩ ⟨b, j, none⟩ _ (by simp only [ne_eq, Addr.mk.injEq]; omega)
theorem sets_lies {W : World} {b : Nat} {s r : Rc} (h : Lies W b s) : Lies (sets W b r) b r := by
  obtain ⟨⟨c0, f0⟩, ⟨c1, f1⟩, ⟨c2, f2⟩, ⟨c3, f3⟩⟩ := h.hs
  have fr : ∀ j, (sets W b r).frozen? ⟨b, j, none⟩ = W.frozen? ⟨b, j, none⟩ := fun j => by
    unfold sets
    rw [World.frozen?_setCell, World.frozen?_setCell, World.frozen?_setCell, World.frozen?_setCell]
  have d0 : (sets W b r).cell? ⟨b, 0, none⟩ = some (.int .u8 r.1) := by
    unfold sets
    rw [oth _ b 3 0 _ (by omega), oth _ b 2 0 _ (by omega), oth _ b 1 0 _ (by omega)]
    exact World.cell?_setCell_same' _ _ _ (by rw [c0]; rfl)
  have d1 : (sets W b r).cell? ⟨b, 1, none⟩ = some (.int .u8 r.2.1) := by
    unfold sets
    rw [oth _ b 3 1 _ (by omega), oth _ b 2 1 _ (by omega)]
    exact World.cell?_setCell_same' _ _ _ (by rw [oth _ b 0 1 _ (by omega), c1]; rfl)
  have d2 : (sets W b r).cell? ⟨b, 2, none⟩ = some (.int .u8 r.2.2.1) := by
    unfold sets
    rw [oth _ b 3 2 _ (by omega)]
    exact World.cell?_setCell_same' _ _ _ (by rw [oth _ b 1 2 _ (by omega), oth _ b 0 2 _ (by omega), c2]; rfl)
  have d3 : (sets W b r).cell? ⟨b, 3, none⟩ = some (.int .u8 r.2.2.2) := by
    unfold sets
    exact World.cell?_setCell_same' _ _ _ (by rw [oth _ b 2 3 _ (by omega), oth _ b 1 3 _ (by omega), oth _ b 0 3 _ (by omega), c3]; rfl)
  intro j hj
  rw [fr]
  have hj' : j = 0 ∨ j = 1 ∨ j = 2 ∨ j = 3 := by omega
  rcases hj' with rfl | rfl | rfl | rfl
  · exact ⟨d0, f0⟩
  · exact ⟨d1, f1⟩
  · exact ⟨d2, f2⟩
  · exact ⟨d3, f3⟩
theorem sets_below {n : Nat} {w W : World} {b : Nat} (r : Rc) (h : Below n w W) (hb : n ≤ b) : Below n w (sets W b r) := (((h.setCell (p := ⟨b, 0, none⟩) hb _).setCell (p := ⟨b, 1, none⟩) hb _).setCell (p := ⟨b, 2, none⟩) hb _).setCell (p := ⟨b, 3, none⟩) hb _
theorem sets_keeps (W : World) (b : Nat) (r : Rc) {D : Nat} {o : Obj} (hK : W.heap[D]? = some o) (ho : o.isCells = false) : (sets W b r).heap[D]? = some o :=
  (KeepsOthers.setCell _ _ _).same D _ ((KeepsOthers.setCell _ _ _).same D _ ((KeepsOthers.setCell _ _ _).same D _ ((KeepsOthers.setCell _ _ _).same D _ hK ho) ho) ho) ho

set_option maxRecDepth 100000 in
set_option maxHeartbeats 4000000 in
theorem next_in (F : Fence) (n : Nat) (h3 : F.fn 128) (h5 : F.fn 137) (h6 : F.fn 140) (hro : F.round = none) (hn : 3 ≤ n) (r : Rc) (w : World) :
    CallsIn F n Tryz.prog 128 #[.agg (bytes r)] w fun e W' => e = .returned (.agg (bytes (nextR r))) ∧ Below w.heap.size w W' := by
  have h1 : 1 ≤ n := by omega
  refine callsIn_of_wp_marks Tryz.func128 rfl h3 ?_ hro
  unfold bytes
  simp only [Tryz.ntmps128, List.size_toArray, List.length_cons, List.length_nil, Nat.reduceAdd, Nat.reduceSub, Array.replicate_succ, Array.replicate_zero, List.push_toArray, List.append_toArray, List.nil_append, List.cons_append]
  gi_wp2_with (gi_at_call 137; refine (Backward_in F (n - 1) h5 hro _ _ _ _).mono ?_; rintro e w' ⟨rfl, rfl⟩)
  have hB0 : Below w.heap.size w (((w.alloc (.cells (bytes r) 26)).alloc (.cells (bytes (0, 0, 0, 0)) 26)).alloc (.cells #[.slice (some ⟨w.heap.size, 0, none⟩) 4 4] 105)) := (((Below.refl _ w).alloc (Nat.le_refl _) _).alloc (by simp) _).alloc (by simp; omega) _
  obtain ⟨W0, hW0⟩ : ∃ W0, (((w.alloc (.cells (bytes r) 26)).alloc (.cells (bytes (0, 0, 0, 0)) 26)).alloc (.cells #[.slice (some ⟨w.heap.size, 0, none⟩) 4 4] 105)) = W0 := ⟨_, rfl⟩
  have hsz : W0.heap.size = w.heap.size + 1 + 1 + 1 := by rw [← hW0]; simp
  have hL : Lies W0 w.heap.size r := by rw [← hW0]; exact ((lies_new w r _).alloc _).alloc _
  have hZ : Zed W0 (w.heap.size + 1) := by
    rw [← hW0]
    have := lies_new (w.alloc (.cells (bytes r) 26)) (0, 0, 0, 0) 26
    rw [World.size_alloc] at this
    exact this.alloc _
  have hS : W0.cell? ⟨w.heap.size + 1 + 1, 0, none⟩ = some (.slice (some ⟨w.heap.size, 0, none⟩) 4 4) := by
    rw [← hW0]
    have := (one_new ((w.alloc (.cells (bytes r) 26)).alloc (.cells (bytes (0, 0, 0, 0)) 26)) (.slice (some ⟨w.heap.size, 0, none⟩) 4 4) 105).1
    rw [World.size_alloc, World.size_alloc] at this
    exact this
  rw [hW0] at hB0
  unfold bytes at hW0
  simp only at hW0
  rw [hW0]
  refine wpIn_rangeFunc_ownF hro h1 (gf := 140) (lb := #[.pointer (some ⟨w.heap.size + 1 + 1, 0, none⟩)]) rfl h6 (enters_of Tryz.func140 (by kernel_rfl) rfl)
    (back_stops F (n - 1) h6 hro (by omega) (w.heap.size + 1 + 1) w.heap.size W0 (by omega) (by omega) hS (fun j hj => ⟨_, (hL j hj).1⟩))
    (fun h k => ⟨k.1.trans h.1, fun j hj hx => k.2 j hj (h.2 j hj hx)⟩) (kp_b (by omega)) (Below.refl _ _) (fun _ => rfl)
    (fun pre W => II w r pre W ∧ Below w.heap.size w W) (fun c pre W => IX w r c pre W ∧ Below w.heap.size w W) 
    (OwnFrom.and (Own.from (fun s A B row ⟨x, h1, h2, h3⟩ hg hr => ⟨x, h1, h2.kept hg (fun r e => (hr r e)), h3.kept hg (fun r e => (hr r e))⟩) _) (ownFrom_below (Nat.le_refl _) (by omega)))
    (fun c => OwnFrom.and (Own.from (fun s A B row ⟨e, l, i, x, h0, h1, h4, h2, h3⟩ hg hr => ⟨e, l, i, x, h0, h1, h4, h2.kept hg (fun r e => (hr r e)), h3.kept hg (fun r e => (hr r e))⟩) _) (ownFrom_below (Nat.le_refl _) (by omega)))
    ⟨⟨r, rfl, hL, hZ⟩, hB0⟩
    (fun x => { tmps := #[.agg #[.int .u8 r.1, .int .u8 r.2.1, .int .u8 r.2.2.1, .int .u8 r.2.2.2], .pointer (some ⟨w.heap.size, 0, none⟩), .pointer (some ⟨w.heap.size + 1, 0, none⟩), .int .i64 (x.1.1 : Int), .slice (some ⟨w.heap.size, 0, none⟩) 4 4, .func (.func 140) #[] #[.pointer (some ⟨w.heap.size + 1 + 1, 0, none⟩)], .int .i64 (x.1.1 : Int), .int .u8 x.2, undef, undef, undef, undef, undef, undef, undef, undef, undef, undef], defers := [] }) ?assign ?body ?done ?stop
  case assign =>
    intro l x W K hK
    unfold encs
    gi_wp2
    exact hK
  case body =>
    rintro l pre ⟨⟨i, hi⟩, y⟩ W ⟨⟨s, hg, hLs, hZs⟩, hB⟩ _
    have hi' : i = 0 ∨ i = 1 ∨ i = 2 ∨ i = 3 := by omega
    obtain ⟨⟨c0, f0⟩, ⟨c1, f1⟩, ⟨c2, f2⟩, ⟨c3, f3⟩⟩ := hLs.hs
    rcases hi' with rfl | rfl | rfl | rfl
    all_goals
      gi_wp2
      · rename_i hne
        have hset := hLs.set hi
        rw [IntKind.wrap_u8] at hset
        refine ⟨KeepsOthers.setCell _ _ _, ⟨rfl, pre.map (·.1.1), _, s, by rw [List.map_append]; rfl, hg, ?_, hset, hZs.far (b' := w.heap.size) (by omega)⟩, hB.setCell (Nat.le_refl _) _⟩
        rw [at_inc_self hi, IntKind.wrap_u8]
        simpa [at_] using hne
      · rename_i hne
        have hset := hLs.set hi
        rw [IntKind.wrap_u8] at hset
        refine ⟨KeepsOthers.setCell _ _ _, ⟨World.cell?_setCell_other _ _ _ _ (by simp only [ne_eq, Addr.mk.injEq]; omega), fun j hj _ => ⟨_, (hset j hj).1⟩⟩, ⟨_, ?_, hset, hZs.far (b' := w.heap.size) (by omega)⟩, hB.setCell (Nat.le_refl _) _⟩
        rw [List.map_append, List.map_cons, List.map_nil, gone_snoc, hg]
        simp only [Option.bind_some]
        rw [if_pos]
        rw [at_inc_self hi, IntKind.wrap_u8]
        simpa [at_] using hne
  case done =>
    rintro D ys W hD hys ⟨⟨s, hg, hLs, hZs⟩, hB⟩ hK
    rw [hys] at hg
    have hs := all_gone hg
    subst hs
    obtain ⟨⟨c0, f0⟩, ⟨c1, f1⟩, ⟨c2, f2⟩, ⟨c3, f3⟩⟩ := hLs.hs
    obtain ⟨⟨d0, g0⟩, ⟨d1, g1⟩, ⟨d2, g2⟩, ⟨d3, g3⟩⟩ := hZs.hs
    gi_wp2
    show bodyPostM _ _ _ _ _ _ _ (sets W (w.heap.size + 1) (nextR r))
    have hK' := sets_keeps W (w.heap.size + 1) (nextR r) hK rfl
    have hB' := sets_below (nextR r) hB (show w.heap.size ≤ w.heap.size + 1 by omega)
    refine ⟨by simp, .inl ⟨_, _, rfl, run_takeDeferred hK', ?_⟩⟩
    have hfin := (sets_lies (r := nextR r) hZs).kept (grownBy_putObj' _ D (.deferred none)) (fun r e => by cases e; exact ⟨_, hK', rfl⟩)
    obtain ⟨⟨e0, _⟩, ⟨e1, _⟩, ⟨e2, _⟩, ⟨e3, _⟩⟩ := hfin.hs
    refine ⟨.agg (bytes (nextR r)), ?_, rfl, hB'.trans (belowK_b (w := w) (Nat.le_refl _) _ D _ _ (by omega) hK' rfl rfl)⟩
    simp [results, Tryz.f128, go_sem, e0, e1, e2, e3, bytes]
  case stop =>
    rintro D c pre W hD ⟨k, hk, hp⟩ ⟨⟨rfl, l, i, s, h0, hg, hne, hLs, hZs⟩, hB⟩ hK
    rw [h0] at hp
    have hs := stop_at hp hk hg hne
    rw [hs] at hLs
    obtain ⟨⟨c0, f0⟩, ⟨c1, f1⟩, ⟨c2, f2⟩, ⟨c3, f3⟩⟩ := hLs.hs
    obtain ⟨⟨d0, g0⟩, ⟨d1, g1⟩, ⟨d2, g2⟩, ⟨d3, g3⟩⟩ := hZs.hs
    gi_wp2
    show bodyPostM _ _ _ _ _ _ _ (sets W (w.heap.size + 1) (nextR r))
    have hK' := sets_keeps W (w.heap.size + 1) (nextR r) hK rfl
    have hB' := sets_below (nextR r) hB (show w.heap.size ≤ w.heap.size + 1 by omega)
    refine ⟨by simp, .inl ⟨_, _, rfl, run_takeDeferred hK', ?_⟩⟩
    have hfin := (sets_lies (r := nextR r) hZs).kept (grownBy_putObj' _ D (.deferred none)) (fun r e => by cases e; exact ⟨_, hK', rfl⟩)
    obtain ⟨⟨e0, _⟩, ⟨e1, _⟩, ⟨e2, _⟩, ⟨e3, _⟩⟩ := hfin.hs
    refine ⟨.agg (bytes (nextR r)), ?_, rfl, hB'.trans (belowK_b (w := w) (Nat.le_refl _) _ D _ _ (by omega) hK' rfl rfl)⟩
    simp [results, Tryz.f128, go_sem, e0, e1, e2, e3, bytes]

theorem next_calls (r : Rc) (w : World) : Calls Tryz.prog 128 #[.agg (bytes r)] w fun e W' => e = .returned (.agg (bytes (nextR r))) ∧ Below w.heap.size w W' :=
  (callsIn_wide (n := 3)).1 (next_in Fence.wide 3 trivial trivial trivial rfl (by omega) r w)
end Go.Proofs.YtamlipffhimfmaaGreatDoor.Nxt

/- file.Do: what it comes to. -/
namespace Go.Proofs.YtamlipffhimfmaaGreatDoor.File
set_option linter.unusedSimpArgs false
set_option linter.unusedVariables false
open Go Go.AX Go.Proofs Ty
set_option maxHeartbeats 4000000
set_option maxRecDepth 10000

theorem Clone_at (R : List Rc) (base : Option Addr) (cap : Nat) (H : AH) (hs : SlcIn H 4 base cap (R.map enc)) (hR : R.length ≤ 4096) (h0 : R.length ≠ 0) :
    ACalls Tryz.prog 88 #[.slice base R.length cap] H (fun v H' => ∃ b c bs, Fresh H b ∧ v = .slice (some ⟨b, 0, none⟩) R.length c ∧ R.length ≤ c ∧ R.length * 4 ≤ bs ∧ H' = H.add b (.cells (R.map enc).flatten 26 bs)) :=
  (Clone_c R base cap H hs hR).monoW fun v H' ⟨b', c', hv, hO, hK⟩ => by
    rcases hO.at_ with ⟨_, h, _⟩ | ⟨b, bs, rfl, h1, h2, h3⟩
    · rw [List.map_eq_nil_iff] at h; subst h; exact absurd rfl h0
    · have hle := hO.le
      rw [List.length_map] at hle
      exact ⟨_, AH.le_cons h1 (hK.all), b, c', bs, h3, hv, hle, Nat.le_trans (Nat.mul_le_mul_right _ hle) h2, rfl⟩
theorem next_c (r : Rc) (H : AH) : ACalls Tryz.prog 128 #[.agg (enc r).toArray] H (fun v H' => v = .agg (enc (Nxt.nextR r)).toArray ∧ H = H') := ACalls.of_calls (Nxt.next_calls r)

def doR (R : List Rc) (op : Int) (rec : Nat) (v : Rc) : List Rc := if op = 1 then R.set rec v else if op = 2 then R.set rec (Nxt.nextR (R.getD rec zr)) else R
def dbad (e : Int) : Value := .tuple #[.agg #[.int .i64 0, .slice none 0 0], .agg (enc zr).toArray, .int .i64 e]
theorem enc_take (r : Rc) : (enc r).take 4 = enc r := rfl
theorem enc_z4 (r : Rc) : lput [.int .u8 0, .int .u8 0, .int .u8 0, .int .u8 0] 0 (enc r) = enc r := rfl
theorem flat4 (L : List Rc) : (L.map enc).flatten.length = L.length * 4 := by rw [flat_len (rows4 L), List.length_map]
theorem row4 {L : List Rc} {i : Nat} {r : Rc} (h : L[i]? = some r) : ((L.map enc).flatten.drop (i * 4)).take 4 = enc r := flat_row (rows4 L) i _ (map_get h)
theorem put4 {L : List Rc} {i : Nat} (r : Rc) (h : i < L.length) : lput (L.map enc).flatten (i * 4) (enc r) = ((L.set i r).map enc).flatten := by
  rw [flat_lput (rows4 L) i (enc r) (by rw [List.length_map]; exact h) rfl, List.map_set]
theorem getD4 {L : List Rc} {i : Nat} {r : Rc} (h : L[i]? = some r) : L.getD i zr = r := by rw [List.getD_eq_getElem?_getD, h]; rfl
theorem mayF_ok {p op : Int} {rec : Int} {R : List Rc} (h : mayF p R op rec = 0) : goodF p R = true ∧ 0 ≤ op ∧ op ≤ 2 ∧ 0 ≤ rec ∧ rec < R.length ∧ R.length ≤ 256 ∧ 0 ≤ p ∧ p ≤ 7 := by
  unfold mayF at h
  split at h
  · cases h
  · rename_i g
    simp only [Bool.not_eq_false] at g
    obtain ⟨h0, h1, h2, h3⟩ := goodF_p g
    split at h
    · cases h
    · split at h
      · cases h
      · exact ⟨g, by omega, by omega, by omega, by omega, h3, h0, h1⟩
theorem Do_bad (p op rec : Int) (R : List Rc) (v : Rc) (base : Option Addr) (cap : Nat) (H : AH) (hs : SlcIn H 4 base cap (R.map enc)) (hm : ¬ mayF p R op rec = 0) :
    ACalls Tryz.prog 111 #[fv p base R.length cap, .int .i64 op, .int .i64 rec, .agg (enc v).toArray] H (fun v H' => v = dbad (mayF p R op rec) ∧ H = H') := by
  unfold fv
  have hg := fun H1 (h1 : SlcIn H1 4 base cap (R.map enc)) => may_c p op rec R base cap H1 h1
  unfold fv at hg
  refine ACalls.enter2 Tryz.func111 rfl Tryz.ntmps111 Tryz.results111 (by simp) ?_; simp (dsimp := false) (maxSteps := 4000000) only [hm, go_sem]
  refine AllB.mk fun b4 h_b4 => ?_; have hn_b4 := h_b4; (try simp only [fresh_add, fresh_set, ne_eq] at hn_b4); have hr_b4 := hn_b4; (try simp only [@eq_comm Nat b4] at hr_b4); simp (dsimp := false) (maxSteps := 4000000) only [hm, hn_b4, hr_b4, go_sem]
  refine AllB.mk fun b7 h_b7 => ?_; have hn_b7 := h_b7; (try simp only [fresh_add, fresh_set, ne_eq] at hn_b7); have hr_b7 := hn_b7; (try simp only [@eq_comm Nat b7] at hr_b7); simp (dsimp := false) (maxSteps := 4000000) only [hm, hn_b4, hr_b4, hn_b7, hr_b7, go_sem]
  refine AllB.mk fun b8 h_b8 => ?_; have hn_b8 := h_b8; (try simp only [fresh_add, fresh_set, ne_eq] at hn_b8); have hr_b8 := hn_b8; (try simp only [@eq_comm Nat b8] at hr_b8); simp (dsimp := false) (maxSteps := 4000000) only [hm, hn_b4, hr_b4, hn_b7, hr_b7, hn_b8, hr_b8, go_sem]
  refine AllB.mk fun b9 h_b9 => ?_; have hn_b9 := h_b9; (try simp only [fresh_add, fresh_set, ne_eq] at hn_b9); have hr_b9 := hn_b9; (try simp only [@eq_comm Nat b9] at hr_b9); simp (dsimp := false) (maxSteps := 4000000) only [hm, hn_b4, hr_b4, hn_b7, hr_b7, hn_b8, hr_b8, hn_b9, hr_b9, go_sem]
  refine (hg _ ((((hs.add h_b4).add h_b7).add h_b8).add h_b9)).mono ?_; rintro _ _ ⟨rfl, rfl⟩
  simp (dsimp := false) (maxSteps := 4000000) only [hm, hn_b4, hr_b4, hn_b7, hr_b7, hn_b8, hr_b8, hn_b9, hr_b9, go_sem]
  exact ⟨H, (AH.le_add (AH.le_add (AH.le_add (AH.le_add (AH.le_refl _) ((by simp only [hm, fresh_add, fresh_set, ne_eq, hn_b4, not_false_eq_true, and_self] : Fresh _ b4).2)) ((by simp only [hm, fresh_add, fresh_set, ne_eq, hn_b7, not_false_eq_true, and_self] : Fresh _ b7).2)) ((by simp only [hm, fresh_add, fresh_set, ne_eq, hn_b8, not_false_eq_true, and_self] : Fresh _ b8).2)) ((by simp only [hm, fresh_add, fresh_set, ne_eq, hn_b9, not_false_eq_true, and_self] : Fresh _ b9).2)), (by first | exact ⟨rfl, rfl⟩ | rfl)⟩
theorem Do_ok (p op : Int) (rec : Nat) (R : List Rc) (v : Rc) (base : Option Addr) (cap : Nat) (H : AH) (hs : SlcIn H 4 base cap (R.map enc)) (hm : mayF p R op rec = 0) :
    ACalls Tryz.prog 111 #[fv p base R.length cap, .int .i64 op, .int .i64 rec, .agg (enc v).toArray] H (fun x H' => ∃ b bs, Fresh H b ∧ x = .tuple #[fv p (some ⟨b, 0, none⟩) R.length R.length, .agg (enc ((doR R op rec v).getD rec zr)).toArray, .int .i64 0] ∧ R.length * 4 ≤ bs ∧ H' = H.add b (.cells ((doR R op rec v).map enc).flatten 26 bs)) := by
  obtain ⟨hgd, ho0, ho1, hr0, hr1, hR, hp0, hp1⟩ := mayF_ok hm
  obtain ⟨r0, hr0_⟩ := get_some (l := R) (i := rec) (by omega)
  have hl4 := flat4 R
  have c4 : rec * 4 + 4 ≤ R.length * 4 := by omega
  have c5 : 0 + (rec * 4) + 4 ≤ R.length * 4 := by omega
  have c6 : 0 + (R.length * 4) ≤ R.length * 4 := by omega
  have hbs : True := trivial
  unfold fv
  have hg := fun H1 (h1 : SlcIn H1 4 base cap (R.map enc)) => may_c p op rec R base cap H1 h1
  unfold fv at hg
  refine ACalls.enter2 Tryz.func111 rfl Tryz.ntmps111 Tryz.results111 (by simp) ?_; simp (dsimp := false) (maxSteps := 4000000) only [hm, hr1, enc_len, enc_scal, enc_take, enc_z4, hbs, hl4, c4, c5, c6, go_sem]
  refine AllB.mk fun b4 h_b4 => ?_; have hn_b4 := h_b4; (try simp only [fresh_add, fresh_set, ne_eq] at hn_b4); have hr_b4 := hn_b4; (try simp only [@eq_comm Nat b4] at hr_b4); simp (dsimp := false) (maxSteps := 4000000) only [hm, hr1, enc_len, enc_scal, enc_take, enc_z4, hbs, hl4, c4, c5, c6, hn_b4, hr_b4, go_sem]
  refine AllB.mk fun b7 h_b7 => ?_; have hn_b7 := h_b7; (try simp only [fresh_add, fresh_set, ne_eq] at hn_b7); have hr_b7 := hn_b7; (try simp only [@eq_comm Nat b7] at hr_b7); simp (dsimp := false) (maxSteps := 4000000) only [hm, hr1, enc_len, enc_scal, enc_take, enc_z4, hbs, hl4, c4, c5, c6, hn_b4, hr_b4, hn_b7, hr_b7, go_sem]
  refine AllB.mk fun b8 h_b8 => ?_; have hn_b8 := h_b8; (try simp only [fresh_add, fresh_set, ne_eq] at hn_b8); have hr_b8 := hn_b8; (try simp only [@eq_comm Nat b8] at hr_b8); simp (dsimp := false) (maxSteps := 4000000) only [hm, hr1, enc_len, enc_scal, enc_take, enc_z4, hbs, hl4, c4, c5, c6, hn_b4, hr_b4, hn_b7, hr_b7, hn_b8, hr_b8, go_sem]
  refine AllB.mk fun b9 h_b9 => ?_; have hn_b9 := h_b9; (try simp only [fresh_add, fresh_set, ne_eq] at hn_b9); have hr_b9 := hn_b9; (try simp only [@eq_comm Nat b9] at hr_b9); simp (dsimp := false) (maxSteps := 4000000) only [hm, hr1, enc_len, enc_scal, enc_take, enc_z4, hbs, hl4, c4, c5, c6, hn_b4, hr_b4, hn_b7, hr_b7, hn_b8, hr_b8, hn_b9, hr_b9, go_sem]
  refine (hg _ ((((hs.add h_b4).add h_b7).add h_b8).add h_b9)).mono ?_; rintro _ _ ⟨rfl, rfl⟩
  simp (dsimp := false) (maxSteps := 4000000) only [hm, hr1, enc_len, enc_scal, enc_take, enc_z4, hbs, hl4, c4, c5, c6, hn_b4, hr_b4, hn_b7, hr_b7, hn_b8, hr_b8, hn_b9, hr_b9, go_sem]
  refine (Clone_at R base cap _ ((((hs.add h_b4).add h_b7).add h_b8).add h_b9) (by omega) (by omega)).mono ?_; rintro _ _ ⟨bl, cl, bs, h_bl, rfl, hcl, hbs, rfl⟩
  have hn_bl := h_bl; (try simp only [fresh_add, fresh_set, ne_eq] at hn_bl); have hr_bl := hn_bl; (try simp only [@eq_comm Nat bl] at hr_bl)
  simp (dsimp := false) (maxSteps := 4000000) only [hm, hr1, enc_len, enc_scal, enc_take, enc_z4, hbs, hl4, c4, c5, c6, hn_b4, hr_b4, hn_b7, hr_b7, hn_b8, hr_b8, hn_b9, hr_b9, hn_bl, hr_bl, go_sem]
  refine (Clip_c _ _ _ _ hcl).mono ?_; rintro _ _ ⟨rfl, rfl⟩
  simp (dsimp := false) (maxSteps := 4000000) only [hm, hr1, enc_len, enc_scal, enc_take, enc_z4, hbs, hl4, c4, c5, c6, hn_b4, hr_b4, hn_b7, hr_b7, hn_b8, hr_b8, hn_b9, hr_b9, hn_bl, hr_bl, go_sem]
  by_cases a : op = 1
  · subst a
    have hp := put4 v (L := R) (i := rec) (by omega)
    have hs_ : (R.set rec v)[rec]? = some v := by rw [List.getElem?_set_self (by omega)]
    have hrow := row4 hs_
    simp (dsimp := false) (maxSteps := 4000000) only [hp, hm, hr1, enc_len, enc_scal, enc_take, enc_z4, hbs, hl4, c4, c5, c6, hn_b4, hr_b4, hn_b7, hr_b7, hn_b8, hr_b8, hn_b9, hr_b9, hn_bl, hr_bl, go_sem]
    refine AWp.gen [.rd, .pu, .rd, .pu, .pu, .rd, .ch, .ch, .pu] [0, 0, 2, 0, 14, 30, 1, 127, 255] 7 ((H.add b4 (.cells [.int .i64 p, .slice (some ⟨bl, 0, none⟩) R.length R.length] 72 2)).add bl (.cells ((R.set rec v).map enc).flatten 26 bs)) mixed (by kernel_rfl) (?_) ?_
    · exact (by refine AH.le_cons ?_ ?_; (show AH.find _ _ = _; simp only [find_add_self, find_add_ne, find_fresh, fresh_add, fresh_set, ne_eq, not_false_eq_true, true_and, and_true, and_self, hm, hr1, enc_len, enc_scal, enc_take, enc_z4, hbs, hl4, c4, c5, c6, hn_b4, hr_b4, hn_b7, hr_b7, hn_b8, hr_b8, hn_b9, hr_b9, hn_bl, hr_bl]); refine AH.le_cons ?_ ?_; (show AH.find _ _ = _; simp only [find_add_self, find_add_ne, find_fresh, fresh_add, fresh_set, ne_eq, not_false_eq_true, true_and, and_true, and_self, hm, hr1, enc_len, enc_scal, enc_take, enc_z4, hbs, hl4, c4, c5, c6, hn_b4, hr_b4, hn_b7, hr_b7, hn_b8, hr_b8, hn_b9, hr_b9, hn_bl, hr_bl]); (repeat (first | exact AH.le_refl _ | refine AH.le_add ?_ ?_)); all_goals (first | exact AH.le_refl _ | (show AH.find _ _ = _; simp only [find_add_self, find_add_ne, find_fresh, fresh_add, fresh_set, ne_eq, not_false_eq_true, true_and, and_true, and_self, hm, hr1, enc_len, enc_scal, enc_take, enc_z4, hbs, hl4, c4, c5, c6, hn_b4, hr_b4, hn_b7, hr_b7, hn_b8, hr_b8, hn_b9, hr_b9, hn_bl, hr_bl])))
    have hl4' := flat4 (R.set rec v)
    rw [List.length_set] at hl4'
    simp (dsimp := false) (maxSteps := 4000000) only [hl4', hrow, hm, hr1, enc_len, enc_scal, enc_take, enc_z4, hbs, hl4, c4, c5, c6, hn_b4, hr_b4, hn_b7, hr_b7, hn_b8, hr_b8, hn_b9, hr_b9, hn_bl, hr_bl, go_sem]
    refine ⟨(by refine AH.le_cons ?_ ?_; (show AH.find _ _ = _; simp only [find_add_self, find_add_ne, find_fresh, fresh_add, fresh_set, ne_eq, not_false_eq_true, true_and, and_true, and_self, hm, hr1, enc_len, enc_scal, enc_take, enc_z4, hbs, hl4, c4, c5, c6, hn_b4, hr_b4, hn_b7, hr_b7, hn_b8, hr_b8, hn_b9, hr_b9, hn_bl, hr_bl]); refine AH.le_cons ?_ ?_; (show AH.find _ _ = _; simp only [find_add_self, find_add_ne, find_fresh, fresh_add, fresh_set, ne_eq, not_false_eq_true, true_and, and_true, and_self, hm, hr1, enc_len, enc_scal, enc_take, enc_z4, hbs, hl4, c4, c5, c6, hn_b4, hr_b4, hn_b7, hr_b7, hn_b8, hr_b8, hn_b9, hr_b9, hn_bl, hr_bl]); (repeat (first | exact AH.le_refl _ | refine AH.le_add ?_ ?_)); all_goals (first | exact AH.le_refl _ | (show AH.find _ _ = _; simp only [find_add_self, find_add_ne, find_fresh, fresh_add, fresh_set, ne_eq, not_false_eq_true, true_and, and_true, and_self, hm, hr1, enc_len, enc_scal, enc_take, enc_z4, hbs, hl4, c4, c5, c6, hn_b4, hr_b4, hn_b7, hr_b7, hn_b8, hr_b8, hn_b9, hr_b9, hn_bl, hr_bl]))), ?_⟩
    have hd1 : doR R 1 rec v = R.set rec v := by simp [doR]
    rw [hd1]
    exact ⟨_, (by refine AH.le_cons ?_ ?_; (show AH.find _ _ = _; simp only [find_add_self, find_add_ne, find_fresh, fresh_add, fresh_set, ne_eq, not_false_eq_true, true_and, and_true, and_self, hm, hr1, enc_len, enc_scal, enc_take, enc_z4, hbs, hl4, c4, c5, c6, hn_b4, hr_b4, hn_b7, hr_b7, hn_b8, hr_b8, hn_b9, hr_b9, hn_bl, hr_bl]); (repeat (first | exact AH.le_refl _ | refine AH.le_add ?_ ?_)); all_goals (first | exact AH.le_refl _ | (show AH.find _ _ = _; simp only [find_add_self, find_add_ne, find_fresh, fresh_add, fresh_set, ne_eq, not_false_eq_true, true_and, and_true, and_self, hm, hr1, enc_len, enc_scal, enc_take, enc_z4, hbs, hl4, c4, c5, c6, hn_b4, hr_b4, hn_b7, hr_b7, hn_b8, hr_b8, hn_b9, hr_b9, hn_bl, hr_bl]))), bl, bs, hn_bl.2.2.2.2, by rw [getD4 hs_], hbs, rfl⟩
  by_cases b : op = 2
  · subst b
    have hp := put4 (Nxt.nextR r0) (L := R) (i := rec) (by omega)
    have hs_ : (R.set rec (Nxt.nextR r0))[rec]? = some (Nxt.nextR r0) := by rw [List.getElem?_set_self (by omega)]
    have hrow0 := row4 hr0_
    have hrow := row4 hs_
    simp (dsimp := false) (maxSteps := 4000000) only [hm, hr1, enc_len, enc_scal, enc_take, enc_z4, hbs, hl4, c4, c5, c6, hn_b4, hr_b4, hn_b7, hr_b7, hn_b8, hr_b8, hn_b9, hr_b9, hn_bl, hr_bl, go_sem]
    refine AWp.gen [.pu, .rd, .pu, .pu, .rd, .pu, .pu, .rd, .ch, .pu, .ch] [0, 1, 0, 0, 8, 0, 56, 120, 248, 511, 1023] 9 (_) mixed (by kernel_rfl) (AH.le_refl _) ?_
    simp (dsimp := false) (maxSteps := 4000000) only [hrow0, hm, hr1, enc_len, enc_scal, enc_take, enc_z4, hbs, hl4, c4, c5, c6, hn_b4, hr_b4, hn_b7, hr_b7, hn_b8, hr_b8, hn_b9, hr_b9, hn_bl, hr_bl, go_sem]
    refine (next_c r0 _).mono ?_; rintro _ _ ⟨rfl, rfl⟩
    simp (dsimp := false) (maxSteps := 4000000) only [hp, AH.le_refl, hm, hr1, enc_len, enc_scal, enc_take, enc_z4, hbs, hl4, c4, c5, c6, hn_b4, hr_b4, hn_b7, hr_b7, hn_b8, hr_b8, hn_b9, hr_b9, hn_bl, hr_bl, go_sem]
    refine AWp.gen [.rd, .pu, .rd, .pu, .pu, .rd, .ch, .ch, .pu] [0, 0, 2, 0, 14, 30, 1, 127, 255] 7 ((H.add b4 (.cells [.int .i64 p, .slice (some ⟨bl, 0, none⟩) R.length R.length] 72 2)).add bl (.cells ((R.set rec (Nxt.nextR r0)).map enc).flatten 26 bs)) mixed (by kernel_rfl) (?_) ?_
    · exact (by refine AH.le_cons ?_ ?_; (show AH.find _ _ = _; simp only [find_add_self, find_add_ne, find_fresh, fresh_add, fresh_set, ne_eq, not_false_eq_true, true_and, and_true, and_self, hm, hr1, enc_len, enc_scal, enc_take, enc_z4, hbs, hl4, c4, c5, c6, hn_b4, hr_b4, hn_b7, hr_b7, hn_b8, hr_b8, hn_b9, hr_b9, hn_bl, hr_bl]); refine AH.le_cons ?_ ?_; (show AH.find _ _ = _; simp only [find_add_self, find_add_ne, find_fresh, fresh_add, fresh_set, ne_eq, not_false_eq_true, true_and, and_true, and_self, hm, hr1, enc_len, enc_scal, enc_take, enc_z4, hbs, hl4, c4, c5, c6, hn_b4, hr_b4, hn_b7, hr_b7, hn_b8, hr_b8, hn_b9, hr_b9, hn_bl, hr_bl]); (repeat (first | exact AH.le_refl _ | refine AH.le_add ?_ ?_)); all_goals (first | exact AH.le_refl _ | (show AH.find _ _ = _; simp only [find_add_self, find_add_ne, find_fresh, fresh_add, fresh_set, ne_eq, not_false_eq_true, true_and, and_true, and_self, hm, hr1, enc_len, enc_scal, enc_take, enc_z4, hbs, hl4, c4, c5, c6, hn_b4, hr_b4, hn_b7, hr_b7, hn_b8, hr_b8, hn_b9, hr_b9, hn_bl, hr_bl])))
    have hl4' := flat4 (R.set rec (Nxt.nextR r0))
    rw [List.length_set] at hl4'
    simp (dsimp := false) (maxSteps := 4000000) only [hl4', hrow, hm, hr1, enc_len, enc_scal, enc_take, enc_z4, hbs, hl4, c4, c5, c6, hn_b4, hr_b4, hn_b7, hr_b7, hn_b8, hr_b8, hn_b9, hr_b9, hn_bl, hr_bl, go_sem]
    refine ⟨(by refine AH.le_cons ?_ ?_; (show AH.find _ _ = _; simp only [find_add_self, find_add_ne, find_fresh, fresh_add, fresh_set, ne_eq, not_false_eq_true, true_and, and_true, and_self, hm, hr1, enc_len, enc_scal, enc_take, enc_z4, hbs, hl4, c4, c5, c6, hn_b4, hr_b4, hn_b7, hr_b7, hn_b8, hr_b8, hn_b9, hr_b9, hn_bl, hr_bl]); refine AH.le_cons ?_ ?_; (show AH.find _ _ = _; simp only [find_add_self, find_add_ne, find_fresh, fresh_add, fresh_set, ne_eq, not_false_eq_true, true_and, and_true, and_self, hm, hr1, enc_len, enc_scal, enc_take, enc_z4, hbs, hl4, c4, c5, c6, hn_b4, hr_b4, hn_b7, hr_b7, hn_b8, hr_b8, hn_b9, hr_b9, hn_bl, hr_bl]); (repeat (first | exact AH.le_refl _ | refine AH.le_add ?_ ?_)); all_goals (first | exact AH.le_refl _ | (show AH.find _ _ = _; simp only [find_add_self, find_add_ne, find_fresh, fresh_add, fresh_set, ne_eq, not_false_eq_true, true_and, and_true, and_self, hm, hr1, enc_len, enc_scal, enc_take, enc_z4, hbs, hl4, c4, c5, c6, hn_b4, hr_b4, hn_b7, hr_b7, hn_b8, hr_b8, hn_b9, hr_b9, hn_bl, hr_bl]))), ?_⟩
    have hd1 : doR R 2 rec v = R.set rec (Nxt.nextR r0) := by rw [doR, if_neg (by omega), if_pos rfl, getD4 hr0_]
    rw [hd1]
    exact ⟨_, (by refine AH.le_cons ?_ ?_; (show AH.find _ _ = _; simp only [find_add_self, find_add_ne, find_fresh, fresh_add, fresh_set, ne_eq, not_false_eq_true, true_and, and_true, and_self, hm, hr1, enc_len, enc_scal, enc_take, enc_z4, hbs, hl4, c4, c5, c6, hn_b4, hr_b4, hn_b7, hr_b7, hn_b8, hr_b8, hn_b9, hr_b9, hn_bl, hr_bl]); (repeat (first | exact AH.le_refl _ | refine AH.le_add ?_ ?_)); all_goals (first | exact AH.le_refl _ | (show AH.find _ _ = _; simp only [find_add_self, find_add_ne, find_fresh, fresh_add, fresh_set, ne_eq, not_false_eq_true, true_and, and_true, and_self, hm, hr1, enc_len, enc_scal, enc_take, enc_z4, hbs, hl4, c4, c5, c6, hn_b4, hr_b4, hn_b7, hr_b7, hn_b8, hr_b8, hn_b9, hr_b9, hn_bl, hr_bl]))), bl, bs, hn_bl.2.2.2.2, by rw [getD4 hs_], hbs, rfl⟩
  have hrow := row4 hr0_
  simp (dsimp := false) (maxSteps := 4000000) only [a, b, hm, hr1, enc_len, enc_scal, enc_take, enc_z4, hbs, hl4, c4, c5, c6, hn_b4, hr_b4, hn_b7, hr_b7, hn_b8, hr_b8, hn_b9, hr_b9, hn_bl, hr_bl, go_sem]
  refine AWp.gen [.rd, .pu, .rd, .pu, .pu, .rd, .ch, .ch, .pu] [0, 0, 2, 0, 14, 30, 1, 127, 255] 7 ((H.add b4 (.cells [.int .i64 p, .slice (some ⟨bl, 0, none⟩) R.length R.length] 72 2)).add bl (.cells (R.map enc).flatten 26 bs)) mixed (by kernel_rfl) (?_) ?_
  · exact (by refine AH.le_cons ?_ ?_; (show AH.find _ _ = _; simp only [find_add_self, find_add_ne, find_fresh, fresh_add, fresh_set, ne_eq, not_false_eq_true, true_and, and_true, and_self, hm, hr1, enc_len, enc_scal, enc_take, enc_z4, hbs, hl4, c4, c5, c6, hn_b4, hr_b4, hn_b7, hr_b7, hn_b8, hr_b8, hn_b9, hr_b9, hn_bl, hr_bl]); refine AH.le_cons ?_ ?_; (show AH.find _ _ = _; simp only [find_add_self, find_add_ne, find_fresh, fresh_add, fresh_set, ne_eq, not_false_eq_true, true_and, and_true, and_self, hm, hr1, enc_len, enc_scal, enc_take, enc_z4, hbs, hl4, c4, c5, c6, hn_b4, hr_b4, hn_b7, hr_b7, hn_b8, hr_b8, hn_b9, hr_b9, hn_bl, hr_bl]); (repeat (first | exact AH.le_refl _ | refine AH.le_add ?_ ?_)); all_goals (first | exact AH.le_refl _ | (show AH.find _ _ = _; simp only [find_add_self, find_add_ne, find_fresh, fresh_add, fresh_set, ne_eq, not_false_eq_true, true_and, and_true, and_self, hm, hr1, enc_len, enc_scal, enc_take, enc_z4, hbs, hl4, c4, c5, c6, hn_b4, hr_b4, hn_b7, hr_b7, hn_b8, hr_b8, hn_b9, hr_b9, hn_bl, hr_bl])))
  simp (dsimp := false) (maxSteps := 4000000) only [hrow, hm, hr1, enc_len, enc_scal, enc_take, enc_z4, hbs, hl4, c4, c5, c6, hn_b4, hr_b4, hn_b7, hr_b7, hn_b8, hr_b8, hn_b9, hr_b9, hn_bl, hr_bl, go_sem]
  refine ⟨(by refine AH.le_cons ?_ ?_; (show AH.find _ _ = _; simp only [find_add_self, find_add_ne, find_fresh, fresh_add, fresh_set, ne_eq, not_false_eq_true, true_and, and_true, and_self, hm, hr1, enc_len, enc_scal, enc_take, enc_z4, hbs, hl4, c4, c5, c6, hn_b4, hr_b4, hn_b7, hr_b7, hn_b8, hr_b8, hn_b9, hr_b9, hn_bl, hr_bl]); refine AH.le_cons ?_ ?_; (show AH.find _ _ = _; simp only [find_add_self, find_add_ne, find_fresh, fresh_add, fresh_set, ne_eq, not_false_eq_true, true_and, and_true, and_self, hm, hr1, enc_len, enc_scal, enc_take, enc_z4, hbs, hl4, c4, c5, c6, hn_b4, hr_b4, hn_b7, hr_b7, hn_b8, hr_b8, hn_b9, hr_b9, hn_bl, hr_bl]); (repeat (first | exact AH.le_refl _ | refine AH.le_add ?_ ?_)); all_goals (first | exact AH.le_refl _ | (show AH.find _ _ = _; simp only [find_add_self, find_add_ne, find_fresh, fresh_add, fresh_set, ne_eq, not_false_eq_true, true_and, and_true, and_self, hm, hr1, enc_len, enc_scal, enc_take, enc_z4, hbs, hl4, c4, c5, c6, hn_b4, hr_b4, hn_b7, hr_b7, hn_b8, hr_b8, hn_b9, hr_b9, hn_bl, hr_bl]))), ?_⟩
  have hd1 : doR R op rec v = R := by simp [doR, a, b]
  rw [hd1]
  exact ⟨_, (by refine AH.le_cons ?_ ?_; (show AH.find _ _ = _; simp only [find_add_self, find_add_ne, find_fresh, fresh_add, fresh_set, ne_eq, not_false_eq_true, true_and, and_true, and_self, hm, hr1, enc_len, enc_scal, enc_take, enc_z4, hbs, hl4, c4, c5, c6, hn_b4, hr_b4, hn_b7, hr_b7, hn_b8, hr_b8, hn_b9, hr_b9, hn_bl, hr_bl]); (repeat (first | exact AH.le_refl _ | refine AH.le_add ?_ ?_)); all_goals (first | exact AH.le_refl _ | (show AH.find _ _ = _; simp only [find_add_self, find_add_ne, find_fresh, fresh_add, fresh_set, ne_eq, not_false_eq_true, true_and, and_true, and_self, hm, hr1, enc_len, enc_scal, enc_take, enc_z4, hbs, hl4, c4, c5, c6, hn_b4, hr_b4, hn_b7, hr_b7, hn_b8, hr_b8, hn_b9, hr_b9, hn_bl, hr_bl]))), bl, bs, hn_bl.2.2.2.2, by rw [getD4 hr0_], hbs, rfl⟩
end Go.Proofs.YtamlipffhimfmaaGreatDoor.File

/- file's reference, Do: what it comes to. -/
namespace Go.Proofs.YtamlipffhimfmaaGreatDoor.File
set_option linter.unusedSimpArgs false
set_option linter.unusedVariables false
open Go Go.AX Go.Proofs Ty
set_option maxHeartbeats 4000000
set_option maxRecDepth 10000

def RcOk (r : Rc) : Prop := (0 ≤ r.1 ∧ r.1 ≤ 255) ∧ (0 ≤ r.2.1 ∧ r.2.1 ≤ 255) ∧ (0 ≤ r.2.2.1 ∧ r.2.2.1 ≤ 255) ∧ (0 ≤ r.2.2.2 ∧ r.2.2.2 ≤ 255)
theorem enc_0 (r : Rc) : (enc r)[0]? = some (.int .u8 r.1) := rfl
theorem enc_1 (r : Rc) : (enc r)[1]? = some (.int .u8 r.2.1) := rfl
theorem enc_2 (r : Rc) : (enc r)[2]? = some (.int .u8 r.2.2.1) := rfl
theorem enc_3 (r : Rc) : (enc r)[3]? = some (.int .u8 r.2.2.2) := rfl
theorem qrem {p : Int} (n : Int) (h0 : 0 ≤ p) (h1 : p ≤ 7) (hn : 0 < n) : (IntKind.i64.wrap (p.tdiv n)).tmod 2 = p / n % 2 := by
  have a : 0 ≤ p / n := Int.ediv_nonneg h0 (by omega)
  have b : p / n ≤ p := Int.ediv_le_self n h0
  rw [Int.tdiv_eq_ediv_of_nonneg h0, i64_eq (by omega) (by omega), Int.tmod_eq_emod_of_nonneg a]
theorem u8w (x : Int) : IntKind.u8.wrap x = x % 256 := rfl
theorem u32w (x : Int) : IntKind.u32.wrap x = x % 4294967296 := rfl
theorem next4 {r : Rc} (h : RcOk r) : enc (Nxt.nextR r) = [.int .u8 ((r.1 * 16777216 + r.2.1 * 65536 + r.2.2.1 * 256 + r.2.2.2 + 1) % 4294967296 / 16777216), .int .u8 ((r.1 * 16777216 + r.2.1 * 65536 + r.2.2.1 * 256 + r.2.2.2 + 1) / 65536 % 256), .int .u8 ((r.1 * 16777216 + r.2.1 * 65536 + r.2.2.1 * 256 + r.2.2.2 + 1) / 256 % 256), .int .u8 ((r.1 * 16777216 + r.2.1 * 65536 + r.2.2.1 * 256 + r.2.2.2 + 1) % 256)] := by
  obtain ⟨x0, x1, x2, x3⟩ := r
  obtain ⟨⟨a0, a1⟩, ⟨b0, b1⟩, ⟨c0, c1⟩, ⟨d0, d1⟩⟩ := h
  simp only at a0 a1 b0 b1 c0 c1 d0 d1
  unfold Nxt.nextR
  simp only [Nxt.inc, Nxt.at_, u8w, ne_eq]
  split
  · simp only [enc, List.cons.injEq, Value.int.injEq, true_and, and_true]; omega
  · split
    · simp only [enc, List.cons.injEq, Value.int.injEq, true_and, and_true]; omega
    · split
      · simp only [enc, List.cons.injEq, Value.int.injEq, true_and, and_true]; omega
      · simp only [enc, List.cons.injEq, Value.int.injEq, true_and, and_true]; omega
theorem sum4 {r : Rc} (h : RcOk r) : IntKind.u32.wrap (IntKind.u32.wrap (IntKind.u32.wrap (IntKind.u32.wrap (IntKind.u32.wrap (IntKind.u32.wrap r.1 * 16777216) + IntKind.u32.wrap (IntKind.u32.wrap r.2.1 * 65536)) + IntKind.u32.wrap (IntKind.u32.wrap r.2.2.1 * 256)) + IntKind.u32.wrap r.2.2.2) + 1) = (r.1 * 16777216 + r.2.1 * 65536 + r.2.2.1 * 256 + r.2.2.2 + 1) % 4294967296 := by
  obtain ⟨x0, x1, x2, x3⟩ := r
  obtain ⟨⟨a0, a1⟩, ⟨b0, b1⟩, ⟨c0, c1⟩, ⟨d0, d1⟩⟩ := h
  simp only at a0 a1 b0 b1 c0 c1 d0 d1
  simp only [u32w]
  omega
theorem put_next {L : List Rc} {i : Nat} {r : Rc} (h : RcOk r) (hi : i < L.length) : (((((L.map enc).flatten.set (i * 4) (.int .u8 (IntKind.u8.wrap (IntKind.u32.wrap ((IntKind.u32.wrap (IntKind.u32.wrap (IntKind.u32.wrap (IntKind.u32.wrap (IntKind.u32.wrap (IntKind.u32.wrap r.1 * 16777216) + IntKind.u32.wrap (IntKind.u32.wrap r.2.1 * 65536)) + IntKind.u32.wrap (IntKind.u32.wrap r.2.2.1 * 256)) + IntKind.u32.wrap r.2.2.2) + 1)).tdiv 16777216))))).set (i * 4 + 1) (.int .u8 (IntKind.u8.wrap ((IntKind.u32.wrap ((IntKind.u32.wrap (IntKind.u32.wrap (IntKind.u32.wrap (IntKind.u32.wrap (IntKind.u32.wrap (IntKind.u32.wrap r.1 * 16777216) + IntKind.u32.wrap (IntKind.u32.wrap r.2.1 * 65536)) + IntKind.u32.wrap (IntKind.u32.wrap r.2.2.1 * 256)) + IntKind.u32.wrap r.2.2.2) + 1)).tdiv 65536)).tmod 256)))).set (i * 4 + 1 + 1) (.int .u8 (IntKind.u8.wrap ((IntKind.u32.wrap ((IntKind.u32.wrap (IntKind.u32.wrap (IntKind.u32.wrap (IntKind.u32.wrap (IntKind.u32.wrap (IntKind.u32.wrap r.1 * 16777216) + IntKind.u32.wrap (IntKind.u32.wrap r.2.1 * 65536)) + IntKind.u32.wrap (IntKind.u32.wrap r.2.2.1 * 256)) + IntKind.u32.wrap r.2.2.2) + 1)).tdiv 256)).tmod 256)))).set (i * 4 + 1 + 1 + 1) (.int .u8 (IntKind.u8.wrap ((IntKind.u32.wrap (IntKind.u32.wrap (IntKind.u32.wrap (IntKind.u32.wrap (IntKind.u32.wrap (IntKind.u32.wrap r.1 * 16777216) + IntKind.u32.wrap (IntKind.u32.wrap r.2.1 * 65536)) + IntKind.u32.wrap (IntKind.u32.wrap r.2.2.1 * 256)) + IntKind.u32.wrap r.2.2.2) + 1)).tmod 256)))) = ((L.set i (Nxt.nextR r)).map enc).flatten := by
  rw [sum4 h, ← put4 (Nxt.nextR r) hi, next4 h]
  obtain ⟨x0, x1, x2, x3⟩ := r
  obtain ⟨⟨a0, a1⟩, ⟨b0, b1⟩, ⟨c0, c1⟩, ⟨d0, d1⟩⟩ := h
  simp only at a0 a1 b0 b1 c0 c1 d0 d1
  have hn : 0 ≤ x0 * 16777216 + x1 * 65536 + x2 * 256 + x3 + 1 := by omega
  generalize x0 * 16777216 + x1 * 65536 + x2 * 256 + x3 + 1 = N at hn ⊢
  have hm : 0 ≤ N % 4294967296 := by omega
  simp only [lput, u8w, u32w]
  have e1 : ((N % 4294967296).tdiv 16777216 % 4294967296 % 256) = N % 4294967296 / 16777216 := by
    rw [Int.tdiv_eq_ediv_of_nonneg hm]; omega
  have e2 : (((N % 4294967296).tdiv 65536 % 4294967296).tmod 256) % 256 = N / 65536 % 256 := by
    rw [Int.tdiv_eq_ediv_of_nonneg hm, Int.tmod_eq_emod_of_nonneg (by omega)]; omega
  have e3 : (((N % 4294967296).tdiv 256 % 4294967296).tmod 256) % 256 = N / 256 % 256 := by
    rw [Int.tdiv_eq_ediv_of_nonneg hm, Int.tmod_eq_emod_of_nonneg (by omega)]; omega
  have e4 : ((N % 4294967296).tmod 256) % 256 = N % 256 := by
    rw [Int.tmod_eq_emod_of_nonneg hm]; omega
  rw [e1, e2, e3, e4]
theorem mayF_perm {p op rec : Int} {R : List Rc} (g : goodF p R = true) (a : ¬ op < 0) (a2 : ¬ 2 < op) (b1 : ¬ rec < 0) (b2 : ¬ (R.length : Int) ≤ rec) (c0 : ¬ rec = 0) : mayF p R op rec = if p / bitF op % 2 = 0 then 5 else 0 := by
  unfold mayF
  rw [if_neg (by rw [g]; decide), if_neg (by omega), if_neg (by omega), if_neg c0]
theorem mayF_head {p op : Int} {R : List Rc} (g : goodF p R = true) (a : ¬ op < 0) (a2 : ¬ 2 < op) (b2 : R.length ≠ 0) : mayF p R op 0 = if op = 0 then 0 else 5 := by
  unfold mayF
  rw [if_neg (by rw [g]; decide), if_neg (by omega), if_neg (by omega), if_pos rfl]
theorem RefDo_bad (p op rec : Int) (R : List Rc) (v : Rc) (base : Option Addr) (cap : Nat) (H : AH) (hs : SlcIn H 4 base cap (R.map enc)) (hm : ¬ mayF p R op rec = 0) :
    ACalls Tryz.prog 82 #[fv p base R.length cap, .int .i64 op, .int .i64 rec, .agg (enc v).toArray] H (fun v H' => v = dbad (mayF p R op rec) ∧ H = H') := by
  unfold fv
  have hg := fun H1 (h1 : SlcIn H1 4 base cap (R.map enc)) => RefGood_c p R base cap H1 h1
  unfold fv at hg
  refine ACalls.enter2 Tryz.func82 rfl Tryz.ntmps82 Tryz.results82 (by simp) ?_; simp (dsimp := false) (maxSteps := 4000000) only [go_sem]
  refine AllB.mk fun b4 h_b4 => ?_; have hn_b4 := h_b4; (try simp only [fresh_add, fresh_set, ne_eq] at hn_b4); have hr_b4 := hn_b4; (try simp only [@eq_comm Nat b4] at hr_b4); simp (dsimp := false) (maxSteps := 4000000) only [hn_b4, hr_b4, go_sem]
  refine AllB.mk fun b7 h_b7 => ?_; have hn_b7 := h_b7; (try simp only [fresh_add, fresh_set, ne_eq] at hn_b7); have hr_b7 := hn_b7; (try simp only [@eq_comm Nat b7] at hr_b7); simp (dsimp := false) (maxSteps := 4000000) only [hn_b4, hr_b4, hn_b7, hr_b7, go_sem]
  refine AllB.mk fun b8 h_b8 => ?_; have hn_b8 := h_b8; (try simp only [fresh_add, fresh_set, ne_eq] at hn_b8); have hr_b8 := hn_b8; (try simp only [@eq_comm Nat b8] at hr_b8); simp (dsimp := false) (maxSteps := 4000000) only [hn_b4, hr_b4, hn_b7, hr_b7, hn_b8, hr_b8, go_sem]
  refine AllB.mk fun b9 h_b9 => ?_; have hn_b9 := h_b9; (try simp only [fresh_add, fresh_set, ne_eq] at hn_b9); have hr_b9 := hn_b9; (try simp only [@eq_comm Nat b9] at hr_b9); simp (dsimp := false) (maxSteps := 4000000) only [hn_b4, hr_b4, hn_b7, hr_b7, hn_b8, hr_b8, hn_b9, hr_b9, go_sem]
  refine AllB.mk fun b11 h_b11 => ?_; have hn_b11 := h_b11; (try simp only [fresh_add, fresh_set, ne_eq] at hn_b11); have hr_b11 := hn_b11; (try simp only [@eq_comm Nat b11] at hr_b11); simp (dsimp := false) (maxSteps := 4000000) only [hn_b4, hr_b4, hn_b7, hr_b7, hn_b8, hr_b8, hn_b9, hr_b9, hn_b11, hr_b11, go_sem]
  refine (hg _ (((((hs.add (by simp only [fresh_add, ne_eq, hn_b4, not_false_eq_true, and_self] : Fresh _ b4)).add (by simp only [fresh_add, ne_eq, hn_b7, not_false_eq_true, and_self] : Fresh _ b7)).add (by simp only [fresh_add, ne_eq, hn_b8, not_false_eq_true, and_self] : Fresh _ b8)).add (by simp only [fresh_add, ne_eq, hn_b9, not_false_eq_true, and_self] : Fresh _ b9)).add (by simp only [fresh_add, ne_eq, hn_b11, not_false_eq_true, and_self] : Fresh _ b11))).mono ?_; rintro _ _ ⟨rfl, rfl⟩
  by_cases g : goodF p R = true
  · obtain ⟨h0, h1, h2, h3⟩ := goodF_p g
    by_cases a : op < 0
    · simp (dsimp := false) (maxSteps := 4000000) only [g, a, hn_b4, hr_b4, hn_b7, hr_b7, hn_b8, hr_b8, hn_b9, hr_b9, hn_b11, hr_b11, go_sem]
      exact ⟨H, (AH.le_add (AH.le_add (AH.le_add (AH.le_add (AH.le_add (AH.le_refl _) ((by simp only [fresh_add, fresh_set, ne_eq, hn_b4, not_false_eq_true, and_self] : Fresh _ b4).2)) ((by simp only [fresh_add, fresh_set, ne_eq, hn_b7, not_false_eq_true, and_self] : Fresh _ b7).2)) ((by simp only [fresh_add, fresh_set, ne_eq, hn_b8, not_false_eq_true, and_self] : Fresh _ b8).2)) ((by simp only [fresh_add, fresh_set, ne_eq, hn_b9, not_false_eq_true, and_self] : Fresh _ b9).2)) ((by simp only [fresh_add, fresh_set, ne_eq, hn_b11, not_false_eq_true, and_self] : Fresh _ b11).2)), (by first | exact ⟨by simp [mayF, g, a]; rfl, rfl⟩ | rfl)⟩
    by_cases a2 : 2 < op
    · simp (dsimp := false) (maxSteps := 4000000) only [g, a, a2, hn_b4, hr_b4, hn_b7, hr_b7, hn_b8, hr_b8, hn_b9, hr_b9, hn_b11, hr_b11, go_sem]
      exact ⟨H, (AH.le_add (AH.le_add (AH.le_add (AH.le_add (AH.le_add (AH.le_refl _) ((by simp only [fresh_add, fresh_set, ne_eq, hn_b4, not_false_eq_true, and_self] : Fresh _ b4).2)) ((by simp only [fresh_add, fresh_set, ne_eq, hn_b7, not_false_eq_true, and_self] : Fresh _ b7).2)) ((by simp only [fresh_add, fresh_set, ne_eq, hn_b8, not_false_eq_true, and_self] : Fresh _ b8).2)) ((by simp only [fresh_add, fresh_set, ne_eq, hn_b9, not_false_eq_true, and_self] : Fresh _ b9).2)) ((by simp only [fresh_add, fresh_set, ne_eq, hn_b11, not_false_eq_true, and_self] : Fresh _ b11).2)), (by first | exact ⟨by simp [mayF, g, a2]; rfl, rfl⟩ | rfl)⟩
    have aa : ¬ (op < 0 ∨ 2 < op) := by omega
    by_cases b1 : rec < 0
    · simp (dsimp := false) (maxSteps := 4000000) only [g, a, a2, b1, hn_b4, hr_b4, hn_b7, hr_b7, hn_b8, hr_b8, hn_b9, hr_b9, hn_b11, hr_b11, go_sem]
      exact ⟨H, (AH.le_add (AH.le_add (AH.le_add (AH.le_add (AH.le_add (AH.le_refl _) ((by simp only [fresh_add, fresh_set, ne_eq, hn_b4, not_false_eq_true, and_self] : Fresh _ b4).2)) ((by simp only [fresh_add, fresh_set, ne_eq, hn_b7, not_false_eq_true, and_self] : Fresh _ b7).2)) ((by simp only [fresh_add, fresh_set, ne_eq, hn_b8, not_false_eq_true, and_self] : Fresh _ b8).2)) ((by simp only [fresh_add, fresh_set, ne_eq, hn_b9, not_false_eq_true, and_self] : Fresh _ b9).2)) ((by simp only [fresh_add, fresh_set, ne_eq, hn_b11, not_false_eq_true, and_self] : Fresh _ b11).2)), (by first | exact ⟨by simp [mayF, g, a, a2, b1]; rfl, rfl⟩ | rfl)⟩
    by_cases b2 : (R.length : Int) ≤ rec
    · simp (dsimp := false) (maxSteps := 4000000) only [g, a, a2, b1, b2, hn_b4, hr_b4, hn_b7, hr_b7, hn_b8, hr_b8, hn_b9, hr_b9, hn_b11, hr_b11, go_sem]
      exact ⟨H, (AH.le_add (AH.le_add (AH.le_add (AH.le_add (AH.le_add (AH.le_refl _) ((by simp only [fresh_add, fresh_set, ne_eq, hn_b4, not_false_eq_true, and_self] : Fresh _ b4).2)) ((by simp only [fresh_add, fresh_set, ne_eq, hn_b7, not_false_eq_true, and_self] : Fresh _ b7).2)) ((by simp only [fresh_add, fresh_set, ne_eq, hn_b8, not_false_eq_true, and_self] : Fresh _ b8).2)) ((by simp only [fresh_add, fresh_set, ne_eq, hn_b9, not_false_eq_true, and_self] : Fresh _ b9).2)) ((by simp only [fresh_add, fresh_set, ne_eq, hn_b11, not_false_eq_true, and_self] : Fresh _ b11).2)), (by first | exact ⟨by simp [mayF, g, a, a2, b2]; rfl, rfl⟩ | rfl)⟩
    simp (dsimp := false) (maxSteps := 4000000) only [g, a, a2, b1, b2, hn_b4, hr_b4, hn_b7, hr_b7, hn_b8, hr_b8, hn_b9, hr_b9, hn_b11, hr_b11, go_sem]
    by_cases c0 : rec = 0
    · subst c0
      rcases (by omega : op = 0 ∨ op = 1 ∨ op = 2) with rfl | rfl | rfl
      · exact absurd (by simp [mayF, g, h2]) hm
      · 
        refine AllB.mk fun bn h_bn => ?_; have hn_bn := h_bn; (try simp only [fresh_add, fresh_set, ne_eq] at hn_bn); have hr_bn := hn_bn; (try simp only [@eq_comm Nat bn] at hr_bn); simp (dsimp := false) (maxSteps := 4000000) only [hn_b4, hr_b4, hn_b7, hr_b7, hn_b8, hr_b8, hn_b9, hr_b9, hn_b11, hr_b11, hn_bn, hr_bn, go_sem]
        exact ⟨H, (AH.le_add (AH.le_add (AH.le_add (AH.le_add (AH.le_add (AH.le_add (AH.le_refl _) ((by simp only [fresh_add, fresh_set, ne_eq, hn_b4, not_false_eq_true, and_self] : Fresh _ b4).2)) ((by simp only [fresh_add, fresh_set, ne_eq, hn_b7, not_false_eq_true, and_self] : Fresh _ b7).2)) ((by simp only [fresh_add, fresh_set, ne_eq, hn_b8, not_false_eq_true, and_self] : Fresh _ b8).2)) ((by simp only [fresh_add, fresh_set, ne_eq, hn_b9, not_false_eq_true, and_self] : Fresh _ b9).2)) ((by simp only [fresh_add, fresh_set, ne_eq, hn_b11, not_false_eq_true, and_self] : Fresh _ b11).2)) ((by simp only [fresh_add, fresh_set, ne_eq, hn_bn, not_false_eq_true, and_self] : Fresh _ bn).2)), (by first | exact ⟨by simp [mayF, g, h2]; rfl, rfl⟩ | rfl)⟩
        
      · 
        refine AllB.mk fun bn h_bn => ?_; have hn_bn := h_bn; (try simp only [fresh_add, fresh_set, ne_eq] at hn_bn); have hr_bn := hn_bn; (try simp only [@eq_comm Nat bn] at hr_bn); simp (dsimp := false) (maxSteps := 4000000) only [hn_b4, hr_b4, hn_b7, hr_b7, hn_b8, hr_b8, hn_b9, hr_b9, hn_b11, hr_b11, hn_bn, hr_bn, go_sem]
        exact ⟨H, (AH.le_add (AH.le_add (AH.le_add (AH.le_add (AH.le_add (AH.le_add (AH.le_refl _) ((by simp only [fresh_add, fresh_set, ne_eq, hn_b4, not_false_eq_true, and_self] : Fresh _ b4).2)) ((by simp only [fresh_add, fresh_set, ne_eq, hn_b7, not_false_eq_true, and_self] : Fresh _ b7).2)) ((by simp only [fresh_add, fresh_set, ne_eq, hn_b8, not_false_eq_true, and_self] : Fresh _ b8).2)) ((by simp only [fresh_add, fresh_set, ne_eq, hn_b9, not_false_eq_true, and_self] : Fresh _ b9).2)) ((by simp only [fresh_add, fresh_set, ne_eq, hn_b11, not_false_eq_true, and_self] : Fresh _ b11).2)) ((by simp only [fresh_add, fresh_set, ne_eq, hn_bn, not_false_eq_true, and_self] : Fresh _ bn).2)), (by first | exact ⟨by simp [mayF, g, h2]; rfl, rfl⟩ | rfl)⟩
        
    have c1 : 0 < rec := by omega
    rcases (by omega : op = 0 ∨ op = 1 ∨ op = 2) with rfl | rfl | rfl
    · 
      by_cases d : p / 1 % 2 = 0
      · have d' : p / bitF 0 % 2 = 0 := d
        have hq := qrem 1 h0 h1 (by omega)
        refine AllB.mk fun bn h_bn => ?_; have hn_bn := h_bn; (try simp only [fresh_add, fresh_set, ne_eq] at hn_bn); have hr_bn := hn_bn; (try simp only [@eq_comm Nat bn] at hr_bn); simp (dsimp := false) (maxSteps := 4000000) only [hn_b4, hr_b4, hn_b7, hr_b7, hn_b8, hr_b8, hn_b9, hr_b9, hn_b11, hr_b11, hn_bn, hr_bn, go_sem]
        simp (dsimp := false) (maxSteps := 4000000) only [c0, c1, hq, d, hn_b4, hr_b4, hn_b7, hr_b7, hn_b8, hr_b8, hn_b9, hr_b9, hn_b11, hr_b11, hn_bn, hr_bn, go_sem]
        exact ⟨H, (AH.le_add (AH.le_add (AH.le_add (AH.le_add (AH.le_add (AH.le_add (AH.le_refl _) ((by simp only [fresh_add, fresh_set, ne_eq, hn_b4, not_false_eq_true, and_self] : Fresh _ b4).2)) ((by simp only [fresh_add, fresh_set, ne_eq, hn_b7, not_false_eq_true, and_self] : Fresh _ b7).2)) ((by simp only [fresh_add, fresh_set, ne_eq, hn_b8, not_false_eq_true, and_self] : Fresh _ b8).2)) ((by simp only [fresh_add, fresh_set, ne_eq, hn_b9, not_false_eq_true, and_self] : Fresh _ b9).2)) ((by simp only [fresh_add, fresh_set, ne_eq, hn_b11, not_false_eq_true, and_self] : Fresh _ b11).2)) ((by simp only [fresh_add, fresh_set, ne_eq, hn_bn, not_false_eq_true, and_self] : Fresh _ bn).2)), (by first | exact ⟨by rw [mayF_perm g a a2 b1 b2 c0, if_pos d']; rfl, rfl⟩ | rfl)⟩
      · have d' : ¬ p / bitF 0 % 2 = 0 := d
        exact absurd (by rw [mayF_perm g a a2 b1 b2 c0, if_neg d']) hm
      
    · 
      by_cases d : p / 2 % 2 = 0
      · have d' : p / bitF 1 % 2 = 0 := d
        have hq := qrem 2 h0 h1 (by omega)
        refine AllB.mk fun bn h_bn => ?_; have hn_bn := h_bn; (try simp only [fresh_add, fresh_set, ne_eq] at hn_bn); have hr_bn := hn_bn; (try simp only [@eq_comm Nat bn] at hr_bn); simp (dsimp := false) (maxSteps := 4000000) only [hn_b4, hr_b4, hn_b7, hr_b7, hn_b8, hr_b8, hn_b9, hr_b9, hn_b11, hr_b11, hn_bn, hr_bn, go_sem]
        simp (dsimp := false) (maxSteps := 4000000) only [c0, c1, hq, d, hn_b4, hr_b4, hn_b7, hr_b7, hn_b8, hr_b8, hn_b9, hr_b9, hn_b11, hr_b11, hn_bn, hr_bn, go_sem]
        exact ⟨H, (AH.le_add (AH.le_add (AH.le_add (AH.le_add (AH.le_add (AH.le_add (AH.le_refl _) ((by simp only [fresh_add, fresh_set, ne_eq, hn_b4, not_false_eq_true, and_self] : Fresh _ b4).2)) ((by simp only [fresh_add, fresh_set, ne_eq, hn_b7, not_false_eq_true, and_self] : Fresh _ b7).2)) ((by simp only [fresh_add, fresh_set, ne_eq, hn_b8, not_false_eq_true, and_self] : Fresh _ b8).2)) ((by simp only [fresh_add, fresh_set, ne_eq, hn_b9, not_false_eq_true, and_self] : Fresh _ b9).2)) ((by simp only [fresh_add, fresh_set, ne_eq, hn_b11, not_false_eq_true, and_self] : Fresh _ b11).2)) ((by simp only [fresh_add, fresh_set, ne_eq, hn_bn, not_false_eq_true, and_self] : Fresh _ bn).2)), (by first | exact ⟨by rw [mayF_perm g a a2 b1 b2 c0, if_pos d']; rfl, rfl⟩ | rfl)⟩
      · have d' : ¬ p / bitF 1 % 2 = 0 := d
        exact absurd (by rw [mayF_perm g a a2 b1 b2 c0, if_neg d']) hm
      
    · 
      by_cases d : p / 4 % 2 = 0
      · have d' : p / bitF 2 % 2 = 0 := d
        have hq := qrem 4 h0 h1 (by omega)
        refine AllB.mk fun bn h_bn => ?_; have hn_bn := h_bn; (try simp only [fresh_add, fresh_set, ne_eq] at hn_bn); have hr_bn := hn_bn; (try simp only [@eq_comm Nat bn] at hr_bn); simp (dsimp := false) (maxSteps := 4000000) only [hn_b4, hr_b4, hn_b7, hr_b7, hn_b8, hr_b8, hn_b9, hr_b9, hn_b11, hr_b11, hn_bn, hr_bn, go_sem]
        simp (dsimp := false) (maxSteps := 4000000) only [c0, c1, hq, d, hn_b4, hr_b4, hn_b7, hr_b7, hn_b8, hr_b8, hn_b9, hr_b9, hn_b11, hr_b11, hn_bn, hr_bn, go_sem]
        exact ⟨H, (AH.le_add (AH.le_add (AH.le_add (AH.le_add (AH.le_add (AH.le_add (AH.le_refl _) ((by simp only [fresh_add, fresh_set, ne_eq, hn_b4, not_false_eq_true, and_self] : Fresh _ b4).2)) ((by simp only [fresh_add, fresh_set, ne_eq, hn_b7, not_false_eq_true, and_self] : Fresh _ b7).2)) ((by simp only [fresh_add, fresh_set, ne_eq, hn_b8, not_false_eq_true, and_self] : Fresh _ b8).2)) ((by simp only [fresh_add, fresh_set, ne_eq, hn_b9, not_false_eq_true, and_self] : Fresh _ b9).2)) ((by simp only [fresh_add, fresh_set, ne_eq, hn_b11, not_false_eq_true, and_self] : Fresh _ b11).2)) ((by simp only [fresh_add, fresh_set, ne_eq, hn_bn, not_false_eq_true, and_self] : Fresh _ bn).2)), (by first | exact ⟨by rw [mayF_perm g a a2 b1 b2 c0, if_pos d']; rfl, rfl⟩ | rfl)⟩
      · have d' : ¬ p / bitF 2 % 2 = 0 := d
        exact absurd (by rw [mayF_perm g a a2 b1 b2 c0, if_neg d']) hm
      
  · have g' : goodF p R = false := by simpa using g
    simp (dsimp := false) (maxSteps := 4000000) only [g', hn_b4, hr_b4, hn_b7, hr_b7, hn_b8, hr_b8, hn_b9, hr_b9, hn_b11, hr_b11, go_sem]
    exact ⟨H, (AH.le_add (AH.le_add (AH.le_add (AH.le_add (AH.le_add (AH.le_refl _) ((by simp only [fresh_add, fresh_set, ne_eq, hn_b4, not_false_eq_true, and_self] : Fresh _ b4).2)) ((by simp only [fresh_add, fresh_set, ne_eq, hn_b7, not_false_eq_true, and_self] : Fresh _ b7).2)) ((by simp only [fresh_add, fresh_set, ne_eq, hn_b8, not_false_eq_true, and_self] : Fresh _ b8).2)) ((by simp only [fresh_add, fresh_set, ne_eq, hn_b9, not_false_eq_true, and_self] : Fresh _ b9).2)) ((by simp only [fresh_add, fresh_set, ne_eq, hn_b11, not_false_eq_true, and_self] : Fresh _ b11).2)), (by first | exact ⟨by simp [mayF, g']; rfl, rfl⟩ | rfl)⟩
theorem RefDo_ok (p op : Int) (rec : Nat) (R : List Rc) (v : Rc) (base : Option Addr) (cap : Nat) (H : AH) (hs : SlcIn H 4 base cap (R.map enc)) (hw : ∀ r ∈ R, RcOk r) (hm : mayF p R op rec = 0) :
    ACalls Tryz.prog 82 #[fv p base R.length cap, .int .i64 op, .int .i64 rec, .agg (enc v).toArray] H (fun x H' => ∃ b c bs, Fresh H b ∧ x = .tuple #[fv p (some ⟨b, 0, none⟩) R.length c, .agg (enc ((doR R op rec v).getD rec zr)).toArray, .int .i64 0] ∧ R.length ≤ c ∧ R.length * 4 ≤ bs ∧ H' = H.add b (.cells ((doR R op rec v).map enc).flatten 26 bs)) := by
  obtain ⟨hgd, ho0, ho1, hr0, hr1, hR, hp0, hp1⟩ := mayF_ok hm
  obtain ⟨r0, hr0_⟩ := get_some (l := R) (i := rec) (by omega)
  have hl4 := flat4 R
  have c4 : rec * 4 + 4 ≤ R.length * 4 := by omega
  have c5 : 0 + (rec * 4) + 4 ≤ R.length * 4 := by omega
  have c6 : 0 + (R.length * 4) ≤ R.length * 4 := by omega
  have a1 : ¬ op < 0 := by omega
  have a2 : ¬ 2 < op := by omega
  have b1 : ¬ (rec : Int) < 0 := by omega
  have b2 : ¬ (R.length : Int) ≤ rec := by omega
  unfold fv
  have hg := fun H1 (h1 : SlcIn H1 4 base cap (R.map enc)) => RefGood_c p R base cap H1 h1
  unfold fv at hg
  refine ACalls.enter2 Tryz.func82 rfl Tryz.ntmps82 Tryz.results82 (by simp) ?_; simp (dsimp := false) (maxSteps := 4000000) only [a1, a2, b1, b2, hgd, hr1, enc_len, enc_scal, enc_take, enc_z4, hl4, c4, c5, c6, go_sem]
  refine AllB.mk fun b4 h_b4 => ?_; have hn_b4 := h_b4; (try simp only [fresh_add, fresh_set, ne_eq] at hn_b4); have hr_b4 := hn_b4; (try simp only [@eq_comm Nat b4] at hr_b4); simp (dsimp := false) (maxSteps := 4000000) only [a1, a2, b1, b2, hgd, hr1, enc_len, enc_scal, enc_take, enc_z4, hl4, c4, c5, c6, hn_b4, hr_b4, go_sem]
  refine AllB.mk fun b7 h_b7 => ?_; have hn_b7 := h_b7; (try simp only [fresh_add, fresh_set, ne_eq] at hn_b7); have hr_b7 := hn_b7; (try simp only [@eq_comm Nat b7] at hr_b7); simp (dsimp := false) (maxSteps := 4000000) only [a1, a2, b1, b2, hgd, hr1, enc_len, enc_scal, enc_take, enc_z4, hl4, c4, c5, c6, hn_b4, hr_b4, hn_b7, hr_b7, go_sem]
  refine AllB.mk fun b8 h_b8 => ?_; have hn_b8 := h_b8; (try simp only [fresh_add, fresh_set, ne_eq] at hn_b8); have hr_b8 := hn_b8; (try simp only [@eq_comm Nat b8] at hr_b8); simp (dsimp := false) (maxSteps := 4000000) only [a1, a2, b1, b2, hgd, hr1, enc_len, enc_scal, enc_take, enc_z4, hl4, c4, c5, c6, hn_b4, hr_b4, hn_b7, hr_b7, hn_b8, hr_b8, go_sem]
  refine AllB.mk fun b9 h_b9 => ?_; have hn_b9 := h_b9; (try simp only [fresh_add, fresh_set, ne_eq] at hn_b9); have hr_b9 := hn_b9; (try simp only [@eq_comm Nat b9] at hr_b9); simp (dsimp := false) (maxSteps := 4000000) only [a1, a2, b1, b2, hgd, hr1, enc_len, enc_scal, enc_take, enc_z4, hl4, c4, c5, c6, hn_b4, hr_b4, hn_b7, hr_b7, hn_b8, hr_b8, hn_b9, hr_b9, go_sem]
  refine AllB.mk fun b11 h_b11 => ?_; have hn_b11 := h_b11; (try simp only [fresh_add, fresh_set, ne_eq] at hn_b11); have hr_b11 := hn_b11; (try simp only [@eq_comm Nat b11] at hr_b11); simp (dsimp := false) (maxSteps := 4000000) only [a1, a2, b1, b2, hgd, hr1, enc_len, enc_scal, enc_take, enc_z4, hl4, c4, c5, c6, hn_b4, hr_b4, hn_b7, hr_b7, hn_b8, hr_b8, hn_b9, hr_b9, hn_b11, hr_b11, go_sem]
  refine (hg _ (((((hs.add (by simp only [fresh_add, ne_eq, hn_b4, not_false_eq_true, and_self] : Fresh _ b4)).add (by simp only [fresh_add, ne_eq, hn_b7, not_false_eq_true, and_self] : Fresh _ b7)).add (by simp only [fresh_add, ne_eq, hn_b8, not_false_eq_true, and_self] : Fresh _ b8)).add (by simp only [fresh_add, ne_eq, hn_b9, not_false_eq_true, and_self] : Fresh _ b9)).add (by simp only [fresh_add, ne_eq, hn_b11, not_false_eq_true, and_self] : Fresh _ b11))).mono ?_; rintro _ _ ⟨rfl, rfl⟩
  simp (dsimp := false) (maxSteps := 4000000) only [a1, a2, b1, b2, hgd, hr1, enc_len, enc_scal, enc_take, enc_z4, hl4, c4, c5, c6, hn_b4, hr_b4, hn_b7, hr_b7, hn_b8, hr_b8, hn_b9, hr_b9, hn_b11, hr_b11, go_sem]
  have hq := fun n hn => qrem (p := p) n hp0 hp1 hn
  have hmq : ¬ (rec : Int) = 0 → ¬ p / bitF op % 2 = 0 := fun h0 hd => by
    rw [mayF_perm hgd a1 a2 b1 b2 h0, if_pos hd] at hm; cases hm
  have hm0 : (rec : Int) = 0 → op = 0 := fun h0 => by
    rw [h0, mayF_head hgd a1 a2 (by omega)] at hm
    by_cases hz : op = 0
    · exact hz
    · rw [if_neg hz] at hm; cases hm
  by_cases c0 : (rec : Int) = 0
  · obtain rfl := hm0 c0
    
    refine AllB.mk fun bn h_bn => ?_; have hn_bn := h_bn; (try simp only [fresh_add, fresh_set, ne_eq] at hn_bn); have hr_bn := hn_bn; (try simp only [@eq_comm Nat bn] at hr_bn); simp (dsimp := false) (maxSteps := 4000000) only [a1, a2, b1, b2, hgd, hr1, enc_len, enc_scal, enc_take, enc_z4, hl4, c4, c5, c6, hn_b4, hr_b4, hn_b7, hr_b7, hn_b8, hr_b8, hn_b9, hr_b9, hn_b11, hr_b11, hn_bn, hr_bn, go_sem]
    simp (dsimp := false) (maxSteps := 4000000) only [c0, a1, a2, b1, b2, hgd, hr1, enc_len, enc_scal, enc_take, enc_z4, hl4, c4, c5, c6, hn_b4, hr_b4, hn_b7, hr_b7, hn_b8, hr_b8, hn_b9, hr_b9, hn_b11, hr_b11, hn_bn, hr_bn, go_sem]
    refine AWp.gen [.pu, .rd, .al, .pu, .rd, .ch, .pu, .al, .ch] [0, 1, 0, 0, 8, 28, 63, 0, 255] 6 (_) mixed (by kernel_rfl) (AH.le_refl _) ?_
    simp (dsimp := false) (maxSteps := 4000000) only [a1, a2, b1, b2, hgd, hr1, enc_len, enc_scal, enc_take, enc_z4, hl4, c4, c5, c6, hn_b4, hr_b4, hn_b7, hr_b7, hn_b8, hr_b8, hn_b9, hr_b9, hn_b11, hr_b11, hn_bn, hr_bn, go_sem]
    refine AllB.mk fun be h_be => ?_; have hn_be := h_be; (try simp only [fresh_add, fresh_set, ne_eq] at hn_be); have hr_be := hn_be; (try simp only [@eq_comm Nat be] at hr_be); simp (dsimp := false) (maxSteps := 4000000) only [a1, a2, b1, b2, hgd, hr1, enc_len, enc_scal, enc_take, enc_z4, hl4, c4, c5, c6, hn_b4, hr_b4, hn_b7, hr_b7, hn_b8, hr_b8, hn_b9, hr_b9, hn_b11, hr_b11, hn_bn, hr_bn, hn_be, hr_be, go_sem]
    refine APD.clone (new := (R.map enc).flatten) (m := R.length) se_70 rfl (by decide) (by rw [Tryz.underlying70]; rfl) h_be rfl (((((((hs.add (by simp only [fresh_add, ne_eq, hn_b4, not_false_eq_true, and_self] : Fresh _ b4)).add (by simp only [fresh_add, ne_eq, hn_b7, not_false_eq_true, and_self] : Fresh _ b7)).add (by simp only [fresh_add, ne_eq, hn_b8, not_false_eq_true, and_self] : Fresh _ b8)).add (by simp only [fresh_add, ne_eq, hn_b9, not_false_eq_true, and_self] : Fresh _ b9)).add (by simp only [fresh_add, ne_eq, hn_b11, not_false_eq_true, and_self] : Fresh _ b11)).add (by simp only [fresh_add, ne_eq, hn_bn, not_false_eq_true, and_self] : Fresh _ bn)).srow (rows4 R) (by decide) (by simp) (.inl (by intro e; rw [List.map_eq_nil_iff.1 e] at hr1; simp at hr1; omega))) (scal4 R) (by omega) fun bl c_ bs h_bl hcl hbs4 => ?_
    have hc4 : R.length * 4 ≤ bs := Nat.le_trans (Nat.mul_le_mul_right _ hcl) hbs4
    have hn_bl := h_bl; (try simp only [fresh_add, fresh_set, ne_eq] at hn_bl); have hr_bl := hn_bl; (try simp only [@eq_comm Nat bl] at hr_bl)
    simp (dsimp := false) (maxSteps := 4000000) only [a1, a2, b1, b2, hgd, hr1, enc_len, enc_scal, enc_take, enc_z4, hl4, c4, c5, c6, hn_b4, hr_b4, hn_b7, hr_b7, hn_b8, hr_b8, hn_b9, hr_b9, hn_b11, hr_b11, hn_bn, hr_bn, hn_be, hr_be, hn_bl, hr_bl, go_sem]
    refine ⟨AH.le_add (AH.le_refl _) h_bl.2, ?_⟩
    refine AllB.mk fun b13 h_b13 => ?_; have hn_b13 := h_b13; (try simp only [fresh_add, fresh_set, ne_eq] at hn_b13); have hr_b13 := hn_b13; (try simp only [@eq_comm Nat b13] at hr_b13); simp (dsimp := false) (maxSteps := 4000000) only [a1, a2, b1, b2, hgd, hr1, enc_len, enc_scal, enc_take, enc_z4, hl4, c4, c5, c6, hn_b4, hr_b4, hn_b7, hr_b7, hn_b8, hr_b8, hn_b9, hr_b9, hn_b11, hr_b11, hn_bn, hr_bn, hn_be, hr_be, hn_bl, hr_bl, hn_b13, hr_b13, go_sem]
    have hrow := row4 hr0_
    have hs_ := hr0_
    have hd1 : doR R 0 rec v = R := rfl
    refine AWp.gen [.rd, .pu, .rd, .pu, .pu, .rd, .ch, .ch, .pu] [0, 0, 2, 0, 14, 30, 1, 127, 255] 7 ((H.add bl (.cells ((R).map enc).flatten 26 bs)).add b13 (.cells [.int .i64 p, .slice (some ⟨bl, 0, none⟩) R.length c_] 72 2)) mixed (by kernel_rfl) (?_) ?_
    · exact (by refine AH.le_cons ?_ ?_; (show AH.find _ _ = _; simp only [find_add_self, find_add_ne, find_fresh, fresh_add, fresh_set, ne_eq, not_false_eq_true, true_and, and_true, and_self, a1, a2, b1, b2, hgd, hr1, enc_len, enc_scal, enc_take, enc_z4, hl4, c4, c5, c6, hn_b4, hr_b4, hn_b7, hr_b7, hn_b8, hr_b8, hn_b9, hr_b9, hn_b11, hr_b11, hn_bn, hr_bn, hn_be, hr_be, hn_bl, hr_bl, hn_b13, hr_b13]); refine AH.le_cons ?_ ?_; (show AH.find _ _ = _; simp only [find_add_self, find_add_ne, find_fresh, fresh_add, fresh_set, ne_eq, not_false_eq_true, true_and, and_true, and_self, a1, a2, b1, b2, hgd, hr1, enc_len, enc_scal, enc_take, enc_z4, hl4, c4, c5, c6, hn_b4, hr_b4, hn_b7, hr_b7, hn_b8, hr_b8, hn_b9, hr_b9, hn_b11, hr_b11, hn_bn, hr_bn, hn_be, hr_be, hn_bl, hr_bl, hn_b13, hr_b13]); (repeat (first | exact AH.le_refl _ | refine AH.le_add ?_ ?_)); all_goals (first | exact AH.le_refl _ | (show AH.find _ _ = _; simp only [find_add_self, find_add_ne, find_fresh, fresh_add, fresh_set, ne_eq, not_false_eq_true, true_and, and_true, and_self, a1, a2, b1, b2, hgd, hr1, enc_len, enc_scal, enc_take, enc_z4, hl4, c4, c5, c6, hn_b4, hr_b4, hn_b7, hr_b7, hn_b8, hr_b8, hn_b9, hr_b9, hn_b11, hr_b11, hn_bn, hr_bn, hn_be, hr_be, hn_bl, hr_bl, hn_b13, hr_b13])))
    have hl4' := flat4 (R)
    try rw [List.length_set] at hl4'
    simp (dsimp := false) (maxSteps := 4000000) only [hl4', hrow, a1, a2, b1, b2, hgd, hr1, enc_len, enc_scal, enc_take, enc_z4, hl4, c4, c5, c6, hn_b4, hr_b4, hn_b7, hr_b7, hn_b8, hr_b8, hn_b9, hr_b9, hn_b11, hr_b11, hn_bn, hr_bn, hn_be, hr_be, hn_bl, hr_bl, hn_b13, hr_b13, go_sem]
    refine ⟨(by refine AH.le_cons ?_ ?_; (show AH.find _ _ = _; simp only [find_add_self, find_add_ne, find_fresh, fresh_add, fresh_set, ne_eq, not_false_eq_true, true_and, and_true, and_self, a1, a2, b1, b2, hgd, hr1, enc_len, enc_scal, enc_take, enc_z4, hl4, c4, c5, c6, hn_b4, hr_b4, hn_b7, hr_b7, hn_b8, hr_b8, hn_b9, hr_b9, hn_b11, hr_b11, hn_bn, hr_bn, hn_be, hr_be, hn_bl, hr_bl, hn_b13, hr_b13]); refine AH.le_cons ?_ ?_; (show AH.find _ _ = _; simp only [find_add_self, find_add_ne, find_fresh, fresh_add, fresh_set, ne_eq, not_false_eq_true, true_and, and_true, and_self, a1, a2, b1, b2, hgd, hr1, enc_len, enc_scal, enc_take, enc_z4, hl4, c4, c5, c6, hn_b4, hr_b4, hn_b7, hr_b7, hn_b8, hr_b8, hn_b9, hr_b9, hn_b11, hr_b11, hn_bn, hr_bn, hn_be, hr_be, hn_bl, hr_bl, hn_b13, hr_b13]); (repeat (first | exact AH.le_refl _ | refine AH.le_add ?_ ?_)); all_goals (first | exact AH.le_refl _ | (show AH.find _ _ = _; simp only [find_add_self, find_add_ne, find_fresh, fresh_add, fresh_set, ne_eq, not_false_eq_true, true_and, and_true, and_self, a1, a2, b1, b2, hgd, hr1, enc_len, enc_scal, enc_take, enc_z4, hl4, c4, c5, c6, hn_b4, hr_b4, hn_b7, hr_b7, hn_b8, hr_b8, hn_b9, hr_b9, hn_b11, hr_b11, hn_bn, hr_bn, hn_be, hr_be, hn_bl, hr_bl, hn_b13, hr_b13]))), ?_⟩
    rw [hd1]
    exact ⟨_, (by refine AH.le_cons ?_ ?_; (show AH.find _ _ = _; simp only [find_add_self, find_add_ne, find_fresh, fresh_add, fresh_set, ne_eq, not_false_eq_true, true_and, and_true, and_self, a1, a2, b1, b2, hgd, hr1, enc_len, enc_scal, enc_take, enc_z4, hl4, c4, c5, c6, hn_b4, hr_b4, hn_b7, hr_b7, hn_b8, hr_b8, hn_b9, hr_b9, hn_b11, hr_b11, hn_bn, hr_bn, hn_be, hr_be, hn_bl, hr_bl, hn_b13, hr_b13]); (repeat (first | exact AH.le_refl _ | refine AH.le_add ?_ ?_)); all_goals (first | exact AH.le_refl _ | (show AH.find _ _ = _; simp only [find_add_self, find_add_ne, find_fresh, fresh_add, fresh_set, ne_eq, not_false_eq_true, true_and, and_true, and_self, a1, a2, b1, b2, hgd, hr1, enc_len, enc_scal, enc_take, enc_z4, hl4, c4, c5, c6, hn_b4, hr_b4, hn_b7, hr_b7, hn_b8, hr_b8, hn_b9, hr_b9, hn_b11, hr_b11, hn_bn, hr_bn, hn_be, hr_be, hn_bl, hr_bl, hn_b13, hr_b13]))), bl, c_, bs, hn_bl.2.2.2.2.2.2, by rw [getD4 hs_], hcl, hc4, rfl⟩
    
  have c1 : 0 < (rec : Int) := by omega
  rcases (by omega : op = 0 ∨ op = 1 ∨ op = 2) with rfl | rfl | rfl
  · 
    have hd : ¬ p / 1 % 2 = 0 := hmq c0
    have hq' := hq 1 (by omega)
    refine AllB.mk fun bn h_bn => ?_; have hn_bn := h_bn; (try simp only [fresh_add, fresh_set, ne_eq] at hn_bn); have hr_bn := hn_bn; (try simp only [@eq_comm Nat bn] at hr_bn); simp (dsimp := false) (maxSteps := 4000000) only [a1, a2, b1, b2, hgd, hr1, enc_len, enc_scal, enc_take, enc_z4, hl4, c4, c5, c6, hn_b4, hr_b4, hn_b7, hr_b7, hn_b8, hr_b8, hn_b9, hr_b9, hn_b11, hr_b11, hn_bn, hr_bn, go_sem]
    simp (dsimp := false) (maxSteps := 4000000) only [c0, c1, hq', hd, a1, a2, b1, b2, hgd, hr1, enc_len, enc_scal, enc_take, enc_z4, hl4, c4, c5, c6, hn_b4, hr_b4, hn_b7, hr_b7, hn_b8, hr_b8, hn_b9, hr_b9, hn_b11, hr_b11, hn_bn, hr_bn, go_sem]
    refine AWp.gen [.pu, .rd, .al, .pu, .rd, .ch, .pu, .al, .ch] [0, 1, 0, 0, 8, 28, 63, 0, 255] 6 (_) mixed (by kernel_rfl) (AH.le_refl _) ?_
    simp (dsimp := false) (maxSteps := 4000000) only [a1, a2, b1, b2, hgd, hr1, enc_len, enc_scal, enc_take, enc_z4, hl4, c4, c5, c6, hn_b4, hr_b4, hn_b7, hr_b7, hn_b8, hr_b8, hn_b9, hr_b9, hn_b11, hr_b11, hn_bn, hr_bn, go_sem]
    refine AllB.mk fun be h_be => ?_; have hn_be := h_be; (try simp only [fresh_add, fresh_set, ne_eq] at hn_be); have hr_be := hn_be; (try simp only [@eq_comm Nat be] at hr_be); simp (dsimp := false) (maxSteps := 4000000) only [a1, a2, b1, b2, hgd, hr1, enc_len, enc_scal, enc_take, enc_z4, hl4, c4, c5, c6, hn_b4, hr_b4, hn_b7, hr_b7, hn_b8, hr_b8, hn_b9, hr_b9, hn_b11, hr_b11, hn_bn, hr_bn, hn_be, hr_be, go_sem]
    refine APD.clone (new := (R.map enc).flatten) (m := R.length) se_70 rfl (by decide) (by rw [Tryz.underlying70]; rfl) h_be rfl (((((((hs.add (by simp only [fresh_add, ne_eq, hn_b4, not_false_eq_true, and_self] : Fresh _ b4)).add (by simp only [fresh_add, ne_eq, hn_b7, not_false_eq_true, and_self] : Fresh _ b7)).add (by simp only [fresh_add, ne_eq, hn_b8, not_false_eq_true, and_self] : Fresh _ b8)).add (by simp only [fresh_add, ne_eq, hn_b9, not_false_eq_true, and_self] : Fresh _ b9)).add (by simp only [fresh_add, ne_eq, hn_b11, not_false_eq_true, and_self] : Fresh _ b11)).add (by simp only [fresh_add, ne_eq, hn_bn, not_false_eq_true, and_self] : Fresh _ bn)).srow (rows4 R) (by decide) (by simp) (.inl (by intro e; rw [List.map_eq_nil_iff.1 e] at hr1; simp at hr1; omega))) (scal4 R) (by omega) fun bl c_ bs h_bl hcl hbs4 => ?_
    have hc4 : R.length * 4 ≤ bs := Nat.le_trans (Nat.mul_le_mul_right _ hcl) hbs4
    have hn_bl := h_bl; (try simp only [fresh_add, fresh_set, ne_eq] at hn_bl); have hr_bl := hn_bl; (try simp only [@eq_comm Nat bl] at hr_bl)
    simp (dsimp := false) (maxSteps := 4000000) only [a1, a2, b1, b2, hgd, hr1, enc_len, enc_scal, enc_take, enc_z4, hl4, c4, c5, c6, hn_b4, hr_b4, hn_b7, hr_b7, hn_b8, hr_b8, hn_b9, hr_b9, hn_b11, hr_b11, hn_bn, hr_bn, hn_be, hr_be, hn_bl, hr_bl, go_sem]
    refine ⟨AH.le_add (AH.le_refl _) h_bl.2, ?_⟩
    refine AllB.mk fun b13 h_b13 => ?_; have hn_b13 := h_b13; (try simp only [fresh_add, fresh_set, ne_eq] at hn_b13); have hr_b13 := hn_b13; (try simp only [@eq_comm Nat b13] at hr_b13); simp (dsimp := false) (maxSteps := 4000000) only [a1, a2, b1, b2, hgd, hr1, enc_len, enc_scal, enc_take, enc_z4, hl4, c4, c5, c6, hn_b4, hr_b4, hn_b7, hr_b7, hn_b8, hr_b8, hn_b9, hr_b9, hn_b11, hr_b11, hn_bn, hr_bn, hn_be, hr_be, hn_bl, hr_bl, hn_b13, hr_b13, go_sem]
    have hrow := row4 hr0_
    have hs_ := hr0_
    have hd1 : doR R 0 rec v = R := rfl
    refine AWp.gen [.rd, .pu, .rd, .pu, .pu, .rd, .ch, .ch, .pu] [0, 0, 2, 0, 14, 30, 1, 127, 255] 7 ((H.add bl (.cells ((R).map enc).flatten 26 bs)).add b13 (.cells [.int .i64 p, .slice (some ⟨bl, 0, none⟩) R.length c_] 72 2)) mixed (by kernel_rfl) (?_) ?_
    · exact (by refine AH.le_cons ?_ ?_; (show AH.find _ _ = _; simp only [find_add_self, find_add_ne, find_fresh, fresh_add, fresh_set, ne_eq, not_false_eq_true, true_and, and_true, and_self, a1, a2, b1, b2, hgd, hr1, enc_len, enc_scal, enc_take, enc_z4, hl4, c4, c5, c6, hn_b4, hr_b4, hn_b7, hr_b7, hn_b8, hr_b8, hn_b9, hr_b9, hn_b11, hr_b11, hn_bn, hr_bn, hn_be, hr_be, hn_bl, hr_bl, hn_b13, hr_b13]); refine AH.le_cons ?_ ?_; (show AH.find _ _ = _; simp only [find_add_self, find_add_ne, find_fresh, fresh_add, fresh_set, ne_eq, not_false_eq_true, true_and, and_true, and_self, a1, a2, b1, b2, hgd, hr1, enc_len, enc_scal, enc_take, enc_z4, hl4, c4, c5, c6, hn_b4, hr_b4, hn_b7, hr_b7, hn_b8, hr_b8, hn_b9, hr_b9, hn_b11, hr_b11, hn_bn, hr_bn, hn_be, hr_be, hn_bl, hr_bl, hn_b13, hr_b13]); (repeat (first | exact AH.le_refl _ | refine AH.le_add ?_ ?_)); all_goals (first | exact AH.le_refl _ | (show AH.find _ _ = _; simp only [find_add_self, find_add_ne, find_fresh, fresh_add, fresh_set, ne_eq, not_false_eq_true, true_and, and_true, and_self, a1, a2, b1, b2, hgd, hr1, enc_len, enc_scal, enc_take, enc_z4, hl4, c4, c5, c6, hn_b4, hr_b4, hn_b7, hr_b7, hn_b8, hr_b8, hn_b9, hr_b9, hn_b11, hr_b11, hn_bn, hr_bn, hn_be, hr_be, hn_bl, hr_bl, hn_b13, hr_b13])))
    have hl4' := flat4 (R)
    try rw [List.length_set] at hl4'
    simp (dsimp := false) (maxSteps := 4000000) only [hl4', hrow, a1, a2, b1, b2, hgd, hr1, enc_len, enc_scal, enc_take, enc_z4, hl4, c4, c5, c6, hn_b4, hr_b4, hn_b7, hr_b7, hn_b8, hr_b8, hn_b9, hr_b9, hn_b11, hr_b11, hn_bn, hr_bn, hn_be, hr_be, hn_bl, hr_bl, hn_b13, hr_b13, go_sem]
    refine ⟨(by refine AH.le_cons ?_ ?_; (show AH.find _ _ = _; simp only [find_add_self, find_add_ne, find_fresh, fresh_add, fresh_set, ne_eq, not_false_eq_true, true_and, and_true, and_self, a1, a2, b1, b2, hgd, hr1, enc_len, enc_scal, enc_take, enc_z4, hl4, c4, c5, c6, hn_b4, hr_b4, hn_b7, hr_b7, hn_b8, hr_b8, hn_b9, hr_b9, hn_b11, hr_b11, hn_bn, hr_bn, hn_be, hr_be, hn_bl, hr_bl, hn_b13, hr_b13]); refine AH.le_cons ?_ ?_; (show AH.find _ _ = _; simp only [find_add_self, find_add_ne, find_fresh, fresh_add, fresh_set, ne_eq, not_false_eq_true, true_and, and_true, and_self, a1, a2, b1, b2, hgd, hr1, enc_len, enc_scal, enc_take, enc_z4, hl4, c4, c5, c6, hn_b4, hr_b4, hn_b7, hr_b7, hn_b8, hr_b8, hn_b9, hr_b9, hn_b11, hr_b11, hn_bn, hr_bn, hn_be, hr_be, hn_bl, hr_bl, hn_b13, hr_b13]); (repeat (first | exact AH.le_refl _ | refine AH.le_add ?_ ?_)); all_goals (first | exact AH.le_refl _ | (show AH.find _ _ = _; simp only [find_add_self, find_add_ne, find_fresh, fresh_add, fresh_set, ne_eq, not_false_eq_true, true_and, and_true, and_self, a1, a2, b1, b2, hgd, hr1, enc_len, enc_scal, enc_take, enc_z4, hl4, c4, c5, c6, hn_b4, hr_b4, hn_b7, hr_b7, hn_b8, hr_b8, hn_b9, hr_b9, hn_b11, hr_b11, hn_bn, hr_bn, hn_be, hr_be, hn_bl, hr_bl, hn_b13, hr_b13]))), ?_⟩
    rw [hd1]
    exact ⟨_, (by refine AH.le_cons ?_ ?_; (show AH.find _ _ = _; simp only [find_add_self, find_add_ne, find_fresh, fresh_add, fresh_set, ne_eq, not_false_eq_true, true_and, and_true, and_self, a1, a2, b1, b2, hgd, hr1, enc_len, enc_scal, enc_take, enc_z4, hl4, c4, c5, c6, hn_b4, hr_b4, hn_b7, hr_b7, hn_b8, hr_b8, hn_b9, hr_b9, hn_b11, hr_b11, hn_bn, hr_bn, hn_be, hr_be, hn_bl, hr_bl, hn_b13, hr_b13]); (repeat (first | exact AH.le_refl _ | refine AH.le_add ?_ ?_)); all_goals (first | exact AH.le_refl _ | (show AH.find _ _ = _; simp only [find_add_self, find_add_ne, find_fresh, fresh_add, fresh_set, ne_eq, not_false_eq_true, true_and, and_true, and_self, a1, a2, b1, b2, hgd, hr1, enc_len, enc_scal, enc_take, enc_z4, hl4, c4, c5, c6, hn_b4, hr_b4, hn_b7, hr_b7, hn_b8, hr_b8, hn_b9, hr_b9, hn_b11, hr_b11, hn_bn, hr_bn, hn_be, hr_be, hn_bl, hr_bl, hn_b13, hr_b13]))), bl, c_, bs, hn_bl.2.2.2.2.2.2, by rw [getD4 hs_], hcl, hc4, rfl⟩
    
  · 
    have hd : ¬ p / 2 % 2 = 0 := hmq c0
    have hq' := hq 2 (by omega)
    refine AllB.mk fun bn h_bn => ?_; have hn_bn := h_bn; (try simp only [fresh_add, fresh_set, ne_eq] at hn_bn); have hr_bn := hn_bn; (try simp only [@eq_comm Nat bn] at hr_bn); simp (dsimp := false) (maxSteps := 4000000) only [a1, a2, b1, b2, hgd, hr1, enc_len, enc_scal, enc_take, enc_z4, hl4, c4, c5, c6, hn_b4, hr_b4, hn_b7, hr_b7, hn_b8, hr_b8, hn_b9, hr_b9, hn_b11, hr_b11, hn_bn, hr_bn, go_sem]
    simp (dsimp := false) (maxSteps := 4000000) only [c0, c1, hq', hd, a1, a2, b1, b2, hgd, hr1, enc_len, enc_scal, enc_take, enc_z4, hl4, c4, c5, c6, hn_b4, hr_b4, hn_b7, hr_b7, hn_b8, hr_b8, hn_b9, hr_b9, hn_b11, hr_b11, hn_bn, hr_bn, go_sem]
    refine AWp.gen [.pu, .rd, .al, .pu, .rd, .ch, .pu, .al, .ch] [0, 1, 0, 0, 8, 28, 63, 0, 255] 6 (_) mixed (by kernel_rfl) (AH.le_refl _) ?_
    simp (dsimp := false) (maxSteps := 4000000) only [a1, a2, b1, b2, hgd, hr1, enc_len, enc_scal, enc_take, enc_z4, hl4, c4, c5, c6, hn_b4, hr_b4, hn_b7, hr_b7, hn_b8, hr_b8, hn_b9, hr_b9, hn_b11, hr_b11, hn_bn, hr_bn, go_sem]
    refine AllB.mk fun be h_be => ?_; have hn_be := h_be; (try simp only [fresh_add, fresh_set, ne_eq] at hn_be); have hr_be := hn_be; (try simp only [@eq_comm Nat be] at hr_be); simp (dsimp := false) (maxSteps := 4000000) only [a1, a2, b1, b2, hgd, hr1, enc_len, enc_scal, enc_take, enc_z4, hl4, c4, c5, c6, hn_b4, hr_b4, hn_b7, hr_b7, hn_b8, hr_b8, hn_b9, hr_b9, hn_b11, hr_b11, hn_bn, hr_bn, hn_be, hr_be, go_sem]
    refine APD.clone (new := (R.map enc).flatten) (m := R.length) se_70 rfl (by decide) (by rw [Tryz.underlying70]; rfl) h_be rfl (((((((hs.add (by simp only [fresh_add, ne_eq, hn_b4, not_false_eq_true, and_self] : Fresh _ b4)).add (by simp only [fresh_add, ne_eq, hn_b7, not_false_eq_true, and_self] : Fresh _ b7)).add (by simp only [fresh_add, ne_eq, hn_b8, not_false_eq_true, and_self] : Fresh _ b8)).add (by simp only [fresh_add, ne_eq, hn_b9, not_false_eq_true, and_self] : Fresh _ b9)).add (by simp only [fresh_add, ne_eq, hn_b11, not_false_eq_true, and_self] : Fresh _ b11)).add (by simp only [fresh_add, ne_eq, hn_bn, not_false_eq_true, and_self] : Fresh _ bn)).srow (rows4 R) (by decide) (by simp) (.inl (by intro e; rw [List.map_eq_nil_iff.1 e] at hr1; simp at hr1; omega))) (scal4 R) (by omega) fun bl c_ bs h_bl hcl hbs4 => ?_
    have hc4 : R.length * 4 ≤ bs := Nat.le_trans (Nat.mul_le_mul_right _ hcl) hbs4
    have hn_bl := h_bl; (try simp only [fresh_add, fresh_set, ne_eq] at hn_bl); have hr_bl := hn_bl; (try simp only [@eq_comm Nat bl] at hr_bl)
    simp (dsimp := false) (maxSteps := 4000000) only [a1, a2, b1, b2, hgd, hr1, enc_len, enc_scal, enc_take, enc_z4, hl4, c4, c5, c6, hn_b4, hr_b4, hn_b7, hr_b7, hn_b8, hr_b8, hn_b9, hr_b9, hn_b11, hr_b11, hn_bn, hr_bn, hn_be, hr_be, hn_bl, hr_bl, go_sem]
    refine ⟨AH.le_add (AH.le_refl _) h_bl.2, ?_⟩
    refine AllB.mk fun b13 h_b13 => ?_; have hn_b13 := h_b13; (try simp only [fresh_add, fresh_set, ne_eq] at hn_b13); have hr_b13 := hn_b13; (try simp only [@eq_comm Nat b13] at hr_b13); simp (dsimp := false) (maxSteps := 4000000) only [a1, a2, b1, b2, hgd, hr1, enc_len, enc_scal, enc_take, enc_z4, hl4, c4, c5, c6, hn_b4, hr_b4, hn_b7, hr_b7, hn_b8, hr_b8, hn_b9, hr_b9, hn_b11, hr_b11, hn_bn, hr_bn, hn_be, hr_be, hn_bl, hr_bl, hn_b13, hr_b13, go_sem]
    have hp := put4 v (L := R) (i := rec) (by omega)
    have hs_ : (R.set rec v)[rec]? = some v := by rw [List.getElem?_set_self (by omega)]
    have hrow := row4 hs_
    have hd1 : doR R 1 rec v = R.set rec v := rfl
    simp (dsimp := false) (maxSteps := 4000000) only [hp, hc4, a1, a2, b1, b2, hgd, hr1, enc_len, enc_scal, enc_take, enc_z4, hl4, c4, c5, c6, hn_b4, hr_b4, hn_b7, hr_b7, hn_b8, hr_b8, hn_b9, hr_b9, hn_b11, hr_b11, hn_bn, hr_bn, hn_be, hr_be, hn_bl, hr_bl, hn_b13, hr_b13, go_sem]
    refine AWp.gen [.rd, .pu, .rd, .pu, .pu, .rd, .ch, .ch, .pu] [0, 0, 2, 0, 14, 30, 1, 127, 255] 7 ((H.add bl (.cells ((R.set rec v).map enc).flatten 26 bs)).add b13 (.cells [.int .i64 p, .slice (some ⟨bl, 0, none⟩) R.length c_] 72 2)) mixed (by kernel_rfl) (?_) ?_
    · exact (by refine AH.le_cons ?_ ?_; (show AH.find _ _ = _; simp only [find_add_self, find_add_ne, find_fresh, fresh_add, fresh_set, ne_eq, not_false_eq_true, true_and, and_true, and_self, a1, a2, b1, b2, hgd, hr1, enc_len, enc_scal, enc_take, enc_z4, hl4, c4, c5, c6, hn_b4, hr_b4, hn_b7, hr_b7, hn_b8, hr_b8, hn_b9, hr_b9, hn_b11, hr_b11, hn_bn, hr_bn, hn_be, hr_be, hn_bl, hr_bl, hn_b13, hr_b13]); refine AH.le_cons ?_ ?_; (show AH.find _ _ = _; simp only [find_add_self, find_add_ne, find_fresh, fresh_add, fresh_set, ne_eq, not_false_eq_true, true_and, and_true, and_self, a1, a2, b1, b2, hgd, hr1, enc_len, enc_scal, enc_take, enc_z4, hl4, c4, c5, c6, hn_b4, hr_b4, hn_b7, hr_b7, hn_b8, hr_b8, hn_b9, hr_b9, hn_b11, hr_b11, hn_bn, hr_bn, hn_be, hr_be, hn_bl, hr_bl, hn_b13, hr_b13]); (repeat (first | exact AH.le_refl _ | refine AH.le_add ?_ ?_)); all_goals (first | exact AH.le_refl _ | (show AH.find _ _ = _; simp only [find_add_self, find_add_ne, find_fresh, fresh_add, fresh_set, ne_eq, not_false_eq_true, true_and, and_true, and_self, a1, a2, b1, b2, hgd, hr1, enc_len, enc_scal, enc_take, enc_z4, hl4, c4, c5, c6, hn_b4, hr_b4, hn_b7, hr_b7, hn_b8, hr_b8, hn_b9, hr_b9, hn_b11, hr_b11, hn_bn, hr_bn, hn_be, hr_be, hn_bl, hr_bl, hn_b13, hr_b13])))
    have hl4' := flat4 (R.set rec v)
    try rw [List.length_set] at hl4'
    simp (dsimp := false) (maxSteps := 4000000) only [hl4', hrow, a1, a2, b1, b2, hgd, hr1, enc_len, enc_scal, enc_take, enc_z4, hl4, c4, c5, c6, hn_b4, hr_b4, hn_b7, hr_b7, hn_b8, hr_b8, hn_b9, hr_b9, hn_b11, hr_b11, hn_bn, hr_bn, hn_be, hr_be, hn_bl, hr_bl, hn_b13, hr_b13, go_sem]
    refine ⟨(by refine AH.le_cons ?_ ?_; (show AH.find _ _ = _; simp only [find_add_self, find_add_ne, find_fresh, fresh_add, fresh_set, ne_eq, not_false_eq_true, true_and, and_true, and_self, a1, a2, b1, b2, hgd, hr1, enc_len, enc_scal, enc_take, enc_z4, hl4, c4, c5, c6, hn_b4, hr_b4, hn_b7, hr_b7, hn_b8, hr_b8, hn_b9, hr_b9, hn_b11, hr_b11, hn_bn, hr_bn, hn_be, hr_be, hn_bl, hr_bl, hn_b13, hr_b13]); refine AH.le_cons ?_ ?_; (show AH.find _ _ = _; simp only [find_add_self, find_add_ne, find_fresh, fresh_add, fresh_set, ne_eq, not_false_eq_true, true_and, and_true, and_self, a1, a2, b1, b2, hgd, hr1, enc_len, enc_scal, enc_take, enc_z4, hl4, c4, c5, c6, hn_b4, hr_b4, hn_b7, hr_b7, hn_b8, hr_b8, hn_b9, hr_b9, hn_b11, hr_b11, hn_bn, hr_bn, hn_be, hr_be, hn_bl, hr_bl, hn_b13, hr_b13]); (repeat (first | exact AH.le_refl _ | refine AH.le_add ?_ ?_)); all_goals (first | exact AH.le_refl _ | (show AH.find _ _ = _; simp only [find_add_self, find_add_ne, find_fresh, fresh_add, fresh_set, ne_eq, not_false_eq_true, true_and, and_true, and_self, a1, a2, b1, b2, hgd, hr1, enc_len, enc_scal, enc_take, enc_z4, hl4, c4, c5, c6, hn_b4, hr_b4, hn_b7, hr_b7, hn_b8, hr_b8, hn_b9, hr_b9, hn_b11, hr_b11, hn_bn, hr_bn, hn_be, hr_be, hn_bl, hr_bl, hn_b13, hr_b13]))), ?_⟩
    rw [hd1]
    exact ⟨_, (by refine AH.le_cons ?_ ?_; (show AH.find _ _ = _; simp only [find_add_self, find_add_ne, find_fresh, fresh_add, fresh_set, ne_eq, not_false_eq_true, true_and, and_true, and_self, a1, a2, b1, b2, hgd, hr1, enc_len, enc_scal, enc_take, enc_z4, hl4, c4, c5, c6, hn_b4, hr_b4, hn_b7, hr_b7, hn_b8, hr_b8, hn_b9, hr_b9, hn_b11, hr_b11, hn_bn, hr_bn, hn_be, hr_be, hn_bl, hr_bl, hn_b13, hr_b13]); (repeat (first | exact AH.le_refl _ | refine AH.le_add ?_ ?_)); all_goals (first | exact AH.le_refl _ | (show AH.find _ _ = _; simp only [find_add_self, find_add_ne, find_fresh, fresh_add, fresh_set, ne_eq, not_false_eq_true, true_and, and_true, and_self, a1, a2, b1, b2, hgd, hr1, enc_len, enc_scal, enc_take, enc_z4, hl4, c4, c5, c6, hn_b4, hr_b4, hn_b7, hr_b7, hn_b8, hr_b8, hn_b9, hr_b9, hn_b11, hr_b11, hn_bn, hr_bn, hn_be, hr_be, hn_bl, hr_bl, hn_b13, hr_b13]))), bl, c_, bs, hn_bl.2.2.2.2.2.2, by rw [getD4 hs_], hcl, hc4, rfl⟩
    
  · 
    have hd : ¬ p / 4 % 2 = 0 := hmq c0
    have hq' := hq 4 (by omega)
    refine AllB.mk fun bn h_bn => ?_; have hn_bn := h_bn; (try simp only [fresh_add, fresh_set, ne_eq] at hn_bn); have hr_bn := hn_bn; (try simp only [@eq_comm Nat bn] at hr_bn); simp (dsimp := false) (maxSteps := 4000000) only [a1, a2, b1, b2, hgd, hr1, enc_len, enc_scal, enc_take, enc_z4, hl4, c4, c5, c6, hn_b4, hr_b4, hn_b7, hr_b7, hn_b8, hr_b8, hn_b9, hr_b9, hn_b11, hr_b11, hn_bn, hr_bn, go_sem]
    simp (dsimp := false) (maxSteps := 4000000) only [c0, c1, hq', hd, a1, a2, b1, b2, hgd, hr1, enc_len, enc_scal, enc_take, enc_z4, hl4, c4, c5, c6, hn_b4, hr_b4, hn_b7, hr_b7, hn_b8, hr_b8, hn_b9, hr_b9, hn_b11, hr_b11, hn_bn, hr_bn, go_sem]
    refine AWp.gen [.pu, .rd, .al, .pu, .rd, .ch, .pu, .al, .ch] [0, 1, 0, 0, 8, 28, 63, 0, 255] 6 (_) mixed (by kernel_rfl) (AH.le_refl _) ?_
    simp (dsimp := false) (maxSteps := 4000000) only [a1, a2, b1, b2, hgd, hr1, enc_len, enc_scal, enc_take, enc_z4, hl4, c4, c5, c6, hn_b4, hr_b4, hn_b7, hr_b7, hn_b8, hr_b8, hn_b9, hr_b9, hn_b11, hr_b11, hn_bn, hr_bn, go_sem]
    refine AllB.mk fun be h_be => ?_; have hn_be := h_be; (try simp only [fresh_add, fresh_set, ne_eq] at hn_be); have hr_be := hn_be; (try simp only [@eq_comm Nat be] at hr_be); simp (dsimp := false) (maxSteps := 4000000) only [a1, a2, b1, b2, hgd, hr1, enc_len, enc_scal, enc_take, enc_z4, hl4, c4, c5, c6, hn_b4, hr_b4, hn_b7, hr_b7, hn_b8, hr_b8, hn_b9, hr_b9, hn_b11, hr_b11, hn_bn, hr_bn, hn_be, hr_be, go_sem]
    refine APD.clone (new := (R.map enc).flatten) (m := R.length) se_70 rfl (by decide) (by rw [Tryz.underlying70]; rfl) h_be rfl (((((((hs.add (by simp only [fresh_add, ne_eq, hn_b4, not_false_eq_true, and_self] : Fresh _ b4)).add (by simp only [fresh_add, ne_eq, hn_b7, not_false_eq_true, and_self] : Fresh _ b7)).add (by simp only [fresh_add, ne_eq, hn_b8, not_false_eq_true, and_self] : Fresh _ b8)).add (by simp only [fresh_add, ne_eq, hn_b9, not_false_eq_true, and_self] : Fresh _ b9)).add (by simp only [fresh_add, ne_eq, hn_b11, not_false_eq_true, and_self] : Fresh _ b11)).add (by simp only [fresh_add, ne_eq, hn_bn, not_false_eq_true, and_self] : Fresh _ bn)).srow (rows4 R) (by decide) (by simp) (.inl (by intro e; rw [List.map_eq_nil_iff.1 e] at hr1; simp at hr1; omega))) (scal4 R) (by omega) fun bl c_ bs h_bl hcl hbs4 => ?_
    have hc4 : R.length * 4 ≤ bs := Nat.le_trans (Nat.mul_le_mul_right _ hcl) hbs4
    have hn_bl := h_bl; (try simp only [fresh_add, fresh_set, ne_eq] at hn_bl); have hr_bl := hn_bl; (try simp only [@eq_comm Nat bl] at hr_bl)
    simp (dsimp := false) (maxSteps := 4000000) only [a1, a2, b1, b2, hgd, hr1, enc_len, enc_scal, enc_take, enc_z4, hl4, c4, c5, c6, hn_b4, hr_b4, hn_b7, hr_b7, hn_b8, hr_b8, hn_b9, hr_b9, hn_b11, hr_b11, hn_bn, hr_bn, hn_be, hr_be, hn_bl, hr_bl, go_sem]
    refine ⟨AH.le_add (AH.le_refl _) h_bl.2, ?_⟩
    refine AllB.mk fun b13 h_b13 => ?_; have hn_b13 := h_b13; (try simp only [fresh_add, fresh_set, ne_eq] at hn_b13); have hr_b13 := hn_b13; (try simp only [@eq_comm Nat b13] at hr_b13); simp (dsimp := false) (maxSteps := 4000000) only [a1, a2, b1, b2, hgd, hr1, enc_len, enc_scal, enc_take, enc_z4, hl4, c4, c5, c6, hn_b4, hr_b4, hn_b7, hr_b7, hn_b8, hr_b8, hn_b9, hr_b9, hn_b11, hr_b11, hn_bn, hr_bn, hn_be, hr_be, hn_bl, hr_bl, hn_b13, hr_b13, go_sem]
    have hrow0 := row4 hr0_
    refine AllB.mk fun b14 h_b14 => ?_; have hn_b14 := h_b14; (try simp only [fresh_add, fresh_set, ne_eq] at hn_b14); have hr_b14 := hn_b14; (try simp only [@eq_comm Nat b14] at hr_b14); simp (dsimp := false) (maxSteps := 4000000) only [a1, a2, b1, b2, hgd, hr1, enc_len, enc_scal, enc_take, enc_z4, hl4, c4, c5, c6, hn_b4, hr_b4, hn_b7, hr_b7, hn_b8, hr_b8, hn_b9, hr_b9, hn_b11, hr_b11, hn_bn, hr_bn, hn_be, hr_be, hn_bl, hr_bl, hn_b13, hr_b13, hn_b14, hr_b14, go_sem]
    have hp := fun hi => put_next (L := R) (i := rec) (hw r0 (List.mem_of_getElem? hr0_)) hi
    have hi_ : rec < R.length := by omega
    simp (dsimp := false) (maxSteps := 4000000) only [hrow0, enc_0, enc_1, enc_2, enc_3, hp, hi_, hc4, a1, a2, b1, b2, hgd, hr1, enc_len, enc_scal, enc_take, enc_z4, hl4, c4, c5, c6, hn_b4, hr_b4, hn_b7, hr_b7, hn_b8, hr_b8, hn_b9, hr_b9, hn_b11, hr_b11, hn_bn, hr_bn, hn_be, hr_be, hn_bl, hr_bl, hn_b13, hr_b13, hn_b14, hr_b14, go_sem]
    have hs_ : (R.set rec (Nxt.nextR r0))[rec]? = some (Nxt.nextR r0) := by rw [List.getElem?_set_self (by omega)]
    have hrow := row4 hs_
    have hd1 : doR R 2 rec v = R.set rec (Nxt.nextR r0) := by rw [doR, if_neg (by decide), if_pos rfl, getD4 hr0_]
    refine AWp.gen [.rd, .pu, .rd, .pu, .pu, .rd, .ch, .ch, .pu] [0, 0, 2, 0, 14, 30, 1, 127, 255] 7 ((H.add bl (.cells ((R.set rec (Nxt.nextR r0)).map enc).flatten 26 bs)).add b13 (.cells [.int .i64 p, .slice (some ⟨bl, 0, none⟩) R.length c_] 72 2)) mixed (by kernel_rfl) (?_) ?_
    · exact (by refine AH.le_cons ?_ ?_; (show AH.find _ _ = _; simp only [find_add_self, find_add_ne, find_fresh, fresh_add, fresh_set, ne_eq, not_false_eq_true, true_and, and_true, and_self, a1, a2, b1, b2, hgd, hr1, enc_len, enc_scal, enc_take, enc_z4, hl4, c4, c5, c6, hn_b4, hr_b4, hn_b7, hr_b7, hn_b8, hr_b8, hn_b9, hr_b9, hn_b11, hr_b11, hn_bn, hr_bn, hn_be, hr_be, hn_bl, hr_bl, hn_b13, hr_b13, hn_b14, hr_b14]); refine AH.le_cons ?_ ?_; (show AH.find _ _ = _; simp only [find_add_self, find_add_ne, find_fresh, fresh_add, fresh_set, ne_eq, not_false_eq_true, true_and, and_true, and_self, a1, a2, b1, b2, hgd, hr1, enc_len, enc_scal, enc_take, enc_z4, hl4, c4, c5, c6, hn_b4, hr_b4, hn_b7, hr_b7, hn_b8, hr_b8, hn_b9, hr_b9, hn_b11, hr_b11, hn_bn, hr_bn, hn_be, hr_be, hn_bl, hr_bl, hn_b13, hr_b13, hn_b14, hr_b14]); (repeat (first | exact AH.le_refl _ | refine AH.le_add ?_ ?_)); all_goals (first | exact AH.le_refl _ | (show AH.find _ _ = _; simp only [find_add_self, find_add_ne, find_fresh, fresh_add, fresh_set, ne_eq, not_false_eq_true, true_and, and_true, and_self, a1, a2, b1, b2, hgd, hr1, enc_len, enc_scal, enc_take, enc_z4, hl4, c4, c5, c6, hn_b4, hr_b4, hn_b7, hr_b7, hn_b8, hr_b8, hn_b9, hr_b9, hn_b11, hr_b11, hn_bn, hr_bn, hn_be, hr_be, hn_bl, hr_bl, hn_b13, hr_b13, hn_b14, hr_b14])))
    have hl4' := flat4 (R.set rec (Nxt.nextR r0))
    try rw [List.length_set] at hl4'
    simp (dsimp := false) (maxSteps := 4000000) only [hl4', hrow, a1, a2, b1, b2, hgd, hr1, enc_len, enc_scal, enc_take, enc_z4, hl4, c4, c5, c6, hn_b4, hr_b4, hn_b7, hr_b7, hn_b8, hr_b8, hn_b9, hr_b9, hn_b11, hr_b11, hn_bn, hr_bn, hn_be, hr_be, hn_bl, hr_bl, hn_b13, hr_b13, hn_b14, hr_b14, go_sem]
    refine ⟨(by refine AH.le_cons ?_ ?_; (show AH.find _ _ = _; simp only [find_add_self, find_add_ne, find_fresh, fresh_add, fresh_set, ne_eq, not_false_eq_true, true_and, and_true, and_self, a1, a2, b1, b2, hgd, hr1, enc_len, enc_scal, enc_take, enc_z4, hl4, c4, c5, c6, hn_b4, hr_b4, hn_b7, hr_b7, hn_b8, hr_b8, hn_b9, hr_b9, hn_b11, hr_b11, hn_bn, hr_bn, hn_be, hr_be, hn_bl, hr_bl, hn_b13, hr_b13, hn_b14, hr_b14]); refine AH.le_cons ?_ ?_; (show AH.find _ _ = _; simp only [find_add_self, find_add_ne, find_fresh, fresh_add, fresh_set, ne_eq, not_false_eq_true, true_and, and_true, and_self, a1, a2, b1, b2, hgd, hr1, enc_len, enc_scal, enc_take, enc_z4, hl4, c4, c5, c6, hn_b4, hr_b4, hn_b7, hr_b7, hn_b8, hr_b8, hn_b9, hr_b9, hn_b11, hr_b11, hn_bn, hr_bn, hn_be, hr_be, hn_bl, hr_bl, hn_b13, hr_b13, hn_b14, hr_b14]); (repeat (first | exact AH.le_refl _ | refine AH.le_add ?_ ?_)); all_goals (first | exact AH.le_refl _ | (show AH.find _ _ = _; simp only [find_add_self, find_add_ne, find_fresh, fresh_add, fresh_set, ne_eq, not_false_eq_true, true_and, and_true, and_self, a1, a2, b1, b2, hgd, hr1, enc_len, enc_scal, enc_take, enc_z4, hl4, c4, c5, c6, hn_b4, hr_b4, hn_b7, hr_b7, hn_b8, hr_b8, hn_b9, hr_b9, hn_b11, hr_b11, hn_bn, hr_bn, hn_be, hr_be, hn_bl, hr_bl, hn_b13, hr_b13, hn_b14, hr_b14]))), ?_⟩
    rw [hd1]
    exact ⟨_, (by refine AH.le_cons ?_ ?_; (show AH.find _ _ = _; simp only [find_add_self, find_add_ne, find_fresh, fresh_add, fresh_set, ne_eq, not_false_eq_true, true_and, and_true, and_self, a1, a2, b1, b2, hgd, hr1, enc_len, enc_scal, enc_take, enc_z4, hl4, c4, c5, c6, hn_b4, hr_b4, hn_b7, hr_b7, hn_b8, hr_b8, hn_b9, hr_b9, hn_b11, hr_b11, hn_bn, hr_bn, hn_be, hr_be, hn_bl, hr_bl, hn_b13, hr_b13, hn_b14, hr_b14]); (repeat (first | exact AH.le_refl _ | refine AH.le_add ?_ ?_)); all_goals (first | exact AH.le_refl _ | (show AH.find _ _ = _; simp only [find_add_self, find_add_ne, find_fresh, fresh_add, fresh_set, ne_eq, not_false_eq_true, true_and, and_true, and_self, a1, a2, b1, b2, hgd, hr1, enc_len, enc_scal, enc_take, enc_z4, hl4, c4, c5, c6, hn_b4, hr_b4, hn_b7, hr_b7, hn_b8, hr_b8, hn_b9, hr_b9, hn_b11, hr_b11, hn_bn, hr_bn, hn_be, hr_be, hn_bl, hr_bl, hn_b13, hr_b13, hn_b14, hr_b14]))), bl, c_, bs, hn_bl.2.2.2.2.2.2, by rw [getD4 hs_], hcl, hc4, rfl⟩
    
end Go.Proofs.YtamlipffhimfmaaGreatDoor.File

/- addr and its reference: what each function comes to. -/
namespace Go.Proofs.YtamlipffhimfmaaGreatDoor
set_option linter.unusedSimpArgs false
set_option linter.unusedVariables false
open Go Go.AX Go.Proofs Ty
set_option maxHeartbeats 2000000
set_option maxRecDepth 10000

theorem i64_eq {c : Int} (h0 : -9223372036854775808 ≤ c) (h1 : c < 9223372036854775808) : IntKind.i64.wrap c = c := by rw [IntKind.wrap_i64]; omega

def agood (a b c : Int) : Bool := decide (0 ≤ a ∧ a ≤ 2 ∧ 0 ≤ b ∧ b < 64 ∧ 0 ≤ c ∧ c < 256)

theorem Good_c (a b c : Int) (H : AH) : ACalls Tryz.prog 71 #[.agg #[.int .i64 a, .int .i64 b, .int .i64 c]] H (fun v H' => v = .bool (agood a b c) ∧ H = H') := by
  refine ACalls.enter2 Tryz.func71 rfl Tryz.ntmps71 Tryz.results71 (by simp) ?_; simp (dsimp := false) (maxSteps := 4000000) only [go_sem]
  refine AllB.mk fun b1 h_b1 => ?_; have hn_b1 := h_b1; (try simp only [fresh_add, fresh_set, ne_eq] at hn_b1); have hr_b1 := hn_b1; (try simp only [@eq_comm Nat b1] at hr_b1); simp (dsimp := false) (maxSteps := 4000000) only [hn_b1, hr_b1, go_sem]
  (repeat' first | refine And.intro ?_ ?_ | (refine imp.mk fun _ => ?_; simp (dsimp := false) (maxSteps := 4000000) only [hn_b1, hr_b1, go_sem])) <;> exact ⟨H, (AH.le_add (AH.le_refl _) ((by simp only [fresh_add, fresh_set, ne_eq, hn_b1, not_false_eq_true, and_self] : Fresh _ b1).2)), (by first | exact ⟨congrArg Value.bool (Bool.eq_iff_iff.2 (by simp only [agood, decide_eq_true_eq, Bool.false_eq_true, false_iff, true_iff]; omega)), rfl⟩ | rfl)⟩

theorem RefGood_c (a b c : Int) (H : AH) : ACalls Tryz.prog 37 #[.agg #[.int .i64 a, .int .i64 b, .int .i64 c]] H (fun v H' => v = .bool (agood a b c) ∧ H = H') := by
  refine ACalls.enter2 Tryz.func37 rfl Tryz.ntmps37 Tryz.results37 (by simp) ?_; simp (dsimp := false) (maxSteps := 4000000) only [go_sem]
  refine AllB.mk fun b1 h_b1 => ?_; have hn_b1 := h_b1; (try simp only [fresh_add, fresh_set, ne_eq] at hn_b1); have hr_b1 := hn_b1; (try simp only [@eq_comm Nat b1] at hr_b1); simp (dsimp := false) (maxSteps := 4000000) only [hn_b1, hr_b1, go_sem]
  (repeat' first | refine And.intro ?_ ?_ | (refine imp.mk fun _ => ?_; simp (dsimp := false) (maxSteps := 4000000) only [hn_b1, hr_b1, go_sem])) <;> exact ⟨H, (AH.le_add (AH.le_refl _) ((by simp only [fresh_add, fresh_set, ne_eq, hn_b1, not_false_eq_true, and_self] : Fresh _ b1).2)), (by first | exact ⟨congrArg Value.bool (Bool.eq_iff_iff.2 (by simp only [agood, decide_eq_true_eq, Bool.false_eq_true, false_iff, true_iff]; omega)), rfl⟩ | rfl)⟩

end Go.Proofs.YtamlipffhimfmaaGreatDoor

/- ifs: files by their numbers, what a store comes to. -/
namespace Go.Proofs.YtamlipffhimfmaaGreatDoor.Ifs
set_option linter.unusedSimpArgs false
set_option linter.unusedVariables false
open Go Go.AX Go.Proofs Go.Proofs.YtamlipffhimfmaaGreatDoor.File

abbrev Fl := Int × List Rc
abbrev Nf := Int × Fl
instance : DecidableEq Nf := fun a b => decidable_of_iff (a.1 = b.1 ∧ a.2.1 = b.2.1 ∧ a.2.2 = b.2.2) ⟨fun h => by
  obtain ⟨x, y, z⟩ := a
  obtain ⟨x', y', z'⟩ := b
  obtain ⟨h1, h2, h3⟩ := h
  dsimp only at h1 h2 h3
  rw [h1, h2, h3], fun h => by subst h; exact ⟨rfl, rfl, rfl⟩⟩
def lk (n : Int) : List Nf → Option Fl
  | [] => none
  | x :: l => if x.1 = n then some x.2 else lk n l
def Kd (X : List Nf) : Prop := (X.map (·.1)).Nodup
theorem lk_some {n : Int} {f : Fl} : ∀ {X : List Nf}, lk n X = some f → (n, f) ∈ X
  | x :: l, h => by
    rw [lk] at h
    split at h
    · rename_i e; cases h; subst e; exact List.mem_cons_self ..
    · exact List.mem_cons_of_mem _ (lk_some h)
theorem lk_none {n : Int} : ∀ {X : List Nf}, lk n X = none ↔ ∀ x ∈ X, x.1 ≠ n
  | [] => by simp [lk]
  | x :: l => by
    rw [lk]
    split
    · rename_i e; simp [e]
    · rename_i e; simp [e, lk_none (X := l)]
theorem Kd.cons {x : Nf} {X : List Nf} (h : Kd (x :: X)) : Kd X ∧ ∀ y ∈ X, y.1 ≠ x.1 := by
  simp only [Kd, List.map_cons, List.nodup_cons, List.mem_map, not_exists, not_and] at h
  exact ⟨h.2, fun y hy e => h.1 y hy e⟩
theorem lk_mem {n : Int} {f : Fl} : ∀ {X : List Nf}, Kd X → (n, f) ∈ X → lk n X = some f
  | x :: l, hk, h => by
    obtain ⟨h1, h2⟩ := hk.cons
    rw [lk]
    rcases List.mem_cons.1 h with h | h
    · subst h; simp
    · rw [if_neg (fun e => h2 _ h e.symm)]; exact lk_mem h1 h
theorem Kd.perm {X Y : List Nf} (h : X.Perm Y) (hk : Kd X) : Kd Y := (h.map _).nodup_iff.1 hk
theorem lk_perm {X Y : List Nf} (h : X.Perm Y) (hk : Kd X) (n : Int) : lk n X = lk n Y := by
  cases hx : lk n X with
  | some f => exact (lk_mem (hk.perm h) (h.mem_iff.1 (lk_some hx))).symm
  | none => exact (lk_none.2 fun y hy => lk_none.1 hx y (h.mem_iff.2 hy)).symm

def rp (n : Int) (f : Fl) (X : List Nf) : List Nf := X.map fun x => if x.1 = n then (n, f) else x
theorem rp_keys (n : Int) (f : Fl) (X : List Nf) : (rp n f X).map (·.1) = X.map (·.1) := by
  rw [rp, List.map_map]
  apply List.map_congr_left
  intro x _
  simp only [Function.comp]
  split
  · rename_i e; exact e.symm
  · rfl
theorem rp_kd {n : Int} {f : Fl} {X : List Nf} (h : Kd X) : Kd (rp n f X) := by unfold Kd; rw [rp_keys]; exact h
theorem rp_perm {n : Int} {f : Fl} {X Y : List Nf} (h : X.Perm Y) : (rp n f X).Perm (rp n f Y) := h.map _
theorem lk_rp (m n : Int) (f : Fl) : ∀ X : List Nf, lk m (rp n f X) = if m = n then (lk n X).map (fun _ => f) else lk m X
  | [] => by simp [rp, lk]
  | x :: l => by
    have ih := lk_rp m n f l
    simp only [rp, List.map_cons] at ih ⊢
    by_cases e : x.1 = n
    · rw [if_pos e]
      by_cases hm : m = n
      · subst hm; simp [lk, e]
      · rw [if_neg hm] at ih
        have e1 : ¬ n = m := fun h => hm h.symm
        have e2 : ¬ x.1 = m := fun h => hm (h.symm.trans e)
        simp only [lk, if_neg hm, if_neg e1, if_neg e2, ih]
    · rw [if_neg e]
      by_cases hm : m = n
      · subst hm
        rw [if_pos rfl] at ih ⊢
        rw [lk, if_neg e, ih, lk, if_neg e]
      · rw [if_neg hm] at ih ⊢
        rw [lk, ih, lk]
theorem rp_mem {n : Int} {f : Fl} {X : List Nf} {x : Nf} (h : x ∈ rp n f X) : x = (n, f) ∧ (∃ g, (n, g) ∈ X) ∨ x ∈ X := by
  obtain ⟨y, hy, he⟩ := List.mem_map.1 h
  split at he
  · rename_i e
    exact .inl ⟨he.symm, y.2, by rw [← e]; exact hy⟩
  · exact .inr (he ▸ hy)

def ins (n : Int) (f : Fl) : List Nf → List Nf
  | [] => [(n, f)]
  | x :: l => if x.1 < n then x :: ins n f l else (n, f) :: x :: l
def Srt (X : List Nf) : Prop := X.Pairwise fun a b => a.1 < b.1
theorem ins_perm (n : Int) (f : Fl) : ∀ X : List Nf, (ins n f X).Perm ((n, f) :: X)
  | [] => .refl _
  | x :: l => by
    rw [ins]
    split
    · exact ((ins_perm n f l).cons x).trans (.swap ..)
    · exact .refl _
theorem ins_mem {n : Int} {f : Fl} {X : List Nf} {x : Nf} : x ∈ ins n f X ↔ x = (n, f) ∨ x ∈ X := by
  rw [(ins_perm n f X).mem_iff, List.mem_cons]
theorem ins_srt {n : Int} {f : Fl} : ∀ {X : List Nf}, Srt X → lk n X = none → Srt (ins n f X)
  | [], _, _ => by simp [Srt, ins]
  | x :: l, h, hn => by
    simp only [Srt, List.pairwise_cons] at h
    have hl := lk_none.1 hn
    rw [ins]
    split
    · rename_i hlt
      have := ins_srt (n := n) (f := f) (X := l) h.2 (lk_none.2 fun y hy => hl y (List.mem_cons_of_mem _ hy))
      simp only [Srt, List.pairwise_cons]
      refine ⟨fun y hy => ?_, this⟩
      rcases ins_mem.1 hy with rfl | hy
      · exact hlt
      · exact h.1 y hy
    · rename_i hge
      have hx := hl x (List.mem_cons_self ..)
      simp only [Srt, List.pairwise_cons]
      refine ⟨fun y hy => ?_, h.1, h.2⟩
      rcases List.mem_cons.1 hy with rfl | hy
      · show n < _; omega
      · have := h.1 y hy
        show n < _; omega
theorem Srt.kd {X : List Nf} (h : Srt X) : Kd X := by
  unfold Kd
  rw [List.Nodup, List.pairwise_map]
  exact h.imp fun hab e => by omega
theorem Srt.uniq : ∀ {X Y : List Nf}, X.Perm Y → Srt X → Srt Y → X = Y
  | [], Y, h, _, _ => (List.nil_perm.1 h).symm
  | x :: X, [], h, _, _ => absurd h.symm (by simp)
  | x :: X, y :: Y, h, hx, hy => by
    simp only [Srt, List.pairwise_cons] at hx hy
    have e : x = y := by
      rcases List.mem_cons.1 (h.mem_iff.1 (List.mem_cons_self ..)) with e | e
      · exact e
      · rcases List.mem_cons.1 (h.mem_iff.2 (List.mem_cons_self ..)) with e2 | e2
        · exact e2.symm
        · have := hx.1 _ e2; have := hy.1 _ e; omega
    subst e
    rw [Srt.uniq (List.Perm.cons_inv h) hx.2 hy.2]
theorem rp_srt {n : Int} {f : Fl} {X : List Nf} (h : Srt X) : Srt (rp n f X) := by
  have : ((rp n f X).map (·.1)).Pairwise (· < ·) := by
    rw [rp_keys, List.pairwise_map]; exact h
  rw [List.pairwise_map] at this
  exact this

def addE (X : List Nf) (n : Int) (f : Fl) : Int := if n < 0 ∨ 64 ≤ n then 1 else if goodF f.1 f.2 = false then 2 else if (lk n X).isSome then 10 else 0
def addX (X : List Nf) (n : Int) (f : Fl) : List Nf := if addE X n f = 0 then X ++ [(n, f)] else X
def doE (X : List Nf) (op fl rec : Int) : Int := if agood op fl rec = false then 1 else match lk fl X with | none => 3 | some f => mayF f.1 f.2 op rec
def doF (f : Fl) (op rec : Int) (v : Rc) : Fl := (f.1, doR f.2 op rec.toNat v)
def doW (X : List Nf) (op fl rec : Int) (v : Rc) : Rc := if doE X op fl rec = 0 then match lk fl X with | none => zr | some f => (doR f.2 op rec.toNat v).getD rec.toNat zr else zr
def doX (X : List Nf) (op fl rec : Int) (v : Rc) : List Nf := if doE X op fl rec = 0 then match lk fl X with | none => X | some f => rp fl (doF f op rec v) X else X
def doD (X : List Nf) (op fl rec : Int) (d : Int) : Int := if doE X op fl rec = 5 then IntKind.i64.wrap (d + 1) else d
def getW (X : List Nf) (n rec : Int) : Option Rc := (lk n X).bind fun f => if rec < 0 then none else f.2[rec.toNat]?
def setOk (X : List Nf) (n rec : Int) : Bool := (getW X n rec).isSome && decide (rec ≠ 0)
def setX (X : List Nf) (n rec : Int) (v : Rc) : List Nf := if setOk X n rec = true then match lk n X with | none => X | some f => rp n (f.1, f.2.set rec.toNat v) X else X

structure OkX (X : List Nf) : Prop where
  kd : Kd X
  ok : ∀ x ∈ X, (0 ≤ x.1 ∧ x.1 < 64) ∧ goodF x.2.1 x.2.2 = true ∧ ∀ r ∈ x.2.2, RcOk r
theorem OkX.nil : OkX [] := ⟨by simp [Kd], by simp⟩
theorem OkX.perm {X Y : List Nf} (h : OkX X) (hp : X.Perm Y) : OkX Y := ⟨h.kd.perm hp, fun x hx => h.ok x (hp.mem_iff.2 hx)⟩
theorem OkX.lk {X : List Nf} (h : OkX X) {n : Int} {f : Fl} (hf : lk n X = some f) : (0 ≤ n ∧ n < 64) ∧ goodF f.1 f.2 = true ∧ ∀ r ∈ f.2, RcOk r := h.ok _ (lk_some hf)
theorem goodF_len {p : Int} {R : List Rc} (h : goodF p R = true) : 1 ≤ R.length ∧ R.length ≤ 256 := by
  unfold goodF at h
  split at h
  · cases h
  · simp only [Bool.and_eq_true, decide_eq_true_eq] at h
    simp only [List.length_cons]; omega
theorem goodF_set {p : Int} {R : List Rc} {i : Nat} {v : Rc} (h : goodF p R = true) (hi : i ≠ 0) : goodF p (R.set i v) = true := by
  cases R with
  | nil => exact h
  | cons r l =>
    cases i with
    | zero => exact absurd rfl hi
    | succ i => simpa [goodF] using h
theorem OkX.rp {X : List Nf} (h : OkX X) {n : Int} {f g : Fl} (hf : Ifs.lk n X = some g) (hg : goodF f.1 f.2 = true) (hr : ∀ r ∈ f.2, RcOk r) : OkX (rp n f X) :=
  ⟨rp_kd h.kd, fun x hx => by
    rcases rp_mem hx with ⟨rfl, _⟩ | hx
    · exact ⟨(h.lk hf).1, hg, hr⟩
    · exact h.ok x hx⟩
theorem OkX.app {X : List Nf} (h : OkX X) {n : Int} {f : Fl} (hn : 0 ≤ n ∧ n < 64) (hf : Ifs.lk n X = none) (hg : goodF f.1 f.2 = true) (hr : ∀ r ∈ f.2, RcOk r) : OkX (X ++ [(n, f)]) :=
  OkX.perm (X := (n, f) :: X) ⟨by
    have := lk_none.1 hf
    simp only [Kd, List.map_cons, List.nodup_cons, List.mem_map, not_exists, not_and]
    exact ⟨fun x hx e => this x hx e, h.kd⟩, fun x hx => by
    rcases List.mem_cons.1 hx with rfl | hx
    · exact ⟨hn, hg, hr⟩
    · exact h.ok x hx⟩ (List.perm_append_singleton (n, f) X).symm
theorem OkX.add {X : List Nf} (h : OkX X) (n : Int) (f : Fl) (hr : ∀ r ∈ f.2, RcOk r) : OkX (addX X n f) := by
  unfold addX
  split
  · rename_i e
    unfold addE at e
    split at e
    · cases e
    split at e
    · cases e
    split at e
    · cases e
    rename_i h1 h2 h3
    exact h.app (by omega) (by simpa using h3) (by simpa using h2) hr
  · exact h
theorem OkX.set {X : List Nf} (h : OkX X) (n rec : Int) {v : Rc} (hv : RcOk v) : OkX (setX X n rec v) := by
  unfold setX
  split
  · rename_i e
    simp only [setOk, Bool.and_eq_true, decide_eq_true_eq] at e
    cases hl : Ifs.lk n X with
    | none => exact h
    | some f =>
      obtain ⟨_, h2, h3⟩ := h.lk hl
      have hr : rec.toNat ≠ 0 := by
        have := e.1
        simp only [getW, hl, Option.bind_some] at this
        split at this
        · cases this
        · omega
      refine h.rp hl (goodF_set h2 hr) fun r hr => ?_
      rcases List.mem_or_eq_of_mem_set hr with hr | hr
      · exact h3 r hr
      · subst hr; exact hv
  · exact h
end Go.Proofs.YtamlipffhimfmaaGreatDoor.Ifs
