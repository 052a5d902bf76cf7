/- An append to a fresh empty slice: a copy. -/
import Derived.Test.YtadbmmdmibiikaaAx18
namespace Go.AX
set_option linter.unusedSimpArgs false
set_option linter.unusedVariables false
open Go Go.RowKit

theorem srow_mono {H : AH} {b sz : Nat} {k : ABlk} {x : Value} {new : List Value} (hf : Fresh H b) (h : srow H sz x = some new) : srow (H.add b k) sz x = some new := by
  unfold srow at h ⊢
  split at h
  · exact row_mono hf h
  · exact h
  · exact h
  · cases h
theorem APD.clone {P : Program} {H : AH} {t t2 e sz bt b m : Nat} {zs new : List Value} {x : Value} {k : Value → AH → Prop} (hE : slE P t = some (e, sz, zs, bt)) (hz : zs.length = sz) (hbt : bt ≠ 0) (hni : nInt (P.underlying t2) = true)
    (hf : Fresh H b) (hx : slen x = some m) (hnew : srow H sz x = some new) (hsc : new.all scal = true) (hroom : (2 * m + 192) * bt ≤ 281474976710656)
    (hk : ∀ b' c' bs', Fresh H b' → m ≤ c' → c' * sz ≤ bs' → k (.slice (some ⟨b', 0, none⟩) m c') (H.add b' (.cells new e bs'))) : APD P (some t) (some t2) [.slice (some ⟨b, 0, none⟩) 0 0, x] (H.add b (.cells [] e 0)) k := by
  have hnew' : srow (H.add b (.cells [] e 0)) sz x = some new := srow_mono hf hnew
  have := APD.own2 (P := P) (H := H.add b (.cells [] e 0)) (t := t) (t2 := t2) (e := e) (sz := sz) (bt := bt) (b := b) (n := 0) (cap := 0) (m := m) (bs := 0) (zs := zs) (cs := []) (new := new) (x := x) (k := k) hE hz hbt hni (find_add_self _ _ _) (by simp) (by simp) hx hnew' (Nat.le_refl _) hsc (by rw [Nat.zero_add]; exact hroom) fun b' c' bs' HH hb hc hbs hHH => by
    rw [del_add_self, del_fresh hf, List.nil_append] at hHH
    subst hHH
    rw [Nat.zero_add] at hc ⊢
    refine hk b' c' bs' ?_ hc hbs
    rcases hb with rfl | h
    · exact hf
    · exact Fresh.of_le (AH.le_add (AH.le_refl _) hf.2) h
  exact this
end Go.AX
