/- An append to a fresh empty slice: a copy. -/
import Derived.Test.YtmkbpdlijfjgkaaDoorAx18
namespace Go.AX
set_option linter.unusedSimpArgs false
set_option linter.unusedVariables false
open Go Go.RowKit

theorem srow_mono {H : AH} {b sz : Nat} {k : ABlk} {x : Value} {new : List Value} (hf : Fresh H b) (h : srow H sz x = some new) : srow (H.add b k) sz x = some new := by
  unfold srow at h ⊢
  split at h
  · exact row_mono hf h
  · exact h
  · exact h
  · cases h
theorem APD.clone {P : Program} {H : AH} {t t2 e sz bt b m : Nat} {zs new : List Value} {x : Value} {k : Value → AH → Prop} (hE : slE P t = some (e, sz, zs, bt)) (hz : zs.length = sz) (hbt : bt ≠ 0) (hni : nInt (P.underlying t2) = true)
    (hf : Fresh H b) (hx : slen x = some m) (hnew : srow H sz x = some new) (hsc : new.all scal = true) (hroom : (2 * m + 192) * bt ≤ 281474976710656)
    (hk : ∀ b' c' bs', Fresh H b' → m ≤ c' → c' * sz ≤ bs' → k (.slice (some ⟨b', 0, none⟩) m c') (H.add b' (.cells new e bs'))) : APD P (some t) (some t2) [.slice (some ⟨b, 0, none⟩) 0 0, x] (H.add b (.cells [] e 0)) k := by
  have hnew' : srow (H.add b (.cells [] e 0)) sz x = some new := srow_mono hf hnew
  have := APD.own2 (P := P) (H := H.add b (.cells [] e 0)) (t := t) (t2 := t2) (e := e) (sz := sz) (bt := bt) (b := b) (n := 0) (cap := 0) (m := m) (bs := 0) (zs := zs) (cs := []) (new := new) (x := x) (k := k) hE hz hbt hni (find_add_self _ _ _) (by simp) (by simp) hx hnew' (Nat.le_refl _) hsc (by rw [Nat.zero_add]; exact hroom) fun b' c' bs' HH hb hc hbs hHH => by
    rw [del_add_self, del_fresh hf, List.nil_append] at hHH
    subst hHH
    rw [Nat.zero_add] at hc ⊢
    refine hk b' c' bs' ?_ hc hbs
    rcases hb with rfl | h
    · exact hf
    · exact Fresh.of_le (AH.le_add (AH.le_refl _) hf.2) h
  exact this
/-- Nothing is appended, wherever it lies. -/
theorem APD.zero {P : Program} {H : AH} {t t2 e sz bt n cap c : Nat} {zs : List Value} {base a : Option Addr} {k : Value → AH → Prop} (hE : slE P t = some (e, sz, zs, bt)) (hni : nInt (P.underlying t2) = true) (hnc : n ≤ cap) (hk : k (.slice base n cap) H) :
    APD P (some t) (some t2) [.slice base n cap, .slice a 0 c] H k := fun ts ty h0 h1 => by
  obtain ⟨hu, i, z, hi, hz, h1', h2, h3⟩ := slE_some hE
  obtain ⟨u2, hu2⟩ : ∃ u, P.underlying t2 = some u := by cases hh : P.underlying t2 with
    | none => rw [hh] at hni; cases hni
    | some u => exact ⟨u, rfl⟩
  suffices hm : arun P (Builtin.append_ ts ty #[.slice base n cap, .slice a 0 c]) H k by
    intro E w hs
    obtain ⟨v, w', H', r1, r2, r5⟩ := arun_sound P _ _ _ w hm hs
    refine ⟨.value v, w', H', ?_, r2, r5⟩
    show (Builtin.append_ ts ty #[.slice base n cap, .slice a 0 c] >>= fun v => pure (Next.value v)).run P w = _
    simp only [Sem.run_bind, r1, Result.andThen_ok, Sem.run_pure]
  unfold Builtin.append_
  simp only [h0, h1]
  refine arun_qbind ((qrun_underlying t).trans hu) ?_
  refine arun_qbind (a := sz) (by rw [qrun_sizeOf, hi, Option.map_some, h1']) ?_
  refine arun_qbind ((qrun_underlying t2).trans hu2) ?_
  refine arun_qbind (a := false) (by cases u2 <;> first | rfl | (rw [hu2] at hni; cases hni)) ?_
  simp only [Bool.false_eq_true, if_false, Bool.not_false, if_true]
  refine arun_qbind (qrun_lenOf (n := 0) rfl) ?_
  rw [if_pos (by omega)]
  refine arun_qbind (a := #[]) ?_ ?_
  · cases a with
    | none => simp [Builtin.firstCells, qrun_pure]
    | some a => simp only [Builtin.firstCells, Nat.zero_mul]; rfl
  cases base with
  | none => exact hk
  | some a => exact hk
end Go.AX
