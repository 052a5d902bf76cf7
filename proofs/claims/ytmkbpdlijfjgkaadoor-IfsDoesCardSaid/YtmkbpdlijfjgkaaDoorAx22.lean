/- The engine: ranges over maps of our own; what is known is made less behind a piece of code. -/
import Derived.Test.YtmkbpdlijfjgkaaDoorAx21
namespace Go.AX
set_option linter.unusedSimpArgs false
set_option linter.unusedVariables false
open Go Go.RowKit

/-! ### Knowing less, behind a piece of code -/
def Imp (H H' : AH) : Prop := ∀ E w, Sat E H w → Sat E H' w
theorem Imp.refl (H : AH) : Imp H H := fun _ _ h => h
theorem Imp.trans {A B C : AH} (h : Imp A B) (k : Imp B C) : Imp A C := fun E w hs => k E w (h E w hs)
theorem Imp.of_le {H H' : AH} (h : H'.le H) : Imp H H' := fun _ _ hs => hs.mono h
theorem AWp.imp {P : Program} {n : Nat} {c : Code} {Q : Exit → Fr → AH → Prop} {fr : Fr} {H : AH} (h : AWp P n c (fun e fr H => ∃ H', Imp H H' ∧ Q e fr H') fr H) : AWp P n c Q fr H :=
  fun E a w hf hs => wp_mono (h E a w hf hs) fun _ _ _ ⟨fr, H, h1, h2, H', h3, h4⟩ => ⟨fr, H', h1, h3 _ _ h2, h4⟩
theorem ACalls.imp {P : Program} {f : FuncId} {args : Array Value} {H : AH} {K : Value → AH → Prop} (h : ACalls P f args H (fun v H' => ∃ H2, Imp H' H2 ∧ K v H2)) : ACalls P f args H K :=
  fun E w hs => (h E w hs).mono fun e w' ⟨v, H', h1, h2, H2, h3, h4⟩ => ⟨v, H2, h1, h3 _ _ h2, h4⟩

/-! ### A map's entries, known to the letter -/
theorem Sat.exact {E : Nat → Option Obj} {H : AH} {w : World} {m : Nat} {es : List (Value × Value)} (h : Sat E H w) (hf : H.find m = some (.amap es)) : ∃ en cl, MapIs es en cl ∧ Sat E (H.set m (.obj (.map en cl))) w := by
  obtain ⟨h1, h2, en, cl, ha, h3, h4⟩ := h.known _ _ hf
  refine ⟨en, cl, ⟨h3, h4⟩, h.below, fun b k hk => ?_, fun b o ho => ?_⟩
  · rw [find_set] at hk
    split at hk
    · rename_i e; subst e; cases hk; exact ⟨h1, h2, ha, rfl⟩
    · exact h.known _ _ hk
  · obtain ⟨q1, q2, q3⟩ := h.far b o ho
    refine ⟨q1, ?_, q3⟩
    rw [find_set, if_neg (fun e => by subst e; rw [hf] at q2; cases q2)]; exact q2
theorem Imp.amap {H H' : AH} {m : Nat} {es : List (Value × Value)} {en : Array MapEntry} {cl : Nat} (hf : H.find m = some (.obj (.map en cl))) (hm : MapIs es en cl) (hw : H'.w0 = H.w0)
    (ha : ∀ b k, H'.find b = some k → b ≠ m → H.find b = some k) (hb : ∀ k, H'.find m = some k → k = .amap es) : Imp H H' := fun E w h => by
  refine ⟨hw ▸ h.below, fun b k hk => ?_, fun b o ho => ?_⟩
  · by_cases e : b = m
    · subst e
      obtain rfl := hb k hk
      obtain ⟨h1, h2, h3, _⟩ := h.known _ _ hf
      exact ⟨hw ▸ h1, h2, en, cl, h3, hm.1, hm.2⟩
    · exact hw ▸ h.known b k (ha b k hk e)
  · obtain ⟨q1, q2, q3⟩ := h.far b o ho
    refine ⟨hw ▸ q1, ?_, q3⟩
    cases hk : H'.find b with
    | none => rfl
    | some k =>
      by_cases e : b = m
      · subst e; rw [hf] at q2; cases q2
      · rw [ha b k hk e] at q2; cases q2

section
variable {P : Program} {H : AH} {n d : Nat} {ds : List (Option Tmp)} {fr : Fr} {K : Fr → AH → Prop} {q : Bool} {ty : TypeId} {pos : String} {af : Array Edge} {rest : List Oper}
def RNG (P : Program) (t : TypeId) (x : Value) (H : AH) (k : Value → AH → Prop) (_t : Lk (k, H) := .mk) : Prop := ASem P (do pure (.value (← Instr.range t x))) H k
def NXT (P : Program) (it : Value) (b : Bool) (ty : TypeId) (H : AH) (k : Value → AH → Prop) (_t : Lk (k, H) := .mk) : Prop := ASem P (do pure (.value (← Instr.next it b ty))) H k
theorem T_range {t : TypeId} {x : Operand} : vops q P n ds (⟨(some d), .range t x, ty, pos, af, none⟩ :: rest) fr H K = (d < n ∧ q = false ∧ wv fr x fun x => RNG P t x H fun v H' => vops q P n ds rest ((d, v) :: fr) H' K) := by
  rw [← dok_some]
  apply propext
  constructor
  · rintro ⟨h1, h2, _, h3, h4⟩
    exact ⟨h1, h3, by simpa [Op.operands] using h2, h4⟩
  · rintro ⟨h1, h2, h3, h4⟩
    exact ⟨h1, by simpa [Op.operands] using h3, rfl, h2, h4⟩
theorem T_next {x : Operand} {b : Bool} : vops q P n ds (⟨(some d), .next x b, ty, pos, af, none⟩ :: rest) fr H K = (d < n ∧ q = false ∧ wv fr x fun x => NXT P x b ty H fun v H' => vops q P n ds rest ((d, v) :: fr) H' K) := by
  rw [← dok_some]
  apply propext
  constructor
  · rintro ⟨h1, h2, _, h3, h4⟩
    exact ⟨h1, h3, by simpa [Op.operands] using h2, h4⟩
  · rintro ⟨h1, h2, h3, h4⟩
    exact ⟨h1, by simpa [Op.operands] using h3, rfl, h2, h4⟩
def ENT (P : Program) (it : Value) (H : AH) (k : Value → AH → Prop) (_t : Lk (k, H) := .mk) : Prop := ASem P (do pure (.value (← Instr.entry it))) H k
theorem T_entry {x : Operand} : vops q P n ds (⟨(some d), .entry x, ty, pos, af, none⟩ :: rest) fr H K = (d < n ∧ q = false ∧ wv fr x fun x => ENT P x H fun v H' => vops q P n ds rest ((d, v) :: fr) H' K) := by
  rw [← dok_some]
  apply propext
  constructor
  · rintro ⟨h1, h2, _, h3, h4⟩
    exact ⟨h1, h3, by simpa [Op.operands] using h2, h4⟩
  · rintro ⟨h1, h2, h3, h4⟩
    exact ⟨h1, by simpa [Op.operands] using h3, rfl, h2, h4⟩
end
attribute [go_sem ↓] T_range T_next T_entry

theorem RNG.map {P : Program} {H : AH} {t kt et m : Nat} {es : List (Value × Value)} {k : Value → AH → Prop} (hu : P.underlying t = some (.map kt et)) (hf : H.find m = some (.amap es))
    (hk : ∀ en cl, MapIs es en cl → AllB (H.set m (.obj (.map en cl))) fun b => k (.pointer (some ⟨b, 0, none⟩)) ((H.set m (.obj (.map en cl))).add b (.obj (.mapIter (some m) cl #[] cl)))) : RNG P t (.map (some m)) H k :=
  fun E w hs => by
    obtain ⟨en, cl, hm, hs'⟩ := hs.exact hf
    have := hk en cl hm
    refine ASem.of_arun (H := H.set m (.obj (.map en cl))) (K := k) ?_ E w hs'
    rw [arun_bind]
    unfold Instr.range
    refine arun_qbind ((qrun_underlying t).trans hu) ?_
    simp only [getObj, arun_bind, arun, find_set, if_true, newObj]
    exact this

/-- The entries that a range has not come to. -/
def left (en : Array MapEntry) (D : List MapEntry) : List MapEntry := en.toList.filter fun e => !(D.map (·.born)).contains e.born

theorem nodup_born {l : List MapEntry} (h : (l.map (·.born)).Nodup) {a b : MapEntry} (ha : a ∈ l) (hb : b ∈ l) (e : a.born = b.born) : a = b := by
  induction l with
  | nil => cases ha
  | cons x l ih =>
    simp only [List.map_cons, List.nodup_cons, List.mem_map, not_exists, not_and] at h
    rcases List.mem_cons.1 ha with ha1 | ha1
    · rcases List.mem_cons.1 hb with hb1 | hb1
      · rw [ha1, hb1]
      · exact absurd (ha1 ▸ e).symm (h.1 b hb1)
    · rcases List.mem_cons.1 hb with hb1 | hb1
      · exact absurd (hb1 ▸ e) (h.1 a ha1)
      · exact ih h.2 ha1 hb1

theorem NXT.map {P : Program} {H : AH} {ty i m cl : Nat} {en : Array MapEntry} {D : List MapEntry} {k : Value → AH → Prop} (hi : H.find i = some (.obj (.mapIter (some m) cl (D.map (·.born)).toArray cl))) (hm : H.find m = some (.obj (.map en cl)))
    (hb : BornOk en cl) (h0 : left en D = [] → k (.tuple #[.bool false]) H)
    (h1 : ∀ e ∈ left en D, k (.tuple #[.bool true, e.key, e.val]) (H.set i (.obj (.mapIter (some m) cl ((D ++ [e]).map (·.born)).toArray cl)))) : NXT P (.pointer (some ⟨i, 0, none⟩)) false ty H k := by
  refine ASem.of_arun ?_
  rw [arun_bind]
  unfold Instr.next
  simp only [getObj, arun_bind, arun, hi, hm]
  have c1 : (!((D.map (·.born)).toArray).isEmpty && !en.isEmpty && en.all fun e => decide (e.born ≥ cl)) = false := by
    cases hen : en.isEmpty with
    | true => simp
    | false =>
      have hne : en.toList ≠ [] := fun h => by simp [Array.isEmpty, Array.toList_eq_nil_iff.1 h] at hen
      obtain ⟨x, hx⟩ := List.exists_mem_of_ne_nil _ hne
      have : (en.all fun e => decide (e.born ≥ cl)) = false := by
        rw [Array.all_eq_false]
        obtain ⟨j, hj, he⟩ := List.mem_iff_getElem.1 hx
        refine ⟨j, by simpa using hj, ?_⟩
        have := hb.1 x hx
        have he' : en[j]'(by simpa using hj) = x := by rw [← he]; simp
        rw [he']; simp; omega
      rw [this]; simp
  rw [if_neg (by rw [c1]; decide)]
  have hl : (en.filter fun e => !((D.map (·.born)).toArray).contains e.born) = (left en D).toArray := by
    apply Array.ext'
    simp [left]
  have hold : ((left en D).toArray.filter fun e => decide (e.born < cl)) = (left en D).toArray := by
    rw [Array.filter_eq_self]
    intro x hx
    have : x ∈ left en D := by simpa using hx
    simpa using hb.1 x ((List.mem_filter.1 this).1)
  have hnew : ((left en D).toArray.filter fun e => decide (e.born ≥ cl)) = #[] := by
    rw [Array.filter_eq_empty_iff]
    intro x hx
    have : x ∈ left en D := by simpa using hx
    have := hb.1 x ((List.mem_filter.1 this).1)
    simp; omega
  simp only [hl, hold, hnew, Array.append_empty]
  cases hL : left en D with
  | nil =>
    simp only [Array.isEmpty, List.size_toArray, List.length_nil, decide_true, if_true, List.map_toArray, List.map_nil, Array.append_empty]
    simp only [choose, arun, Question.forced]
    exact h0 hL
  | cons x L =>
    have hne : (x :: L).toArray.isEmpty = false := by simp
    simp only [hne, Bool.false_eq_true, if_false, List.map_toArray, Array.empty_append]
    have fin : ∀ j, j < (x :: L).length → arun P (match ((x :: L).map some).toArray[j]? with
        | some (some e) => do
          setObj i (.mapIter (some m) cl ((D.map (·.born)).toArray.push e.born) cl)
          pure (Value.tuple #[.bool true, e.key, e.val])
        | some none => pure (Value.tuple #[.bool false])
        | none => stuck "Next: no such candidate") H fun a H' => arun P (pure (Next.value a)) H' (anext false P k) := fun j hj => by
      have hg : ((x :: L).map some).toArray[j]? = some (some (x :: L)[j]) := by
        rw [List.getElem?_toArray, List.getElem?_map, List.getElem?_eq_getElem hj]; rfl
      rw [hg]
      have hmem : (x :: L)[j] ∈ left en D := by rw [hL]; exact List.getElem_mem _
      have := h1 _ hmem
      simp only [setObj, arun_bind, arun, hi, isC, true_and]
      have e1 : (D.map (·.born)).toArray.push (x :: L)[j].born = ((D ++ [(x :: L)[j]]).map (·.born)).toArray := by simp
      rw [e1]
      exact this
    simp only [choose, arun_bind, arun]
    split
    · exact fin 0 (by simp)
    · intro t
      exact fin (t % _) (by rw [List.size_toArray, List.length_map]; exact Nat.mod_lt _ (by simp))
theorem ENT.map {P : Program} {H : AH} {i m cl : Nat} {en : Array MapEntry} {D : List MapEntry} {e : MapEntry} {k : Value → AH → Prop} (hi : H.find i = some (.obj (.mapIter (some m) cl ((D ++ [e]).map (·.born)).toArray cl))) (hm : H.find m = some (.obj (.map en cl)))
    (hb : BornOk en cl) (he : e ∈ en.toList) (hk : k (.tuple #[e.key, e.val]) H) : ENT P (.pointer (some ⟨i, 0, none⟩)) H k := by
  refine ASem.of_arun ?_
  rw [arun_bind]
  unfold Instr.entry
  have hback : ((D ++ [e]).map (·.born)).toArray.back? = some e.born := by simp
  have hfind : en.find? (fun x => x.born == e.born) = some e := by
    cases hf : en.find? (fun x => x.born == e.born) with
    | none =>
      have := Array.find?_eq_none.1 hf e (by simpa using he)
      simp at this
    | some x =>
      have h1 := Array.find?_some hf
      have h2 := Array.mem_of_find?_eq_some hf
      have h3 : x = e := nodup_born hb.2 (by simpa using h2) he (by simpa using h1)
      rw [h3]
  simp only [getObj, arun_bind, arun, hi, hm, hback, bne_self_eq_false, Bool.false_eq_true, if_false, hfind]
  exact hk
/-! ### The rounds of such a range -/
/-- D: the entries that a range has come to, of those of the map. -/
structure Rnd (en : Array MapEntry) (cl : Nat) (D : List MapEntry) : Prop where
  ok : BornOk en cl
  sub : ∀ e ∈ D, e ∈ en.toList
  nd : (D.map (·.born)).Nodup
theorem Rnd.nil {en : Array MapEntry} {cl : Nat} (h : BornOk en cl) : Rnd en cl [] := ⟨h, by simp, by simp⟩
theorem Rnd.of_left {en : Array MapEntry} {cl : Nat} {D : List MapEntry} {e : MapEntry} (he : e ∈ left en D) : e ∈ en.toList ∧ e.born ∉ D.map (·.born) := by
  obtain ⟨h1, h2⟩ := List.mem_filter.1 he
  exact ⟨h1, by simpa using h2⟩
theorem Rnd.step {en : Array MapEntry} {cl : Nat} {D : List MapEntry} {e : MapEntry} (h : Rnd en cl D) (he : e ∈ left en D) : Rnd en cl (D ++ [e]) := by
  obtain ⟨h1, h2⟩ := Rnd.of_left (cl := cl) he
  refine ⟨h.ok, fun x hx => ?_, ?_⟩
  · rcases List.mem_append.1 hx with hx | hx
    · exact h.sub x hx
    · rw [List.mem_singleton.1 hx]; exact h1
  · rw [List.map_append, List.nodup_append]
    exact ⟨h.nd, by simp, fun a ha b hb => by
      simp at hb; subst hb
      intro e'; exact h2 (e' ▸ ha)⟩
theorem nodup_of_map {α β : Type} {f : α → β} : ∀ {l : List α}, (l.map f).Nodup → l.Nodup
  | [], _ => by simp
  | x :: l, h => by
    simp only [List.map_cons, List.nodup_cons, List.mem_map, not_exists, not_and] at h
    exact List.nodup_cons.2 ⟨fun hx => h.1 x hx rfl, nodup_of_map h.2⟩
theorem Rnd.less {en : Array MapEntry} {D : List MapEntry} {e : MapEntry} (he : e ∈ left en D) : (left en (D ++ [e])).length < (left en D).length := by
  have h : left en (D ++ [e]) = (left en D).filter fun x => !(x.born == e.born) := by
    unfold left
    rw [List.filter_filter]
    apply List.filter_congr
    intro x _
    simp only [List.map_append, List.map_cons, List.map_nil, List.contains_append]
    by_cases hx : x.born = e.born
    · simp [hx]
    · have : (x.born == e.born) = false := by simpa using hx
      simp [hx]
  rw [h]
  exact List.length_filter_lt_length_iff_exists.2 ⟨e, he, by simp⟩
theorem Rnd.done {en : Array MapEntry} {cl : Nat} {D : List MapEntry} (h : Rnd en cl D) (hl : left en D = []) : D.Perm en.toList := by
  rw [List.perm_ext_iff_of_nodup (nodup_of_map h.nd) (nodup_of_map h.ok.2)]
  intro e
  refine ⟨h.sub e, fun he => ?_⟩
  have : e ∉ left en D := by rw [hl]; simp
  have hb : e.born ∈ D.map (·.born) := by
    rcases Classical.em (e.born ∈ D.map (·.born)) with h' | h'
    · exact h'
    · exact absurd (List.mem_filter.2 ⟨he, by simpa using h'⟩) this
  obtain ⟨x, hx, hxe⟩ := List.mem_map.1 hb
  rw [nodup_born h.ok.2 he (h.sub x hx) hxe.symm]; exact hx
end Go.AX
