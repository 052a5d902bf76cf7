/- '==' of arrays and structs, over the abstract heap. -/
import Derived.Test.YtmkbpdlijfjgkaaDoorAx6
namespace Go.AX
set_option linter.unusedSimpArgs false
set_option linter.unusedVariables false
open Go Go.RowKit
section
variable {P : Program} {H : AH}

theorem qrun_forIn_all {β : Type} (g : β → (Option Bool × Unit) → Sem (ForInStep (Option Bool × Unit))) (t : β → Bool) : ∀ (l : List β), (∀ x ∈ l, ∀ s, qrun P (g x s) H = some (if t x = true then .yield (none, ()) else .done (some false, ()))) →
    qrun P (forIn l (none, ()) g) H = some (if l.all t = true then (none, ()) else (some false, ()))
  | [], _ => rfl
  | x :: l, hg => by
    simp only [List.forIn_cons, qrun_bind, hg x (by simp), Option.bind_some, List.all_cons, Bool.and_eq_true]
    by_cases hx : t x = true
    · simp only [hx, if_true, true_and]
      exact qrun_forIn_all g t l (fun y hy => hg y (by simp [hy]))
    · simp [hx, qrun_pure]

theorem eqIn_array {t e len m sz : Nat} {xs ys : Array Value} {T : Nat → Bool} (hu : P.underlying t = some (.array len e)) (hs : (P.info? e).map (·.size) = some sz)
    (h : ∀ i, i < len → ∃ x y, qrun P (part e xs (i * sz)) H = some x ∧ qrun P (part e ys (i * sz)) H = some y ∧ qrun P (Op.equalIn m e x y) H = some (T i)) :
    qrun P (Op.equalIn (m + 1) t (.agg xs) (.agg ys)) H = some ((List.range len).all T) := by
  simp only [Op.equalIn, qrun_bind, qrun_underlying, hu, Option.bind_some, qrun_sizeOf, hs]
  rw [Std.Legacy.Range.forIn_eq_forIn_range']
  rw [qrun_forIn_all (t := T)]
  · have e : (List.range' [:len].start [:len].size [:len].step).all T = (List.range len).all T := by simp [Std.Legacy.Range.size, List.range_eq_range']
    simp only [Option.bind_some, e]
    cases (List.range len).all T <;> rfl
  · intro i hi s
    have hi' : i < len := by simpa [Std.Legacy.Range.size] using hi
    obtain ⟨x, y, h1, h2, h3⟩ := h i hi'
    simp only [qrun_bind, h1, h2, h3, Option.bind_some]
    cases T i <;> rfl

theorem eqIn_struct {t m : Nat} {fs : Array Field} {xs ys : Array Value} {T : Field → Bool} (hu : P.underlying t = some (.struct fs)) (hst : P.stoodInHeld t = false)
    (h : ∀ f ∈ fs.toList, f.name ≠ "_" ∧ ∃ x y, qrun P (part f.type xs f.offset) H = some x ∧ qrun P (part f.type ys f.offset) H = some y ∧ qrun P (Op.equalIn m f.type x y) H = some (T f)) :
    qrun P (Op.equalIn (m + 1) t (.agg xs) (.agg ys)) H = some (fs.toList.all T) := by
  simp only [Op.equalIn, qrun_bind, qrun_underlying, hu, Option.bind_some, qrun_program, hst, Bool.false_eq_true, if_false]
  rw [← Array.forIn_toList]
  rw [qrun_forIn_all (t := T)]
  · cases fs.toList.all T <;> rfl
  · intro f hf s
    obtain ⟨hn, x, y, h1, h2, h3⟩ := h f hf
    simp only [hn, if_true, ne_eq, not_false_eq_true, qrun_bind, h1, h2, h3, Option.bind_some]
    cases T f <;> rfl

theorem part_scal {e i : Nat} {cs : List Value} {v : Value} (ha : isAggU (P.underlying e) = some false) (h : cs[i]? = some v) : qrun P (part e cs.toArray i) H = some v := by
  simp only [part, qrun_bind, qrun_isAgg, ha, Option.bind_some, Bool.false_eq_true, if_false, List.getElem?_toArray, h, qrun_pure]
theorem part_agg {e i sz : Nat} {cs : List Value} (ha : isAggU (P.underlying e) = some true) (hs : (P.info? e).map (·.size) = some sz) : qrun P (part e cs.toArray i) H = some (.agg ((cs.drop i).take sz).toArray) := by
  simp only [part, qrun_bind, qrun_isAgg, ha, Option.bind_some, if_true, qrun_sizeOf, hs, qrun_pure, Option.some.injEq, Value.agg.injEq]
  apply Array.ext'
  simp [List.extract_eq_take_drop]

theorem all_range_getD {α : Type} (p : α → α → Bool) (d : α) : ∀ (as bs : List α), as.length = bs.length → (List.range as.length).all (fun i => p (as.getD i d) (bs.getD i d)) = (as.zip bs).all (fun x => p x.1 x.2)
  | [], [], _ => rfl
  | [], _ :: _, h => by simp at h
  | _ :: _, [], h => by simp at h
  | a :: as, b :: bs, h => by
    have ih := all_range_getD p d as bs (by simpa using h)
    simp only [List.length_cons, List.range_succ_eq_map, List.all_cons, List.all_map, List.zip_cons_cons, ← ih]
    congr 1

theorem zip_all_eq {α : Type} [BEq α] : ∀ (as bs : List α), as.length = bs.length → (as.zip bs).all (fun x => x.1 == x.2) = (as == bs)
  | [], [], _ => rfl
  | [], _ :: _, h => by simp at h
  | _ :: _, [], h => by simp at h
  | a :: as, b :: bs, h => by
    simp only [List.zip_cons_cons, List.all_cons, zip_all_eq as bs (by simpa using h)]
    rfl

/-- Arrays of whole numbers. -/
theorem eqIn_ints {t e m : Nat} {k : IntKind} {as bs : List Int} (hu : P.underlying t = some (.array as.length e)) (he : P.underlying e = some (.int k)) (hs : (P.info? e).map (·.size) = some 1) (hl : as.length = bs.length) :
    qrun P (Op.equalIn (m + 2) t (.agg (as.map (.int k)).toArray) (.agg (bs.map (.int k)).toArray)) H = some (as == bs) := by
  rw [eqIn_array (T := fun i => as.getD i 0 == bs.getD i 0) hu hs, all_range_getD _ _ _ _ hl, zip_all_eq _ _ hl]
  intro i hi
  refine ⟨.int k (as.getD i 0), .int k (bs.getD i 0), part_scal (by rw [he]; rfl) ?_, part_scal (by rw [he]; rfl) ?_, eqIn_int he⟩
  · simp [List.getElem?_eq_getElem hi]
  · simp [List.getElem?_eq_getElem (hl ▸ hi)]

/-- Arrays of truth values. -/
theorem eqIn_bools {t e m : Nat} {as bs : List Bool} (hu : P.underlying t = some (.array as.length e)) (he : P.underlying e = some .bool) (hs : (P.info? e).map (·.size) = some 1) (hl : as.length = bs.length) :
    qrun P (Op.equalIn (m + 2) t (.agg (as.map .bool).toArray) (.agg (bs.map .bool).toArray)) H = some (as == bs) := by
  rw [eqIn_array (T := fun i => as.getD i false == bs.getD i false) hu hs, all_range_getD _ _ _ _ hl, zip_all_eq _ _ hl]
  intro i hi
  refine ⟨.bool (as.getD i false), .bool (bs.getD i false), part_scal (by rw [he]; rfl) ?_, part_scal (by rw [he]; rfl) ?_, eqIn_bool he⟩
  · simp [List.getElem?_eq_getElem hi]
  · simp [List.getElem?_eq_getElem (hl ▸ hi)]

theorem eqg_agg {op : BinOp} {t : TypeId} {x y : Operand} {xs ys : Array Value} (hg : P.eqGuardType P.depth t = false) : qrun P (eqGuard op t x y (.agg xs) (.agg ys)) H = some () := by
  cases op <;> simp [eqGuard, qrun_bind, qrun_pure, qrun_program, hg]

theorem info_sz {e : TypeId} {n : Nat} (h : P.cellsOf e = n) (hn : n ≠ 0) : (P.info? e).map (·.size) = some n := by
  subst h; exact info_size hn

/-- '==' of two arrays of whole numbers. -/
theorem bin_eql_ints {t e : Nat} {k : IntKind} {as bs : List Int} {x y : Operand} {kk : Value → Prop} (hg : P.eqGuardType P.depth t = false) (hu : P.underlying t = some (.array as.length e)) (he : P.underlying e = some (.int k)) (hs : P.cellsOf e = 1) (hl : as.length = bs.length) (hk : nv (.bool (as == bs)) kk) :
    bin (P.underlying t) P H .eql t x y (.agg (as.map (.int k)).toArray) (.agg (bs.map (.int k)).toArray) kk := by
  rw [bin_eql_of (eqg_agg hg) rfl (fun _ => eqIn_ints hu he (info_sz hs (by simp)) hl)]
  exact ⟨rfl, hk⟩
theorem bin_neq_ints {t e : Nat} {k : IntKind} {as bs : List Int} {x y : Operand} {kk : Value → Prop} (hg : P.eqGuardType P.depth t = false) (hu : P.underlying t = some (.array as.length e)) (he : P.underlying e = some (.int k)) (hs : P.cellsOf e = 1) (hl : as.length = bs.length) (hk : nv (.bool !(as == bs)) kk) :
    bin (P.underlying t) P H .neq t x y (.agg (as.map (.int k)).toArray) (.agg (bs.map (.int k)).toArray) kk := by
  rw [bin_neq_of (eqg_agg hg) rfl (fun _ => eqIn_ints hu he (info_sz hs (by simp)) hl)]
  exact ⟨rfl, hk⟩

end
end Go.AX
