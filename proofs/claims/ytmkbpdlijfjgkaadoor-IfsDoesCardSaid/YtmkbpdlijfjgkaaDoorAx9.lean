/- The engine: an element, a field, a part of a slice, of an array, of a string; frames and rows at a loop's head. -/
import Derived.Test.YtmkbpdlijfjgkaaDoorAx7
namespace Go.AX
set_option linter.unusedSimpArgs false
set_option linter.unusedVariables false
open Go Go.RowKit
section
variable {P : Program} {H : AH}

theorem qrun_bounds {α : Type} (k : IntKind) (x y : Int) (c : BoundsCode) : qrun P (boundsPanic k x y c : Sem α) H = none := by
  unfold boundsPanic
  split <;> rfl

def bnd (d : Nat) (o : Option Value) (y : Nat) (k : Nat → Prop) (_t : Lk k := .mk) : Prop :=
  match o with
  | none => k d
  | some (.int _ i) => 0 ≤ i ∧ i ≤ y ∧ k i.toNat
  | _ => False
theorem bnd_none {d y : Nat} {k : Nat → Prop} : bnd d none y k = k d := Eq.trans rfl rfl
theorem bnd_int {d y : Nat} {kd : IntKind} {i : Int} {k : Nat → Prop} : bnd d (some (.int kd i)) y k = (0 ≤ i ∧ i ≤ y ∧ k i.toNat) := Eq.trans rfl rfl

theorem qrun_sliceBound {kd : IntKind} {i : Int} {y : Nat} {c : BoundsCode} : qrun P (Instr.sliceBound (.int kd i) y c) H = if 0 ≤ i ∧ i ≤ y then some i.toNat else none := by
  simp only [Instr.sliceBound, asIntOf, qrun_bind, qrun_pure, Option.bind_some]
  split
  · rfl
  · exact qrun_bounds _ _ _ _

/-- A value that is no integer is no bound. -/
def isInt : Option Value → Bool
  | none => true
  | some (.int _ _) => true
  | _ => false
theorem isInt_none : isInt none = true := Eq.trans rfl rfl
theorem isInt_int {k : IntKind} {i : Int} : isInt (some (.int k i)) = true := Eq.trans rfl rfl

theorem wo_sliceBound {v : Value} {y : Nat} {c : BoundsCode} {k : Nat → Prop} {d : Nat} : wo (qrun P (Instr.sliceBound v y c) H) k = bnd d (some v) y k := by
  cases v
  case int kd i =>
    rw [qrun_sliceBound, bnd_int]
    by_cases hh : 0 ≤ i ∧ i ≤ y
    · simp [hh, wo]
    · simp only [hh, if_false, wo]
      simp only [← and_assoc, hh, false_and]
  case pointer a => simp only [Instr.sliceBound, asIntOf, qrun_bind]; cases a <;> rfl
  all_goals rfl

theorem wo_bind {α β : Type} (o : Option α) (f : α → Option β) (k : β → Prop) : wo (o.bind f) k = wo o fun a => wo (f a) k := by cases o <;> rfl

theorem wo_sliceBounds {s : Bool} {len cap : Nat} {lo hi : Option Value} {k : Nat × Nat × Nat → Prop} :
    wo (qrun P (Instr.sliceBounds s len cap lo hi none) H) k = bnd len hi cap fun h => bnd 0 lo h fun l => k (l, h, cap) := by
  have e : ∀ (x : Nat), wo (qrun P (do
      let l ← match lo with
        | some v => Instr.sliceBound v x (if (none : Option Value).isSome then .slice3C else .sliceB)
        | none => pure 0
      pure (l, x, cap)) H) k = bnd 0 lo x fun l => k (l, x, cap) := by
    intro x
    cases lo with
    | none => rfl
    | some v => simp only [qrun_bind, wo_bind]; exact wo_sliceBound
  unfold Instr.sliceBounds
  cases hi with
  | none => exact e len
  | some v =>
    simp only [qrun_bind, qrun_pure, Option.bind_some, wo_bind]
    have e' := fun x => (by have := e x; simp only [qrun_bind, wo_bind] at this; exact this)
    refine Eq.trans ?_ (wo_sliceBound (P := P) (H := H) (c := if s then .sliceAcap else .sliceAlen))
    exact congrArg (fun k => wo (qrun P (Instr.sliceBound v cap (if s then .sliceAcap else .sliceAlen)) H) k) (funext fun x => e' x)

theorem rdop_slice_arr {t n e b o : Nat} {lo hi : Option Value} {K : Value → Prop} (hu : P.underlying t = some (.array n e)) (hz : P.cellsOf e ≠ 0) :
    rdop P H (Instr.sliceAt t (.pointer (some ⟨b, o, none⟩)) lo hi none) K = bnd n hi n fun h => bnd 0 lo h fun l => nv (.slice (some ⟨b, if n = l then o else o + l * P.cellsOf e, none⟩) (h - l) (n - l)) K := by
  unfold rdop
  simp only [Instr.sliceAt, qrun_bind, qrun_underlying, hu, Option.bind_some, Instr.sureAddr, qrun_pure, wo_bind]
  rw [wo_sliceBounds]
  exact congrArg (fun k => bnd n hi n k) (funext fun h => congrArg (fun k => bnd 0 lo h k) (funext fun l => by
    by_cases hh : n = l <;> simp [hh, qrun_sizeOf, info_size hz, wo, add_plain]))

theorem rdop_slice_sl {t e b o len cap : Nat} {lo hi : Option Value} {K : Value → Prop} (hu : P.underlying t = some (.slice e)) (hz : P.cellsOf e ≠ 0) :
    rdop P H (Instr.sliceAt t (.slice (some ⟨b, o, none⟩) len cap) lo hi none) K = bnd len hi cap fun h => bnd 0 lo h fun l => nv (.slice (some ⟨b, if cap = l then o else o + l * P.cellsOf e, none⟩) (h - l) (cap - l)) K := by
  unfold rdop
  simp only [Instr.sliceAt, Instr.slice, qrun_bind, qrun_underlying, hu, Option.bind_some, Instr.sureAddr, qrun_pure, wo_bind]
  rw [wo_sliceBounds]
  exact congrArg (fun k => bnd len hi cap k) (funext fun h => congrArg (fun k => bnd 0 lo h k) (funext fun l => by
    by_cases hh : cap = l <;> simp [hh, qrun_sizeOf, info_size hz, wo, add_plain]))

/-- A slice to a length, its capacity cut. -/
theorem rdop_clip {t e len cap : Nat} {a : Option Addr} {hi mx : Value} {K : Value → Prop} (hu : P.underlying t = some (.slice e)) (hz : P.cellsOf e ≠ 0) :
    rdop P H (Instr.sliceAt t (.slice a len cap) none (some hi) (some mx)) K = bnd cap (some mx) cap fun m => bnd len (some hi) m fun h => nv (.slice a h m) K := by
  unfold rdop
  simp only [Instr.sliceAt, Instr.slice, qrun_bind, qrun_underlying, hu, Option.bind_some, Instr.sliceBounds, wo_bind, wo_sliceBound]
  rw [wo_sliceBound]
  refine congrArg (fun k => bnd cap (some mx) cap k) (funext fun m => ?_)
  simp only [wo_bind]
  rw [wo_sliceBound]
  refine congrArg (fun k => bnd len (some hi) m k) (funext fun h => ?_)
  have e0 : ∀ a : Addr, a.add 0 = a := fun a => rfl
  by_cases hm : m = 0 <;> simp [hm, qrun_pure, qrun_sizeOf, info_size hz, wo, nv, e0]
theorem rdop_slice_nil {t e len cap : Nat} {lo hi : Option Value} {K : Value → Prop} (hu : P.underlying t = some (.slice e)) (hz : P.cellsOf e ≠ 0) :
    rdop P H (Instr.sliceAt t (.slice none len cap) lo hi none) K = bnd len hi cap fun h => bnd 0 lo h fun l => nv (.slice none (h - l) (cap - l)) K := by
  unfold rdop
  simp only [Instr.sliceAt, Instr.slice, qrun_bind, qrun_underlying, hu, Option.bind_some, Instr.sureAddr, qrun_pure, wo_bind]
  rw [wo_sliceBounds]
  exact congrArg (fun k => bnd len hi cap k) (funext fun h => congrArg (fun k => bnd 0 lo h k) (funext fun l => by
    by_cases hh : cap = l <;> simp [hh, qrun_sizeOf, info_size hz, wo, add_plain]))

theorem rdop_slice_str {t : Nat} {s : ByteArray} {lo hi : Option Value} {K : Value → Prop} (hu : P.underlying t = some .string) :
    rdop P H (Instr.sliceAt t (.string s) lo hi none) K = bnd s.size hi s.size fun h => bnd 0 lo h fun l => nv (.string (s.extract l h)) K := by
  unfold rdop
  simp only [Instr.sliceAt, Instr.slice, qrun_bind, qrun_underlying, hu, Option.bind_some, Instr.sureAddr, qrun_pure, wo_bind, Option.isSome_none, Bool.false_eq_true, if_false]
  rw [wo_sliceBounds]
  simp only [wo]

theorem rdop_index_str {t : Nat} {s : ByteArray} {k : IntKind} {i : Int} {K : Value → Prop} (hu : P.underlying t = some .string) :
    rdop P H (Instr.index t (.string s) (.int k i)) K = (0 ≤ i ∧ wo s[i.toNat]? fun b => nv (.int .u8 b.toNat) K) := by
  unfold rdop
  simp only [Instr.index, asIntOf, qrun_bind, qrun_pure, Option.bind_some, qrun_underlying, hu]
  by_cases h : 0 ≤ i
  · simp only [h, if_true, true_and]
    cases s[i.toNat]? with
    | none => simp [wo, qrun_bounds]
    | some b => simp [wo, qrun_pure]
  · simp [h, wo, qrun_bounds]

theorem rdop_index_arr {t n e : Nat} {cs : Array Value} {k : IntKind} {i : Int} {K : Value → Prop} (hu : P.underlying t = some (.array n e)) (hz : P.cellsOf e ≠ 0) (ha : isAggU (P.underlying e) = some false) :
    rdop P H (Instr.index t (.agg cs) (.int k i)) K = (0 ≤ i ∧ i < n ∧ wo cs[i.toNat * P.cellsOf e]? fun v => nv v K) := by
  unfold rdop
  simp only [Instr.index, asIntOf, qrun_bind, qrun_pure, Option.bind_some, qrun_underlying, hu]
  by_cases h : 0 ≤ i ∧ i < n
  · simp only [h, and_self, if_true, true_and, qrun_bind, qrun_sizeOf, info_size hz, Option.map_some, Option.bind_some, part, qrun_isAgg, ha, Bool.false_eq_true, if_false]
    cases cs[i.toNat * P.cellsOf e]? <;> rfl
  · simp only [h, if_false, qrun_bounds, wo]
    simp only [← and_assoc, h, false_and]

theorem rdop_index_arr_agg {t n e : Nat} {cs : Array Value} {k : IntKind} {i : Int} {K : Value → Prop} (hu : P.underlying t = some (.array n e)) (hz : P.cellsOf e ≠ 0) (ha : isAggU (P.underlying e) = some true) :
    rdop P H (Instr.index t (.agg cs) (.int k i)) K = (0 ≤ i ∧ i < n ∧ nv (.agg (cs.extract (i.toNat * P.cellsOf e) (i.toNat * P.cellsOf e + P.cellsOf e))) K) := by
  unfold rdop
  simp only [Instr.index, asIntOf, qrun_bind, qrun_pure, Option.bind_some, qrun_underlying, hu]
  by_cases h : 0 ≤ i ∧ i < n
  · simp only [h, and_self, if_true, true_and, qrun_bind, qrun_sizeOf, info_size hz, Option.map_some, Option.bind_some, part, qrun_isAgg, ha, Bool.false_eq_true, if_false, qrun_pure, wo]
  · simp only [h, if_false, qrun_bounds, wo]
    simp only [← and_assoc, h, false_and]

theorem rdop_field {t i : Nat} {fs : Array Field} {f : Field} {cs : Array Value} {K : Value → Prop} (hu : P.underlying t = some (.struct fs)) (hf : fs[i]? = some f) (ha : isAggU (P.underlying f.type) = some false) :
    rdop P H (Instr.field t (.agg cs) i) K = wo cs[f.offset]? fun v => nv v K := by
  unfold rdop
  simp only [Instr.field, qrun_bind, qrun_pure, Option.bind_some, qrun_underlying, hu, hf, asAgg, part, qrun_isAgg, ha, Bool.false_eq_true, if_false]
  cases cs[f.offset]? <;> rfl
theorem rdop_field_agg {t i : Nat} {fs : Array Field} {f : Field} {cs : Array Value} {K : Value → Prop} (hu : P.underlying t = some (.struct fs)) (hf : fs[i]? = some f) (hz : P.cellsOf f.type ≠ 0) (ha : isAggU (P.underlying f.type) = some true) :
    rdop P H (Instr.field t (.agg cs) i) K = nv (.agg (cs.extract f.offset (f.offset + P.cellsOf f.type))) K := by
  unfold rdop
  simp only [Instr.field, qrun_bind, qrun_pure, Option.bind_some, qrun_underlying, hu, hf, asAgg, part, qrun_isAgg, ha, if_true, qrun_sizeOf, info_size hz, Option.map_some, wo]
theorem fdOf_some {t i off sz : Nat} {g : Bool} (h : fdOf P t i = some (off, sz, g)) : ∃ fs f, P.underlying t = some (.struct fs) ∧ fs[i]? = some f ∧ isAggU (P.underlying f.type) = some g ∧ f.offset = off ∧ P.cellsOf f.type = sz := by
  unfold fdOf at h
  split at h
  · rename_i fs hu
    obtain ⟨f, hf, h⟩ := Option.bind_eq_some_iff.1 h
    obtain ⟨a, ha, h⟩ := Option.map_eq_some_iff.1 h
    simp only [Prod.mk.injEq] at h
    obtain ⟨h1, h2, rfl⟩ := h
    exact ⟨fs, f, hu, hf, ha, h1, h2⟩
  · cases h
theorem rdop_fieldF {t i off sz : Nat} {cs : Array Value} {K : Value → Prop} (h : fdOf P t i = some (off, sz, false)) : rdop P H (Instr.field t (.agg cs) i) K = wo cs[off]? fun v => nv v K := by
  obtain ⟨fs, f, hu, hf, ha, h1, h2⟩ := fdOf_some h
  rw [rdop_field hu hf ha, h1]
theorem rdop_fieldT {t i off sz : Nat} {cs : Array Value} {K : Value → Prop} (h : fdOf P t i = some (off, sz, true)) (hz : sz ≠ 0) : rdop P H (Instr.field t (.agg cs) i) K = nv (.agg (cs.extract off (off + sz))) K := by
  obtain ⟨fs, f, hu, hf, ha, h1, h2⟩ := fdOf_some h
  rw [rdop_field_agg hu hf (by rw [h2]; exact hz) ha, h1, h2]
end

/-! ### Rows that are given as lists -/
theorem lput_len : ∀ (vs cs : List Value) (o : Nat), (lput cs o vs).length = cs.length
  | [], _, _ => rfl
  | _ :: vs, cs, o => by simp [lput, lput_len vs]
theorem lput_get : ∀ (vs cs : List Value) (o j : Nat), o + vs.length ≤ cs.length → (lput cs o vs)[j]? = if o ≤ j ∧ j < o + vs.length then vs[j - o]? else cs[j]?
  | [], cs, o, j, _ => by simp [lput]; intro h1 h2; omega
  | v :: vs, cs, o, j, h => by
    simp only [List.length_cons] at h
    simp only [lput]
    rw [lput_get vs _ _ _ (by simp; omega)]
    by_cases h1 : o + 1 ≤ j ∧ j < o + 1 + vs.length
    · rw [if_pos h1, if_pos (by simp; omega), show j - o = (j - (o + 1)) + 1 from by omega]; rfl
    · rw [if_neg h1]
      by_cases h2 : j = o
      · subst h2
        simp [List.getElem?_set, show j < cs.length from by omega]
      · rw [List.getElem?_set_ne (Ne.symm h2), if_neg (by simp; omega)]
theorem lput_full {vs cs : List Value} (h : vs.length = cs.length) : lput cs 0 vs = vs := by
  apply List.ext_getElem?
  intro j
  rw [lput_get vs cs 0 j (by omega)]
  by_cases h1 : j < vs.length
  · simp [h1]
  · simp only [Nat.zero_le, true_and, Nat.zero_add, h1, if_false]
    rw [List.getElem?_eq_none (by omega), List.getElem?_eq_none (by omega)]
theorem scal_bools (l : List Bool) : (l.map Value.bool).all scal = true := by simp [scal]
theorem scal_ints (k : IntKind) (l : List Int) : (l.map (Value.int k)).all scal = true := by simp [scal]

/-! ### At a loop's head -/
theorem FrLe.nil (f : Fr) : FrLe [] f := fun t v h => by cases h
theorem FrLe.cons {t : Nat} {v : Value} {r f : Fr} (h : alk t f = some v) (hr : FrLe r f) : FrLe ((t, v) :: r) f := by
  intro t' v' h'
  rw [alk_cons] at h'
  split at h'
  · rename_i e; subst e; cases h'; exact h
  · exact hr t' v' h'
/-- As many lookups as the loop's head names. -/
def lks (f : Fr) : Fr → Prop
  | [] => True
  | (t, v) :: r => alk t f = some v ∧ lks f r
theorem lks_nil {f : Fr} : lks f [] = True := Eq.trans rfl rfl
theorem lks_cons {f r : Fr} {t : Nat} {v : Value} : lks f ((t, v) :: r) = (alk t f = some v ∧ lks f r) := Eq.trans rfl rfl
theorem FrLe.of_lks {f : Fr} : ∀ {r : Fr}, lks f r → FrLe r f
  | [], _ => FrLe.nil f
  | (_, _) :: _, h => FrLe.cons h.1 (FrLe.of_lks h.2)

end Go.AX
