/- The engine: equations by which 'simp only' computes what the code of a function comes to over the abstract heap. -/
import Derived.Test.YtmkbpdlijfjgkaaDoorAx2
namespace Go.AX
set_option linter.unusedSimpArgs false
set_option linter.unusedVariables false
open Go Go.RowKit

/-! ### Words whose arguments are not looked into -/
def wo {α : Type} (o : Option α) (k : α → Prop) (_t : Lk k := .mk) : Prop :=
  match o with
  | some v => k v
  | none => False

theorem wo_some {α : Type} (v : α) (k : α → Prop) : wo (some v) k = k v := Eq.trans rfl rfl
theorem wo_none {α : Type} (k : α → Prop) : wo none k = False := Eq.trans rfl rfl

def wv (fr : Fr) (x : Operand) (k : Value → Prop) (_t : Lk (k, fr) := .mk) : Prop := kn1 fr x = true ∧ k (evd fr x)

theorem wv_tmp (fr : Fr) (t : Nat) (k : Value → Prop) : wv fr (.tmp t) k = wo (alk t fr) k := by
  cases h : alk t fr <;> simp [wv, kn1, evd, h, wo]
theorem wv_const (fr : Fr) (v : Value) (k : Value → Prop) : wv fr (.const v) k = k v := by simp [wv, kn1, evd]
theorem wv_func (fr : Fr) (f : Nat) (k : Value → Prop) : wv fr (.func f) k = k (.func (.func f) #[] #[]) := by simp [wv, kn1, evd]
theorem wv_global (fr : Fr) (g : Nat) (k : Value → Prop) : wv fr (.global g) k = k (.pointer (some ⟨g, 0, none⟩)) := by simp [wv, kn1, evd]

def wvs (fr : Fr) (xs : List Operand) (k : List Value → Prop) (_t : Lk (k, fr) := .mk) : Prop := xs.all (kn1 fr) = true ∧ k (xs.map (evd fr))

theorem wvs_nil (fr : Fr) (k : List Value → Prop) : wvs fr [] k = k [] := by simp [wvs]
theorem wvs_cons (fr : Fr) (x : Operand) (xs : List Operand) (k : List Value → Prop) : wvs fr (x :: xs) k = wv fr x fun v => wvs fr xs fun vs => k (v :: vs) := by
  simp [wvs, wv, and_assoc]

/-- A value that is brought into its plain form before it is laid into the frame. -/
def nv (v : Value) (k : Value → Prop) (_t : Lk k := .mk) : Prop := k v
theorem nv_eq (v : Value) (k : Value → Prop) : nv v k = k v := Eq.trans rfl rfl

/-- 'p → A', A not looked into. -/
def imp (p : Prop) (A : Prop) (_t : Lk A := .mk) : Prop := p → A
theorem impl_t (A : Prop) : imp True A = A := by simp [imp]
theorem impl_f (A : Prop) : imp False A = True := by simp [imp]
theorem imp.mk {p A : Prop} (h : p → A) : imp p A := h

def AllB (H : AH) (k : Nat → Prop) (_t : Lk (k, H) := .mk) : Prop := ∀ b, Fresh H b → k b
theorem AllB.mk {H : AH} {k : Nat → Prop} (h : ∀ b, Fresh H b → k b) : AllB H k := h


/-! ### Reading and writing rows -/
def baseRow (w : World) (b : Nat) (off : Nat) : Nat → Option (List Value)
  | 0 => some []
  | n + 1 => (w.cell? ⟨b, off, none⟩).bind fun v => (baseRow w b (off + 1) n).map (v :: ·)

def AH.row (H : AH) (b off n : Nat) : Option (List Value) :=
  match H.find b with
  | some (.cells cs _ _) => if off + n ≤ cs.length then some ((cs.drop off).take n) else none
  | some (.amap _) => none
  | some (.obj _) => none
  | none => if b < H.w0.heap.size then baseRow H.w0 b off n else none

def lput (cs : List Value) (off : Nat) : List Value → List Value
  | [] => cs
  | v :: vs => lput (cs.set off v) (off + 1) vs

def AH.wrs (H : AH) (b off : Nat) (vs : List Value) : Option AH :=
  match H.find b with
  | some (.cells cs e sz) => if off + vs.length ≤ cs.length ∧ cs.length ≤ sz ∧ vs.all scal = true then some (H.set b (.cells (lput cs off vs) e sz)) else none
  | _ => none


theorem rd_add_self (H : AH) (b off : Nat) (cs : List Value) (e sz : Nat) : (H.add b (.cells cs e sz)).rd ⟨b, off, none⟩ = cs[off]? := by
  simp [AH.rd, find_add]
theorem rd_add_ne (H : AH) {b b' : Nat} (h : b ≠ b') (off : Nat) (k : ABlk) : (H.add b k).rd ⟨b', off, none⟩ = H.rd ⟨b', off, none⟩ := by
  unfold AH.rd; rw [find_add, if_neg (Ne.symm h)]; rfl
theorem row_add_self (H : AH) (b off n : Nat) (cs : List Value) (e sz : Nat) : (H.add b (.cells cs e sz)).row b off n = if off + n ≤ cs.length then some ((cs.drop off).take n) else none := by
  simp [AH.row, find_add]
theorem row_add_ne (H : AH) {b b' : Nat} (h : b ≠ b') (off n : Nat) (k : ABlk) : (H.add b k).row b' off n = H.row b' off n := by
  unfold AH.row; rw [find_add, if_neg (Ne.symm h)]; rfl
theorem wrs_add_self (H : AH) (b off : Nat) (vs cs : List Value) (e sz : Nat) : (H.add b (.cells cs e sz)).wrs b off vs = if off + vs.length ≤ cs.length ∧ cs.length ≤ sz ∧ vs.all scal = true then some (H.add b (.cells (lput cs off vs) e sz)) else none := by
  unfold AH.wrs; rw [find_add, if_pos rfl]; simp [AH.set, AH.add, aset]
theorem wrs_add_ne (H : AH) {b b' : Nat} (h : b ≠ b') (off : Nat) (vs : List Value) (k : ABlk) : (H.add b k).wrs b' off vs = (H.wrs b' off vs).map (·.add b k) := by
  unfold AH.wrs
  rw [find_add, if_neg (Ne.symm h)]
  split
  · split
    · simp [AH.set, AH.add, aset, Ne.symm h]
    · rfl
  · rfl
theorem fresh_add (H : AH) (b b' : Nat) (k : ABlk) : Fresh (H.add b' k) b = (b ≠ b' ∧ Fresh H b) := by
  unfold Fresh
  rw [find_add]
  by_cases h : b = b' <;> simp [h]
theorem fresh_set (H : AH) (b b' : Nat) (k : ABlk) : Fresh (H.set b' k) b = (b ≠ b' ∧ Fresh H b) := by
  unfold Fresh
  rw [find_set]
  by_cases h : b = b' <;> simp [h]
theorem find_add_self (H : AH) (b : Nat) (k : ABlk) : (H.add b k).find b = some k := by simp [find_add]
theorem find_add_ne (H : AH) {b b' : Nat} (h : b ≠ b') (k : ABlk) : (H.add b k).find b' = H.find b' := by simp [find_add, Ne.symm h]
theorem set_add_self (H : AH) (b : Nat) (k k' : ABlk) : (H.add b k).set b k' = H.add b k' := by simp [AH.set, AH.add, aset]
theorem set_add_ne (H : AH) {b b' : Nat} (h : b ≠ b') (k k' : ABlk) : (H.add b k).set b' k' = (H.set b' k').add b k := by simp [AH.set, AH.add, aset, Ne.symm h]

theorem Fresh.ne_find {H : AH} {b a : Nat} {k : ABlk} (h : Fresh H b) (ha : H.find a = some k) : b ≠ a := by
  rintro rfl; rw [h.2] at ha; cases ha
theorem Fresh.ne_base {H : AH} {b a : Nat} (h : Fresh H b) (ha : a < H.base) : b ≠ a := by
  rintro rfl; exact absurd h.1 (Nat.not_le.2 ha)
theorem Fresh.ne_rd {H : AH} {b : Nat} {a : Addr} {v : Value} (h : Fresh H b) (ha : H.rd a = some v) : b ≠ a.block := by
  rintro rfl
  unfold AH.rd at ha
  rw [h.2] at ha
  simp only at ha
  rw [if_neg (Nat.not_lt.2 h.1)] at ha
  cases ha

theorem qrun_pure (P : Program) {α : Type} (a : α) (H : AH) : qrun P (pure a : Sem α) H = some a := rfl
theorem qrun_map (P : Program) {α β : Type} (x : Sem α) (f : α → β) (H : AH) : qrun P (f <$> x) H = (qrun P x H).map f := by
  show qrun P (x >>= fun a => pure (f a)) H = _
  rw [qrun_bind]; cases qrun P x H <;> rfl

theorem qrun_load (P : Program) (H : AH) (a : Addr) (m : Mode) : qrun P (load a m) H = H.rd a := by
  simp only [load, qrun]; cases H.rd a <;> rfl

theorem add_plain (b off i : Nat) : (⟨b, off, none⟩ : Addr).add i = ⟨b, off + i, none⟩ := by
  unfold Addr.add; split
  · rename_i h; subst h; rfl
  · rfl

theorem qrun_loadCellsFrom (P : Program) (H : AH) (b off : Nat) : ∀ (n i : Nat) (acc : Array Value), n ≠ 0 → qrun P (loadCellsFrom ⟨b, off, none⟩ i n acc) H = (H.row b (off + i) n).map (fun l => acc ++ l.toArray)
  | 0, i, acc, h => absurd rfl h
  | n + 1, i, acc, _ => by
    simp only [loadCellsFrom, qrun_bind, add_plain, qrun_load]
    have ih := fun v => qrun_loadCellsFrom P H b off n (i + 1) (acc.push v)
    cases hf : H.find b with
    | none =>
      simp only [AH.rd, AH.row, hf] at ih ⊢
      by_cases hlt : b < H.w0.heap.size
      · simp only [hlt, if_true] at ih ⊢
        cases hc : H.w0.cell? ⟨b, off + i, none⟩ with
        | none => simp [baseRow, hc]
        | some v =>
          simp only [Option.bind_some, baseRow, hc]
          cases n with
          | zero => simp [loadCellsFrom, qrun_pure, baseRow]
          | succ n =>
            rw [ih v (by simp), show off + (i + 1) = off + i + 1 from by omega]
            cases baseRow H.w0 b (off + i + 1) (n + 1) <;> simp
      · simp [hlt]
    | some k =>
      cases k with
      | amap es => simp [AH.rd, AH.row, hf]
      | obj o => simp [AH.rd, AH.row, hf]
      | cells cs e sz =>
        simp only [AH.rd, AH.row, hf] at ih ⊢
        simp only [Option.isSome_none, Bool.false_eq_true, if_false]
        by_cases hlt : off + i < cs.length
        · have h1 : cs[off + i]? = some cs[off + i] := List.getElem?_eq_getElem hlt
          have h3 : cs.drop (off + i) = cs[off + i] :: cs.drop (off + i + 1) := List.drop_eq_getElem_cons hlt
          rw [h1, h3]
          simp only [Option.bind_some]
          cases n with
          | zero =>
            rw [if_pos (by omega)]
            simp only [loadCellsFrom, qrun_pure, Option.map_some, Nat.zero_add, List.take_succ_cons, List.take_zero, Option.some.injEq]
            generalize cs[off + i] = x
            simp
          | succ n =>
            rw [ih _ (by simp)]
            by_cases hle : off + (i + 1) + (n + 1) ≤ cs.length
            · rw [if_pos hle, if_pos (by omega), show off + (i + 1) = off + i + 1 from by omega]
              generalize cs[off + i] = x
              generalize List.drop (off + i + 1) cs = l
              simp [List.take_succ_cons]
            · rw [if_neg hle, if_neg (by omega)]; rfl
        · have h1 : cs[off + i]? = none := List.getElem?_eq_none (by omega)
          rw [h1, if_neg (by omega)]; rfl

theorem qrun_loadCells (P : Program) (H : AH) (b off n : Nat) (hn : n ≠ 0) : qrun P (loadCells ⟨b, off, none⟩ n) H = (H.row b off n).map List.toArray := by
  unfold loadCells
  rw [qrun_loadCellsFrom P H b off n 0 #[] hn]
  cases H.row b (off + 0) n <;> simp

theorem arun_storeCells (P : Program) (b : Nat) (K : Unit → AH → Prop) : ∀ (vs : List Value) (off i : Nat) (H : AH) (cs : List Value) (e sz : Nat), H.find b = some (.cells cs e sz) → off + i + vs.length ≤ cs.length → cs.length ≤ sz → vs.all scal = true →
    K () (if vs = [] then H else H.set b (.cells (lput cs (off + i) vs) e sz)) → arun P (storeCells ⟨b, off, none⟩ vs i) H K
  | [], off, i, H, cs, e, sz, hf, h1, h2, h3, hk => by simp only [if_true] at hk; exact hk
  | v :: vs, off, i, H, cs, e, sz, hf, h1, h2, h3, hk => by
    have ea := add_plain b off i
    simp only [List.length_cons] at h1
    simp only [List.all_cons, Bool.and_eq_true] at h3
    simp only [storeCells, arun_bind, store, arun, ea, hf, h3.1, true_and]
    refine ⟨by omega, by omega, ?_⟩
    rw [wr_lt (by omega)]
    have hf' : (H.set b (.cells (cs.set (off + i) v) e sz)).find b = some (.cells (cs.set (off + i) v) e sz) := by simp [find_set]
    refine arun_storeCells P b K vs off (i + 1) _ _ e sz hf' (by simp; omega) (by simpa using h2) h3.2 ?_
    simp only [List.cons_ne_nil, if_false, lput] at hk
    split
    · rename_i hv; subst hv; simpa [lput] using hk
    · have e3 : (H.set b (.cells (cs.set (off + i) v) e sz)).set b (.cells (lput (cs.set (off + i) v) (off + (i + 1)) vs) e sz) = H.set b (.cells (lput (cs.set (off + i) v) (off + (i + 1)) vs) e sz) := by
        have : ∀ l : List (Nat × ABlk), ∀ x y, aset b y (aset b x l) = aset b y l := by
          intro l x y
          induction l with
          | nil => simp [aset]
          | cons p l ih => obtain ⟨k, v⟩ := p; by_cases hb : b = k <;> simp [aset, hb, ih]
        simp only [AH.set, this]
      rw [e3]; exact hk


end Go.AX
