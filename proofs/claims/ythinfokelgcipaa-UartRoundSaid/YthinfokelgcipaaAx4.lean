/- The engine, continued: an equation for each kind of operation. -/
import Derived.Test.YthinfokelgcipaaAx3
namespace Go.AX
set_option linter.unusedSimpArgs false
set_option linter.unusedVariables false
open Go Go.RowKit

/-! ### Facts on types, in the form in which they are computed once -/
def zrOf (P : Program) (t : TypeId) : Option (List Value) := ((P.info? t).bind (·.zero)).map (·.cells.toList)
def foOf (P : Program) (s : TypeId) (i : Nat) : Option Nat :=
  match P.underlying s with
  | some (.struct fs) => (fs[i]?).bind fun f => if P.cellsOf f.type = 0 then none else some f.offset
  | _ => none
def isAggU : Option TypeDesc → Option Bool
  | some (.struct _) | some (.array _ _) => some true
  | some _ => some false
  | none => none
def elSz (P : Program) (t : TypeId) : Nat :=
  match P.underlying t with
  | some (.array _ e) | some (.slice e) => P.cellsOf e
  | _ => 0
def fnOk (P : Program) (f : FuncId) : Bool :=
  match P.funcs[f]? with
  | some fn => fn.name != "runtime.NumGoroutine" && fn.body.isSome
  | none => false
/-- Where part i of a struct or an array lies, and how many cells it has. -/
def plOf (P : Program) (t : TypeId) (i : Nat) : Option (Nat × Nat) :=
  match P.underlying t with
  | some (.struct fs) => (fs[i]?).map fun f => (f.offset, P.cellsOf f.type)
  | some (.array _ e) => some (i * P.cellsOf e, P.cellsOf e)
  | _ => none
/-- The same with whether it is a struct or an array itself. -/
def fdOf (P : Program) (t : TypeId) (i : Nat) : Option (Nat × Nat × Bool) :=
  match P.underlying t with
  | some (.struct fs) => (fs[i]?).bind fun f => (isAggU (P.underlying f.type)).map fun a => (f.offset, P.cellsOf f.type, a)
  | _ => none

section
variable {q : Bool} {P : Program} {n : Nat} {ds : List (Option Tmp)} {rest : List Oper} {fr : Fr} {H : AH} {K : Fr → AH → Prop} {d : Option Tmp} {ty : TypeId} {pos : String} {af : Array Edge}

theorem underlying_some {t : TypeId} {u : TypeDesc} (h : P.underlying t = some u) (w : World) : qrun P (underlying t) H = some u := by
  simp [underlying, program, qrun_bind, qrun, h, qrun_pure]
theorem qrun_underlying (t : TypeId) : qrun P (underlying t) H = P.underlying t := by
  simp only [underlying, program, qrun_bind, qrun, Option.bind_some]
  cases P.underlying t <;> rfl
theorem qrun_sizeOf (t : TypeId) : qrun P (sizeOf t) H = (P.info? t).map (·.size) := by
  simp only [sizeOf, typeInfo, program, qrun_bind, qrun, Option.bind_some]
  cases P.info? t <;> rfl
theorem info_of_under {t : TypeId} {u : TypeDesc} (h : P.underlying t = some u) : ∃ i, P.info? t = some i := by
  unfold Program.underlying at h
  cases hi : P.info? t with
  | none => rw [hi] at h; cases h
  | some i => exact ⟨i, rfl⟩
theorem qrun_program : qrun P program H = some P := rfl

theorem dok_some {d : Nat} : (dok n (some d) = true) = (d < n) := by simp [dok]
theorem dok_none : (dok n none = true) = True := by simp [dok]
theorem putf_some {d : Nat} {v : Value} : putf (some d) v fr = (d, v) :: fr := rfl
theorem putf_none {v : Value} : putf none v fr = fr := rfl

def ag (b : Value) (want : Bool) (A B C : Prop) (_t : Lk (A, B, C) := .mk) : Prop :=
  match b with
  | .bool b => (b = want → A) ∧ (b ≠ want → B)
  | _ => C

theorem ag_tt {A B C : Prop} : ag (.bool true) true A B C = A := by simp [ag]
theorem ag_ff {A B C : Prop} : ag (.bool false) false A B C = A := by simp [ag]
theorem ag_tf {A B C : Prop} : ag (.bool true) false A B C = B := by simp [ag]
theorem ag_ft {A B C : Prop} : ag (.bool false) true A B C = B := by simp [ag]
theorem ag_undef {w : Bool} {A B C : Prop} : ag undef w A B C = C := rfl
theorem ag_t {b : Bool} {A B C : Prop} : ag (.bool b) true A B C = (imp (b = true) A ∧ imp (b = false) B) := by cases b <;> simp [ag, imp]
theorem ag_f {b : Bool} {A B C : Prop} : ag (.bool b) false A B C = (imp (b = false) A ∧ imp (b = true) B) := by cases b <;> simp [ag, imp]

/-! ### Words for the operations -/
def pck (c a b : Value) (k : Value → Prop) (_t : Lk k := .mk) : Prop :=
  match c with
  | .bool t => nv (if t = true then a else b) k
  | _ => False
theorem pck_bool {t : Bool} {a b : Value} {k : Value → Prop} : pck (.bool t) a b k = nv (if t = true then a else b) k := rfl

def bin (u : Option TypeDesc) (P : Program) (H : AH) (op : BinOp) (t : TypeId) (x y : Operand) (a b : Value) (k : Value → Prop) (_t : Lk (k, H) := .mk) : Prop := u = P.underlying t ∧ wo (qrun P (do eqGuard op t x y a b; binOp op t a b) H) (fun v => nv v k)
section ints
variable {u : TypeDesc} {t : TypeId} {x y : Operand} {k : IntKind} {a b : Int} {kk : Value → Prop}
theorem bin_add : bin (some u) P H .add t x y (.int k a) (.int k b) kk = (some u = P.underlying t ∧ nv (.int k (k.wrap (a + b))) kk) := by simp [bin, eqGuard, binOp, Op.intArith, qrun_bind, qrun_pure, wo]
theorem bin_sub : bin (some u) P H .sub t x y (.int k a) (.int k b) kk = (some u = P.underlying t ∧ nv (.int k (k.wrap (a - b))) kk) := by simp [bin, eqGuard, binOp, Op.intArith, qrun_bind, qrun_pure, wo]
theorem bin_mul : bin (some u) P H .mul t x y (.int k a) (.int k b) kk = (some u = P.underlying t ∧ nv (.int k (k.wrap (a * b))) kk) := by simp [bin, eqGuard, binOp, Op.intArith, qrun_bind, qrun_pure, wo]
theorem bin_eql : bin (some u) P H .eql t x y (.int k a) (.int k b) kk = (some u = P.underlying t ∧ nv (.bool (a == b)) kk) := by simp [bin, eqGuard, binOp, Op.intCmp, qrun_bind, qrun_pure, wo]
theorem bin_neq : bin (some u) P H .neq t x y (.int k a) (.int k b) kk = (some u = P.underlying t ∧ nv (.bool (a != b)) kk) := by simp [bin, eqGuard, binOp, Op.intCmp, qrun_bind, qrun_pure, wo]
theorem bin_lss : bin (some u) P H .lss t x y (.int k a) (.int k b) kk = (some u = P.underlying t ∧ nv (.bool (decide (a < b))) kk) := by simp [bin, eqGuard, binOp, Op.intCmp, qrun_bind, qrun_pure, wo]
theorem bin_leq : bin (some u) P H .leq t x y (.int k a) (.int k b) kk = (some u = P.underlying t ∧ nv (.bool (decide (a ≤ b))) kk) := by simp [bin, eqGuard, binOp, Op.intCmp, qrun_bind, qrun_pure, wo]
theorem bin_gtr : bin (some u) P H .gtr t x y (.int k a) (.int k b) kk = (some u = P.underlying t ∧ nv (.bool (decide (b < a))) kk) := by simp [bin, eqGuard, binOp, Op.intCmp, qrun_bind, qrun_pure, wo]
theorem bin_geq : bin (some u) P H .geq t x y (.int k a) (.int k b) kk = (some u = P.underlying t ∧ nv (.bool (decide (b ≤ a))) kk) := by simp [bin, eqGuard, binOp, Op.intCmp, qrun_bind, qrun_pure, wo]
theorem bin_quo : bin (some u) P H .quo t x y (.int k a) (.int k b) kk = (some u = P.underlying t ∧ b ≠ 0 ∧ nv (.int k (k.wrap (a.tdiv b))) kk) := by
  by_cases h : b = 0 <;> simp [bin, eqGuard, binOp, Op.intDiv, qrun_bind, qrun_pure, wo, h, runtimePanic, program, qrun, goPanic]
theorem bin_rem : bin (some u) P H .rem t x y (.int k a) (.int k b) kk = (some u = P.underlying t ∧ b ≠ 0 ∧ nv (.int k (a.tmod b)) kk) := by
  by_cases h : b = 0 <;> simp [bin, eqGuard, binOp, Op.intDiv, qrun_bind, qrun_pure, wo, h, runtimePanic, program, qrun, goPanic]
theorem bin_shl {k' : IntKind} : bin (some u) P H .shl t x y (.int k a) (.int k' b) kk = (some u = P.underlying t ∧ 0 ≤ b ∧ nv (.int k (k.wrap (a * 2 ^ (min b.toNat k.bits)))) kk) := by
  by_cases h : b < 0 <;> simp [bin, eqGuard, binOp, Op.shift, qrun_bind, qrun_pure, wo, h, runtimePanic, program, qrun, goPanic] <;> omega
theorem bin_shr {k' : IntKind} : bin (some u) P H .shr t x y (.int k a) (.int k' b) kk = (some u = P.underlying t ∧ 0 ≤ b ∧ nv (.int k (a.fdiv (2 ^ (min b.toNat k.bits)))) kk) := by
  by_cases h : b < 0 <;> simp [bin, eqGuard, binOp, Op.shift, qrun_bind, qrun_pure, wo, h, runtimePanic, program, qrun, goPanic] <;> omega
/-- '&', '|', '^', '&^' on whole numbers. -/
def ibits (op : BinOp) (k : IntKind) (x y : Int) : Int :=
  let a := BitVec.ofInt k.bits x
  let b := BitVec.ofInt k.bits y
  match op with
  | .and => k.wrap (a &&& b).toNat
  | .or => k.wrap (a ||| b).toNat
  | .xor => k.wrap (a ^^^ b).toNat
  | _ => k.wrap (a &&& ~~~b).toNat
theorem bin_and : bin (some u) P H .and t x y (.int k a) (.int k b) kk = (some u = P.underlying t ∧ nv (.int k (ibits .and k a b)) kk) := by simp [bin, eqGuard, binOp, Op.intBits, qrun_bind, qrun_pure, wo, ibits]
theorem bin_or : bin (some u) P H .or t x y (.int k a) (.int k b) kk = (some u = P.underlying t ∧ nv (.int k (ibits .or k a b)) kk) := by simp [bin, eqGuard, binOp, Op.intBits, qrun_bind, qrun_pure, wo, ibits]
theorem bin_xor : bin (some u) P H .xor t x y (.int k a) (.int k b) kk = (some u = P.underlying t ∧ nv (.int k (ibits .xor k a b)) kk) := by simp [bin, eqGuard, binOp, Op.intBits, qrun_bind, qrun_pure, wo, ibits]
theorem bin_andNot : bin (some u) P H .andNot t x y (.int k a) (.int k b) kk = (some u = P.underlying t ∧ nv (.int k (ibits .andNot k a b)) kk) := by simp [bin, eqGuard, binOp, Op.intBits, qrun_bind, qrun_pure, wo, ibits]
end ints

theorem eqIn_bool {t : TypeId} {m : Nat} {a b : Bool} (h : P.underlying t = some .bool) : qrun P (Op.equalIn (m + 1) t (.bool a) (.bool b)) H = some (a == b) := by
  simp only [Op.equalIn, qrun_bind, qrun_underlying, h, Option.bind_some, qrun_pure]
theorem eqIn_int {t : TypeId} {m : Nat} {k k' : IntKind} {a b : Int} (h : P.underlying t = some (.int k')) : qrun P (Op.equalIn (m + 1) t (.int k a) (.int k b)) H = some (a == b) := by
  simp only [Op.equalIn, qrun_bind, qrun_underlying, h, Option.bind_some, if_true, qrun_pure]
theorem eqIn_ptr_nil {t e : TypeId} {m : Nat} {a : Option Addr} (h : P.underlying t = some (.pointer e)) : qrun P (Op.equalIn (m + 1) t (.pointer a) (.pointer none)) H = some a.isNone := by
  cases a <;> simp only [Op.equalIn, qrun_bind, qrun_underlying, h, Option.bind_some, qrun_pure] <;> rfl
theorem eqIn_slice_nil {t e : TypeId} {m : Nat} {a : Option Addr} {l c : Nat} (h : P.underlying t = some (.slice e)) : qrun P (Op.equalIn (m + 1) t (.slice a l c) (.slice none 0 0)) H = some a.isNone := by
  cases a <;> simp only [Op.equalIn, qrun_bind, qrun_underlying, h, Option.bind_some, qrun_pure] <;> rfl
theorem bin_eql_of {u : Option TypeDesc} {t : TypeId} {x y : Operand} {a b : Value} {r : Bool} {kk : Value → Prop} (hg : qrun P (eqGuard .eql t x y a b) H = some ()) (hb : binOp .eql t a b = (do pure (.bool (← Op.equal t a b))))
    (h : u = P.underlying t → qrun P (Op.equalIn (9999 + 1) t a b) H = some r) : bin u P H .eql t x y a b kk = (u = P.underlying t ∧ nv (.bool r) kk) := by
  unfold bin
  by_cases hu : u = P.underlying t
  · have h' : qrun P (Op.equal t a b) H = some r := h hu
    simp only [qrun_bind, hg, hb, Option.bind_some, h', qrun_pure, wo_some]
  · simp [hu]
theorem bin_neq_of {u : Option TypeDesc} {t : TypeId} {x y : Operand} {a b : Value} {r : Bool} {kk : Value → Prop} (hg : qrun P (eqGuard .neq t x y a b) H = some ()) (hb : binOp .neq t a b = (do pure (.bool (!(← Op.equal t a b)))))
    (h : u = P.underlying t → qrun P (Op.equalIn (9999 + 1) t a b) H = some r) : bin u P H .neq t x y a b kk = (u = P.underlying t ∧ nv (.bool !r) kk) := by
  unfold bin
  by_cases hu : u = P.underlying t
  · have h' : qrun P (Op.equal t a b) H = some r := h hu
    simp only [qrun_bind, hg, hb, Option.bind_some, h', qrun_pure, wo_some]
  · simp [hu]
section
variable {t e : TypeId} {x y : Operand} {kk : Value → Prop}
theorem bin_eql_bool {a b : Bool} : bin (some .bool) P H .eql t x y (.bool a) (.bool b) kk = (some .bool = P.underlying t ∧ nv (.bool (a == b)) kk) := bin_eql_of rfl rfl fun h => eqIn_bool h.symm
theorem bin_neq_bool {a b : Bool} : bin (some .bool) P H .neq t x y (.bool a) (.bool b) kk = (some .bool = P.underlying t ∧ nv (.bool (!(a == b))) kk) := bin_neq_of rfl rfl fun h => eqIn_bool h.symm
theorem bin_eql_ptr_nil {a : Option Addr} : bin (some (.pointer e)) P H .eql t x y (.pointer a) (.pointer none) kk = (some (.pointer e) = P.underlying t ∧ nv (.bool a.isNone) kk) := bin_eql_of rfl rfl fun h => eqIn_ptr_nil h.symm
theorem bin_neq_ptr_nil {a : Option Addr} : bin (some (.pointer e)) P H .neq t x y (.pointer a) (.pointer none) kk = (some (.pointer e) = P.underlying t ∧ nv (.bool !a.isNone) kk) := bin_neq_of rfl rfl fun h => eqIn_ptr_nil h.symm
theorem bin_eql_slice_nil {a : Option Addr} {l c : Nat} : bin (some (.slice e)) P H .eql t x y (.slice a l c) (.slice none 0 0) kk = (some (.slice e) = P.underlying t ∧ nv (.bool a.isNone) kk) := bin_eql_of rfl rfl fun h => eqIn_slice_nil h.symm
theorem bin_neq_slice_nil {a : Option Addr} {l c : Nat} : bin (some (.slice e)) P H .neq t x y (.slice a l c) (.slice none 0 0) kk = (some (.slice e) = P.underlying t ∧ nv (.bool !a.isNone) kk) := bin_neq_of rfl rfl fun h => eqIn_slice_nil h.symm
theorem bin_eql_str {u : TypeDesc} {a b : ByteArray} : bin (some u) P H .eql t x y (.string a) (.string b) kk = (some u = P.underlying t ∧ nv (.bool (a.toList == b.toList)) kk) := by
  simp [bin, eqGuard, binOp, Op.stringOp, qrun_bind, qrun_pure, wo]
theorem bin_neq_str {u : TypeDesc} {a b : ByteArray} : bin (some u) P H .neq t x y (.string a) (.string b) kk = (some u = P.underlying t ∧ nv (.bool (!(a.toList == b.toList))) kk) := by
  simp [bin, eqGuard, binOp, Op.stringOp, qrun_bind, qrun_pure, wo]
end

def unv (P : Program) (H : AH) (op : UnOp) (v : Value) (k : Value → Prop) (_t : Lk (k, H) := .mk) : Prop := wo (qrun P (Op.unary op v) H) fun v => nv v k
theorem unv_not {b : Bool} {k : Value → Prop} : unv P H .not (.bool b) k = nv (.bool !b) k := rfl
theorem unv_neg {kd : IntKind} {a : Int} {k : Value → Prop} : unv P H .neg (.int kd a) k = nv (.int kd (kd.wrap (0 - a))) k := rfl
theorem unv_xor {kd : IntKind} {a : Int} {k : Value → Prop} : unv P H .xor (.int kd a) k = nv (.int kd (ibits .xor kd (if kd.signed then -1 else kd.max) a)) k := rfl

def extr (P : Program) (H : AH) (v : Value) (i : Nat) (k : Value → Prop) (_t : Lk (k, H) := .mk) : Prop := wo (qrun P (Instr.extract v i) H) k
theorem extr_tuple {vs : Array Value} {i : Nat} {k : Value → Prop} : extr P H (.tuple vs) i k = wo (vs[i]?) k := by
  simp only [extr, Instr.extract]
  cases vs[i]? <;> rfl

/-- A conversion: the two types' descriptions stand first. -/
def cnv (us ud : Option TypeDesc) (P : Program) (H : AH) (s t : TypeId) (v : Value) (k : Value → Prop) (_t : Lk (k, H) := .mk) : Prop :=
  us = P.underlying s ∧ ud = P.underlying t ∧ wo (qrun P (convert s t v) H) fun v => nv v k
theorem cnv_int {s t : TypeId} {k0 kd : IntKind} {a : Int} {us : TypeDesc} {k : Value → Prop} : cnv (some us) (some (.int kd)) P H s t (.int k0 a) k = (some us = P.underlying s ∧ some (.int kd) = P.underlying t ∧ nv (.int kd (kd.wrap a)) k) := by
  unfold cnv
  by_cases hs : some us = P.underlying s
  · by_cases ht : some (.int kd) = P.underlying t
    · have : qrun P (convert s t (.int k0 a)) H = some (.int kd (kd.wrap a)) := by
        simp only [convert, qrun_bind, qrun_underlying, ← hs, ← ht, Option.bind_some]
        cases us <;> rfl
      simp only [this, wo_some]
    · simp [ht]
  · simp [hs]

/-! ### Loads and stores -/
theorem qrun_isAgg {t : TypeId} : qrun P (isAgg t) H = isAggU (P.underlying t) := by
  simp only [isAgg, qrun_bind, qrun_underlying]
  cases P.underlying t with
  | none => rfl
  | some u => cases u <;> rfl

/-- A load: whether it is of a struct or an array, and of how many cells. -/
def ldv (g : Option Bool) (sz : Nat) (v : Value) (H : AH) (k : Value → Prop) (_t : Lk (k, H) := .mk) : Prop :=
  match g, v with
  | some false, .pointer (some ⟨b, off, none⟩) => wo (H.rd ⟨b, off, none⟩) fun v => nv v k
  | some true, .pointer (some ⟨b, off, none⟩) => sz ≠ 0 ∧ wo (H.row b off sz) fun l => nv (.agg l.toArray) k
  | _, _ => False
theorem ldv_cell {sz b off : Nat} {k : Value → Prop} : ldv (some false) sz (.pointer (some ⟨b, off, none⟩)) H k = wo (H.rd ⟨b, off, none⟩) fun v => nv v k := rfl
theorem ldv_agg {sz b off : Nat} {k : Value → Prop} : ldv (some true) sz (.pointer (some ⟨b, off, none⟩)) H k = (sz ≠ 0 ∧ wo (H.row b off sz) fun l => nv (.agg l.toArray) k) := rfl
theorem info_size {t : TypeId} (h : P.cellsOf t ≠ 0) : (P.info? t).map (·.size) = some (P.cellsOf t) := by
  unfold Program.cellsOf at h ⊢
  cases hi : P.info? t with
  | none => rw [hi] at h; simp at h
  | some i => rfl
theorem qrun_loadVar {t : TypeId} {b off : Nat} {v : Value} (h : ldv (isAggU (P.underlying t)) (P.cellsOf t) (.pointer (some ⟨b, off, none⟩)) H (fun u => u = v)) : qrun P (loadVar t ⟨b, off, none⟩) H = some v := by
  simp only [loadVar, qrun_bind, qrun_isAgg]
  cases hg : isAggU (P.underlying t) with
  | none => rw [hg] at h; exact h.elim
  | some g =>
    rw [hg] at h
    cases g with
    | false =>
      simp only [ldv_cell] at h
      cases hr : H.rd ⟨b, off, none⟩ with
      | none => rw [hr] at h; exact h.elim
      | some u => rw [hr] at h; have : u = v := h; subst this; simp [qrun_load, hr]
    | true =>
      simp only [ldv_agg] at h
      obtain ⟨hz, h⟩ := h
      cases hr : H.row b off (P.cellsOf t) with
      | none => rw [hr] at h; exact h.elim
      | some l =>
        rw [hr] at h; have : (Value.agg l.toArray) = v := h; subst this
        simp [qrun_bind, qrun_map, qrun_sizeOf, info_size hz, qrun_loadCells P H b off _ hz, hr, qrun_pure]
theorem ldv_run {t : TypeId} {v : Value} {k : Value → Prop} (h : ldv (isAggU (P.underlying t)) (P.cellsOf t) v H k) : wo (qrun P (Instr.loadAt t v) H) k := by
  have hv : ∃ b off, v = .pointer (some ⟨b, off, none⟩) := by
    unfold ldv at h
    split at h
    · exact ⟨_, _, rfl⟩
    · exact ⟨_, _, rfl⟩
    · exact h.elim
  obtain ⟨b, off, rfl⟩ := hv
  have : ∃ u, ldv (isAggU (P.underlying t)) (P.cellsOf t) (.pointer (some ⟨b, off, none⟩)) H (fun x => x = u) ∧ k u := by
    cases hg : isAggU (P.underlying t) with
    | none => rw [hg] at h; exact h.elim
    | some g =>
      rw [hg] at h
      cases g with
      | false =>
        simp only [ldv_cell] at h ⊢
        cases hr : H.rd ⟨b, off, none⟩ with
        | none => rw [hr] at h; exact h.elim
        | some u => rw [hr] at h; exact ⟨u, rfl, h⟩
      | true =>
        simp only [ldv_agg] at h ⊢
        cases hr : H.row b off (P.cellsOf t) with
        | none => rw [hr] at h; exact h.2.elim
        | some l => rw [hr] at h; exact ⟨_, ⟨h.1, rfl⟩, h.2⟩
  obtain ⟨u, h1, h2⟩ := this
  simp only [Instr.loadAt, Instr.sureAddr, qrun_bind, qrun_pure, Option.bind_some, qrun_loadVar h1]
  exact h2

def vcells (v : Value) : List Value := v.cells.toList
theorem vcells_agg {cs : List Value} : vcells (.agg cs.toArray) = cs := by simp [vcells, Value.cells]
theorem vcells_scal {v : Value} (h : scal v = true) : vcells v = [v] := by
  cases v <;> first | rfl | (simp [scal] at h)

def stv (P : Program) (t : TypeId) (p v : Value) (H : AH) (k : AH → Prop) (_t : Lk (k, H) := .mk) : Prop :=
  match p with
  | .pointer (some ⟨b, off, none⟩) => (vcells v).length = P.cellsOf t ∧ wo (H.wrs b off (vcells v)) k
  | _ => False

theorem stv_run {t : TypeId} {p v : Value} {k : Value → AH → Prop} (h : stv P t p v H (k undef)) (hz : P.cellsOf t ≠ 0) : arun P (Instr.storeAt t p v) H (fun _ H' => k undef H') := by
  unfold stv at h
  split at h
  · rename_i b off
    obtain ⟨h1, h2⟩ := h
    unfold AH.wrs at h2
    split at h2
    · rename_i cs e sz hf
      split at h2
      · rename_i hc
        have hi : ∃ i, P.info? t = some i ∧ i.size = P.cellsOf t := by
          unfold Program.cellsOf at hz ⊢
          cases hi : P.info? t with
          | none => simp [hi] at hz
          | some i => exact ⟨i, rfl, by simp⟩
        obtain ⟨i, hi, hs⟩ := hi
        simp only [Instr.storeAt, Instr.sureAddr, arun_bind, arun, storeVar, sizeOf, typeInfo, program, hi]
        show arun P (if v.cells.size ≠ i.size then _ else _) H _
        have h3 : v.cells.size = i.size := by rw [hs, ← h1]; simp [vcells]
        simp only [h3, ne_eq, not_true_eq_false, if_false]
        refine arun_storeCells P b _ (vcells v) off 0 H cs e sz hf (by simpa using hc.1) hc.2.1 hc.2.2 ?_
        have hne : vcells v ≠ [] := by intro h; rw [h] at h1; simp at h1; exact hz h1.symm
        simp only [hne, if_false, Nat.add_zero]
        exact h2
      · exact h2.elim
    · exact h2.elim
  · exact h.elim


/-! ### What is made -/
theorem zeroValue_run {t : TypeId} {cs : List Value} (h : zrOf P t = some cs) : ∃ z, qrun P (zeroValue t) H = some z ∧ z.cells.toList = cs := by
  unfold zrOf at h
  obtain ⟨z, hz, hc⟩ := Option.map_eq_some_iff.1 h
  obtain ⟨i, hi, hz2⟩ := Option.bind_eq_some_iff.1 hz
  exact ⟨z, by simp only [zeroValue, typeInfo, program, qrun_bind, qrun, Option.bind_some, hi, qrun_pure, hz2], hc⟩

theorem arun_of_qrun {α : Type} (s : Sem α) : ∀ (a : α) (K : α → AH → Prop), qrun P s H = some a → K a H → arun P s H K := by
  induction s with
  | pure x => intro a K h hk; simp only [qrun, Option.some.injEq] at h; subst h; exact hk
  | load m ad k ih =>
    intro a K h hk
    simp only [qrun] at h
    simp only [arun]
    split at h
    · rename_i v hv; exact ih _ _ _ h hk
    · cases h
  | shape r k ih =>
    intro a K h hk
    simp only [qrun] at h
    simp only [arun]
    split at h
    · rename_i v hv; exact ih _ _ _ h hk
    · cases h
  | frozen r k ih =>
    intro a K h hk
    simp only [qrun] at h
    simp only [arun]
    split at h
    · rename_i v hv; exact ih _ _ _ h hk
    · cases h
  | program k ih => intro a K h hk; simp only [qrun] at h; exact ih _ _ _ h hk
  | mark m k ih => intro a K h hk; simp only [qrun] at h; exact ih _ _ h hk
  | _ => intro a K h hk; simp only [qrun] at h; cases h

def newb (t : TypeId) (cs : List Value) (H : AH) (k : Value → AH → Prop) (_t : Lk (k, H) := .mk) : Prop := AllB H fun b => k (.pointer (some ⟨b, 0, none⟩)) (H.add b (.cells cs t cs.length))

theorem arun_newVar {t : TypeId} {v : Value} {k : Addr → AH → Prop} (h : AllB H fun b => k ⟨b, 0, none⟩ (H.add b (.cells (vcells v) t (vcells v).length))) : arun P (newVar t v) H k := by
  simp only [newVar, newRow, newObj, arun_bind, arun, true_and]
  intro b hb
  have := h b hb
  simp only [vcells, Array.length_toList] at this
  exact this

/-! ### Places -/
def fap (P : Program) (s : TypeId) (i : Nat) (v : Value) (k : Value → Prop) (_t : Lk k := .mk) : Prop :=
  match v with
  | .pointer (some ⟨b, o, none⟩) => wo (foOf P s i) fun off => nv (.pointer (some ⟨b, o + off, none⟩)) k
  | _ => False
theorem fap_ptr {s : TypeId} {i : Nat} {b o : Nat} {k : Value → Prop} : fap P s i (.pointer (some ⟨b, o, none⟩)) k = wo (foOf P s i) fun off => nv (.pointer (some ⟨b, o + off, none⟩)) k := rfl
theorem fap_run {s : TypeId} {i : Nat} {v : Value} {k : Value → Prop} (h : fap P s i v k) : wo (qrun P (Instr.fieldAt s v i) H) k := by
  unfold fap at h
  split at h
  · rename_i b o
    unfold foOf at h
    split at h
    · rename_i fs hu
      cases hf : fs[i]? with
      | none => rw [hf] at h; exact h.elim
      | some f =>
        rw [hf] at h
        simp only [Option.bind_some] at h
        split at h
        · exact h.elim
        · rename_i hz
          have hi : (P.info? f.type).map (·.size) = some (P.cellsOf f.type) := by
            unfold Program.cellsOf at hz ⊢
            cases hi : P.info? f.type with
            | none => rw [hi] at hz; simp at hz
            | some i => rfl
          simp only [Instr.fieldAt, qrun_bind, qrun_underlying, hu, Option.bind_some, hf, Instr.sureAddr, qrun_pure, fieldPlace, qrun_sizeOf, hi]
          simp only [hz, if_false, qrun_pure, Option.bind_some, add_plain]
          exact h
    · exact h.elim
  · exact h.elim

/-- An element's address. -/
def ixp (u : Option TypeDesc) (sz : Nat) (v i : Value) (k : Value → Prop) (_t : Lk k := .mk) : Prop :=
  match u, v, i with
  | some (.array len _), .pointer (some ⟨b, o, none⟩), .int _ i => 0 ≤ i ∧ i < len ∧ nv (.pointer (some ⟨b, o + i.toNat * sz, none⟩)) k
  | some (.slice _), .slice (some ⟨b, o, none⟩) len _, .int _ i => 0 ≤ i ∧ i < len ∧ nv (.pointer (some ⟨b, o + i.toNat * sz, none⟩)) k
  | _, _, _ => False
theorem ixp_array {len e sz b o : Nat} {kd : IntKind} {i : Int} {k : Value → Prop} : ixp (some (.array len e)) sz (.pointer (some ⟨b, o, none⟩)) (.int kd i) k = (0 ≤ i ∧ i < len ∧ nv (.pointer (some ⟨b, o + i.toNat * sz, none⟩)) k) := rfl
theorem ixp_slice {len e sz b o c : Nat} {kd : IntKind} {i : Int} {k : Value → Prop} : ixp (some (.slice e)) sz (.slice (some ⟨b, o, none⟩) len c) (.int kd i) k = (0 ≤ i ∧ i < len ∧ nv (.pointer (some ⟨b, o + i.toNat * sz, none⟩)) k) := rfl
theorem ixp_run {t : TypeId} {v i : Value} {k : Value → Prop} (hz : elSz P t ≠ 0) (h : ixp (P.underlying t) (elSz P t) v i k) : wo (qrun P (Instr.indexAt t v i) H) k := by
  unfold ixp at h
  have hsz : ∀ e, (P.underlying t = some (.slice e) ∨ ∃ l, P.underlying t = some (.array l e)) → (P.info? e).map (·.size) = some (elSz P t) := fun e he => by
    have : elSz P t = P.cellsOf e := by
      unfold elSz
      rcases he with he | ⟨l, he⟩ <;> rw [he]
    rw [this] at hz ⊢
    unfold Program.cellsOf at hz ⊢
    cases hi : P.info? e with
    | none => rw [hi] at hz; simp at hz
    | some i => rfl
  split at h
  · rename_i len e b o kd i hu
    obtain ⟨h1, h2, h3⟩ := h
    have hs := hsz e (.inr ⟨len, hu⟩)
    simp only [Instr.indexAt, qrun_bind, asIntOf, qrun_pure, Option.bind_some, qrun_underlying, hu, Instr.sureAddr]
    simp only [h1, h2, and_self, if_true, qrun_bind, qrun_sizeOf, hs, Option.bind_some, qrun_pure, add_plain]
    exact h3
  · rename_i e b o len c kd i hu
    obtain ⟨h1, h2, h3⟩ := h
    have hs := hsz e (.inl hu)
    simp only [Instr.indexAt, qrun_bind, asIntOf, qrun_pure, Option.bind_some, qrun_underlying, hu]
    simp only [h1, h2, and_self, if_true, qrun_bind, qrun_sizeOf, hs, Option.bind_some, qrun_pure, add_plain]
    exact h3
  · exact h.elim

/-! ### Structs and arrays that are built -/
def plOf1 (P : Program) (t : TypeId) : Bool :=
  match P.underlying t with
  | some (.struct fs) => fs.toList.all fun f => (P.info? f.type).isSome
  | some (.array _ e) => (P.info? e).isSome
  | _ => false

def bldL (pl : Nat → Option (Nat × Nat)) (cs : List Value) : List (Nat × Value) → Option (List Value)
  | [] => some cs
  | (i, v) :: r => match pl i with
    | some (off, sz) => if (vcells v).length = sz ∧ off + sz ≤ cs.length then bldL pl (lput cs off (vcells v)) r else none
    | none => none

theorem lput_length : ∀ (vs cs : List Value) (off : Nat), (lput cs off vs).length = cs.length
  | [], _, _ => rfl
  | v :: vs, cs, off => by simp [lput, lput_length vs]

theorem fold_lput : ∀ (vs : List Value) (cells : Array Value) (off k : Nat), ((vs.zipIdx k).foldl (fun (cs : Array Value) (x : Value × Nat) => cs.setIfInBounds (off + x.2) x.1) cells).toList = lput cells.toList (off + k) vs
  | [], _, _, _ => rfl
  | v :: vs, cells, off, k => by
    simp only [List.zipIdx_cons, List.foldl_cons, lput]
    rw [fold_lput vs _ off (k + 1)]
    simp [Nat.add_assoc]

theorem fill_of_bldL (pl : Nat → Option (Nat × Nat)) : ∀ (ps : List (Nat × Value)) (cells : Array Value) (cs : List Value), bldL pl cells.toList ps = some cs → Instr.fill pl cells ps = some cs.toArray
  | [], cells, cs, h => by simp only [bldL, Option.some.injEq] at h; subst h; simp [Instr.fill]
  | (i, v) :: r, cells, cs, h => by
    simp only [bldL] at h
    simp only [Instr.fill]
    split at h
    · rename_i off sz hp
      split at h
      · rename_i hc
        simp only [hp]
        have h1 : v.cells.size = sz := by rw [← hc.1]; simp [vcells]
        have h2 : ¬ (v.cells.size ≠ sz ∨ off + v.cells.size > cells.size) := by
          have := hc.2; simp at this; omega
        simp only [ne_eq, gt_iff_lt, not_or, Decidable.not_not, Nat.not_lt] at h2
        simp only [ne_eq, h2.1, not_true_eq_false, gt_iff_lt, Bool.or_eq_true, decide_eq_true_eq, false_or]
        rw [if_neg (by rw [h1] at h2; omega)]
        refine fill_of_bldL pl r _ cs ?_
        rw [← h]
        congr 1
        rw [← Array.foldl_toList, Array.toList_zipIdx]
        have := fold_lput v.cells.toList cells off 0
        simpa [vcells] using this
      · cases h
    · cases h

theorem qrun_mapM_fields (P : Program) (H : AH) : ∀ (fs : List Field), (fs.all fun f => (P.info? f.type).isSome) = true → qrun P (fs.mapM fun f => (do pure (f.offset, ← sizeOf f.type) : Sem (Nat × Nat))) H = some (fs.map fun f => (f.offset, P.cellsOf f.type))
  | [], _ => rfl
  | f :: fs, h => by
    simp only [List.all_cons, Bool.and_eq_true] at h
    obtain ⟨i, hi⟩ := Option.isSome_iff_exists.1 h.1
    simp only [List.mapM_cons, qrun_bind, qrun_sizeOf, hi, Option.map_some, Option.bind_some, qrun_pure, qrun_mapM_fields P H fs h.2, List.map_cons, Program.cellsOf, Option.getD_some]

/-- A struct or an array, built of parts. -/
def bld (P : Program) (t : TypeId) (ps : List (Nat × Value)) (k : Value → Prop) (_t : Lk k := .mk) : Prop := plOf1 P t = true ∧ wo (zrOf P t) fun z => wo (bldL (plOf P t) z ps) fun cs => nv (.agg cs.toArray) k

theorem bld_run {t : TypeId} {ps : List (Nat × Value)} {k : Value → Prop} (h : bld P t ps k) : wo (qrun P (Instr.build t ps.toArray) H) k := by
  obtain ⟨h1, h⟩ := h
  unfold wo at h
  split at h
  · rename_i z hz
    split at h
    · rename_i cs hcs
      obtain ⟨zv, hz1, hz2⟩ := zeroValue_run (H := H) hz
      have key : ∀ pl : Nat → Option (Nat × Nat), pl = plOf P t → Instr.fill pl zv.cells ps = some cs.toArray := fun pl hp => by
        subst hp
        exact fill_of_bldL _ _ _ _ (by rw [hz2]; exact hcs)
      unfold plOf1 at h1
      simp only [Instr.build, qrun_bind, hz1, Option.bind_some, qrun_underlying]
      split at h1
      · rename_i fs hu
        have hm : qrun P (fs.mapM fun f => (do pure (f.offset, ← sizeOf f.type) : Sem (Nat × Nat))) H = some (fs.toList.map fun f => (f.offset, P.cellsOf f.type)).toArray := by
          have e2 : fs.mapM (fun f => (do pure (f.offset, ← sizeOf f.type) : Sem (Nat × Nat))) = List.toArray <$> fs.toList.mapM (fun f => (do pure (f.offset, ← sizeOf f.type) : Sem (Nat × Nat))) := by
            rw [← List.mapM_toArray]
          rw [e2, qrun_map, qrun_mapM_fields P H _ h1]; rfl
        simp only [hu, Option.bind_some, qrun_bind, hm]
        rw [key _ (by
          funext i
          simp [plOf, hu])]
        exact h
      · rename_i l e hu
        obtain ⟨i, hi⟩ := Option.isSome_iff_exists.1 h1
        simp only [hu, Option.bind_some, qrun_bind, qrun_sizeOf, hi, Option.map_some]
        rw [key _ (by funext j; simp [plOf, hu, Program.cellsOf, hi])]
        exact h
      · cases h1
    · exact h.elim
  · exact h.elim

/-! ### Calls -/
def acl (q : Bool) (P : Program) (H : AH) (f : Value) (as : List Value) (K : Value → AH → Prop) (_t : Lk (K, H) := .mk) : Prop :=
  match f with
  | .func (.func g) first cap => fnOk P g = true ∧ AC q P g (first.toList ++ as ++ cap.toList).toArray H K
  | _ => False
theorem acl_func {g : Nat} {first cap : List Value} {as : List Value} {K : Value → AH → Prop} : acl q P H (.func (.func g) first.toArray cap.toArray) as K = (fnOk P g = true ∧ AC q P g (first ++ as ++ cap).toArray H K) := by simp [acl]
theorem AC_false {f : FuncId} {as : Array Value} {K : Value → AH → Prop} : AC false P f as H K = ACalls P f as H K := rfl
theorem AC_true {f : FuncId} {as : Array Value} {K : Value → AH → Prop} : AC true P f as H K = QCalls P f as H (fun v => K v H) := rfl

theorem acl_run {f : Value} {as : List Value} {K : Value → AH → Prop} {tys : Array TypeId} (o : Oper) {xs : Array Operand} {y : Operand} {fr : Fr}
    (ho : o.op = .call { callee := .value y, args := xs, argTypes := tys }) (hf : evd fr y = f) (has : xs.toList.map (evd fr) = as) (h : acl q P H f as K) : aop q P fr H o K := by
  unfold acl at h
  split at h
  · rename_i g first cap
    obtain ⟨h1, h2⟩ := h
    unfold fnOk at h1
    split at h1
    · rename_i fn hfn
      simp only [Bool.and_eq_true, bne_iff_ne, ne_eq] at h1
      have hbody : fn.body.isNone = false := by cases hb : fn.body with
        | none => rw [hb] at h1; simp at h1
        | some c => rfl
      have hname : (fn.name == "runtime.NumGoroutine") = false := by simpa using h1.1
      have hq : qrun P (execOp (evd fr) o) H = some (.enter g (first.toList ++ as ++ cap.toList).toArray) := by
        simp only [execOp, ho, resolve, hf, Deferred.ofValue, qrun_bind, qrun_pure, Option.bind_some, invoke, callFunc, qrun_program, hfn]
        simp only [hname, hbody, Bool.false_eq_true, if_false, qrun_pure]
        simp [← has]
      simp only [aop, ho, cls, hq, anext]
      exact h2
    · cases h1
  · exact h.elim

/-! ### One operation, by its kind -/
def nck (v : Value) (k : Value → Prop) (_t : Lk k := .mk) : Prop :=
  match v with
  | .pointer (some _) => k v
  | .func (.func _) _ _ => k v
  | .iface _ _ => k v
  | _ => False
theorem nck_ptr {a : Addr} {k : Value → Prop} : nck (.pointer (some a)) k = k (.pointer (some a)) := rfl
theorem nck_func {g : Nat} {f c : Array Value} {k : Value → Prop} : nck (.func (.func g) f c) k = k (.func (.func g) f c) := rfl

/-- An operation that reads alone, by the model's own run. -/
def rdop (P : Program) (H : AH) (s : Sem Value) (k : Value → Prop) (_t : Lk (k, H) := .mk) : Prop := wo (qrun P s H) fun v => nv v k

def osome (fr : Fr) (o : Option Operand) (k : Option Value → Prop) (_t : Lk (k, fr) := .mk) : Prop :=
  match o with
  | some x => wv fr x fun v => k (some v)
  | none => k none
theorem osome_some {x : Operand} {k : Option Value → Prop} : osome fr (some x) k = wv fr x fun v => k (some v) := rfl
theorem osome_none {k : Option Value → Prop} : osome fr none k = k none := rfl

/-- len, cap, min, max. -/
def rdv (u : Option TypeDesc) : Builtin → List Value → Option Value
  | .len, [.string s] => match u with | some .string => some (.int .i64 s.size) | _ => none
  | .len, [.slice _ n _] => match u with | some (.slice _) => some (.int .i64 n) | _ => none
  | .cap, [.slice _ _ n] => match u with | some (.slice _) => some (.int .i64 n) | _ => none
  | .min, [.int k a, .int _ b] => some (.int k (if b < a then b else a))
  | .max, [.int k a, .int _ b] => some (.int k (if b > a then b else a))
  | _, _ => none
def rdb (u : Option TypeDesc) (b : Builtin) (as : List Value) (k : Value → Prop) (_t : Lk k := .mk) : Prop := wo (rdv u b as) fun v => nv v k
theorem rdb_len_str {s : ByteArray} {k : Value → Prop} : rdb (some .string) .len [.string s] k = nv (.int .i64 s.size) k := rfl
theorem rdb_len_slice {e : TypeId} {a : Option Addr} {n c : Nat} {k : Value → Prop} : rdb (some (.slice e)) .len [.slice a n c] k = nv (.int .i64 n) k := rfl
theorem rdb_cap_slice {e : TypeId} {a : Option Addr} {n c : Nat} {k : Value → Prop} : rdb (some (.slice e)) .cap [.slice a n c] k = nv (.int .i64 c) k := rfl
theorem rdb_min {u : Option TypeDesc} {kd : IntKind} {a b : Int} {k : Value → Prop} : rdb u .min [.int kd a, .int kd b] k = nv (.int kd (if b < a then b else a)) k := rfl
theorem rdb_max {u : Option TypeDesc} {kd : IntKind} {a b : Int} {k : Value → Prop} : rdb u .max [.int kd a, .int kd b] k = nv (.int kd (if b > a then b else a)) k := rfl
theorem rdv_run {b : Builtin} {ts : Array TypeId} {as : List Value} {v : Value} {cs : Array Bool} (h : rdv (ts[0]?.bind P.underlying) b as = some v) : qrun P (builtin b ts ty cs as.toArray) H = some (.value v) := by
  cases ht : ts[0]? with
  | none =>
    rw [ht] at h
    unfold rdv at h
    split at h <;> simp at h
    · subst h; simp [builtin, Builtin.min_, Builtin.min2, qrun_pure, qrun_map]
    · subst h; simp [builtin, Builtin.max_, Builtin.max2, qrun_pure, qrun_map]
  | some t =>
    rw [ht] at h
    simp only [Option.bind_some] at h
    unfold rdv at h
    split at h
    · split at h
      · rename_i hu; cases h; simp [builtin, Builtin.len_, qrun_bind, qrun_map, qrun_underlying, ht, hu, qrun_pure, goInt]
      · cases h
    · split at h
      · rename_i hu; cases h; simp [builtin, Builtin.len_, qrun_bind, qrun_map, qrun_underlying, ht, hu, qrun_pure, goInt]
      · cases h
    · split at h
      · rename_i hu; cases h; simp [builtin, Builtin.cap_, qrun_bind, qrun_map, qrun_underlying, ht, hu, qrun_pure, goInt]
      · cases h
    · cases h; simp [builtin, Builtin.min_, Builtin.min2, qrun_pure, qrun_map]
    · cases h; simp [builtin, Builtin.max_, Builtin.max2, qrun_pure, qrun_map]
    · cases h

def vop (q : Bool) (P : Program) (fr : Fr) (H : AH) (o : Oper) (k : Value → AH → Prop) : Prop :=
  match o.op with
  | .move x | .assign x => wv fr x fun v => nv v fun v => k v H
  | .pick c a b => wv fr c fun c => wv fr a fun a => wv fr b fun b => pck c a b fun v => k v H
  | .binOp op t x y _ => wv fr x fun a => wv fr y fun b => bin (P.underlying t) P H op t x y a b fun v => k v H
  | .unOp op _ x => wv fr x fun a => unv P H op a fun v => k v H
  | .extract x i => wv fr x fun a => extr P H a i fun v => k v H
  | .convert s t x => wv fr x fun a => cnv (P.underlying s) (P.underlying t) P H s t a fun v => k v H
  | .load t x => wv fr x fun a => ldv (isAggU (P.underlying t)) (P.cellsOf t) a H fun v => k v H
  | .fieldAddr s x i => wv fr x fun a => fap P s i a fun v => k v H
  | .indexAddr t x i => elSz P t ≠ 0 ∧ wv fr x fun a => wv fr i fun i => ixp (P.underlying t) (elSz P t) a i fun v => k v H
  | .nilCheck x => wv fr x fun a => nck a fun v => k v H
  | .makeFunc f a b => wvs fr a.toList fun a => wvs fr b.toList fun b => k (.func f a.toArray b.toArray) H
  | .makeInterface t x => wv fr x fun a => rdop P H (Instr.makeInterface t a) fun v => k v H
  | .index t x i => wv fr x fun a => wv fr i fun i => rdop P H (Instr.index t a i) fun v => k v H
  | .field t x i => wv fr x fun a => rdop P H (Instr.field t a i) fun v => k v H
  | .slice t x lo hi mx => wv fr x fun a => osome fr lo fun lo => osome fr hi fun hi => osome fr mx fun mx => rdop P H (Instr.sliceAt t a lo hi mx) fun v => k v H
  | .build t ps => wvs fr (ps.toList.map (·.2)) fun vs => bld P t ((ps.toList.map (·.1)).zip vs) fun v => k v H
  | .sliceToArrayPointer t x => wv fr x fun a => rdop P H (Instr.arrayAt t a) fun v => k v H
  | .typeAssert x t u ok => wv fr x fun a => rdop P H (Instr.typeAssert a t u ok) fun v => k v H
  | .store t x y => q = false ∧ P.cellsOf t ≠ 0 ∧ wv fr x fun a => wv fr y fun b => stv P t a b H (k undef)
  | .alloc t => q = false ∧ wo (zrOf P t) fun cs => newb t cs H k
  | .box t x => q = false ∧ wv fr x fun v => newb t (vcells v) H k
  | .call { callee := .value f, args := xs, .. } => wv fr f fun f => wvs fr xs.toList fun as => acl q P H f as k
  | .call { callee := .builtin b, args := xs, argTypes := ts } =>
    match bcls b with
    | .read => wvs fr xs.toList fun as => rdb (ts[0]?.bind P.underlying) b as fun v => k v H
    | _ => o.op.operands.toList.all (kn1 fr) = true ∧ isSel o.op = false ∧ aop q P fr H o k
  | _ => o.op.operands.toList.all (kn1 fr) = true ∧ isSel o.op = false ∧ aop q P fr H o k

theorem rd_value {o : Oper} {s : Sem Value} (hc : cls o.op = .read) (he : execOp (evd fr) o = (do pure (.value (← s)))) {k : Value → AH → Prop} (h : wo (qrun P s H) fun v => k v H) : aop q P fr H o k := by
  simp only [aop, hc, he, qrun_bind]
  cases hs : qrun P s H with
  | none => rw [hs] at h; exact h
  | some v => rw [hs] at h; exact h

theorem zip_parts (g : Operand → Value) : ∀ l : List (Nat × Operand), (l.map fun (p : Nat × Operand) => (p.1, g p.2)) = (l.map (·.1)).zip ((l.map (·.2)).map g)
  | [] => rfl
  | p :: l => by simp only [List.map_cons, List.zip_cons_cons, zip_parts g l]

theorem vop_sound {o : Oper} {k : Value → AH → Prop} (h : vop q P fr H o k) : o.op.operands.toList.all (kn1 fr) = true ∧ isSel o.op = false ∧ aop q P fr H o k := by
  obtain ⟨dst, op, ty, pos, af, g⟩ := o
  unfold vop at h
  cases op <;> simp only at h
  case move x => exact ⟨by simp [Op.operands, h.1], rfl, h.2⟩
  case assign x => exact ⟨by simp [Op.operands, h.1], rfl, h.2⟩
  case pick c a b =>
    obtain ⟨h1, h2, h3, h4⟩ := h
    refine ⟨by simp [Op.operands, h1, h2, h3], rfl, ?_⟩
    simp only [aop, cls, execOp]
    revert h4
    generalize evd fr c = c
    cases c <;> exact id
  case binOp op t x y yt =>
    obtain ⟨h1, h2, h3⟩ := h
    exact ⟨by simp [Op.operands, h1, h2], rfl, rd_value rfl rfl h3.2⟩
  case unOp op t x => exact ⟨by simp [Op.operands, h.1], rfl, rd_value rfl rfl h.2⟩
  case extract x i => exact ⟨by simp [Op.operands, h.1], rfl, rd_value rfl rfl h.2⟩
  case convert s t x => exact ⟨by simp [Op.operands, h.1], rfl, rd_value rfl rfl h.2.2.2⟩
  case load t x => exact ⟨by simp [Op.operands, h.1], rfl, rd_value rfl rfl (ldv_run h.2)⟩
  case fieldAddr s x i => exact ⟨by simp [Op.operands, h.1], rfl, rd_value rfl rfl (fap_run h.2)⟩
  case indexAddr t x i =>
    obtain ⟨hz, h1, h2, h3⟩ := h
    exact ⟨by simp [Op.operands, h1, h2], rfl, rd_value rfl rfl (ixp_run hz h3)⟩
  case nilCheck x =>
    refine ⟨by simp [Op.operands, h.1], rfl, ?_⟩
    have h2 := h.2
    simp only [aop, cls, execOp]
    revert h2
    generalize evd fr x = v
    intro h2
    unfold nck at h2
    split at h2
    · exact h2
    · exact h2
    · exact h2
    · exact h2.elim
  case makeFunc f a b =>
    obtain ⟨h1, h2, h3⟩ := h
    refine ⟨by simp only [Op.operands, Array.toList_append, List.all_append, h1, h2, Bool.and_self], rfl, rd_value (s := Instr.makeFunc f (a.map (evd fr)) (b.map (evd fr))) rfl rfl ?_⟩
    simp only [Instr.makeFunc, qrun_pure, wo_some]
    have ea : a.map (evd fr) = (a.toList.map (evd fr)).toArray := by rw [← Array.toList_map, Array.toArray_toList]
    have eb : b.map (evd fr) = (b.toList.map (evd fr)).toArray := by rw [← Array.toList_map, Array.toArray_toList]
    rw [ea, eb]; exact h3
  case makeInterface t x => exact ⟨by simp [Op.operands, h.1], rfl, rd_value rfl rfl h.2⟩
  case index t x i =>
    obtain ⟨h1, h2, h3⟩ := h
    exact ⟨by simp [Op.operands, h1, h2], rfl, rd_value rfl rfl h3⟩
  case field t x i => exact ⟨by simp [Op.operands, h.1], rfl, rd_value rfl rfl h.2⟩
  case slice t x lo hi mx =>
    obtain ⟨h1, h⟩ := h
    have key : ∀ (o : Option Operand) (k : Option Value → Prop), osome fr o k → o.toArray.toList.all (kn1 fr) = true ∧ k (o.map (evd fr)) := fun o k h => by
      cases o with
      | none => exact ⟨rfl, h⟩
      | some x => exact ⟨by simpa using h.1, h.2⟩
    obtain ⟨h2, h⟩ := key _ _ h
    obtain ⟨h3, h⟩ := key _ _ h
    obtain ⟨h4, h⟩ := key _ _ h
    exact ⟨by simp only [Op.operands, Array.toList_append, List.all_append, h2, h3, h4]; simp [h1], rfl, rd_value rfl rfl h⟩
  case build t ps =>
    obtain ⟨h1, h2⟩ := h
    refine ⟨by simpa [Op.operands] using h1, rfl, rd_value (s := Instr.build t (ps.map fun (i, x) => (i, evd fr x))) rfl rfl ?_⟩
    have e : (ps.map fun (i, x) => (i, evd fr x)) = ((ps.toList.map (·.1)).zip ((ps.toList.map (·.2)).map (evd fr))).toArray := by
      rw [← zip_parts (evd fr) ps.toList, ← Array.toList_map, Array.toArray_toList]
    rw [e]; exact bld_run h2
  case sliceToArrayPointer t x => exact ⟨by simp [Op.operands, h.1], rfl, rd_value rfl rfl h.2⟩
  case typeAssert x t u ok => exact ⟨by simp [Op.operands, h.1], rfl, rd_value rfl rfl h.2⟩
  case store t x y =>
    obtain ⟨hq, hz, h1, h2, h3⟩ := h
    subst hq
    refine ⟨by simp [Op.operands, h1, h2], rfl, ?_⟩
    simp only [aop, cls, true_and]
    show arun P (Instr.storeAt t (evd fr x) (evd fr y) >>= fun _ => pure Next.skip) H _
    rw [arun_bind]
    exact stv_run h3 hz
  case alloc t =>
    obtain ⟨hq, h⟩ := h
    subst hq
    refine ⟨rfl, rfl, ?_⟩
    simp only [aop, cls, true_and]
    show arun P (Instr.alloc t true (.tuple #[]) >>= fun v => pure (Next.value v)) H _
    rw [arun_bind]
    unfold wo at h
    split at h
    · rename_i cs hz
      obtain ⟨z, h1, h2⟩ := zeroValue_run (H := H) hz
      simp only [Instr.alloc, arun_bind]
      refine arun_of_qrun _ _ _ h1 ?_
      refine arun_newVar ?_
      have e : vcells z = cs := h2
      rw [e]
      exact h
    · exact h.elim
  case box t x =>
    obtain ⟨hq, h1, h2⟩ := h
    subst hq
    refine ⟨by simp [Op.operands, h1], rfl, ?_⟩
    simp only [aop, cls, true_and]
    show arun P (Instr.box t (evd fr x) >>= fun v => pure (Next.value v)) H _
    rw [arun_bind]
    simp only [Instr.box, arun_bind]
    exact arun_newVar h2
  case call c =>
    obtain ⟨callee, args, tys⟩ := c
    cases callee <;> simp only at h
    case value f =>
      obtain ⟨h1, h2, h3⟩ := h
      refine ⟨by simp only [Op.operands, Call.operands, Array.toList_append, List.all_append, h2]; simp [h1], rfl, ?_⟩
      exact acl_run _ rfl rfl rfl h3
    case builtin b =>
      split at h
      · rename_i hb
        obtain ⟨h1, h2⟩ := h
        refine ⟨by simp only [Op.operands, Call.operands, Array.toList_append, List.all_append, h1]; rfl, rfl, ?_⟩
        have e : (args.toList.map (evd fr)).toArray = args.map (evd fr) := by rw [← Array.toList_map, Array.toArray_toList]
        simp only [aop, cls, hb, execOp, resolve, qrun_bind, qrun_pure, Option.bind_some, invoke]
        unfold rdb wo at h2
        split at h2
        · rename_i v hv
          have hr : ∀ cs, qrun P (builtin b tys ty cs (args.map (evd fr))) H = some (.value v) := fun cs => by
            have := rdv_run (P := P) (H := H) (ty := ty) (cs := cs) hv
            rwa [e] at this
          simp only [hr, anext]
          exact h2
        · exact h2.elim
      · exact h
    case invoke r m => exact h
  all_goals exact h

def vgo (q : Bool) (P : Program) (n : Nat) (_ds : List (Option Tmp)) (d : Option Tmp) (o : Oper) (fr : Fr) (H : AH) (K : Fr → AH → Prop) : Prop := dok n d = true ∧ vop q P fr H o (fun v H' => K (putf d v fr) H')

def vops (q : Bool) (P : Program) (n : Nat) (ds : List (Option Tmp)) : List Oper → Fr → AH → (Fr → AH → Prop) → Prop
  | [], fr, H, K => K fr H
  | ⟨d, op, ty, pos, af, none⟩ :: rest, fr, H, K => vgo q P n ds d ⟨d, op, ty, pos, af, none⟩ fr H fun fr H => vops q P n ds rest fr H K
  | ⟨d, op, ty, pos, af, some (j, want)⟩ :: rest, fr, H, K => wo (ds[j]?) fun t => wo t fun t => wo (alk t fr) fun b =>
      ag b want (vgo q P n ds d ⟨d, op, ty, pos, af, none⟩ ((t, .bool want) :: fr) H fun fr H => vops q P n ds rest fr H K)
        (dok n d = true ∧ vops q P n ds rest (putf d undef ((t, .bool !want) :: fr)) H K) (dok n d = true ∧ vops q P n ds rest (putf d undef fr) H K)

theorem aop_mono {o : Oper} {k k' : Value → AH → Prop} (hk : ∀ v H, k v H → k' v H) (h : aop q P fr H o k) : aop q P fr H o k' := by
  have hn : ∀ q nx H, anext q P k nx H → anext q P k' nx H := fun q nx H h => by
    cases nx <;> simp only [anext] at h ⊢ <;> try first | exact hk _ _ h | exact h
    cases q with
    | true => obtain ⟨v, h1, h2⟩ := h; exact ⟨v, h1, hk _ _ h2⟩
    | false => exact h.mono hk
  unfold aop at h ⊢
  split at h
  · split at h
    · exact hn _ _ _ h
    · exact h.elim
  · exact ⟨h.1, arun_mono P _ _ _ _ (fun a H h => hn _ _ _ h) h.2⟩
  · refine ⟨h.1, fun w hs => ?_⟩
    obtain ⟨nx, w', H', h1, h2, h3⟩ := h.2 w hs
    exact ⟨nx, w', H', h1, h2, hn _ _ _ h3⟩

theorem vops_sound : ∀ (l : List Oper) (fr : Fr) (H : AH), vops q P n ds l fr H K → aops q P n ds l fr H K
  | [], fr, H, h => h
  | ⟨d, op, ty, pos, af, none⟩ :: rest, fr, H, h => by
    obtain ⟨h1, h2⟩ := h
    obtain ⟨a1, a2, a3⟩ := vop_sound h2
    simp only [aops, aguard, gov]
    exact ⟨fun _ => ⟨by simp only [okOp, a1, a2, h1]; rfl, aop_mono (fun v H h => vops_sound rest _ _ h) a3⟩, fun e => by cases e⟩
  | ⟨d, op, ty, pos, af, some (j, want)⟩ :: rest, fr, H, h => by
    simp only [vops] at h
    cases hj : ds[j]? with
    | none => rw [hj] at h; exact h.elim
    | some t =>
      rw [hj] at h
      cases t with
      | none => exact h.elim
      | some t =>
        simp only [wo_some] at h
        cases hb : alk t fr with
        | none => rw [hb] at h; exact h.elim
        | some b =>
          rw [hb] at h
          simp only [wo_some] at h
          have yes : ∀ fr', (dok n d = true ∧ vop q P fr' H ⟨d, op, ty, pos, af, none⟩ (fun v H' => vops q P n ds rest (putf d v fr') H' K)) →
              okOp n fr' ⟨d, op, ty, pos, af, some (j, want)⟩ = true ∧ aop q P fr' H ⟨d, op, ty, pos, af, some (j, want)⟩ (fun v H' => aops q P n ds rest (putf d v fr') H' K) := fun fr' ⟨h1, h2⟩ => by
            obtain ⟨a1, a2, a3⟩ := vop_sound h2
            exact ⟨by simp only [okOp, a1, a2, h1]; rfl, aop_mono (fun v H h => vops_sound rest _ _ h) a3⟩
          have no : ∀ fr', (dok n d = true ∧ vops q P n ds rest (putf d undef fr') H K) → dok n d = true ∧ aops q P n ds rest (putf d undef fr') H K := fun fr' ⟨h1, h2⟩ => ⟨h1, vops_sound rest _ _ h2⟩
          cases b with
          | bool b =>
            have e1 : aguard ds fr ⟨d, op, ty, pos, af, some (j, want)⟩ = some (b == want) := by simp only [aguard, hj, Option.bind_some, id, hb]
            have e2 : ∀ g, gov ds fr ⟨d, op, ty, pos, af, some (j, want)⟩ g = (t, .bool (if g = true then want else !want)) :: fr := fun g => by simp only [gov, hj, Option.bind_some, id, hb]
            simp only [ag] at h
            simp only [aops, e1, e2, if_true, Bool.false_eq_true, if_false]
            exact ⟨fun e => yes _ (h.1 (by simpa using e)), fun e => no _ (h.2 (by simpa using e))⟩
          | _ =>
            have e1 : aguard ds fr ⟨d, op, ty, pos, af, some (j, want)⟩ = some false := by simp only [aguard, hj, Option.bind_some, id, hb]
            have e2 : ∀ g, gov ds fr ⟨d, op, ty, pos, af, some (j, want)⟩ g = fr := fun g => by simp only [gov, hj, Option.bind_some, id, hb]
            simp only [ag] at h
            simp only [aops, e1, e2]
            exact ⟨fun e => by simp at e, fun _ => no _ h⟩

end
end Go.AX
