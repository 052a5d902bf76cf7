/- The engine, continued: an equation for each kind of operation. -/
import Derived.Test.YtmkbpdlijfjgkaaDoorAx3
namespace Go.AX
set_option linter.unusedSimpArgs false
set_option linter.unusedVariables false
open Go Go.RowKit

/-! ### Facts on types, in the form in which they are computed once -/
def zrOf (P : Program) (t : TypeId) : Option (List Value) := ((P.info? t).bind (·.zero)).map (·.cells.toList)
def foOf (P : Program) (s : TypeId) (i : Nat) : Option Nat :=
  match P.underlying s with
  | some (.struct fs) => (fs[i]?).bind fun f => if P.cellsOf f.type = 0 then none else some f.offset
  | _ => none
def isAggU : Option TypeDesc → Option Bool
  | some (.struct _) | some (.array _ _) => some true
  | some _ => some false
  | none => none
def elSz (P : Program) (t : TypeId) : Nat :=
  match P.underlying t with
  | some (.array _ e) | some (.slice e) => P.cellsOf e
  | _ => 0
def fnOk (P : Program) (f : FuncId) : Bool :=
  match P.funcs[f]? with
  | some fn => fn.name != "runtime.NumGoroutine" && fn.body.isSome
  | none => false
/-- Where part i of a struct or an array lies, and how many cells it has. -/
def plOf (P : Program) (t : TypeId) (i : Nat) : Option (Nat × Nat) :=
  match P.underlying t with
  | some (.struct fs) => (fs[i]?).map fun f => (f.offset, P.cellsOf f.type)
  | some (.array _ e) => some (i * P.cellsOf e, P.cellsOf e)
  | _ => none
/-- The same with whether it is a struct or an array itself. -/
def fdOf (P : Program) (t : TypeId) (i : Nat) : Option (Nat × Nat × Bool) :=
  match P.underlying t with
  | some (.struct fs) => (fs[i]?).bind fun f => (isAggU (P.underlying f.type)).map fun a => (f.offset, P.cellsOf f.type, a)
  | _ => none

section
variable {q : Bool} {P : Program} {n : Nat} {ds : List (Option Tmp)} {rest : List Oper} {fr : Fr} {H : AH} {K : Fr → AH → Prop} {d : Option Tmp} {ty : TypeId} {pos : String} {af : Array Edge}

theorem underlying_some {t : TypeId} {u : TypeDesc} (h : P.underlying t = some u) (w : World) : qrun P (underlying t) H = some u := by
  simp [underlying, program, qrun_bind, qrun, h, qrun_pure]
theorem qrun_underlying (t : TypeId) : qrun P (underlying t) H = P.underlying t := by
  simp only [underlying, program, qrun_bind, qrun, Option.bind_some]
  cases P.underlying t <;> rfl
theorem qrun_sizeOf (t : TypeId) : qrun P (sizeOf t) H = (P.info? t).map (·.size) := by
  simp only [sizeOf, typeInfo, program, qrun_bind, qrun, Option.bind_some]
  cases P.info? t <;> rfl
theorem info_of_under {t : TypeId} {u : TypeDesc} (h : P.underlying t = some u) : ∃ i, P.info? t = some i := by
  unfold Program.underlying at h
  cases hi : P.info? t with
  | none => rw [hi] at h; cases h
  | some i => exact ⟨i, rfl⟩
theorem qrun_program : qrun P program H = some P := rfl

theorem dok_some {d : Nat} : (dok n (some d) = true) = (d < n) := by simp [dok]
theorem dok_none : (dok n none = true) = True := by simp [dok]
theorem putf_some {d : Nat} {v : Value} : putf (some d) v fr = (d, v) :: fr := rfl
theorem putf_none {v : Value} : putf none v fr = fr := rfl

def ag (b : Value) (want : Bool) (A B C : Prop) (_t : Lk (A, B, C) := .mk) : Prop :=
  match b with
  | .bool b => (b = want → A) ∧ (b ≠ want → B)
  | _ => C

theorem ag_tt {A B C : Prop} : ag (.bool true) true A B C = A := by simp [ag]
theorem ag_ff {A B C : Prop} : ag (.bool false) false A B C = A := by simp [ag]
theorem ag_tf {A B C : Prop} : ag (.bool true) false A B C = B := by simp [ag]
theorem ag_ft {A B C : Prop} : ag (.bool false) true A B C = B := by simp [ag]
theorem ag_undef {w : Bool} {A B C : Prop} : ag undef w A B C = C := Eq.trans rfl rfl
theorem ag_t {b : Bool} {A B C : Prop} : ag (.bool b) true A B C = (imp (b = true) A ∧ imp (b = false) B) := by cases b <;> simp [ag, imp]
theorem ag_f {b : Bool} {A B C : Prop} : ag (.bool b) false A B C = (imp (b = false) A ∧ imp (b = true) B) := by cases b <;> simp [ag, imp]

/-! ### Words for the operations -/
def pck (c a b : Value) (k : Value → Prop) (_t : Lk k := .mk) : Prop :=
  match c with
  | .bool t => nv (if t = true then a else b) k
  | _ => False
theorem pck_bool {t : Bool} {a b : Value} {k : Value → Prop} : pck (.bool t) a b k = nv (if t = true then a else b) k := Eq.trans rfl rfl

def bin (u : Option TypeDesc) (P : Program) (H : AH) (op : BinOp) (t : TypeId) (x y : Operand) (a b : Value) (k : Value → Prop) (_t : Lk (k, H) := .mk) : Prop := u = P.underlying t ∧ wo (qrun P (do eqGuard op t x y a b; binOp op t a b) H) (fun v => nv v k)
section ints
variable {u : TypeDesc} {t : TypeId} {x y : Operand} {k : IntKind} {a b : Int} {kk : Value → Prop}
theorem bin_add : bin (some u) P H .add t x y (.int k a) (.int k b) kk = (some u = P.underlying t ∧ nv (.int k (k.wrap (a + b))) kk) := by simp [bin, eqGuard, binOp, Op.intArith, qrun_bind, qrun_pure, wo]
theorem bin_sub : bin (some u) P H .sub t x y (.int k a) (.int k b) kk = (some u = P.underlying t ∧ nv (.int k (k.wrap (a - b))) kk) := by simp [bin, eqGuard, binOp, Op.intArith, qrun_bind, qrun_pure, wo]
theorem bin_mul : bin (some u) P H .mul t x y (.int k a) (.int k b) kk = (some u = P.underlying t ∧ nv (.int k (k.wrap (a * b))) kk) := by simp [bin, eqGuard, binOp, Op.intArith, qrun_bind, qrun_pure, wo]
theorem bin_eql : bin (some u) P H .eql t x y (.int k a) (.int k b) kk = (some u = P.underlying t ∧ nv (.bool (a == b)) kk) := by simp [bin, eqGuard, binOp, Op.intCmp, qrun_bind, qrun_pure, wo]
theorem bin_neq : bin (some u) P H .neq t x y (.int k a) (.int k b) kk = (some u = P.underlying t ∧ nv (.bool (a != b)) kk) := by simp [bin, eqGuard, binOp, Op.intCmp, qrun_bind, qrun_pure, wo]
theorem bin_lss : bin (some u) P H .lss t x y (.int k a) (.int k b) kk = (some u = P.underlying t ∧ nv (.bool (decide (a < b))) kk) := by simp [bin, eqGuard, binOp, Op.intCmp, qrun_bind, qrun_pure, wo]
theorem bin_leq : bin (some u) P H .leq t x y (.int k a) (.int k b) kk = (some u = P.underlying t ∧ nv (.bool (decide (a ≤ b))) kk) := by simp [bin, eqGuard, binOp, Op.intCmp, qrun_bind, qrun_pure, wo]
theorem bin_gtr : bin (some u) P H .gtr t x y (.int k a) (.int k b) kk = (some u = P.underlying t ∧ nv (.bool (decide (b < a))) kk) := by simp [bin, eqGuard, binOp, Op.intCmp, qrun_bind, qrun_pure, wo]
theorem bin_geq : bin (some u) P H .geq t x y (.int k a) (.int k b) kk = (some u = P.underlying t ∧ nv (.bool (decide (b ≤ a))) kk) := by simp [bin, eqGuard, binOp, Op.intCmp, qrun_bind, qrun_pure, wo]
theorem bin_quo : bin (some u) P H .quo t x y (.int k a) (.int k b) kk = (some u = P.underlying t ∧ b ≠ 0 ∧ nv (.int k (k.wrap (a.tdiv b))) kk) := by
  by_cases h : b = 0 <;> simp [bin, eqGuard, binOp, Op.intDiv, qrun_bind, qrun_pure, wo, h, runtimePanic, program, qrun, goPanic]
theorem bin_rem : bin (some u) P H .rem t x y (.int k a) (.int k b) kk = (some u = P.underlying t ∧ b ≠ 0 ∧ nv (.int k (a.tmod b)) kk) := by
  by_cases h : b = 0 <;> simp [bin, eqGuard, binOp, Op.intDiv, qrun_bind, qrun_pure, wo, h, runtimePanic, program, qrun, goPanic]
theorem bin_shl {k' : IntKind} : bin (some u) P H .shl t x y (.int k a) (.int k' b) kk = (some u = P.underlying t ∧ 0 ≤ b ∧ nv (.int k (k.wrap (a * 2 ^ (min b.toNat k.bits)))) kk) := by
  by_cases h : b < 0 <;> simp [bin, eqGuard, binOp, Op.shift, qrun_bind, qrun_pure, wo, h, runtimePanic, program, qrun, goPanic] <;> omega
theorem bin_shr {k' : IntKind} : bin (some u) P H .shr t x y (.int k a) (.int k' b) kk = (some u = P.underlying t ∧ 0 ≤ b ∧ nv (.int k (a.fdiv (2 ^ (min b.toNat k.bits)))) kk) := by
  by_cases h : b < 0 <;> simp [bin, eqGuard, binOp, Op.shift, qrun_bind, qrun_pure, wo, h, runtimePanic, program, qrun, goPanic] <;> omega
/-- '&', '|', '^', '&^' on whole numbers. -/
def ibits (op : BinOp) (k : IntKind) (x y : Int) : Int :=
  let a := BitVec.ofInt k.bits x
  let b := BitVec.ofInt k.bits y
  match op with
  | .and => k.wrap (a &&& b).toNat
  | .or => k.wrap (a ||| b).toNat
  | .xor => k.wrap (a ^^^ b).toNat
  | _ => k.wrap (a &&& ~~~b).toNat
theorem bin_and : bin (some u) P H .and t x y (.int k a) (.int k b) kk = (some u = P.underlying t ∧ nv (.int k (ibits .and k a b)) kk) := by simp [bin, eqGuard, binOp, Op.intBits, qrun_bind, qrun_pure, wo, ibits]
theorem bin_or : bin (some u) P H .or t x y (.int k a) (.int k b) kk = (some u = P.underlying t ∧ nv (.int k (ibits .or k a b)) kk) := by simp [bin, eqGuard, binOp, Op.intBits, qrun_bind, qrun_pure, wo, ibits]
theorem bin_xor : bin (some u) P H .xor t x y (.int k a) (.int k b) kk = (some u = P.underlying t ∧ nv (.int k (ibits .xor k a b)) kk) := by simp [bin, eqGuard, binOp, Op.intBits, qrun_bind, qrun_pure, wo, ibits]
theorem bin_andNot : bin (some u) P H .andNot t x y (.int k a) (.int k b) kk = (some u = P.underlying t ∧ nv (.int k (ibits .andNot k a b)) kk) := by simp [bin, eqGuard, binOp, Op.intBits, qrun_bind, qrun_pure, wo, ibits]
end ints

theorem eqIn_bool {t : TypeId} {m : Nat} {a b : Bool} (h : P.underlying t = some .bool) : qrun P (Op.equalIn (m + 1) t (.bool a) (.bool b)) H = some (a == b) := by
  simp only [Op.equalIn, qrun_bind, qrun_underlying, h, Option.bind_some, qrun_pure]
theorem eqIn_int {t : TypeId} {m : Nat} {k k' : IntKind} {a b : Int} (h : P.underlying t = some (.int k')) : qrun P (Op.equalIn (m + 1) t (.int k a) (.int k b)) H = some (a == b) := by
  simp only [Op.equalIn, qrun_bind, qrun_underlying, h, Option.bind_some, if_true, qrun_pure]
theorem eqIn_ptr_nil {t e : TypeId} {m : Nat} {a : Option Addr} (h : P.underlying t = some (.pointer e)) : qrun P (Op.equalIn (m + 1) t (.pointer a) (.pointer none)) H = some a.isNone := by
  cases a <;> simp only [Op.equalIn, qrun_bind, qrun_underlying, h, Option.bind_some, qrun_pure] <;> rfl
theorem eqIn_slice_nil {t e : TypeId} {m : Nat} {a : Option Addr} {l c : Nat} (h : P.underlying t = some (.slice e)) : qrun P (Op.equalIn (m + 1) t (.slice a l c) (.slice none 0 0)) H = some a.isNone := by
  cases a <;> simp only [Op.equalIn, qrun_bind, qrun_underlying, h, Option.bind_some, qrun_pure] <;> rfl
theorem bin_eql_of {u : Option TypeDesc} {t : TypeId} {x y : Operand} {a b : Value} {r : Bool} {kk : Value → Prop} (hg : qrun P (eqGuard .eql t x y a b) H = some ()) (hb : binOp .eql t a b = (do pure (.bool (← Op.equal t a b))))
    (h : u = P.underlying t → qrun P (Op.equalIn (9999 + 1) t a b) H = some r) : bin u P H .eql t x y a b kk = (u = P.underlying t ∧ nv (.bool r) kk) := by
  unfold bin
  by_cases hu : u = P.underlying t
  · have h' : qrun P (Op.equal t a b) H = some r := h hu
    simp only [qrun_bind, hg, hb, Option.bind_some, h', qrun_pure, wo_some]
  · simp [hu]
theorem bin_neq_of {u : Option TypeDesc} {t : TypeId} {x y : Operand} {a b : Value} {r : Bool} {kk : Value → Prop} (hg : qrun P (eqGuard .neq t x y a b) H = some ()) (hb : binOp .neq t a b = (do pure (.bool (!(← Op.equal t a b)))))
    (h : u = P.underlying t → qrun P (Op.equalIn (9999 + 1) t a b) H = some r) : bin u P H .neq t x y a b kk = (u = P.underlying t ∧ nv (.bool !r) kk) := by
  unfold bin
  by_cases hu : u = P.underlying t
  · have h' : qrun P (Op.equal t a b) H = some r := h hu
    simp only [qrun_bind, hg, hb, Option.bind_some, h', qrun_pure, wo_some]
  · simp [hu]
section
variable {t e : TypeId} {x y : Operand} {kk : Value → Prop}
theorem bin_eql_bool {a b : Bool} : bin (some .bool) P H .eql t x y (.bool a) (.bool b) kk = (some .bool = P.underlying t ∧ nv (.bool (a == b)) kk) := bin_eql_of rfl rfl fun h => eqIn_bool h.symm
theorem bin_neq_bool {a b : Bool} : bin (some .bool) P H .neq t x y (.bool a) (.bool b) kk = (some .bool = P.underlying t ∧ nv (.bool (!(a == b))) kk) := bin_neq_of rfl rfl fun h => eqIn_bool h.symm
theorem bin_eql_ptr_nil {a : Option Addr} : bin (some (.pointer e)) P H .eql t x y (.pointer a) (.pointer none) kk = (some (.pointer e) = P.underlying t ∧ nv (.bool a.isNone) kk) := bin_eql_of rfl rfl fun h => eqIn_ptr_nil h.symm
theorem bin_neq_ptr_nil {a : Option Addr} : bin (some (.pointer e)) P H .neq t x y (.pointer a) (.pointer none) kk = (some (.pointer e) = P.underlying t ∧ nv (.bool !a.isNone) kk) := bin_neq_of rfl rfl fun h => eqIn_ptr_nil h.symm
theorem bin_eql_slice_nil {a : Option Addr} {l c : Nat} : bin (some (.slice e)) P H .eql t x y (.slice a l c) (.slice none 0 0) kk = (some (.slice e) = P.underlying t ∧ nv (.bool a.isNone) kk) := bin_eql_of rfl rfl fun h => eqIn_slice_nil h.symm
theorem bin_neq_slice_nil {a : Option Addr} {l c : Nat} : bin (some (.slice e)) P H .neq t x y (.slice a l c) (.slice none 0 0) kk = (some (.slice e) = P.underlying t ∧ nv (.bool !a.isNone) kk) := bin_neq_of rfl rfl fun h => eqIn_slice_nil h.symm
theorem bin_eql_str {u : TypeDesc} {a b : ByteArray} : bin (some u) P H .eql t x y (.string a) (.string b) kk = (some u = P.underlying t ∧ nv (.bool (a.toList == b.toList)) kk) := by
  simp [bin, eqGuard, binOp, Op.stringOp, qrun_bind, qrun_pure, wo]
theorem bin_neq_str {u : TypeDesc} {a b : ByteArray} : bin (some u) P H .neq t x y (.string a) (.string b) kk = (some u = P.underlying t ∧ nv (.bool (!(a.toList == b.toList))) kk) := by
  simp [bin, eqGuard, binOp, Op.stringOp, qrun_bind, qrun_pure, wo]
end

def unv (P : Program) (H : AH) (op : UnOp) (v : Value) (k : Value → Prop) (_t : Lk (k, H) := .mk) : Prop := wo (qrun P (Op.unary op v) H) fun v => nv v k
theorem unv_not {b : Bool} {k : Value → Prop} : unv P H .not (.bool b) k = nv (.bool !b) k := Eq.trans rfl rfl
theorem unv_neg {kd : IntKind} {a : Int} {k : Value → Prop} : unv P H .neg (.int kd a) k = nv (.int kd (kd.wrap (0 - a))) k := Eq.trans rfl rfl
theorem unv_xor {kd : IntKind} {a : Int} {k : Value → Prop} : unv P H .xor (.int kd a) k = nv (.int kd (ibits .xor kd (if kd.signed then -1 else kd.max) a)) k := Eq.trans rfl rfl

def extr (P : Program) (H : AH) (v : Value) (i : Nat) (k : Value → Prop) (_t : Lk (k, H) := .mk) : Prop := wo (qrun P (Instr.extract v i) H) k
theorem extr_tuple {vs : Array Value} {i : Nat} {k : Value → Prop} : extr P H (.tuple vs) i k = wo (vs[i]?) k := by
  simp only [extr, Instr.extract]
  cases vs[i]? <;> rfl

/-- A conversion: the two types' descriptions stand first. -/
def cnv (us ud : Option TypeDesc) (P : Program) (H : AH) (s t : TypeId) (v : Value) (k : Value → Prop) (_t : Lk (k, H) := .mk) : Prop :=
  us = P.underlying s ∧ ud = P.underlying t ∧ wo (qrun P (convert s t v) H) fun v => nv v k
theorem cnv_int {s t : TypeId} {k0 kd : IntKind} {a : Int} {us : TypeDesc} {k : Value → Prop} : cnv (some us) (some (.int kd)) P H s t (.int k0 a) k = (some us = P.underlying s ∧ some (.int kd) = P.underlying t ∧ nv (.int kd (kd.wrap a)) k) := by
  unfold cnv
  by_cases hs : some us = P.underlying s
  · by_cases ht : some (.int kd) = P.underlying t
    · have : qrun P (convert s t (.int k0 a)) H = some (.int kd (kd.wrap a)) := by
        simp only [convert, qrun_bind, qrun_underlying, ← hs, ← ht, Option.bind_some]
        cases us <;> rfl
      simp only [this, wo_some]
    · simp [ht]
  · simp [hs]

/-! ### Loads and stores -/
theorem qrun_isAgg {t : TypeId} : qrun P (isAgg t) H = isAggU (P.underlying t) := by
  simp only [isAgg, qrun_bind, qrun_underlying]
  cases P.underlying t with
  | none => rfl
  | some u => cases u <;> rfl

/-- A load: whether it is of a struct or an array, and of how many cells. -/
def ldv (g : Option Bool) (sz : Nat) (v : Value) (H : AH) (k : Value → Prop) (_t : Lk (k, H) := .mk) : Prop :=
  match g, v with
  | some false, .pointer (some ⟨b, off, none⟩) => wo (H.rd ⟨b, off, none⟩) fun v => nv v k
  | some true, .pointer (some ⟨b, off, none⟩) => sz ≠ 0 ∧ wo (H.row b off sz) fun l => nv (.agg l.toArray) k
  | _, _ => False
theorem ldv_cell {sz b off : Nat} {k : Value → Prop} : ldv (some false) sz (.pointer (some ⟨b, off, none⟩)) H k = wo (H.rd ⟨b, off, none⟩) fun v => nv v k := Eq.trans rfl rfl
theorem ldv_agg {sz b off : Nat} {k : Value → Prop} : ldv (some true) sz (.pointer (some ⟨b, off, none⟩)) H k = (sz ≠ 0 ∧ wo (H.row b off sz) fun l => nv (.agg l.toArray) k) := Eq.trans rfl rfl
theorem info_size {t : TypeId} (h : P.cellsOf t ≠ 0) : (P.info? t).map (·.size) = some (P.cellsOf t) := by
  unfold Program.cellsOf at h ⊢
  cases hi : P.info? t with
  | none => rw [hi] at h; simp at h
  | some i => rfl
theorem qrun_loadVar {t : TypeId} {b off : Nat} {v : Value} (h : ldv (isAggU (P.underlying t)) (P.cellsOf t) (.pointer (some ⟨b, off, none⟩)) H (fun u => u = v)) : qrun P (loadVar t ⟨b, off, none⟩) H = some v := by
  simp only [loadVar, qrun_bind, qrun_isAgg]
  cases hg : isAggU (P.underlying t) with
  | none => rw [hg] at h; exact h.elim
  | some g =>
    rw [hg] at h
    cases g with
    | false =>
      simp only [ldv_cell] at h
      cases hr : H.rd ⟨b, off, none⟩ with
      | none => rw [hr] at h; exact h.elim
      | some u => rw [hr] at h; have : u = v := h; subst this; simp [qrun_load, hr]
    | true =>
      simp only [ldv_agg] at h
      obtain ⟨hz, h⟩ := h
      cases hr : H.row b off (P.cellsOf t) with
      | none => rw [hr] at h; exact h.elim
      | some l =>
        rw [hr] at h; have : (Value.agg l.toArray) = v := h; subst this
        simp [qrun_bind, qrun_map, qrun_sizeOf, info_size hz, qrun_loadCells P H b off _ hz, hr, qrun_pure]
theorem ldv_run {t : TypeId} {v : Value} {k : Value → Prop} (h : ldv (isAggU (P.underlying t)) (P.cellsOf t) v H k) : wo (qrun P (Instr.loadAt t v) H) k := by
  have hv : ∃ b off, v = .pointer (some ⟨b, off, none⟩) := by
    unfold ldv at h
    split at h
    · exact ⟨_, _, rfl⟩
    · exact ⟨_, _, rfl⟩
    · exact h.elim
  obtain ⟨b, off, rfl⟩ := hv
  have : ∃ u, ldv (isAggU (P.underlying t)) (P.cellsOf t) (.pointer (some ⟨b, off, none⟩)) H (fun x => x = u) ∧ k u := by
    cases hg : isAggU (P.underlying t) with
    | none => rw [hg] at h; exact h.elim
    | some g =>
      rw [hg] at h
      cases g with
      | false =>
        simp only [ldv_cell] at h ⊢
        cases hr : H.rd ⟨b, off, none⟩ with
        | none => rw [hr] at h; exact h.elim
        | some u => rw [hr] at h; exact ⟨u, rfl, h⟩
      | true =>
        simp only [ldv_agg] at h ⊢
        cases hr : H.row b off (P.cellsOf t) with
        | none => rw [hr] at h; exact h.2.elim
        | some l => rw [hr] at h; exact ⟨_, ⟨h.1, rfl⟩, h.2⟩
  obtain ⟨u, h1, h2⟩ := this
  simp only [Instr.loadAt, Instr.sureAddr, qrun_bind, qrun_pure, Option.bind_some, qrun_loadVar h1]
  exact h2

def vcells (v : Value) : List Value := v.cells.toList
theorem vcells_agg {cs : List Value} : vcells (.agg cs.toArray) = cs := by simp [vcells, Value.cells]
theorem vcells_scal {v : Value} (h : scal v = true) : vcells v = [v] := by
  cases v <;> first | rfl | (simp [scal] at h)

def stv (P : Program) (t : TypeId) (p v : Value) (H : AH) (k : AH → Prop) (_t : Lk (k, H) := .mk) : Prop :=
  match p with
  | .pointer (some ⟨b, off, none⟩) => (vcells v).length = P.cellsOf t ∧ wo (H.wrs b off (vcells v)) k
  | _ => False

theorem stv_run {t : TypeId} {p v : Value} {k : Value → AH → Prop} (h : stv P t p v H (k undef)) (hz : P.cellsOf t ≠ 0) : arun P (Instr.storeAt t p v) H (fun _ H' => k undef H') := by
  unfold stv at h
  split at h
  · rename_i b off
    obtain ⟨h1, h2⟩ := h
    unfold AH.wrs at h2
    split at h2
    · rename_i cs e sz hf
      split at h2
      · rename_i hc
        have hi : ∃ i, P.info? t = some i ∧ i.size = P.cellsOf t := by
          unfold Program.cellsOf at hz ⊢
          cases hi : P.info? t with
          | none => simp [hi] at hz
          | some i => exact ⟨i, rfl, by simp⟩
        obtain ⟨i, hi, hs⟩ := hi
        simp only [Instr.storeAt, Instr.sureAddr, arun_bind, arun, storeVar, sizeOf, typeInfo, program, hi]
        show arun P (if v.cells.size ≠ i.size then _ else _) H _
        have h3 : v.cells.size = i.size := by rw [hs, ← h1]; simp [vcells]
        simp only [h3, ne_eq, not_true_eq_false, if_false]
        refine arun_storeCells P b _ (vcells v) off 0 H cs e sz hf (by simpa using hc.1) hc.2.1 hc.2.2 ?_
        have hne : vcells v ≠ [] := by intro h; rw [h] at h1; simp at h1; exact hz h1.symm
        simp only [hne, if_false, Nat.add_zero]
        exact h2
      · exact h2.elim
    · exact h2.elim
  · exact h.elim


/-! ### What is made -/
theorem zeroValue_run {t : TypeId} {cs : List Value} (h : zrOf P t = some cs) : ∃ z, qrun P (zeroValue t) H = some z ∧ z.cells.toList = cs := by
  unfold zrOf at h
  obtain ⟨z, hz, hc⟩ := Option.map_eq_some_iff.1 h
  obtain ⟨i, hi, hz2⟩ := Option.bind_eq_some_iff.1 hz
  exact ⟨z, by simp only [zeroValue, typeInfo, program, qrun_bind, qrun, Option.bind_some, hi, qrun_pure, hz2], hc⟩

theorem arun_of_qrun {α : Type} (s : Sem α) : ∀ (a : α) (K : α → AH → Prop), qrun P s H = some a → K a H → arun P s H K := by
  induction s with
  | pure x => intro a K h hk; simp only [qrun, Option.some.injEq] at h; subst h; exact hk
  | load m ad k ih =>
    intro a K h hk
    simp only [qrun] at h
    simp only [arun]
    split at h
    · rename_i v hv; exact ih _ _ _ h hk
    · cases h
  | shape r k ih =>
    intro a K h hk
    simp only [qrun] at h
    simp only [arun]
    split at h
    · rename_i v hv; exact ih _ _ _ h hk
    · cases h
  | frozen r k ih =>
    intro a K h hk
    simp only [qrun] at h
    simp only [arun]
    split at h
    · rename_i v hv; exact ih _ _ _ h hk
    · cases h
  | program k ih => intro a K h hk; simp only [qrun] at h; exact ih _ _ _ h hk
  | mark m k ih => intro a K h hk; simp only [qrun] at h; exact ih _ _ h hk
  | _ => intro a K h hk; simp only [qrun] at h; cases h

def newb (t : TypeId) (cs : List Value) (H : AH) (k : Value → AH → Prop) (_t : Lk (k, H) := .mk) : Prop := AllB H fun b => k (.pointer (some ⟨b, 0, none⟩)) (H.add b (.cells cs t cs.length))

theorem arun_newVar {t : TypeId} {v : Value} {k : Addr → AH → Prop} (h : AllB H fun b => k ⟨b, 0, none⟩ (H.add b (.cells (vcells v) t (vcells v).length))) : arun P (newVar t v) H k := by
  simp only [newVar, newRow, newObj, arun_bind, arun, true_and]
  intro b hb
  have := h b hb
  simp only [vcells, Array.length_toList] at this
  exact this

/-! ### Places -/
def fap (P : Program) (s : TypeId) (i : Nat) (v : Value) (k : Value → Prop) (_t : Lk k := .mk) : Prop :=
  match v with
  | .pointer (some ⟨b, o, none⟩) => wo (foOf P s i) fun off => nv (.pointer (some ⟨b, o + off, none⟩)) k
  | _ => False
theorem fap_ptr {s : TypeId} {i : Nat} {b o : Nat} {k : Value → Prop} : fap P s i (.pointer (some ⟨b, o, none⟩)) k = wo (foOf P s i) fun off => nv (.pointer (some ⟨b, o + off, none⟩)) k := Eq.trans rfl rfl
theorem fap_run {s : TypeId} {i : Nat} {v : Value} {k : Value → Prop} (h : fap P s i v k) : wo (qrun P (Instr.fieldAt s v i) H) k := by
  unfold fap at h
  split at h
  · rename_i b o
    unfold foOf at h
    split at h
    · rename_i fs hu
      cases hf : fs[i]? with
      | none => rw [hf] at h; exact h.elim
      | some f =>
        rw [hf] at h
        simp only [Option.bind_some] at h
        split at h
        · exact h.elim
        · rename_i hz
          have hi : (P.info? f.type).map (·.size) = some (P.cellsOf f.type) := by
            unfold Program.cellsOf at hz ⊢
            cases hi : P.info? f.type with
            | none => rw [hi] at hz; simp at hz
            | some i => rfl
          simp only [Instr.fieldAt, qrun_bind, qrun_underlying, hu, Option.bind_some, hf, Instr.sureAddr, qrun_pure, fieldPlace, qrun_sizeOf, hi]
          simp only [hz, if_false, qrun_pure, Option.bind_some, add_plain]
          exact h
    · exact h.elim
  · exact h.elim

/-- An element's address. -/
def ixp (u : Option TypeDesc) (sz : Nat) (v i : Value) (k : Value → Prop) (_t : Lk k := .mk) : Prop :=
  match u, v, i with
  | some (.array len _), .pointer (some ⟨b, o, none⟩), .int _ i => 0 ≤ i ∧ i < len ∧ nv (.pointer (some ⟨b, o + i.toNat * sz, none⟩)) k
  | some (.slice _), .slice (some ⟨b, o, none⟩) len _, .int _ i => 0 ≤ i ∧ i < len ∧ nv (.pointer (some ⟨b, o + i.toNat * sz, none⟩)) k
  | _, _, _ => False
theorem ixp_array {len e sz b o : Nat} {kd : IntKind} {i : Int} {k : Value → Prop} : ixp (some (.array len e)) sz (.pointer (some ⟨b, o, none⟩)) (.int kd i) k = (0 ≤ i ∧ i < len ∧ nv (.pointer (some ⟨b, o + i.toNat * sz, none⟩)) k) := Eq.trans rfl rfl
theorem ixp_slice {len e sz b o c : Nat} {kd : IntKind} {i : Int} {k : Value → Prop} : ixp (some (.slice e)) sz (.slice (some ⟨b, o, none⟩) len c) (.int kd i) k = (0 ≤ i ∧ i < len ∧ nv (.pointer (some ⟨b, o + i.toNat * sz, none⟩)) k) := Eq.trans rfl rfl
theorem ixp_run {t : TypeId} {v i : Value} {k : Value → Prop} (hz : elSz P t ≠ 0) (h : ixp (P.underlying t) (elSz P t) v i k) : wo (qrun P (Instr.indexAt t v i) H) k := by
  unfold ixp at h
  have hsz : ∀ e, (P.underlying t = some (.slice e) ∨ ∃ l, P.underlying t = some (.array l e)) → (P.info? e).map (·.size) = some (elSz P t) := fun e he => by
    have : elSz P t = P.cellsOf e := by
      unfold elSz
      rcases he with he | ⟨l, he⟩ <;> rw [he]
    rw [this] at hz ⊢
    unfold Program.cellsOf at hz ⊢
    cases hi : P.info? e with
    | none => rw [hi] at hz; simp at hz
    | some i => rfl
  split at h
  · rename_i len e b o kd i hu
    obtain ⟨h1, h2, h3⟩ := h
    have hs := hsz e (.inr ⟨len, hu⟩)
    simp only [Instr.indexAt, qrun_bind, asIntOf, qrun_pure, Option.bind_some, qrun_underlying, hu, Instr.sureAddr]
    simp only [h1, h2, and_self, if_true, qrun_bind, qrun_sizeOf, hs, Option.bind_some, qrun_pure, add_plain]
    exact h3
  · rename_i e b o len c kd i hu
    obtain ⟨h1, h2, h3⟩ := h
    have hs := hsz e (.inl hu)
    simp only [Instr.indexAt, qrun_bind, asIntOf, qrun_pure, Option.bind_some, qrun_underlying, hu]
    simp only [h1, h2, and_self, if_true, qrun_bind, qrun_sizeOf, hs, Option.bind_some, qrun_pure, add_plain]
    exact h3
  · exact h.elim

/-! ### Structs and arrays that are built -/
def plOf1 (P : Program) (t : TypeId) : Bool :=
  match P.underlying t with
  | some (.struct fs) => fs.toList.all fun f => (P.info? f.type).isSome
  | some (.array _ e) => (P.info? e).isSome
  | _ => false

def bldL (pl : Nat → Option (Nat × Nat)) (cs : List Value) : List (Nat × Value) → Option (List Value)
  | [] => some cs
  | (i, v) :: r => match pl i with
    | some (off, sz) => if (vcells v).length = sz ∧ off + sz ≤ cs.length then bldL pl (lput cs off (vcells v)) r else none
    | none => none

theorem lput_length : ∀ (vs cs : List Value) (off : Nat), (lput cs off vs).length = cs.length
  | [], _, _ => rfl
  | v :: vs, cs, off => by simp [lput, lput_length vs]

theorem fold_lput : ∀ (vs : List Value) (cells : Array Value) (off k : Nat), ((vs.zipIdx k).foldl (fun (cs : Array Value) (x : Value × Nat) => cs.setIfInBounds (off + x.2) x.1) cells).toList = lput cells.toList (off + k) vs
  | [], _, _, _ => rfl
  | v :: vs, cells, off, k => by
    simp only [List.zipIdx_cons, List.foldl_cons, lput]
    rw [fold_lput vs _ off (k + 1)]
    simp [Nat.add_assoc]

theorem fill_of_bldL (pl : Nat → Option (Nat × Nat)) : ∀ (ps : List (Nat × Value)) (cells : Array Value) (cs : List Value), bldL pl cells.toList ps = some cs → Instr.fill pl cells ps = some cs.toArray
  | [], cells, cs, h => by simp only [bldL, Option.some.injEq] at h; subst h; simp [Instr.fill]
  | (i, v) :: r, cells, cs, h => by
    simp only [bldL] at h
    simp only [Instr.fill]
    split at h
    · rename_i off sz hp
      split at h
      · rename_i hc
        simp only [hp]
        have h1 : v.cells.size = sz := by rw [← hc.1]; simp [vcells]
        have h2 : ¬ (v.cells.size ≠ sz ∨ off + v.cells.size > cells.size) := by
          have := hc.2; simp at this; omega
        simp only [ne_eq, gt_iff_lt, not_or, Decidable.not_not, Nat.not_lt] at h2
        simp only [ne_eq, h2.1, not_true_eq_false, gt_iff_lt, Bool.or_eq_true, decide_eq_true_eq, false_or]
        rw [if_neg (by rw [h1] at h2; omega)]
        refine fill_of_bldL pl r _ cs ?_
        rw [← h]
        congr 1
        rw [← Array.foldl_toList, Array.toList_zipIdx]
        have := fold_lput v.cells.toList cells off 0
        simpa [vcells] using this
      · cases h
    · cases h

theorem qrun_mapM_fields (P : Program) (H : AH) : ∀ (fs : List Field), (fs.all fun f => (P.info? f.type).isSome) = true → qrun P (fs.mapM fun f => (do pure (f.offset, ← sizeOf f.type) : Sem (Nat × Nat))) H = some (fs.map fun f => (f.offset, P.cellsOf f.type))
  | [], _ => rfl
  | f :: fs, h => by
    simp only [List.all_cons, Bool.and_eq_true] at h
    obtain ⟨i, hi⟩ := Option.isSome_iff_exists.1 h.1
    simp only [List.mapM_cons, qrun_bind, qrun_sizeOf, hi, Option.map_some, Option.bind_some, qrun_pure, qrun_mapM_fields P H fs h.2, List.map_cons, Program.cellsOf, Option.getD_some]

/-- A struct or an array, built of parts. -/
def bld (P : Program) (t : TypeId) (ps : List (Nat × Value)) (k : Value → Prop) (_t : Lk k := .mk) : Prop := plOf1 P t = true ∧ wo (zrOf P t) fun z => wo (bldL (plOf P t) z ps) fun cs => nv (.agg cs.toArray) k

theorem bld_run {t : TypeId} {ps : List (Nat × Value)} {k : Value → Prop} (h : bld P t ps k) : wo (qrun P (Instr.build t ps.toArray) H) k := by
  obtain ⟨h1, h⟩ := h
  unfold wo at h
  split at h
  · rename_i z hz
    split at h
    · rename_i cs hcs
      obtain ⟨zv, hz1, hz2⟩ := zeroValue_run (H := H) hz
      have key : ∀ pl : Nat → Option (Nat × Nat), pl = plOf P t → Instr.fill pl zv.cells ps = some cs.toArray := fun pl hp => by
        subst hp
        exact fill_of_bldL _ _ _ _ (by rw [hz2]; exact hcs)
      unfold plOf1 at h1
      simp only [Instr.build, qrun_bind, hz1, Option.bind_some, qrun_underlying]
      split at h1
      · rename_i fs hu
        have hm : qrun P (fs.mapM fun f => (do pure (f.offset, ← sizeOf f.type) : Sem (Nat × Nat))) H = some (fs.toList.map fun f => (f.offset, P.cellsOf f.type)).toArray := by
          have e2 : fs.mapM (fun f => (do pure (f.offset, ← sizeOf f.type) : Sem (Nat × Nat))) = List.toArray <$> fs.toList.mapM (fun f => (do pure (f.offset, ← sizeOf f.type) : Sem (Nat × Nat))) := by
            rw [← List.mapM_toArray]
          rw [e2, qrun_map, qrun_mapM_fields P H _ h1]; rfl
        simp only [hu, Option.bind_some, qrun_bind, hm]
        rw [key _ (by
          funext i
          simp [plOf, hu])]
        exact h
      · rename_i l e hu
        obtain ⟨i, hi⟩ := Option.isSome_iff_exists.1 h1
        simp only [hu, Option.bind_some, qrun_bind, qrun_sizeOf, hi, Option.map_some]
        rw [key _ (by funext j; simp [plOf, hu, Program.cellsOf, hi])]
        exact h
      · cases h1
    · exact h.elim
  · exact h.elim

/-! ### Calls -/
def acl (q : Bool) (P : Program) (H : AH) (f : Value) (as : List Value) (K : Value → AH → Prop) (_t : Lk (K, H) := .mk) : Prop :=
  match f with
  | .func (.func g) first cap => fnOk P g = true ∧ AC q P g (first.toList ++ as ++ cap.toList).toArray H K
  | _ => False
theorem acl_func {g : Nat} {first cap : List Value} {as : List Value} {K : Value → AH → Prop} : acl q P H (.func (.func g) first.toArray cap.toArray) as K = (fnOk P g = true ∧ AC q P g (first ++ as ++ cap).toArray H K) := by simp [acl]
theorem AC_false {f : FuncId} {as : Array Value} {K : Value → AH → Prop} : AC false P f as H K = ACalls P f as H K := Eq.trans rfl rfl
theorem AC_true {f : FuncId} {as : Array Value} {K : Value → AH → Prop} : AC true P f as H K = QCalls P f as H (fun v => K v H) := Eq.trans rfl rfl

theorem acl_run {f : Value} {as : List Value} {K : Value → AH → Prop} {tys : Array TypeId} (o : Oper) {xs : Array Operand} {y : Operand} {fr : Fr}
    (ho : o.op = .call { callee := .value y, args := xs, argTypes := tys }) (hf : evd fr y = f) (has : xs.toList.map (evd fr) = as) (h : acl q P H f as K) : aop q P fr H o K := by
  unfold acl at h
  split at h
  · rename_i g first cap
    obtain ⟨h1, h2⟩ := h
    unfold fnOk at h1
    split at h1
    · rename_i fn hfn
      simp only [Bool.and_eq_true, bne_iff_ne, ne_eq] at h1
      have hbody : fn.body.isNone = false := by cases hb : fn.body with
        | none => rw [hb] at h1; simp at h1
        | some c => rfl
      have hname : (fn.name == "runtime.NumGoroutine") = false := by simpa using h1.1
      have hq : qrun P (execOp (evd fr) o) H = some (.enter g (first.toList ++ as ++ cap.toList).toArray) := by
        simp only [execOp, ho, resolve, hf, Deferred.ofValue, qrun_bind, qrun_pure, Option.bind_some, invoke, callFunc, qrun_program, hfn]
        simp only [hname, hbody, Bool.false_eq_true, if_false, qrun_pure]
        simp [← has]
      simp only [aop, ho, cls, hq, anext]
      exact h2
    · cases h1
  · exact h.elim

/-! ### One operation, by its kind -/
def nck (v : Value) (k : Value → Prop) (_t : Lk k := .mk) : Prop :=
  match v with
  | .pointer (some _) => k v
  | .func (.func _) _ _ => k v
  | .iface _ _ => k v
  | _ => False
theorem nck_ptr {a : Addr} {k : Value → Prop} : nck (.pointer (some a)) k = k (.pointer (some a)) := Eq.trans rfl rfl
theorem nck_func {g : Nat} {f c : Array Value} {k : Value → Prop} : nck (.func (.func g) f c) k = k (.func (.func g) f c) := Eq.trans rfl rfl

/-- An operation that reads alone, by the model's own run. -/
def rdop (P : Program) (H : AH) (s : Sem Value) (k : Value → Prop) (_t : Lk (k, H) := .mk) : Prop := wo (qrun P s H) fun v => nv v k

def osome (fr : Fr) (o : Option Operand) (k : Option Value → Prop) (_t : Lk (k, fr) := .mk) : Prop :=
  match o with
  | some x => wv fr x fun v => k (some v)
  | none => k none
theorem osome_some {x : Operand} {k : Option Value → Prop} : osome fr (some x) k = wv fr x fun v => k (some v) := Eq.trans rfl rfl
theorem osome_none {k : Option Value → Prop} : osome fr none k = k none := Eq.trans rfl rfl

/-- len, cap, min, max. -/
def rdv (u : Option TypeDesc) : Builtin → List Value → Option Value
  | .len, [.string s] => match u with | some .string => some (.int .i64 s.size) | _ => none
  | .len, [.slice _ n _] => match u with | some (.slice _) => some (.int .i64 n) | _ => none
  | .cap, [.slice _ _ n] => match u with | some (.slice _) => some (.int .i64 n) | _ => none
  | .min, [.int k a, .int _ b] => some (.int k (if b < a then b else a))
  | .max, [.int k a, .int _ b] => some (.int k (if b > a then b else a))
  | _, _ => none
def rdb (u : Option TypeDesc) (b : Builtin) (as : List Value) (k : Value → Prop) (_t : Lk k := .mk) : Prop := wo (rdv u b as) fun v => nv v k
theorem rdb_len_str {s : ByteArray} {k : Value → Prop} : rdb (some .string) .len [.string s] k = nv (.int .i64 s.size) k := Eq.trans rfl rfl
theorem rdb_len_slice {e : TypeId} {a : Option Addr} {n c : Nat} {k : Value → Prop} : rdb (some (.slice e)) .len [.slice a n c] k = nv (.int .i64 n) k := Eq.trans rfl rfl
theorem rdb_cap_slice {e : TypeId} {a : Option Addr} {n c : Nat} {k : Value → Prop} : rdb (some (.slice e)) .cap [.slice a n c] k = nv (.int .i64 c) k := Eq.trans rfl rfl
theorem rdb_min {u : Option TypeDesc} {kd : IntKind} {a b : Int} {k : Value → Prop} : rdb u .min [.int kd a, .int kd b] k = nv (.int kd (if b < a then b else a)) k := Eq.trans rfl rfl
theorem rdb_max {u : Option TypeDesc} {kd : IntKind} {a b : Int} {k : Value → Prop} : rdb u .max [.int kd a, .int kd b] k = nv (.int kd (if b > a then b else a)) k := Eq.trans rfl rfl
theorem rdv_run {b : Builtin} {ts : Array TypeId} {as : List Value} {v : Value} {cs : Array Bool} (h : rdv (ts[0]?.bind P.underlying) b as = some v) : qrun P (builtin b ts ty cs as.toArray) H = some (.value v) := by
  cases ht : ts[0]? with
  | none =>
    rw [ht] at h
    unfold rdv at h
    split at h <;> simp at h
    · subst h; simp [builtin, Builtin.min_, Builtin.min2, qrun_pure, qrun_map]
    · subst h; simp [builtin, Builtin.max_, Builtin.max2, qrun_pure, qrun_map]
  | some t =>
    rw [ht] at h
    simp only [Option.bind_some] at h
    unfold rdv at h
    split at h
    · split at h
      · rename_i hu; cases h; simp [builtin, Builtin.len_, qrun_bind, qrun_map, qrun_underlying, ht, hu, qrun_pure, goInt]
      · cases h
    · split at h
      · rename_i hu; cases h; simp [builtin, Builtin.len_, qrun_bind, qrun_map, qrun_underlying, ht, hu, qrun_pure, goInt]
      · cases h
    · split at h
      · rename_i hu; cases h; simp [builtin, Builtin.cap_, qrun_bind, qrun_map, qrun_underlying, ht, hu, qrun_pure, goInt]
      · cases h
    · cases h; simp [builtin, Builtin.min_, Builtin.min2, qrun_pure, qrun_map]
    · cases h; simp [builtin, Builtin.max_, Builtin.max2, qrun_pure, qrun_map]
    · cases h

/-! ### Slices that are made, and that grow -/
/-- A slice type's element: its type, how many cells, its zero cells, how many bytes. -/
def slE (P : Program) (t : TypeId) : Option (TypeId × Nat × List Value × Nat) :=
  match P.underlying t with
  | some (.slice e) => (P.info? e).bind fun i => i.zero.map fun z => (e, i.size, z.cells.toList, i.bytes)
  | _ => none
theorem slE_some {t e sz bt : Nat} {zs : List Value} (h : slE P t = some (e, sz, zs, bt)) : P.underlying t = some (.slice e) ∧ ∃ i z, P.info? e = some i ∧ i.zero = some z ∧ i.size = sz ∧ z.cells.toList = zs ∧ i.bytes = bt := by
  unfold slE at h
  split at h
  · rename_i e' hu
    obtain ⟨i, hi, h⟩ := Option.bind_eq_some_iff.1 h
    obtain ⟨z, hz, h⟩ := Option.map_eq_some_iff.1 h
    simp only [Prod.mk.injEq] at h
    obtain ⟨rfl, h1, h2, h3⟩ := h
    exact ⟨hu, i, z, hi, hz, h1, h2, h3⟩
  · cases h

def AllN (n : Nat) (k : Nat → Prop) (_t : Lk k := .mk) : Prop := ∀ c, n ≤ c → k c
theorem AllN.mk {n : Nat} {k : Nat → Prop} (h : ∀ c, n ≤ c → k c) : AllN n k := h

def newr (e : TypeId) (cs : List Value) (len : Nat) (H : AH) (k : Value → AH → Prop) (_t : Lk (k, H) := .mk) : Prop :=
  AllB H fun b => k (.slice (some ⟨b, 0, none⟩) len len) (H.add b (.cells cs e cs.length))
theorem arun_newRow {e : TypeId} {cs : Array Value} {k : Addr → AH → Prop} (h : AllB H fun b => k ⟨b, 0, none⟩ (H.add b (.cells cs.toList e cs.size))) : arun P (newRow e cs) H k := by
  simp only [newRow, newObj, arun_bind, arun, true_and]
  exact h

theorem lput_eq : ∀ (vs cs : List Value) (off : Nat), off + vs.length ≤ cs.length → lput cs off vs = cs.take off ++ vs ++ cs.drop (off + vs.length)
  | [], cs, off, _ => by simp [lput]
  | v :: vs, cs, off, h => by
    simp only [List.length_cons] at h
    rw [lput, lput_eq vs _ _ (by simp; omega), List.take_add_one, List.drop_set]
    have e : (List.take off cs).set off v = List.take off cs := List.set_eq_of_length_le (by simp; omega)
    simp [List.getElem?_set, show off < cs.length from by omega, List.take_set, e, show off < off + 1 + vs.length from by omega, show off + 1 + vs.length = off + (vs.length + 1) from by omega]

theorem arun_qbind {α β : Type} {x : Sem α} {f : α → Sem β} {a : α} {K : β → AH → Prop} (h : qrun P x H = some a) (hk : arun P (f a) H K) : arun P (x >>= f) H K := by
  rw [arun_bind]; exact arun_of_qrun _ _ _ h hk

/-- Parts 0, 1, 2 and so on, one behind the other. -/
def bskL (sz : Nat) : Nat → List (Nat × Value) → Option (List Value)
  | _, [] => some []
  | i, (j, v) :: r => if j = i ∧ (vcells v).length = sz then (bskL sz (i + 1) r).map (vcells v ++ ·) else none
theorem bldL_bskL (sz : Nat) : ∀ (ps : List (Nat × Value)) (i : Nat) (cs r : List Value), bskL sz i ps = some r → cs.length = (i + ps.length) * sz → bldL (fun j => some (j * sz, sz)) cs ps = some (cs.take (i * sz) ++ r)
  | [], i, cs, r, h, hl => by
    simp only [bskL, Option.some.injEq] at h; subst h
    simp only [bldL, List.append_nil, Option.some.injEq]
    rw [List.take_of_length_le]; simp at hl; omega
  | (j, v) :: ps, i, cs, r, h, hl => by
    simp only [bskL] at h
    split at h
    · rename_i hc
      obtain ⟨rfl, hv⟩ := hc
      obtain ⟨r', hr, rfl⟩ := Option.map_eq_some_iff.1 h
      have e1 : (j + (ps.length + 1)) * sz = j * sz + sz + ps.length * sz := by rw [Nat.add_mul, Nat.succ_mul]; omega
      have hle : j * sz + sz ≤ cs.length := by simp only [List.length_cons] at hl; rw [hl, e1]; omega
      simp only [bldL]
      rw [if_pos ⟨hv, hle⟩, bldL_bskL sz ps (j + 1) _ r' hr (by rw [lput_length, hl]; simp only [List.length_cons]; rw [show j + 1 + ps.length = j + (ps.length + 1) from by omega])]
      rw [lput_eq _ _ _ (by omega), show (j + 1) * sz = j * sz + sz from Nat.succ_mul _ _]
      congr 1
      rw [← List.append_assoc]
      congr 1
      have hL : (List.take (j * sz) cs ++ vcells v).length = j * sz + sz := by simp [hv]; omega
      rw [List.take_append_of_le_length (by omega), List.take_of_length_le (by omega)]
    · cases h
def bsl (P : Program) (t : TypeId) (len : Nat) (ps : List (Nat × Value)) (H : AH) (k : Value → AH → Prop) (_t : Lk (k, H) := .mk) : Prop :=
  wo (slE P t) fun s => len = ps.length ∧ len * s.2.1 ≤ 16777216 ∧ wo (bskL s.2.1 0 ps) fun cs => newr s.1 cs len H k
theorem qrun_zeroValue {e : TypeId} {i : TypeInfo} {z : Value} (hi : P.info? e = some i) (hz : i.zero = some z) : qrun P (zeroValue e) H = some z := by
  simp only [zeroValue, typeInfo, program, qrun_bind, qrun, Option.bind_some, hi, qrun_pure, hz]
theorem bskL_len (sz : Nat) : ∀ (ps : List (Nat × Value)) (i : Nat) (r : List Value), bskL sz i ps = some r → r.length = ps.length * sz
  | [], _, r, h => by simp only [bskL, Option.some.injEq] at h; subst h; simp
  | (j, v) :: ps, i, r, h => by
    simp only [bskL] at h
    split at h
    · rename_i hc
      obtain ⟨r', hr, rfl⟩ := Option.map_eq_some_iff.1 h
      simp [bskL_len sz ps _ r' hr, hc.2, Nat.succ_mul]; omega
    · cases h
theorem bsl_run {t : TypeId} {len : Nat} {ps : List (Nat × Value)} {k : Value → AH → Prop} (h : bsl P t len ps H k) : arun P (Instr.buildSlice t len ps.toArray) H k := by
  unfold bsl wo at h
  split at h
  · rename_i s hs
    obtain ⟨e, sz, zs, bt⟩ := s
    obtain ⟨hu, i, z, hi, hz, h1, h2, h3⟩ := slE_some hs
    obtain ⟨hl, hle, h⟩ := h
    simp only at hl hle h
    split at h
    · rename_i cs hcs
      simp only [Instr.buildSlice, arun_bind]
      refine arun_of_qrun _ _ _ (qrun_underlying t |>.trans hu) ?_
      simp only
      have hs1 : qrun P (sizeOf e) H = some sz := by rw [qrun_sizeOf, hi, Option.map_some, h1]
      rw [arun_bind]
      refine arun_of_qrun _ _ _ hs1 ?_
      rw [if_neg (by omega)]
      have key : ∀ zc : Array Value, Instr.fill (fun j => some (j * sz, sz)) ((Array.range (len * sz)).map (zc[· % zc.size]!)) ps = some cs.toArray := fun zc =>
        fill_of_bldL _ _ _ cs (by rw [bldL_bskL sz ps 0 _ cs hcs (by simp [hl])]; simp)
      have fin : arun P (do pure (.slice (some (← newRow e cs.toArray)) len len) : Sem Value) H k := by
        rw [arun_bind]
        refine arun_newRow fun b hb => ?_
        have h1 := h b hb
        show k _ (H.add b (.cells cs.toArray.toList e cs.toArray.size))
        simpa using h1
      by_cases h0 : len * sz = 0
      · simp only [h0, if_true]
        refine arun_qbind (a := #[]) rfl ?_
        have := key #[]
        rw [h0] at this
        rw [this]
        exact fin
      · simp only [h0, if_false]
        refine arun_qbind (qrun_zeroValue hi hz) ?_
        refine arun_qbind (a := z.cells) rfl ?_
        rw [key]
        exact fin
    · exact h.elim
  · exact h.elim

def nInt : Option TypeDesc → Bool
  | some (.int _) => false
  | some _ => true
  | none => false
/-- What a slice, or a string, holds. -/
def srow (H : AH) (sz : Nat) : Value → Option (List Value)
  | .slice (some ⟨b, o, none⟩) n _ => H.row b o (n * sz)
  | .slice none n _ => if n = 0 then some [] else none
  | .string s => if sz = 1 then some (s.data.toList.map fun b => .int .u8 b.toNat) else none
  | _ => none
def slen : Value → Option Nat
  | .slice _ n _ => some n
  | .string s => some s.size
  | _ => none
/-- Cells written right behind, or over, what is known of a block. -/
def AH.app (H : AH) (b off : Nat) (vs : List Value) : Option AH :=
  match H.find b with
  | some (.cells cs e sz) => if off ≤ cs.length ∧ off + vs.length ≤ sz ∧ vs.all scal = true then some (H.set b (.cells (cs.take off ++ vs ++ cs.drop (off + vs.length)) e sz)) else none
  | _ => none
theorem app_add_self (H : AH) (b off : Nat) (vs cs : List Value) (e sz : Nat) : (H.add b (.cells cs e sz)).app b off vs = if off ≤ cs.length ∧ off + vs.length ≤ sz ∧ vs.all scal = true then some (H.add b (.cells (cs.take off ++ vs ++ cs.drop (off + vs.length)) e sz)) else none := by
  unfold AH.app; rw [find_add, if_pos rfl]; simp [AH.set, AH.add, aset]
theorem app_add_ne (H : AH) {b b' : Nat} (h : b ≠ b') (off : Nat) (vs : List Value) (k : ABlk) : (H.add b k).app b' off vs = (H.app b' off vs).map (·.add b k) := by
  unfold AH.app
  rw [find_add, if_neg (Ne.symm h)]
  split
  · split
    · simp [AH.set, AH.add, aset, Ne.symm h]
    · rfl
  · rfl
theorem row_length {b o n : Nat} {l : List Value} (h : H.row b o n = some l) : l.length = n := by
  unfold AH.row at h
  split at h
  · split at h
    · cases h; simp; omega
    · cases h
  · cases h
  · cases h
  · split at h
    · have : ∀ (n o : Nat) (l : List Value), baseRow H.w0 b o n = some l → l.length = n := by
        intro n
        induction n with
        | zero => intro o l h; cases h; rfl
        | succ n ih =>
          intro o l h
          simp only [baseRow] at h
          obtain ⟨v, _, h⟩ := Option.bind_eq_some_iff.1 h
          obtain ⟨l', h', rfl⟩ := Option.map_eq_some_iff.1 h
          simp [ih _ _ h']
      exact this _ _ _ h
    · cases h
theorem qrun_firstCells {sz n : Nat} {x : Value} {l : List Value} (h : srow H sz x = some l) (hn : slen x = some n) : qrun P (Builtin.firstCells sz n x) H = some l.toArray ∧ l.length = n * sz := by
  unfold srow at h
  split at h
  · rename_i b o m c
    simp only [slen, Option.some.injEq] at hn
    subst hn
    refine ⟨?_, row_length h⟩
    simp only [Builtin.firstCells]
    by_cases h0 : m * sz = 0
    · rw [h0] at h ⊢
      have := row_length h
      rw [List.eq_nil_of_length_eq_zero this]
      rfl
    · rw [qrun_loadCells P H b o _ h0, h]; rfl
  · rename_i m c
    simp only [slen, Option.some.injEq] at hn
    subst hn
    split at h
    · rename_i h0; cases h; subst h0; simp [Builtin.firstCells, qrun_pure]
    · cases h
  · rename_i s
    simp only [slen, Option.some.injEq] at hn
    subst hn
    split at h
    · rename_i h0; cases h; subst h0
      refine ⟨?_, by simp⟩
      simp only [Builtin.firstCells, qrun_pure, Option.some.injEq]
      have : s.extract 0 s.size = s := by
        apply ByteArray.ext
        rw [ByteArray.data_extract]
        exact Array.extract_size
      rw [this]
      apply Array.ext'
      simp
    · cases h
  · cases h

def apd (P : Program) (t t2 : Option TypeId) (s x : Value) (H : AH) (k : Value → AH → Prop) (_t : Lk (k, H) := .mk) : Prop :=
  match s with
  | .slice base n cap => wo t fun t => wo t2 fun t2 => nInt (P.underlying t2) = true ∧ wo (slE P t) fun E => E.2.2.1.length = E.2.1 ∧ E.2.2.2 ≠ 0 ∧
    wo (slen x) fun m => wo (srow H E.2.1 (.slice base n cap)) fun old => wo (srow H E.2.1 x) fun new =>
      imp (m = 0 ∧ n ≤ cap) (k (.slice base n cap) H) ∧
      imp (m ≠ 0 ∧ n + m ≤ cap) (match base with
        | some ⟨b, o, none⟩ => wo (H.app b (o + n * E.2.1) new) fun H' => k (.slice base (n + m) cap) H'
        | _ => False) ∧
      imp (cap < n + m) ((2 * (n + m) + 192) * E.2.2.2 ≤ 281474976710656 ∧ AllB H fun b => AllN (n + m) fun c => k (.slice (some ⟨b, 0, none⟩) (n + m) c) (H.add b (.cells (old ++ new) E.1 (c * E.2.1))))
  | _ => False
theorem growBy_le (need : Nat) : ∀ (r c : Nat), c ≤ 2 * need + 192 → Builtin.growBy need r c ≤ 2 * need + 192
  | 0, c, h => h
  | r + 1, c, h => by
    simp only [Builtin.growBy]
    split
    · exact h
    · exact growBy_le need r _ (by omega)
theorem nextcap_le {need old : Nat} (h : old < need) : Builtin.nextslicecap need old ≤ 2 * need + 192 := by
  unfold Builtin.nextslicecap
  split
  · omega
  · split
    · omega
    · exact growBy_le _ _ _ (by omega)
theorem qrun_lenOf {x : Value} {n : Nat} (h : slen x = some n) : qrun P (Builtin.lenOf x) H = some n := by
  cases x <;> simp only [slen] at h <;> first | (cases h; done) | (cases h; rfl)

theorem arun_store_app (b : Nat) (K : Unit → AH → Prop) : ∀ (vs : List Value) (off i : Nat) (H : AH) (cs : List Value) (e sz : Nat), H.find b = some (.cells cs e sz) → off + i ≤ cs.length → off + i + vs.length ≤ sz → vs.all scal = true →
    (∀ H', H'.w0 = H.w0 → (∀ b', H'.find b' = if b' = b then some (.cells (cs.take (off + i) ++ vs ++ cs.drop (off + i + vs.length)) e sz) else H.find b') → K () H') → arun P (storeCells ⟨b, off, none⟩ vs i) H K
  | [], off, i, H, cs, e, sz, hf, h1, h2, h3, hk => by
    refine hk H rfl fun b' => ?_
    by_cases hb : b' = b
    · subst hb; simp [hf]
    · simp [hb]
  | v :: vs, off, i, H, cs, e, sz, hf, h1, h2, h3, hk => by
    have ea := add_plain b off i
    simp only [List.length_cons] at h2
    simp only [List.all_cons, Bool.and_eq_true] at h3
    have es : storeCells ⟨b, off, none⟩ (v :: vs) i = (store ((⟨b, off, none⟩ : Addr).add i) v >>= fun _ => storeCells ⟨b, off, none⟩ vs (i + 1)) := rfl
    rw [es, arun_bind]
    rw [ea]
    unfold store arun
    rw [hf]
    refine ⟨h3.1, rfl, by simp only; omega, by simp only; omega, ?_⟩
    show arun P (storeCells ⟨b, off, none⟩ vs (i + 1)) _ K
    have hw : wr cs (off + i) v = cs.take (off + i) ++ [v] ++ cs.drop (off + i + 1) := by
      unfold wr
      split
      · rename_i hlt; rw [List.set_eq_take_append_cons_drop]; simp [hlt]
      · rw [List.take_of_length_le (by omega), List.drop_eq_nil_of_le (by omega)]; simp
    have hf' : (H.set b (.cells (wr cs (off + i) v) e sz)).find b = some (.cells (wr cs (off + i) v) e sz) := by simp [find_set]
    have hlen : off + i + 1 ≤ (wr cs (off + i) v).length := by rw [hw]; simp; omega
    refine arun_store_app b K vs off (i + 1) _ _ e sz hf' (by omega) (by omega) h3.2 fun H' hw0 hH' => hk H' (by rw [hw0]; rfl) fun b' => ?_
    rw [hH' b']
    by_cases hb : b' = b
    · subst hb
      simp only [if_true]
      rw [hw]
      have t1 : (List.take (off + i) cs).length = off + i := by simp; omega
      congr 2
      rw [show off + (i + 1) = off + i + 1 from by omega]
      have e1 : List.take (off + i + 1) (List.take (off + i) cs ++ [v] ++ List.drop (off + i + 1) cs) = List.take (off + i) cs ++ [v] := by
        rw [List.take_append_of_le_length (by simp; omega), List.take_of_length_le (by simp; omega)]
      have e2 : List.drop (off + i + 1 + vs.length) (List.take (off + i) cs ++ [v] ++ List.drop (off + i + 1) cs) = List.drop (off + i + (vs.length + 1)) cs := by
        rw [List.drop_append, List.drop_eq_nil_of_le (by simp; omega)]
        simp only [List.nil_append, List.length_append, t1, List.length_singleton, List.drop_drop]
        congr 1; omega
      rw [e1, e2]; simp
    · simp only [hb, if_false, find_set]

theorem Sat.pre {E : Nat → Option Obj} {H : AH} {w : World} {b e sz : Nat} {cs rest : List Value} (h : Sat E (H.add b (.cells (cs ++ rest) e sz)) w) : Sat E (H.add b (.cells cs e sz)) w :=
  ⟨h.below, fun b' k hk => by
    rw [find_add] at hk
    split at hk
    · rename_i hb
      subst hb; cases hk
      obtain ⟨h1, h2, arr, h3, h4, h5⟩ := h.known b' _ (find_add_self _ _ _)
      exact ⟨h1, h2, arr, h3, h4, (List.prefix_append cs rest).trans h5⟩
    · rename_i hb
      exact h.known b' k (by rw [find_add, if_neg hb]; exact hk), fun b' o ho => by
    obtain ⟨h1, h2, h3⟩ := h.far b' o ho
    refine ⟨h1, ?_, h3⟩
    rw [find_add] at h2 ⊢
    split at h2
    · cases h2
    · rename_i hb; rw [if_neg hb]; exact h2⟩
theorem Sat.of_find {E : Nat → Option Obj} {H H' : AH} {w : World} (h : Sat E H w) (h0 : H'.w0 = H.w0) (hf : ∀ b, H'.find b = H.find b) : Sat E H' w := h.mono ⟨h0, fun b k x => by rw [← hf]; exact x⟩

theorem apd_run {ts : Array TypeId} {ty : TypeId} {s x : Value} {k : Value → AH → Prop} (h : apd P ts[0]? ts[1]? s x H k) : ASem P (do pure (.value (← Builtin.append_ ts ty #[s, x]))) H k := by
  unfold apd at h
  split at h
  · rename_i base n cap
    unfold wo at h
    split at h
    · rename_i t ht
      split at h
      · rename_i t2 ht2
        obtain ⟨hni, h⟩ := h
        split at h
        · rename_i E hE
          obtain ⟨e, sz, zs, bt⟩ := E
          obtain ⟨hu, i, z, hi, hz, h1, h2, h3⟩ := slE_some hE
          obtain ⟨hzl, hbt, h⟩ := h
          simp only at hzl hbt h
          split at h
          · rename_i m hm
            split at h
            · rename_i old hold
              split at h
              · rename_i new hnew
                obtain ⟨c1, c2, c3⟩ := h
                obtain ⟨q1, l1⟩ := qrun_firstCells (P := P) hold (n := n) rfl
                obtain ⟨q2, l2⟩ := qrun_firstCells (P := P) hnew hm
                have hbytes : qrun P (typeInfo e) H = some i := by simp only [typeInfo, program, qrun_bind, qrun, Option.bind_some, hi, qrun_pure]
                obtain ⟨u2, hu2⟩ : ∃ u, P.underlying t2 = some u := by cases hh : P.underlying t2 with
                  | none => rw [hh] at hni; cases hni
                  | some u => exact ⟨u, rfl⟩
                have hz0 : ∀ {α : Type} (A B : α), (match u2 with | .int _ => A | _ => B) = B := fun A B => by
                  rw [hu2] at hni; cases u2 <;> first | rfl | cases hni
                suffices hm : arun P (Builtin.append_ ts ty #[.slice base n cap, x]) H (fun v H' => ∃ H1, (∀ E w, Sat E H' w → Sat E H1 w) ∧ k v H1) by
                  intro E w hs
                  obtain ⟨v, w', H', r1, r2, H1, r3, r5⟩ := arun_sound P _ _ _ w hm hs
                  refine ⟨.value v, w', H1, ?_, r3 _ _ r2, r5⟩
                  show (Builtin.append_ ts ty #[.slice base n cap, x] >>= fun v => pure (Next.value v)).run P w = _
                  simp only [Sem.run_bind, r1, Result.andThen_ok, Sem.run_pure]
                have same : ∀ v H1, k v H1 → ∃ H2 : AH, (∀ E w, Sat E H1 w → Sat E H2 w) ∧ k v H2 := fun v H1 h => ⟨H1, fun _ _ h => h, h⟩
                unfold Builtin.append_
                simp only [ht, ht2]
                refine arun_qbind ((qrun_underlying t).trans hu) ?_
                refine arun_qbind (a := sz) (by rw [qrun_sizeOf, hi, Option.map_some, h1]) ?_
                refine arun_qbind ((qrun_underlying t2).trans hu2) ?_
                refine arun_qbind (a := false) (by cases u2 <;> first | rfl | (rw [hu2] at hni; cases hni)) ?_
                simp only [Bool.false_eq_true, if_false, Bool.not_false, if_true]
                refine arun_qbind (qrun_lenOf hm) ?_
                by_cases hc : n + m ≤ cap
                · rw [if_pos hc]
                  refine arun_qbind q2 ?_
                  by_cases hm0 : m = 0
                  · have hn0 : new = [] := List.eq_nil_of_length_eq_zero (by rw [l2, hm0, Nat.zero_mul])
                    subst hm0; subst hn0
                    have hk := c1 ⟨rfl, by omega⟩
                    cases base with
                    | none => exact same _ _ hk
                    | some a => exact same _ _ hk
                  · have hk := c2 ⟨hm0, hc⟩
                    cases base with
                    | none => exact hk.elim
                    | some a =>
                      obtain ⟨b, o, spot⟩ := a
                      cases spot with
                      | some v => exact hk.elim
                      | none =>
                        simp only at hk
                        rw [arun_bind]
                        simp only [add_plain]
                        unfold AH.app at hk
                        cases hf : H.find b with
                        | none => rw [hf] at hk; exact hk.elim
                        | some kb =>
                          cases kb with
                          | amap es => rw [hf] at hk; exact hk.elim
                          | obj o => rw [hf] at hk; exact hk.elim
                          | cells cs e' bs =>
                            rw [hf] at hk
                            simp only at hk
                            split at hk
                            · rename_i v hv
                              split at hv
                              · rename_i hcond
                                cases hv
                                refine arun_store_app b _ _ _ 0 H cs e' bs hf (by omega) (by simpa using hcond.2.1) (by simpa using hcond.2.2) fun H' h0 hH' => ?_
                                refine ⟨_, fun _ w hs => hs.of_find ?_ ?_, hk⟩
                                · rw [h0]; rfl
                                · intro b'; rw [hH' b', find_set]; simp
                              · cases hv
                            · exact hk.elim
                · rw [if_neg hc]
                  obtain ⟨hroom, hk⟩ := c3 (by omega)
                  have hnx := nextcap_le (need := n + m) (old := cap) (by omega)
                  refine arun_qbind hbytes ?_
                  rw [if_neg (by rw [h3]; simp [hbt])]
                  refine arun_qbind hbytes ?_
                  rw [if_neg (by
                    rw [h3]
                    have := Nat.mul_le_mul_right bt hnx
                    omega)]
                  rw [arun_bind]
                  simp only [choose, arun, Question.forced, Bool.false_eq_true, if_false]
                  intro tt
                  have hcut : n + m ≤ (Question.appendCap (n + m) cap e).cut tt := by simp [Question.cut]
                  generalize (Question.appendCap (n + m) cap e).cut tt = c at hcut
                  refine arun_qbind hbytes ?_
                  have hroom2 : ∀ (x : Nat) (s2 : Sem Value) (K : Value → AH → Prop), arun P s2 H K → arun P (askRoom x >>= fun _ => s2) H K := fun x s2 K h => by
                    unfold askRoom
                    split
                    · exact h
                    · exact h
                  refine hroom2 _ _ _ ?_
                  refine arun_qbind q1 ?_
                  refine arun_qbind q2 ?_
                  refine arun_qbind (qrun_zeroValue hi hz) ?_
                  rw [arun_bind]
                  refine arun_newRow fun b hb => ?_
                  have hk := hk b hb c hcut
                  have hsize : (old.toArray ++ new.toArray ++ Builtin.zeroCells z.cells (c - (n + m))).size = c * sz := by
                    simp only [Builtin.zeroCells, Array.size_append, List.size_toArray, Array.size_map, Array.size_range, l1, l2]
                    have : z.cells.size = sz := by rw [← hzl, ← h2]; simp
                    rw [this, ← Nat.add_mul, ← Nat.add_mul, show n + m + (c - (n + m)) = c from by omega]
                  refine ⟨_, fun _ w hs => Sat.pre (rest := (Builtin.zeroCells z.cells (c - (n + m))).toList) ?_, hk⟩
                  rw [← hsize]
                  simpa using hs
              · exact h.elim
            · exact h.elim
          · exact h.elim
        · exact h.elim
      · exact h.elim
    · exact h.elim
  · exact h.elim

/-- Zero cells, so many. -/
def zf (zs : List Value) (m : Nat) : List Value := (List.range m).map fun i => zs[i % zs.length]!
theorem zf_one (z : Value) (m : Nat) : zf [z] m = List.replicate m z := by
  apply List.ext_getElem
  · simp [zf]
  · intro i h1 h2
    simp [zf, Nat.mod_one]
def mks (P : Program) (t : TypeId) (l c : Value) (H : AH) (k : Value → AH → Prop) (_t : Lk (k, H) := .mk) : Prop :=
  match l, c with
  | .int _ a, .int _ b => wo (slE P t) fun E => E.2.1 ≠ 0 ∧ 0 ≤ a ∧ a ≤ b ∧ E.2.2.2 * b ≤ 281474976710656 ∧ b < 9223372036854775808 ∧
      AllB H fun bl => k (.slice (some ⟨bl, 0, none⟩) a.toNat b.toNat) (H.add bl (.cells (zf E.2.2.1 (b.toNat * E.2.1)) E.1 (b.toNat * E.2.1)))
  | _, _ => False
theorem mks_run {t : TypeId} {l c : Value} {k : Value → AH → Prop} (h : mks P t l c H k) : arun P (Instr.makeSlice t l c) H k := by
  unfold mks at h
  split at h
  · rename_i k1 a k2 b
    unfold wo at h
    split at h
    · rename_i E hE
      obtain ⟨e, sz, zs, bt⟩ := E
      obtain ⟨hu, i, z, hi, hz, h1, h2, h3⟩ := slE_some hE
      obtain ⟨hsz, ha, hab, hbb, hb, h⟩ := h
      simp only at hsz hbb h
      have hbytes : qrun P (typeInfo e) H = some i := by simp only [typeInfo, program, qrun_bind, qrun, Option.bind_some, hi, qrun_pure]
      have wa : IntKind.i64.wrap a = a := by rw [IntKind.wrap_i64]; omega
      have wb : IntKind.i64.wrap b = b := by rw [IntKind.wrap_i64]; omega
      have room : ∀ (x : Nat) (s2 : Sem Value) (K : Value → AH → Prop), arun P s2 H K → arun P (askRoom x >>= fun _ => s2) H K := fun x s2 K h => by
        unfold askRoom
        split <;> exact h
      unfold Instr.makeSlice
      refine arun_qbind ((qrun_underlying t).trans hu) ?_
      refine arun_qbind (a := a) rfl ?_
      refine arun_qbind (a := b) rfl ?_
      refine arun_qbind hbytes ?_
      simp only [wa, wb, h3]
      have hnot : ¬ ((decide (b < 0) || decide ((bt : Int) * b > 2 ^ 48) || decide (a < 0) || decide (a > b)) = true) := by
        simp only [Bool.or_eq_true, decide_eq_true_eq, not_or]
        refine ⟨⟨⟨by omega, ?_⟩, by omega⟩, by omega⟩
        have : (2 : Int) ^ 48 = 281474976710656 := by decide
        omega
      rw [if_neg (by simpa using hnot)]
      refine room _ _ _ ?_
      refine arun_qbind (a := sz) (by rw [qrun_sizeOf, hi, Option.map_some, h1]) ?_
      have fin : ∀ zc : Array Value, (b.toNat * sz ≠ 0 → zc = z.cells) → arun P (do pure (.slice (some (← newRow e ((Array.range (b.toNat * sz)).map (zc[· % zc.size]!)))) a.toNat b.toNat) : Sem Value) H k := fun zc hzc => by
        rw [arun_bind]
        refine arun_newRow fun bl hbl => ?_
        have h' := h bl hbl
        have e1 : ((Array.range (b.toNat * sz)).map (zc[· % zc.size]!)).toList = zf zs (b.toNat * sz) := by
          by_cases h0 : b.toNat * sz = 0
          · rw [h0]; simp [zf]
          · rw [hzc h0, ← h2]
            simp [zf]
            intro j _
            rw [getElem!_def]
            cases z.cells[j % z.cells.size]? <;> rfl
        show k _ (H.add bl (.cells ((Array.range (b.toNat * sz)).map (zc[· % zc.size]!)).toList e ((Array.range (b.toNat * sz)).map (zc[· % zc.size]!)).size))
        rw [e1]
        simpa using h'
      by_cases h0 : b.toNat * sz = 0
      · rw [if_pos h0]
        refine arun_qbind (a := #[]) rfl ?_
        exact fin #[] (fun h => absurd h0 h)
      · rw [if_neg h0]
        refine arun_qbind (qrun_zeroValue hi hz) ?_
        refine arun_qbind (a := z.cells) rfl ?_
        exact fin _ (fun _ => rfl)
    · exact h.elim
  · exact h.elim

/-! ### Maps of plain keys -/
def plainKey : TypeDesc → Bool
  | .int _ | .string | .bool => true
  | _ => false
/-- A map type's key description, where it is plain, and its element's zero value. -/
def mpE (P : Program) (t : TypeId) : Option (TypeDesc × Value) :=
  match P.underlying t with
  | some (.map kt e) => (P.underlying kt).bind fun d => if plainKey d then (P.info? e).bind fun i => i.zero.map fun z => (d, z) else none
  | _ => none
theorem mpE_some {t : TypeId} {d : TypeDesc} {z : Value} (h : mpE P t = some (d, z)) : ∃ kt e i, P.underlying t = some (.map kt e) ∧ P.underlying kt = some d ∧ plainKey d = true ∧ P.info? e = some i ∧ i.zero = some z := by
  unfold mpE at h
  split at h
  · rename_i kt e hu
    obtain ⟨d', hd, h⟩ := Option.bind_eq_some_iff.1 h
    split at h
    · rename_i hp
      obtain ⟨i, hi, h⟩ := Option.bind_eq_some_iff.1 h
      obtain ⟨z', hz, h⟩ := Option.map_eq_some_iff.1 h
      simp only [Prod.mk.injEq] at h
      obtain ⟨rfl, rfl⟩ := h
      exact ⟨kt, e, i, hu, hd, hp, hi, hz⟩
    · cases h
  · cases h
def mlk (d : TypeDesc) (key : Value) : List (Value × Value) → Nat → Option (Option (Nat × Value))
  | [], _ => some none
  | (k, v) :: es, i => match Instr.sameNow d key k with
    | some true => some (some (i, v))
    | some false => mlk d key es (i + 1)
    | none => none
theorem findNow_mlk (d : TypeDesc) (key : Value) : ∀ (es : List MapEntry) (i : Nat), Instr.findNow d key es i = mlk d key (es.map fun x => (x.key, x.val)) i
  | [], _ => rfl
  | e :: es, i => by
    simp only [Instr.findNow, List.map_cons, mlk, findNow_mlk d key es]
    rfl
theorem mlk_same {d : TypeDesc} {key v : Value} : ∀ {es : List (Value × Value)} {i j : Nat}, mlk d key es i = some (some (j, v)) → ∃ m k, j = i + m ∧ es[m]? = some (k, v) ∧ Instr.sameNow d key k = some true
  | [], i, j, h => by cases h
  | (k, v') :: es, i, j, h => by
    simp only [mlk] at h
    split at h
    · rename_i hs; cases h; exact ⟨0, k, rfl, rfl, hs⟩
    · obtain ⟨m, k', h1, h2, h3⟩ := mlk_same h
      exact ⟨m + 1, k', by omega, by simpa using h2, h3⟩
    · cases h
theorem sameNow_eq {d : TypeDesc} {a b : Value} (h : Instr.sameNow d a b = some true) : b = a ∧ Instr.sameBits 10000 b a = true := by
  unfold Instr.sameNow at h
  split at h
  · split at h
    · rename_i hk
      subst hk
      simp only [Option.some.injEq, beq_iff_eq] at h
      subst h; exact ⟨rfl, by simp [Instr.sameBits]⟩
    · cases h
  · simp only [Option.some.injEq] at h
    have h' := h
    rename_i x y
    have e : x = y := by
      cases x; cases y
      exact congrArg ByteArray.mk (eq_of_beq h)
    subst e; exact ⟨rfl, by simp only [Instr.sameBits]; exact h'⟩
  · simp only [Option.some.injEq, beq_iff_eq] at h
    subst h; exact ⟨rfl, by simp [Instr.sameBits]⟩
  · cases h

def AH.mp (H : AH) (r : Nat) : Option (List (Value × Value)) :=
  match H.find r with
  | some (.amap es) => some es
  | _ => none
def AH.mset (H : AH) (r : Nat) (es : List (Value × Value)) : Option AH :=
  match H.find r with
  | some (.amap _) => some (H.set r (.amap es))
  | _ => none
theorem mp_add_self (H : AH) (b : Nat) (es : List (Value × Value)) : (H.add b (.amap es)).mp b = some es := by simp [AH.mp, find_add]
theorem mp_add_ne (H : AH) {b b' : Nat} (h : b ≠ b') (k : ABlk) : (H.add b k).mp b' = H.mp b' := by
  unfold AH.mp; rw [find_add, if_neg (Ne.symm h)]
theorem mset_add_self (H : AH) (b : Nat) (es es' : List (Value × Value)) : (H.add b (.amap es)).mset b es' = some (H.add b (.amap es')) := by
  unfold AH.mset; rw [find_add, if_pos rfl]; simp [AH.set, AH.add, aset]
theorem mset_add_ne (H : AH) {b b' : Nat} (h : b ≠ b') (k : ABlk) (es : List (Value × Value)) : (H.add b k).mset b' es = (H.mset b' es).map (·.add b k) := by
  unfold AH.mset
  rw [find_add, if_neg (Ne.symm h)]
  split <;> simp [AH.set, AH.add, aset, Ne.symm h]

def mres (ok : Bool) (z : Value) : Option (Nat × Value) → Value
  | some (_, v) => if ok = true then .tuple #[v, .bool true] else v
  | none => if ok = true then .tuple #[z, .bool false] else z
def lkp (P : Program) (t : TypeId) (m key : Value) (ok : Bool) (H : AH) (k : Value → AH → Prop) (_t : Lk (k, H) := .mk) : Prop :=
  match m with
  | .map (some r) => wo (mpE P t) fun E => wo (H.mp r) fun es => wo (mlk E.1 key es 0) fun o => nv (mres ok E.2 o) fun v => k v H
  | .map none => wo (mpE P t) fun E => wo (mlk E.1 key [] 0) fun o => nv (mres ok E.2 o) fun v => k v H
  | _ => False
theorem qrun_checkKey_succ {kt : TypeId} {d : TypeDesc} {key : Value} {em : Bool} {m : Nat} (hd : P.underlying kt = some d) (hp : plainKey d = true) : qrun P (Instr.checkKey em (m + 1) kt key) H = some () := by
  simp only [Instr.checkKey, qrun_bind, qrun_underlying, hd, Option.bind_some]
  cases d <;> first | rfl | cases hp
theorem qrun_checkKey {kt : TypeId} {d : TypeDesc} {key : Value} {em : Bool} (hd : P.underlying kt = some d) (hp : plainKey d = true) : qrun P (Instr.checkKey em 10000 kt key) H = some () := qrun_checkKey_succ (m := 9999) hd hp
theorem qrun_findKey {kt : TypeId} {d : TypeDesc} {key : Value} {es : List MapEntry} {o : Option (Nat × Value)} (hd : P.underlying kt = some d) (h : mlk d key (es.map fun x => (x.key, x.val)) 0 = some o) : qrun P (Instr.findKey kt key es) H = some o := by
  simp only [Instr.findKey, qrun_bind, qrun_underlying, hd, Option.bind_some, findNow_mlk, h, qrun_pure]
theorem lkp_run {t : TypeId} {m key : Value} {ok : Bool} {k : Value → AH → Prop} (h : lkp P t m key ok H k) : arun P (Instr.lookup t m key ok) H k := by
  have tail : ∀ (d : TypeDesc) (z : Value) (kt e : TypeId) (i : TypeInfo) (es : Array MapEntry) (o : Option (Nat × Value)), P.underlying kt = some d → plainKey d = true → P.info? e = some i → i.zero = some z →
      mlk d key (es.toList.map fun x => (x.key, x.val)) 0 = some o → k (mres ok z o) H →
      arun P (do
        Instr.checkKey es.isEmpty 10000 kt key
        let (v, ok') ← match ← Instr.findKey kt key es.toList with
          | some (_, v) => pure (v, true)
          | none => pure (← zeroValue e, false)
        pure (if ok then .tuple #[v, .bool ok'] else v) : Sem Value) H k := fun d z kt e i es o hd hp hi hz ho hk => by
    refine arun_qbind (qrun_checkKey hd hp) ?_
    refine arun_qbind (qrun_findKey hd ho) ?_
    cases o with
    | some p =>
      obtain ⟨j, v⟩ := p
      refine arun_qbind (a := (v, true)) rfl ?_
      exact hk
    | none =>
      refine arun_qbind (qrun_zeroValue hi hz) ?_
      refine arun_qbind (a := (z, false)) rfl ?_
      exact hk
  unfold lkp at h
  split at h
  · rename_i r
    unfold wo at h
    split at h
    · rename_i E hE
      obtain ⟨d, z⟩ := E
      obtain ⟨kt, e, i, hu, hd, hp, hi, hz⟩ := mpE_some hE
      split at h
      · rename_i es hes
        split at h
        · rename_i o ho
          unfold Instr.lookup
          refine arun_qbind ((qrun_underlying t).trans hu) ?_
          rw [arun_bind]
          unfold AH.mp at hes
          split at hes
          · rename_i es' hf
            cases hes
            simp only [getObj, arun, hf]
            intro en cl hm
            have hm1 := hm.1
            refine arun_qbind (a := en) rfl ?_
            exact tail d z kt e i en o hd hp hi hz (by rw [hm1]; exact ho) h
          · cases hes
        · exact h.elim
      · exact h.elim
    · exact h.elim
  · unfold wo at h
    split at h
    · rename_i E hE
      obtain ⟨d, z⟩ := E
      obtain ⟨kt, e, i, hu, hd, hp, hi, hz⟩ := mpE_some hE
      split at h
      · rename_i o ho
        unfold Instr.lookup
        refine arun_qbind ((qrun_underlying t).trans hu) ?_
        refine arun_qbind (a := #[]) rfl ?_
        exact tail d z kt e i #[] o hd hp hi hz ho h
      · exact h.elim
    · exact h.elim
  · exact h.elim

/-- The entries behind an update. -/
def mput (es : List (Value × Value)) (key v : Value) : Option (Nat × Value) → List (Value × Value)
  | some (i, _) => es.set i (key, v)
  | none => es ++ [(key, v)]
def mup (P : Program) (t : TypeId) (m key v : Value) (H : AH) (k : AH → Prop) (_t : Lk (k, H) := .mk) : Prop :=
  match m with
  | .map (some r) => wo (mpE P t) fun E => wo (H.mp r) fun es => wo (mlk E.1 key es 0) fun o => wo (H.mset r (mput es key v o)) k
  | _ => False
theorem mup_run {t : TypeId} {m key v : Value} {k : AH → Prop} (h : mup P t m key v H k) : arun P (Instr.mapUpdate t m key v) H (fun _ H' => k H') := by
  unfold mup at h
  split at h
  · rename_i r
    unfold wo at h
    split at h
    · rename_i E hE
      obtain ⟨d, z⟩ := E
      obtain ⟨kt, e, i, hu, hd, hp, hi, hz⟩ := mpE_some hE
      split at h
      · rename_i es hes
        split at h
        · rename_i o ho
          split at h
          · rename_i H' hH'
            unfold AH.mp at hes
            split at hes
            · rename_i es' hf
              cases hes
              unfold AH.mset at hH'
              rw [hf] at hH'
              cases hH'
              unfold Instr.mapUpdate
              refine arun_qbind ((qrun_underlying t).trans hu) ?_
              rw [arun_bind]
              simp only [getObj, arun, hf]
              intro en cl hm
              have hm1 := hm.1
              refine arun_qbind (qrun_checkKey hd hp) ?_
              refine arun_qbind (qrun_findKey hd (by rw [hm1]; exact ho)) ?_
              cases o with
              | none =>
                simp only [setObj, arun, hf]
                refine ⟨⟨fun x hx => ?_, ?_⟩, ?_⟩
                rotate_left
                · rw [Array.toList_push, List.map_append, List.nodup_append]
                  refine ⟨hm.2.2, by simp, fun a ha b hb => ?_⟩
                  obtain ⟨x, hx, rfl⟩ := List.mem_map.1 ha
                  have := hm.2.1 x hx
                  simp at hb; omega
                rotate_right
                · simp only [Array.toList_push, List.mem_append, List.mem_singleton] at hx
                  rcases hx with hx | hx
                  · have := hm.2.1 x hx; omega
                  · subst hx; simp
                · have e1 : (en.push { key := key, val := v, born := cl }).toList.map (fun x => (x.key, x.val)) = mput es key v none := by
                    simp [mput, ← hm1]
                  rw [e1]; exact h
              | some p =>
                obtain ⟨j, v0⟩ := p
                obtain ⟨m', k', hj, hget, hs⟩ := mlk_same ho
                obtain ⟨hk', hbits⟩ := sameNow_eq hs
                subst hk'
                have hj' : j = m' := by omega
                subst hj'
                have hen : ∃ x, en[j]? = some x ∧ x.key = k' := by
                  rw [← hm1, List.getElem?_map] at hget
                  obtain ⟨x, hx, hx2⟩ := Option.map_eq_some_iff.1 hget
                  simp only [Prod.mk.injEq] at hx2
                  exact ⟨x, by simpa using hx, hx2.1⟩
                obtain ⟨x, hx, hxk⟩ := hen
                have hkey : ((en[j]?).map (·.key)).getD k' = k' := by rw [hx]; exact hxk
                refine arun_qbind (a := k') (by simp only [hkey, Instr.keyThatStays, hbits, if_true, qrun_pure]) ?_
                simp only [setObj, arun, hf]
                have hmb : (en.modify j fun e => { e with key := k', val := v }).toList.map (·.born) = en.toList.map (·.born) := by
                  apply List.ext_getElem?
                  intro q
                  simp only [List.getElem?_map, Array.getElem?_toList, Array.getElem?_modify]
                  split
                  · rename_i e; subst e; cases en[j]? <;> rfl
                  · rfl
                have hmod : ∀ y ∈ (en.modify j fun e => { e with key := k', val := v }).toList, y.born < cl := fun y hy => by
                  obtain ⟨q, hq⟩ := List.mem_iff_getElem?.1 hy
                  rw [Array.getElem?_toList, Array.getElem?_modify] at hq
                  split at hq
                  · obtain ⟨y0, hy0, rfl⟩ := Option.map_eq_some_iff.1 hq
                    have := hm.2.1 y0 (List.mem_iff_getElem?.2 ⟨q, by simpa using hy0⟩)
                    exact this
                  · exact hm.2.1 y (List.mem_iff_getElem?.2 ⟨q, by simpa using hq⟩)
                refine ⟨⟨hmod, hmb ▸ hm.2.2⟩, ?_⟩
                have e1 : (en.modify j fun e => { e with key := k', val := v }).toList.map (fun x => (x.key, x.val)) = mput es k' v (some (j, v0)) := by
                  apply List.ext_getElem?
                  intro q
                  simp only [mput, List.getElem?_map, Array.getElem?_toList, Array.getElem?_modify, List.getElem?_set, ← hm1]
                  by_cases hq : j = q
                  · subst hq
                    have hlt : j < en.size := by
                      rcases Nat.lt_or_ge j en.size with h | h
                      · exact h
                      · rw [Array.getElem?_eq_none h] at hx; cases hx
                    simp [hx, hlt]
                  · simp [hq]
                rw [e1]; exact h
            · cases hes
          · exact h.elim
        · exact h.elim
      · exact h.elim
    · exact h.elim
  · exact h.elim
theorem arun_makeMap {t : TypeId} {k : Value → AH → Prop} (h : AllB H fun b => k (.map (some b)) (H.add b (.amap []))) : arun P (Instr.makeMap t none) H k := by
  simp only [Instr.makeMap, newObj, arun_bind, arun, true_and]
  exact h

/-- An append, whatever it comes to. -/
def APD (P : Program) (t t2 : Option TypeId) (as : List Value) (H : AH) (k : Value → AH → Prop) (_t : Lk (k, H) := .mk) : Prop :=
  ∀ (ts : Array TypeId) (ty : TypeId), ts[0]? = t → ts[1]? = t2 → ASem P (do pure (.value (← Builtin.append_ ts ty as.toArray))) H k
theorem APD.std {t t2 : Option TypeId} {s x : Value} {k : Value → AH → Prop} (h : apd P t t2 s x H k) : APD P t t2 [s, x] H k := fun ts ty h0 h1 => by
  subst h0; subst h1
  exact apd_run h
theorem ASem.post {s : Sem Next} {H : AH} {k k' : Value → AH → Prop} (h : ASem P s H k) (hk : ∀ v H', k v H' → ∃ H2, (∀ E w, Sat E H' w → Sat E H2 w) ∧ k' v H2) (hv : ∀ w nx w', s.run P w = .ok nx w' → ∃ v, nx = .value v) : ASem P s H k' := fun E w hs => by
  obtain ⟨nx, w', H', h1, h2, h3⟩ := h E w hs
  obtain ⟨v, rfl⟩ := hv w nx w' h1
  obtain ⟨H2, h4, h5⟩ := hk v H' h3
  exact ⟨_, w', H2, h1, h4 _ _ h2, h5⟩
theorem value_only {α : Type} {s : Sem Value} {w : World} {nx : Next} {w' : World} (h : (do pure (Next.value (← s)) : Sem Next).run P w = .ok nx w') : ∃ v, nx = .value v := by
  have e : (do pure (Next.value (← s)) : Sem Next) = (s >>= fun v => pure (Next.value v)) := rfl
  rw [e, Sem.run_bind] at h
  cases hr : s.run P w with
  | ok v w2 => rw [hr] at h; simp only [Result.andThen_ok, Sem.run_pure, Result.ok.injEq] at h; exact ⟨v, h.1.symm⟩
  | halt x w2 => rw [hr] at h; cases h
/-- An append to a slice of our own, of which nothing but the new one is kept. -/
theorem APD.own {t t2 e sz bt b n cap m bs : Nat} {zs cs new : List Value} {x : Value} {k : Value → AH → Prop} (hE : slE P t = some (e, sz, zs, bt)) (hz : zs.length = sz) (hbt : bt ≠ 0) (hni : nInt (P.underlying t2) = true)
    (hb : H.find b = some (.cells cs e bs)) (hcs : cs.length = n * sz) (hbs : bs = cap * sz) (hx : slen x = some m) (hnew : srow H sz x = some new) (hnc : n ≤ cap) (hsc : new.all scal = true) (hroom : (2 * (n + m) + 192) * bt ≤ 281474976710656)
    (hk : ∀ b' c' HH, (b' = b ∨ Fresh H b') → n + m ≤ c' → (H.del b).add b' (.cells (cs ++ new) e (c' * sz)) = HH → k (.slice (some ⟨b', 0, none⟩) (n + m) c') HH) : APD P (some t) (some t2) [.slice (some ⟨b, 0, none⟩) n cap, x] H k := fun ts ty h0 h1 => by
  have hl : new.length = m * sz := (qrun_firstCells (P := P) hnew hx).2
  have hrow : srow H sz (.slice (some ⟨b, 0, none⟩) n cap) = some cs := by
    show H.row b 0 (n * sz) = some cs
    unfold AH.row
    rw [hb]
    simp only
    rw [if_pos (by omega), List.drop_zero, List.take_of_length_le (by omega)]
  have base := apd_run (P := P) (H := H) (ts := ts) (ty := ty) (s := .slice (some ⟨b, 0, none⟩) n cap) (x := x)
    (k := fun v H' => (v = .slice (some ⟨b, 0, none⟩) (n + m) cap ∧ n + m ≤ cap ∧ H' = H.set b (.cells (cs ++ new) e bs)) ∨ (∃ b' c', Fresh H b' ∧ n + m ≤ c' ∧ v = .slice (some ⟨b', 0, none⟩) (n + m) c' ∧ H' = H.add b' (.cells (cs ++ new) e (c' * sz))) ∨ (m = 0 ∧ v = .slice (some ⟨b, 0, none⟩) n cap ∧ H' = H)) (by
    rw [h0, h1]
    refine ⟨hni, ?_⟩
    show wo (slE P t) _
    rw [hE]
    refine ⟨hz, hbt, ?_⟩
    rw [hx]
    show wo (srow H sz (.slice (some ⟨b, 0, none⟩) n cap)) _
    rw [hrow]
    show wo (srow H sz x) _
    rw [hnew]
    refine ⟨fun h => .inr (.inr ⟨h.1, rfl, rfl⟩), fun h => ?_, fun h => ⟨hroom, fun b' hb' c' hc' => .inr (.inl ⟨b', c', hb', hc', rfl, rfl⟩)⟩⟩
    have happ : H.app b (0 + n * sz) new = some (H.set b (.cells (cs ++ new) e bs)) := by
      unfold AH.app
      rw [hb]
      simp only
      rw [if_pos ⟨by omega, by rw [hl, hbs, Nat.zero_add, ← Nat.add_mul]; exact Nat.mul_le_mul_right _ h.2, hsc⟩, Nat.zero_add, List.take_of_length_le (by omega), List.drop_eq_nil_of_le (by omega), List.append_nil]
    show wo (H.app b (0 + n * sz) new) _
    rw [happ]
    exact .inl ⟨rfl, h.2, rfl⟩)
  refine base.post (fun v H' h => ?_) (fun w nx w' h => value_only (α := Unit) h)
  rcases h with ⟨rfl, hle, rfl⟩ | ⟨b', c', hf, hle, rfl, rfl⟩ | ⟨rfl, rfl, rfl⟩
  · refine ⟨_, fun _ w hs => hs.of_find (H' := (H.del b).add b (.cells (cs ++ new) e (cap * sz))) rfl fun b'' => ?_, hk b cap _ (.inl rfl) hle rfl⟩
    rw [find_add, find_set, find_del, hbs]
    by_cases h : b'' = b <;> simp [h]
  · refine ⟨(H.del b).add b' (.cells (cs ++ new) e (c' * sz)), fun _ w hs => hs.mono ⟨rfl, fun b'' k'' h => ?_⟩, hk b' c' _ (.inr hf) hle rfl⟩
    rw [find_add] at h ⊢
    split at h
    · rename_i e; rw [if_pos e]; exact h
    · rename_i e; rw [if_neg e]
      rw [find_del] at h
      split at h
      · cases h
      · exact h
  · have hn0 : new = [] := List.eq_nil_of_length_eq_zero (by rw [hl, Nat.zero_mul])
    refine ⟨_, fun _ w hs => hs.of_find (H' := (H'.del b).add b (.cells (cs ++ new) e (cap * sz))) rfl fun b'' => ?_, hk b cap _ (.inl rfl) (by omega) rfl⟩
    rw [find_add, find_del, hn0, List.append_nil, ← hbs]
    by_cases h : b'' = b <;> simp [h, hb]


def vop (q : Bool) (P : Program) (fr : Fr) (H : AH) (o : Oper) (k : Value → AH → Prop) : Prop :=
  match o.op with
  | .move x | .assign x => wv fr x fun v => nv v fun v => k v H
  | .pick c a b => wv fr c fun c => wv fr a fun a => wv fr b fun b => pck c a b fun v => k v H
  | .binOp op t x y _ => wv fr x fun a => wv fr y fun b => bin (P.underlying t) P H op t x y a b fun v => k v H
  | .unOp op _ x => wv fr x fun a => unv P H op a fun v => k v H
  | .extract x i => wv fr x fun a => extr P H a i fun v => k v H
  | .convert s t x => wv fr x fun a => cnv (P.underlying s) (P.underlying t) P H s t a fun v => k v H
  | .load t x => wv fr x fun a => ldv (isAggU (P.underlying t)) (P.cellsOf t) a H fun v => k v H
  | .fieldAddr s x i => wv fr x fun a => fap P s i a fun v => k v H
  | .indexAddr t x i => elSz P t ≠ 0 ∧ wv fr x fun a => wv fr i fun i => ixp (P.underlying t) (elSz P t) a i fun v => k v H
  | .nilCheck x => wv fr x fun a => nck a fun v => k v H
  | .makeFunc f a b => wvs fr a.toList fun a => wvs fr b.toList fun b => k (.func f a.toArray b.toArray) H
  | .makeInterface t x => wv fr x fun a => rdop P H (Instr.makeInterface t a) fun v => k v H
  | .index t x i => wv fr x fun a => wv fr i fun i => rdop P H (Instr.index t a i) fun v => k v H
  | .field t x i => wv fr x fun a => rdop P H (Instr.field t a i) fun v => k v H
  | .slice t x lo hi mx => wv fr x fun a => osome fr lo fun lo => osome fr hi fun hi => osome fr mx fun mx => rdop P H (Instr.sliceAt t a lo hi mx) fun v => k v H
  | .build t ps => wvs fr (ps.toList.map (·.2)) fun vs => bld P t ((ps.toList.map (·.1)).zip vs) fun v => k v H
  | .sliceToArrayPointer t x => wv fr x fun a => rdop P H (Instr.arrayAt t a) fun v => k v H
  | .typeAssert x t u ok => wv fr x fun a => rdop P H (Instr.typeAssert a t u ok) fun v => k v H
  | .store t x y => q = false ∧ P.cellsOf t ≠ 0 ∧ wv fr x fun a => wv fr y fun b => stv P t a b H (k undef)
  | .alloc t => q = false ∧ wo (zrOf P t) fun cs => newb t cs H k
  | .box t x => q = false ∧ wv fr x fun v => newb t (vcells v) H k
  | .call { callee := .value f, args := xs, .. } => wv fr f fun f => wvs fr xs.toList fun as => acl q P H f as k
  | .buildSlice t len ps => q = false ∧ wvs fr (ps.toList.map (·.2)) fun vs => bsl P t len ((ps.toList.map (·.1)).zip vs) H k
  | .makeSlice t l c => q = false ∧ wv fr l fun l => wv fr c fun c => mks P t l c H k
  | .makeMap _ none => q = false ∧ AllB H fun b => k (.map (some b)) (H.add b (.amap []))
  | .lookup t x i ok => q = false ∧ wv fr x fun x => wv fr i fun i => lkp P t x i ok H k
  | .mapUpdate t m i x => q = false ∧ wv fr m fun m => wv fr i fun i => wv fr x fun x => mup P t m i x H (k undef)
  | .insert t m i x => q = false ∧ wv fr m fun m => wv fr i fun i => wv fr x fun x => mup P t m i x H (k undef)
  | .call { callee := .builtin b, args := xs, argTypes := ts } =>
    match b with
    | .append => q = false ∧ wvs fr xs.toList fun as => APD P ts[0]? ts[1]? as H k
    | _ => match bcls b with
      | .read => wvs fr xs.toList fun as => rdb (ts[0]?.bind P.underlying) b as fun v => k v H
      | _ => o.op.operands.toList.all (kn1 fr) = true ∧ isSel o.op = false ∧ aop q P fr H o k
  | _ => o.op.operands.toList.all (kn1 fr) = true ∧ isSel o.op = false ∧ aop q P fr H o k

theorem rd_value {o : Oper} {s : Sem Value} (hc : cls o.op = .read) (he : execOp (evd fr) o = (do pure (.value (← s)))) {k : Value → AH → Prop} (h : wo (qrun P s H) fun v => k v H) : aop q P fr H o k := by
  simp only [aop, hc, he, qrun_bind]
  cases hs : qrun P s H with
  | none => rw [hs] at h; exact h
  | some v => rw [hs] at h; exact h

theorem zip_parts (g : Operand → Value) : ∀ l : List (Nat × Operand), (l.map fun (p : Nat × Operand) => (p.1, g p.2)) = (l.map (·.1)).zip ((l.map (·.2)).map g)
  | [] => rfl
  | p :: l => by simp only [List.map_cons, List.zip_cons_cons, zip_parts g l]

set_option maxHeartbeats 2000000 in
theorem vop_sound {o : Oper} {k : Value → AH → Prop} (h : vop q P fr H o k) : o.op.operands.toList.all (kn1 fr) = true ∧ isSel o.op = false ∧ aop q P fr H o k := by
  obtain ⟨dst, op, ty, pos, af, g⟩ := o
  unfold vop at h
  cases op <;> simp only at h
  case move x => exact ⟨by simp [Op.operands, h.1], rfl, h.2⟩
  case assign x => exact ⟨by simp [Op.operands, h.1], rfl, h.2⟩
  case pick c a b =>
    obtain ⟨h1, h2, h3, h4⟩ := h
    refine ⟨by simp [Op.operands, h1, h2, h3], rfl, ?_⟩
    simp only [aop, cls, execOp]
    revert h4
    generalize evd fr c = c
    cases c <;> exact id
  case binOp op t x y yt =>
    obtain ⟨h1, h2, h3⟩ := h
    exact ⟨by simp [Op.operands, h1, h2], rfl, rd_value rfl rfl h3.2⟩
  case unOp op t x => exact ⟨by simp [Op.operands, h.1], rfl, rd_value rfl rfl h.2⟩
  case extract x i => exact ⟨by simp [Op.operands, h.1], rfl, rd_value rfl rfl h.2⟩
  case convert s t x => exact ⟨by simp [Op.operands, h.1], rfl, rd_value rfl rfl h.2.2.2⟩
  case load t x => exact ⟨by simp [Op.operands, h.1], rfl, rd_value rfl rfl (ldv_run h.2)⟩
  case fieldAddr s x i => exact ⟨by simp [Op.operands, h.1], rfl, rd_value rfl rfl (fap_run h.2)⟩
  case indexAddr t x i =>
    obtain ⟨hz, h1, h2, h3⟩ := h
    exact ⟨by simp [Op.operands, h1, h2], rfl, rd_value rfl rfl (ixp_run hz h3)⟩
  case nilCheck x =>
    refine ⟨by simp [Op.operands, h.1], rfl, ?_⟩
    have h2 := h.2
    simp only [aop, cls, execOp]
    revert h2
    generalize evd fr x = v
    intro h2
    unfold nck at h2
    split at h2
    · exact h2
    · exact h2
    · exact h2
    · exact h2.elim
  case makeFunc f a b =>
    obtain ⟨h1, h2, h3⟩ := h
    refine ⟨by simp only [Op.operands, Array.toList_append, List.all_append, h1, h2, Bool.and_self], rfl, rd_value (s := Instr.makeFunc f (a.map (evd fr)) (b.map (evd fr))) rfl rfl ?_⟩
    simp only [Instr.makeFunc, qrun_pure, wo_some]
    have ea : a.map (evd fr) = (a.toList.map (evd fr)).toArray := by rw [← Array.toList_map, Array.toArray_toList]
    have eb : b.map (evd fr) = (b.toList.map (evd fr)).toArray := by rw [← Array.toList_map, Array.toArray_toList]
    rw [ea, eb]; exact h3
  case makeInterface t x => exact ⟨by simp [Op.operands, h.1], rfl, rd_value rfl rfl h.2⟩
  case index t x i =>
    obtain ⟨h1, h2, h3⟩ := h
    exact ⟨by simp [Op.operands, h1, h2], rfl, rd_value rfl rfl h3⟩
  case field t x i => exact ⟨by simp [Op.operands, h.1], rfl, rd_value rfl rfl h.2⟩
  case slice t x lo hi mx =>
    obtain ⟨h1, h⟩ := h
    have key : ∀ (o : Option Operand) (k : Option Value → Prop), osome fr o k → o.toArray.toList.all (kn1 fr) = true ∧ k (o.map (evd fr)) := fun o k h => by
      cases o with
      | none => exact ⟨rfl, h⟩
      | some x => exact ⟨by simpa using h.1, h.2⟩
    obtain ⟨h2, h⟩ := key _ _ h
    obtain ⟨h3, h⟩ := key _ _ h
    obtain ⟨h4, h⟩ := key _ _ h
    exact ⟨by simp only [Op.operands, Array.toList_append, List.all_append, h2, h3, h4]; simp [h1], rfl, rd_value rfl rfl h⟩
  case build t ps =>
    obtain ⟨h1, h2⟩ := h
    refine ⟨by simpa [Op.operands] using h1, rfl, rd_value (s := Instr.build t (ps.map fun (i, x) => (i, evd fr x))) rfl rfl ?_⟩
    have e : (ps.map fun (i, x) => (i, evd fr x)) = ((ps.toList.map (·.1)).zip ((ps.toList.map (·.2)).map (evd fr))).toArray := by
      rw [← zip_parts (evd fr) ps.toList, ← Array.toList_map, Array.toArray_toList]
    rw [e]; exact bld_run h2
  case sliceToArrayPointer t x => exact ⟨by simp [Op.operands, h.1], rfl, rd_value rfl rfl h.2⟩
  case typeAssert x t u ok => exact ⟨by simp [Op.operands, h.1], rfl, rd_value rfl rfl h.2⟩
  case store t x y =>
    obtain ⟨hq, hz, h1, h2, h3⟩ := h
    subst hq
    refine ⟨by simp [Op.operands, h1, h2], rfl, ?_⟩
    simp only [aop, cls, true_and]
    show arun P (Instr.storeAt t (evd fr x) (evd fr y) >>= fun _ => pure Next.skip) H _
    rw [arun_bind]
    exact stv_run h3 hz
  case alloc t =>
    obtain ⟨hq, h⟩ := h
    subst hq
    refine ⟨rfl, rfl, ?_⟩
    simp only [aop, cls, true_and]
    show arun P (Instr.alloc t true (.tuple #[]) >>= fun v => pure (Next.value v)) H _
    rw [arun_bind]
    unfold wo at h
    split at h
    · rename_i cs hz
      obtain ⟨z, h1, h2⟩ := zeroValue_run (H := H) hz
      simp only [Instr.alloc, arun_bind]
      refine arun_of_qrun _ _ _ h1 ?_
      refine arun_newVar ?_
      have e : vcells z = cs := h2
      rw [e]
      exact h
    · exact h.elim
  case box t x =>
    obtain ⟨hq, h1, h2⟩ := h
    subst hq
    refine ⟨by simp [Op.operands, h1], rfl, ?_⟩
    simp only [aop, cls, true_and]
    show arun P (Instr.box t (evd fr x) >>= fun v => pure (Next.value v)) H _
    rw [arun_bind]
    simp only [Instr.box, arun_bind]
    exact arun_newVar h2
  case buildSlice t len ps =>
    obtain ⟨hq, h1, h2⟩ := h
    subst hq
    refine ⟨by simpa [Op.operands] using h1, rfl, ?_⟩
    simp only [aop, cls, true_and]
    show arun P (Instr.buildSlice t len (ps.map fun (i, x) => (i, evd fr x)) >>= fun v => pure (Next.value v)) H _
    rw [arun_bind]
    have e : (ps.map fun (i, x) => (i, evd fr x)) = ((ps.toList.map (·.1)).zip ((ps.toList.map (·.2)).map (evd fr))).toArray := by
      rw [← zip_parts (evd fr) ps.toList, ← Array.toList_map, Array.toArray_toList]
    rw [e]; exact bsl_run h2
  case makeSlice t l c =>
    obtain ⟨hq, h1, h2, h3⟩ := h
    subst hq
    refine ⟨by simp [Op.operands, h1, h2], rfl, ?_⟩
    simp only [aop, cls, true_and]
    show arun P (Instr.makeSlice t (evd fr l) (evd fr c) >>= fun v => pure (Next.value v)) H _
    rw [arun_bind]
    exact mks_run h3
  case makeMap t r =>
    cases r with
    | some x => exact h
    | none =>
      obtain ⟨hq, h⟩ := h
      subst hq
      refine ⟨rfl, rfl, ?_⟩
      simp only [aop, cls, true_and]
      show arun P (Instr.makeMap t none >>= fun v => pure (Next.value v)) H _
      rw [arun_bind]
      exact arun_makeMap h
  case lookup t x i ok =>
    obtain ⟨hq, h1, h2, h3⟩ := h
    subst hq
    refine ⟨by simp [Op.operands, h1, h2], rfl, ?_⟩
    simp only [aop, cls, true_and]
    refine ASem.of_arun ?_
    show arun P (Instr.lookup t (evd fr x) (evd fr i) ok >>= fun v => pure (Next.value v)) H _
    rw [arun_bind]
    exact lkp_run h3
  case mapUpdate t m i x =>
    obtain ⟨hq, h1, h2, h3, h4⟩ := h
    subst hq
    refine ⟨by simp [Op.operands, h1, h2, h3], rfl, ?_⟩
    simp only [aop, cls, true_and]
    refine ASem.of_arun ?_
    show arun P (Instr.mapUpdate t (evd fr m) (evd fr i) (evd fr x) >>= fun _ => pure Next.skip) H _
    rw [arun_bind]
    exact mup_run h4
  case insert t m i x =>
    obtain ⟨hq, h1, h2, h3, h4⟩ := h
    subst hq
    refine ⟨by simp [Op.operands, h1, h2, h3], rfl, ?_⟩
    simp only [aop, cls, true_and]
    refine ASem.of_arun ?_
    show arun P (Instr.mapUpdate t (evd fr m) (evd fr i) (evd fr x) >>= fun _ => pure Next.skip) H _
    rw [arun_bind]
    exact mup_run h4
  case call c =>
    obtain ⟨callee, args, tys⟩ := c
    cases callee <;> simp only at h
    case value f =>
      obtain ⟨h1, h2, h3⟩ := h
      refine ⟨by simp only [Op.operands, Call.operands, Array.toList_append, List.all_append, h2]; simp [h1], rfl, ?_⟩
      exact acl_run _ rfl rfl rfl h3
    case builtin b =>
      split at h
      · obtain ⟨hq, h1, h2⟩ := h
        subst hq
        refine ⟨by simp only [Op.operands, Call.operands, Array.toList_append, List.all_append, h1]; rfl, rfl, ?_⟩
        have e : (args.toList.map (evd fr)).toArray = args.map (evd fr) := by rw [← Array.toList_map, Array.toArray_toList]
        simp only [aop, cls, bcls, true_and]
        show ASem P (Builtin.append_ tys ty (args.map (evd fr)) >>= fun v => pure (Next.value v)) H k
        rw [← e]
        exact h2 tys ty rfl rfl
      split at h
      · rename_i hb
        obtain ⟨h1, h2⟩ := h
        refine ⟨by simp only [Op.operands, Call.operands, Array.toList_append, List.all_append, h1]; rfl, rfl, ?_⟩
        have e : (args.toList.map (evd fr)).toArray = args.map (evd fr) := by rw [← Array.toList_map, Array.toArray_toList]
        simp only [aop, cls, hb, execOp, resolve, qrun_bind, qrun_pure, Option.bind_some, invoke]
        unfold rdb wo at h2
        split at h2
        · rename_i v hv
          have hr : ∀ cs, qrun P (builtin b tys ty cs (args.map (evd fr))) H = some (.value v) := fun cs => by
            have := rdv_run (P := P) (H := H) (ty := ty) (cs := cs) hv
            rwa [e] at this
          simp only [hr, anext]
          exact h2
        · exact h2.elim
      · exact h
    case invoke r m => exact h
  all_goals exact h

def vgo (q : Bool) (P : Program) (n : Nat) (_ds : List (Option Tmp)) (d : Option Tmp) (o : Oper) (fr : Fr) (H : AH) (K : Fr → AH → Prop) : Prop := dok n d = true ∧ vop q P fr H o (fun v H' => K (putf d v fr) H')

def vops (q : Bool) (P : Program) (n : Nat) (ds : List (Option Tmp)) : List Oper → Fr → AH → (Fr → AH → Prop) → Prop
  | [], fr, H, K => K fr H
  | ⟨d, op, ty, pos, af, none⟩ :: rest, fr, H, K => vgo q P n ds d ⟨d, op, ty, pos, af, none⟩ fr H fun fr H => vops q P n ds rest fr H K
  | ⟨d, op, ty, pos, af, some (j, want)⟩ :: rest, fr, H, K => wo (ds[j]?) fun t => wo t fun t => wo (alk t fr) fun b =>
      ag b want (vgo q P n ds d ⟨d, op, ty, pos, af, none⟩ ((t, .bool want) :: fr) H fun fr H => vops q P n ds rest fr H K)
        (dok n d = true ∧ vops q P n ds rest (putf d undef ((t, .bool !want) :: fr)) H K) (dok n d = true ∧ vops q P n ds rest (putf d undef fr) H K)

theorem aop_mono {o : Oper} {k k' : Value → AH → Prop} (hk : ∀ v H, k v H → k' v H) (h : aop q P fr H o k) : aop q P fr H o k' := by
  have hn : ∀ q nx H, anext q P k nx H → anext q P k' nx H := fun q nx H h => by
    cases nx <;> simp only [anext] at h ⊢ <;> try first | exact hk _ _ h | exact h
    cases q with
    | true => obtain ⟨v, h1, h2⟩ := h; exact ⟨v, h1, hk _ _ h2⟩
    | false => exact h.mono hk
  unfold aop at h ⊢
  split at h
  · split at h
    · exact hn _ _ _ h
    · exact h.elim
  · exact ⟨h.1, arun_mono P _ _ _ _ (fun a H h => hn _ _ _ h) h.2⟩
  · refine ⟨h.1, fun E w hs => ?_⟩
    obtain ⟨nx, w', H', h1, h2, h3⟩ := h.2 E w hs
    exact ⟨nx, w', H', h1, h2, hn _ _ _ h3⟩

theorem vops_sound : ∀ (l : List Oper) (fr : Fr) (H : AH), vops q P n ds l fr H K → aops q P n ds l fr H K
  | [], fr, H, h => h
  | ⟨d, op, ty, pos, af, none⟩ :: rest, fr, H, h => by
    obtain ⟨h1, h2⟩ := h
    obtain ⟨a1, a2, a3⟩ := vop_sound h2
    simp only [aops, aguard, gov]
    exact ⟨fun _ => ⟨by simp only [okOp, a1, a2, h1]; rfl, aop_mono (fun v H h => vops_sound rest _ _ h) a3⟩, fun e => by cases e⟩
  | ⟨d, op, ty, pos, af, some (j, want)⟩ :: rest, fr, H, h => by
    simp only [vops] at h
    cases hj : ds[j]? with
    | none => rw [hj] at h; exact h.elim
    | some t =>
      rw [hj] at h
      cases t with
      | none => exact h.elim
      | some t =>
        simp only [wo_some] at h
        cases hb : alk t fr with
        | none => rw [hb] at h; exact h.elim
        | some b =>
          rw [hb] at h
          simp only [wo_some] at h
          have yes : ∀ fr', (dok n d = true ∧ vop q P fr' H ⟨d, op, ty, pos, af, none⟩ (fun v H' => vops q P n ds rest (putf d v fr') H' K)) →
              okOp n fr' ⟨d, op, ty, pos, af, some (j, want)⟩ = true ∧ aop q P fr' H ⟨d, op, ty, pos, af, some (j, want)⟩ (fun v H' => aops q P n ds rest (putf d v fr') H' K) := fun fr' ⟨h1, h2⟩ => by
            obtain ⟨a1, a2, a3⟩ := vop_sound h2
            exact ⟨by simp only [okOp, a1, a2, h1]; rfl, aop_mono (fun v H h => vops_sound rest _ _ h) a3⟩
          have no : ∀ fr', (dok n d = true ∧ vops q P n ds rest (putf d undef fr') H K) → dok n d = true ∧ aops q P n ds rest (putf d undef fr') H K := fun fr' ⟨h1, h2⟩ => ⟨h1, vops_sound rest _ _ h2⟩
          cases b with
          | bool b =>
            have e1 : aguard ds fr ⟨d, op, ty, pos, af, some (j, want)⟩ = some (b == want) := by simp only [aguard, hj, Option.bind_some, id, hb]
            have e2 : ∀ g, gov ds fr ⟨d, op, ty, pos, af, some (j, want)⟩ g = (t, .bool (if g = true then want else !want)) :: fr := fun g => by simp only [gov, hj, Option.bind_some, id, hb]
            simp only [ag] at h
            simp only [aops, e1, e2, if_true, Bool.false_eq_true, if_false]
            exact ⟨fun e => yes _ (h.1 (by simpa using e)), fun e => no _ (h.2 (by simpa using e))⟩
          | _ =>
            have e1 : aguard ds fr ⟨d, op, ty, pos, af, some (j, want)⟩ = some false := by simp only [aguard, hj, Option.bind_some, id, hb]
            have e2 : ∀ g, gov ds fr ⟨d, op, ty, pos, af, some (j, want)⟩ g = fr := fun g => by simp only [gov, hj, Option.bind_some, id, hb]
            simp only [ag] at h
            simp only [aops, e1, e2]
            exact ⟨fun e => by simp at e, fun _ => no _ h⟩

end
end Go.AX
