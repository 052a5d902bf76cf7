/- The engine's equations, as 'simp only' takes them. -/
import Derived.Test.YtmkbpdlijfjgkaaDoorAx5
namespace Go.AX
set_option linter.unusedSimpArgs false
set_option linter.unusedVariables false
open Go Go.RowKit
section
variable {q : Bool} {P : Program} {n : Nat} {ds : List (Option Tmp)} {rest : List Oper} {fr : Fr} {H : AH} {K : Fr → AH → Prop} {d : Nat} {ty : TypeId} {pos : String} {af : Array Edge}


theorem T_nil : vops q P n ds [] fr H K = K fr H := Eq.trans rfl rfl
theorem T_guard_t {op : Op} {j : Nat} : vops q P n ds (⟨some d, op, ty, pos, af, some (j, true)⟩ :: rest) fr H K = wo (ds[j]?) fun t => wo t fun t => wo (alk t fr) fun b =>
      ag b true (vops q P n ds (⟨some d, op, ty, pos, af, none⟩ :: rest) ((t, .bool true) :: fr) H K) (d < n ∧ vops q P n ds rest ((d, undef) :: (t, .bool false) :: fr) H K) (d < n ∧ vops q P n ds rest ((d, undef) :: fr) H K) := by
  rw [← dok_some]; rfl
theorem T_guard_f {op : Op} {j : Nat} : vops q P n ds (⟨some d, op, ty, pos, af, some (j, false)⟩ :: rest) fr H K = wo (ds[j]?) fun t => wo t fun t => wo (alk t fr) fun b =>
      ag b false (vops q P n ds (⟨some d, op, ty, pos, af, none⟩ :: rest) ((t, .bool false) :: fr) H K) (d < n ∧ vops q P n ds rest ((d, undef) :: (t, .bool true) :: fr) H K) (d < n ∧ vops q P n ds rest ((d, undef) :: fr) H K) := by
  rw [← dok_some]; rfl
theorem T_move {x : Operand} : vops q P n ds (⟨(some d), .move x, ty, pos, af, none⟩ :: rest) fr H K = (d < n ∧ wv fr x fun v => nv v fun v => vops q P n ds rest ((d, v) :: fr) H K) := by rw [← dok_some]; rfl
theorem T_assign {x : Operand} : vops q P n ds (⟨(some d), .assign x, ty, pos, af, none⟩ :: rest) fr H K = (d < n ∧ wv fr x fun v => nv v fun v => vops q P n ds rest ((d, v) :: fr) H K) := by rw [← dok_some]; rfl
theorem T_pick {c a b : Operand} : vops q P n ds (⟨(some d), .pick c a b, ty, pos, af, none⟩ :: rest) fr H K = (d < n ∧ wv fr c fun c => wv fr a fun a => wv fr b fun b => pck c a b fun v => vops q P n ds rest ((d, v) :: fr) H K) := by rw [← dok_some]; rfl
theorem T_binOp {op : BinOp} {t yt : TypeId} {x y : Operand} : vops q P n ds (⟨(some d), .binOp op t x y yt, ty, pos, af, none⟩ :: rest) fr H K = (d < n ∧ wv fr x fun a => wv fr y fun b => bin (P.underlying t) P H op t x y a b fun v => vops q P n ds rest ((d, v) :: fr) H K) := by rw [← dok_some]; rfl
theorem T_unOp {op : UnOp} {t : TypeId} {x : Operand} : vops q P n ds (⟨(some d), .unOp op t x, ty, pos, af, none⟩ :: rest) fr H K = (d < n ∧ wv fr x fun a => unv P H op a fun v => vops q P n ds rest ((d, v) :: fr) H K) := by rw [← dok_some]; rfl
theorem T_extract {x : Operand} {i : Nat} : vops q P n ds (⟨(some d), .extract x i, ty, pos, af, none⟩ :: rest) fr H K = (d < n ∧ wv fr x fun a => extr P H a i fun v => vops q P n ds rest ((d, v) :: fr) H K) := by rw [← dok_some]; rfl
theorem T_convert {s t : TypeId} {x : Operand} : vops q P n ds (⟨(some d), .convert s t x, ty, pos, af, none⟩ :: rest) fr H K = (d < n ∧ wv fr x fun a => cnv (P.underlying s) (P.underlying t) P H s t a fun v => vops q P n ds rest ((d, v) :: fr) H K) := by rw [← dok_some]; rfl
theorem T_load {t : TypeId} {x : Operand} : vops q P n ds (⟨(some d), .load t x, ty, pos, af, none⟩ :: rest) fr H K = (d < n ∧ wv fr x fun a => ldv (isAggU (P.underlying t)) (P.cellsOf t) a H fun v => vops q P n ds rest ((d, v) :: fr) H K) := by rw [← dok_some]; rfl
theorem T_fieldAddr {s : TypeId} {x : Operand} {i : Nat} : vops q P n ds (⟨(some d), .fieldAddr s x i, ty, pos, af, none⟩ :: rest) fr H K = (d < n ∧ wv fr x fun a => fap P s i a fun v => vops q P n ds rest ((d, v) :: fr) H K) := by rw [← dok_some]; rfl
theorem T_indexAddr {t : TypeId} {x i : Operand} : vops q P n ds (⟨(some d), .indexAddr t x i, ty, pos, af, none⟩ :: rest) fr H K = (d < n ∧ elSz P t ≠ 0 ∧ wv fr x fun a => wv fr i fun i => ixp (P.underlying t) (elSz P t) a i fun v => vops q P n ds rest ((d, v) :: fr) H K) := by rw [← dok_some]; rfl
theorem T_nilCheck {x : Operand} : vops q P n ds (⟨(some d), .nilCheck x, ty, pos, af, none⟩ :: rest) fr H K = (d < n ∧ wv fr x fun a => nck a fun v => vops q P n ds rest ((d, v) :: fr) H K) := by rw [← dok_some]; rfl
theorem T_makeFunc {f : Fn} {a b : Array Operand} : vops q P n ds (⟨(some d), .makeFunc f a b, ty, pos, af, none⟩ :: rest) fr H K = (d < n ∧ wvs fr a.toList fun a => wvs fr b.toList fun b => vops q P n ds rest ((d, .func f a.toArray b.toArray) :: fr) H K) := by rw [← dok_some]; rfl
theorem T_makeInterface {t : TypeId} {x : Operand} : vops q P n ds (⟨(some d), .makeInterface t x, ty, pos, af, none⟩ :: rest) fr H K = (d < n ∧ wv fr x fun a => rdop P H (Instr.makeInterface t a) fun v => vops q P n ds rest ((d, v) :: fr) H K) := by rw [← dok_some]; rfl
theorem T_index {t : TypeId} {x i : Operand} : vops q P n ds (⟨(some d), .index t x i, ty, pos, af, none⟩ :: rest) fr H K = (d < n ∧ wv fr x fun a => wv fr i fun i => rdop P H (Instr.index t a i) fun v => vops q P n ds rest ((d, v) :: fr) H K) := by rw [← dok_some]; rfl
theorem T_field {t : TypeId} {x : Operand} {i : Nat} : vops q P n ds (⟨(some d), .field t x i, ty, pos, af, none⟩ :: rest) fr H K = (d < n ∧ wv fr x fun a => rdop P H (Instr.field t a i) fun v => vops q P n ds rest ((d, v) :: fr) H K) := by rw [← dok_some]; rfl
theorem T_slice {t : TypeId} {x : Operand} {lo hi mx : Option Operand} : vops q P n ds (⟨(some d), .slice t x lo hi mx, ty, pos, af, none⟩ :: rest) fr H K = (d < n ∧ wv fr x fun a => osome fr lo fun lo => osome fr hi fun hi => osome fr mx fun mx => rdop P H (Instr.sliceAt t a lo hi mx) fun v => vops q P n ds rest ((d, v) :: fr) H K) := by rw [← dok_some]; rfl
theorem T_build {t : TypeId} {ps : Array (Nat × Operand)} : vops q P n ds (⟨(some d), .build t ps, ty, pos, af, none⟩ :: rest) fr H K = (d < n ∧ wvs fr (ps.toList.map (·.2)) fun vs => bld P t ((ps.toList.map (·.1)).zip vs) fun v => vops q P n ds rest ((d, v) :: fr) H K) := by rw [← dok_some]; rfl
theorem T_sliceToArrayPointer {t : TypeId} {x : Operand} : vops q P n ds (⟨(some d), .sliceToArrayPointer t x, ty, pos, af, none⟩ :: rest) fr H K = (d < n ∧ wv fr x fun a => rdop P H (Instr.arrayAt t a) fun v => vops q P n ds rest ((d, v) :: fr) H K) := by rw [← dok_some]; rfl
theorem T_typeAssert {t u : TypeId} {x : Operand} {ok : Bool} : vops q P n ds (⟨(some d), .typeAssert x t u ok, ty, pos, af, none⟩ :: rest) fr H K = (d < n ∧ wv fr x fun a => rdop P H (Instr.typeAssert a t u ok) fun v => vops q P n ds rest ((d, v) :: fr) H K) := by rw [← dok_some]; rfl
theorem T_store {t : TypeId} {x y : Operand} : vops q P n ds (⟨none, .store t x y, ty, pos, af, none⟩ :: rest) fr H K = (q = false ∧ P.cellsOf t ≠ 0 ∧ wv fr x fun a => wv fr y fun b => stv P t a b H fun H' => vops q P n ds rest fr H' K) := by simp only [vops, vgo, dok_none, true_and]; rfl
theorem T_alloc {t : TypeId} : vops q P n ds (⟨(some d), .alloc t, ty, pos, af, none⟩ :: rest) fr H K = (d < n ∧ q = false ∧ wo (zrOf P t) fun cs => newb t cs H fun v H' => vops q P n ds rest ((d, v) :: fr) H' K) := by rw [← dok_some]; rfl
theorem T_box {t : TypeId} {x : Operand} : vops q P n ds (⟨(some d), .box t x, ty, pos, af, none⟩ :: rest) fr H K = (d < n ∧ q = false ∧ wv fr x fun v => newb t (vcells v) H fun v H' => vops q P n ds rest ((d, v) :: fr) H' K) := by rw [← dok_some]; rfl
theorem T_call {f : Operand} {xs : Array Operand} {ts : Array TypeId} : vops q P n ds (⟨(some d), .call { callee := .value f, args := xs, argTypes := ts }, ty, pos, af, none⟩ :: rest) fr H K = (d < n ∧ wv fr f fun f => wvs fr xs.toList fun as => acl q P H f as fun v H' => vops q P n ds rest ((d, v) :: fr) H' K) := by rw [← dok_some]; rfl
theorem T_call0 {f : Operand} {xs : Array Operand} {ts : Array TypeId} : vops q P n ds (⟨none, .call { callee := .value f, args := xs, argTypes := ts }, ty, pos, af, none⟩ :: rest) fr H K = (wv fr f fun f => wvs fr xs.toList fun as => acl q P H f as fun v H' => vops q P n ds rest fr H' K) := by simp only [vops, vgo, dok_none, true_and]; rfl
theorem T_buildSlice {t : TypeId} {len : Nat} {ps : Array (Nat × Operand)} : vops q P n ds (⟨(some d), .buildSlice t len ps, ty, pos, af, none⟩ :: rest) fr H K = (d < n ∧ q = false ∧ wvs fr (ps.toList.map (·.2)) fun vs => bsl P t len ((ps.toList.map (·.1)).zip vs) H fun v H' => vops q P n ds rest ((d, v) :: fr) H' K) := by rw [← dok_some]; rfl
theorem T_makeSlice {t : TypeId} {l c : Operand} : vops q P n ds (⟨(some d), .makeSlice t l c, ty, pos, af, none⟩ :: rest) fr H K = (d < n ∧ q = false ∧ wv fr l fun l => wv fr c fun c => mks P t l c H fun v H' => vops q P n ds rest ((d, v) :: fr) H' K) := by rw [← dok_some]; rfl
theorem T_makeMap {t : TypeId} : vops q P n ds (⟨(some d), .makeMap t none, ty, pos, af, none⟩ :: rest) fr H K = (d < n ∧ q = false ∧ AllB H fun b => vops q P n ds rest ((d, .map (some b)) :: fr) (H.add b (.amap [])) K) := by rw [← dok_some]; rfl
theorem T_lookup {t : TypeId} {x i : Operand} {ok : Bool} : vops q P n ds (⟨(some d), .lookup t x i ok, ty, pos, af, none⟩ :: rest) fr H K = (d < n ∧ q = false ∧ wv fr x fun x => wv fr i fun i => lkp P t x i ok H fun v H' => vops q P n ds rest ((d, v) :: fr) H' K) := by rw [← dok_some]; rfl
theorem T_mapUpdate {t : TypeId} {m i x : Operand} : vops q P n ds (⟨none, .mapUpdate t m i x, ty, pos, af, none⟩ :: rest) fr H K = (q = false ∧ wv fr m fun m => wv fr i fun i => wv fr x fun x => mup P t m i x H fun H' => vops q P n ds rest fr H' K) := by simp only [vops, vgo, dok_none, true_and]; rfl
theorem T_insert {t : TypeId} {m i x : Operand} : vops q P n ds (⟨none, .insert t m i x, ty, pos, af, none⟩ :: rest) fr H K = (q = false ∧ wv fr m fun m => wv fr i fun i => wv fr x fun x => mup P t m i x H fun H' => vops q P n ds rest fr H' K) := by simp only [vops, vgo, dok_none, true_and]; rfl
theorem T_append {xs : Array Operand} {ts : Array TypeId} : vops q P n ds (⟨(some d), .call { callee := .builtin .append, args := xs, argTypes := ts }, ty, pos, af, none⟩ :: rest) fr H K = (d < n ∧ q = false ∧ wvs fr xs.toList fun as => APD P ts[0]? ts[1]? as H fun v H' => vops q P n ds rest ((d, v) :: fr) H' K) := by rw [← dok_some]; rfl
theorem T_len {xs : Array Operand} {ts : Array TypeId} : vops q P n ds (⟨(some d), .call { callee := .builtin .len, args := xs, argTypes := ts }, ty, pos, af, none⟩ :: rest) fr H K = (d < n ∧ wvs fr xs.toList fun as => rdb (ts[0]?.bind P.underlying) .len as fun v => vops q P n ds rest ((d, v) :: fr) H K) := by rw [← dok_some]; rfl
theorem T_cap {xs : Array Operand} {ts : Array TypeId} : vops q P n ds (⟨(some d), .call { callee := .builtin .cap, args := xs, argTypes := ts }, ty, pos, af, none⟩ :: rest) fr H K = (d < n ∧ wvs fr xs.toList fun as => rdb (ts[0]?.bind P.underlying) .cap as fun v => vops q P n ds rest ((d, v) :: fr) H K) := by rw [← dok_some]; rfl
theorem T_min {xs : Array Operand} {ts : Array TypeId} : vops q P n ds (⟨(some d), .call { callee := .builtin .min, args := xs, argTypes := ts }, ty, pos, af, none⟩ :: rest) fr H K = (d < n ∧ wvs fr xs.toList fun as => rdb (ts[0]?.bind P.underlying) .min as fun v => vops q P n ds rest ((d, v) :: fr) H K) := by rw [← dok_some]; rfl
theorem T_max {xs : Array Operand} {ts : Array TypeId} : vops q P n ds (⟨(some d), .call { callee := .builtin .max, args := xs, argTypes := ts }, ty, pos, af, none⟩ :: rest) fr H K = (d < n ∧ wvs fr xs.toList fun as => rdb (ts[0]?.bind P.underlying) .max as fun v => vops q P n ds rest ((d, v) :: fr) H K) := by rw [← dok_some]; rfl

/-- Cells, and a number, that are brought into their plain form. -/
def nvl (v : List Value) (k : List Value → Prop) (_t : Lk k := .mk) : Prop := k v
theorem nvl_eq (v : List Value) (k : List Value → Prop) : nvl v k = k v := Eq.trans rfl rfl
def nn (v : Nat) (k : Nat → Prop) (_t : Lk k := .mk) : Prop := k v
theorem nn_eq (v : Nat) (k : Nat → Prop) : nn v k = k v := Eq.trans rfl rfl

theorem newb_eq {t : TypeId} {cs : List Value} {k : Value → AH → Prop} : newb t cs H k = nvl cs fun cs => nn cs.length fun m => AllB H fun b => k (.pointer (some ⟨b, 0, none⟩)) (H.add b (.cells cs t m)) := Eq.trans rfl rfl

def bldk (pl : Nat → Option (Nat × Nat)) (cs : List Value) (ps : List (Nat × Value)) (k : List Value → Prop) (_t : Lk k := .mk) : Prop := wo (bldL pl cs ps) k
theorem bldk_nil {pl : Nat → Option (Nat × Nat)} {cs : List Value} {k : List Value → Prop} : bldk pl cs [] k = k cs := Eq.trans rfl rfl
theorem bldk_cons {pl : Nat → Option (Nat × Nat)} {cs : List Value} {i : Nat} {v : Value} {r : List (Nat × Value)} {k : List Value → Prop} : bldk pl cs ((i, v) :: r) k = wo (pl i) fun os => nvl (vcells v) fun vs => vs.length = os.2 ∧ os.1 + os.2 ≤ cs.length ∧ nvl (lput cs os.1 vs) fun cs' => bldk pl cs' r k := by
  unfold bldk
  simp only [bldL]
  cases pl i with
  | none => rfl
  | some os =>
    obtain ⟨off, sz⟩ := os
    simp only [wo_some, nvl]
    by_cases h1 : (vcells v).length = sz
    · by_cases h2 : off + sz ≤ cs.length
      · simp [h1, h2]
      · simp [h1, h2, wo]
    · simp [h1, wo]
theorem bld_eq {t : TypeId} {ps : List (Nat × Value)} {k : Value → Prop} : bld P t ps k = (plOf1 P t = true ∧ wo (zrOf P t) fun z => bldk (plOf P t) z ps fun cs => nv (.agg cs.toArray) k) := Eq.trans rfl rfl

def bsk (sz i : Nat) (acc : List Value) (ps : List (Nat × Value)) (k : List Value → Prop) (_t : Lk k := .mk) : Prop := wo ((bskL sz i ps).map (acc ++ ·)) k
theorem bsk_nil {sz i : Nat} {acc : List Value} {k : List Value → Prop} : bsk sz i acc [] k = k acc := by simp [bsk, bskL, wo]
theorem bsk_cons {sz i j : Nat} {v : Value} {acc : List Value} {r : List (Nat × Value)} {k : List Value → Prop} : bsk sz i acc ((j, v) :: r) k = (j = i ∧ nvl (vcells v) fun vs => vs.length = sz ∧ nvl (acc ++ vs) fun acc' => bsk sz (i + 1) acc' r k) := by
  unfold bsk
  simp only [bskL, nvl]
  by_cases h1 : j = i
  · by_cases h2 : (vcells v).length = sz
    · simp only [h1, h2, and_self, if_true, true_and]
      cases bskL sz (i + 1) r <;> simp [wo]
    · simp [h1, h2, wo]
  · simp [h1, wo]
theorem bsl_eq {t len : Nat} {ps : List (Nat × Value)} {k : Value → AH → Prop} : bsl P t len ps H k = wo (slE P t) fun s => len = ps.length ∧ len * s.2.1 ≤ 16777216 ∧ nn s.1 fun e => bsk s.2.1 0 [] ps fun cs => nn cs.length fun m => AllB H fun b => k (.slice (some ⟨b, 0, none⟩) len len) (H.add b (.cells cs e m)) := by
  unfold bsl
  refine congrArg (fun k => wo (slE P t) k) (funext fun s => ?_)
  have e : (bskL s.2.1 0 ps).map ([] ++ ·) = bskL s.2.1 0 ps := by cases bskL s.2.1 0 ps <;> rfl
  show _ = (len = ps.length ∧ len * s.2.1 ≤ 16777216 ∧ wo ((bskL s.2.1 0 ps).map ([] ++ ·)) fun cs => nn cs.length fun m => AllB H fun b => k (.slice (some ⟨b, 0, none⟩) len len) (H.add b (.cells cs s.1 m)))
  rw [e]
  rfl
theorem mks_int {t : TypeId} {k1 k2 : IntKind} {a b : Int} {k : Value → AH → Prop} : mks P t (.int k1 a) (.int k2 b) H k = wo (slE P t) fun E => E.2.1 ≠ 0 ∧ 0 ≤ a ∧ a ≤ b ∧ E.2.2.2 * b ≤ 281474976710656 ∧ b < 9223372036854775808 ∧
      nn E.1 fun e => nn (b.toNat * E.2.1) fun m => nvl (zf E.2.2.1 m) fun cs => nn a.toNat fun l => nn b.toNat fun c => AllB H fun bl => k (.slice (some ⟨bl, 0, none⟩) l c) (H.add bl (.cells cs e m)) := Eq.trans rfl rfl
theorem lkp_some {t r : Nat} {key : Value} {ok : Bool} {k : Value → AH → Prop} : lkp P t (.map (some r)) key ok H k = wo (mpE P t) fun E => wo (H.mp r) fun es => wo (mlk E.1 key es 0) fun o => nv (mres ok E.2 o) fun v => k v H := Eq.trans rfl rfl
theorem lkp_none {t : Nat} {key : Value} {ok : Bool} {k : Value → AH → Prop} : lkp P t (.map none) key ok H k = wo (mpE P t) fun E => wo (mlk E.1 key [] 0) fun o => nv (mres ok E.2 o) fun v => k v H := Eq.trans rfl rfl
theorem mup_some {t r : Nat} {key v : Value} {k : AH → Prop} : mup P t (.map (some r)) key v H k = wo (mpE P t) fun E => wo (H.mp r) fun es => wo (mlk E.1 key es 0) fun o => wo (H.mset r (mput es key v o)) k := Eq.trans rfl rfl
theorem mres_some {ok : Bool} {z v : Value} {i : Nat} : mres ok z (some (i, v)) = if ok = true then .tuple #[v, .bool true] else v := Eq.trans rfl rfl
theorem mres_none {ok : Bool} {z : Value} : mres ok z none = if ok = true then .tuple #[z, .bool false] else z := Eq.trans rfl rfl
theorem mput_some {es : List (Value × Value)} {key v v0 : Value} {i : Nat} : mput es key v (some (i, v0)) = es.set i (key, v) := Eq.trans rfl rfl
theorem mput_none {es : List (Value × Value)} {key v : Value} : mput es key v none = es ++ [(key, v)] := Eq.trans rfl rfl
theorem mlk_nil {d : TypeDesc} {key : Value} {i : Nat} : mlk d key [] i = some none := Eq.trans rfl rfl
/-- What an append writes in place. -/
def apin (H : AH) (base : Option Addr) (off : Nat) (new : List Value) (k : AH → Prop) (_t : Lk (k, H) := .mk) : Prop :=
  match base with
  | some ⟨b, o, none⟩ => wo (H.app b (o + off) new) k
  | _ => False
theorem apin_some {b o off : Nat} {new : List Value} {k : AH → Prop} : apin H (some ⟨b, o, none⟩) off new k = wo (H.app b (o + off) new) k := Eq.trans rfl rfl
theorem apin_none {off : Nat} {new : List Value} {k : AH → Prop} : apin H none off new k = False := Eq.trans rfl rfl
theorem apd_slice {t t2 : Option TypeId} {base : Option Addr} {n cap : Nat} {x : Value} {k : Value → AH → Prop} : apd P t t2 (.slice base n cap) x H k = wo t fun t => wo t2 fun t2 => nInt (P.underlying t2) = true ∧ wo (slE P t) fun E => E.2.2.1.length = E.2.1 ∧ E.2.2.2 ≠ 0 ∧
    wo (slen x) fun m => wo (srow H E.2.1 (.slice base n cap)) fun old => wo (srow H E.2.1 x) fun new =>
      imp (m = 0 ∧ n ≤ cap) (k (.slice base n cap) H) ∧
      imp (m ≠ 0 ∧ n + m ≤ cap) (apin H base (n * E.2.1) new fun H' => k (.slice base (n + m) cap) H') ∧
      imp (cap < n + m) ((2 * (n + m) + 192) * E.2.2.2 ≤ 281474976710656 ∧ AllB H fun b => AllN (n + m) fun c => nvl (old ++ new) fun cs => k (.slice (some ⟨b, 0, none⟩) (n + m) c) (H.add b (.cells cs E.1 (c * E.2.1)))) := rfl
theorem nInt_slice {e : TypeId} : nInt (some (.slice e)) = true := Eq.trans rfl rfl
theorem nInt_string : nInt (some .string) = true := Eq.trans rfl rfl
theorem slen_slice {a : Option Addr} {n c : Nat} : slen (.slice a n c) = some n := Eq.trans rfl rfl
theorem slen_string {s : ByteArray} : slen (.string s) = some s.size := Eq.trans rfl rfl
theorem srow_some {sz b o n c : Nat} : srow H sz (.slice (some ⟨b, o, none⟩) n c) = H.row b o (n * sz) := Eq.trans rfl rfl
theorem srow_none {sz n c : Nat} : srow H sz (.slice none n c) = if n = 0 then some [] else none := Eq.trans rfl rfl
theorem srow_string {sz : Nat} {s : ByteArray} : srow H sz (.string s) = if sz = 1 then some (s.data.toList.map fun b => .int .u8 b.toNat) else none := Eq.trans rfl rfl

theorem stv_ptr {t : TypeId} {b off : Nat} {v : Value} {k : AH → Prop} : stv P t (.pointer (some ⟨b, off, none⟩)) v H k = nvl (vcells v) fun vs => vs.length = P.cellsOf t ∧ wo (H.wrs b off vs) k := Eq.trans rfl rfl
theorem vcells_bool {b : Bool} : vcells (.bool b) = [.bool b] := Eq.trans rfl rfl
theorem vcells_int {k : IntKind} {x : Int} : vcells (.int k x) = [.int k x] := Eq.trans rfl rfl
theorem vcells_string {s : ByteArray} : vcells (.string s) = [.string s] := Eq.trans rfl rfl
theorem vcells_ptr {a : Option Addr} : vcells (.pointer a) = [.pointer a] := Eq.trans rfl rfl
theorem vcells_slice {a : Option Addr} {l c : Nat} : vcells (.slice a l c) = [.slice a l c] := Eq.trans rfl rfl
theorem vcells_map {r : Option Nat} : vcells (.map r) = [.map r] := Eq.trans rfl rfl
theorem vcells_func {f : Fn} {a c : Array Value} : vcells (.func f a c) = [.func f a c] := Eq.trans rfl rfl
theorem vcells_nilFunc : vcells .nilFunc = [.nilFunc] := Eq.trans rfl rfl
theorem vcells_iface {t : TypeId} {v : Value} : vcells (.iface t v) = [.iface t v] := Eq.trans rfl rfl
theorem vcells_nilIface : vcells .nilIface = [.nilIface] := Eq.trans rfl rfl

theorem lput_nil {cs : List Value} {off : Nat} : lput cs off [] = cs := Eq.trans rfl rfl
theorem lput_cons {cs vs : List Value} {v : Value} {off : Nat} : lput cs off (v :: vs) = lput (cs.set off v) (off + 1) vs := Eq.trans rfl rfl

theorem scal_bool {b : Bool} : scal (.bool b) = true := Eq.trans rfl rfl
theorem scal_int {k : IntKind} {x : Int} : scal (.int k x) = true := Eq.trans rfl rfl
theorem scal_string {s : ByteArray} : scal (.string s) = true := Eq.trans rfl rfl
theorem scal_ptr {a : Option Addr} : scal (.pointer a) = true := Eq.trans rfl rfl
theorem scal_slice {a : Option Addr} {l c : Nat} : scal (.slice a l c) = true := Eq.trans rfl rfl
theorem scal_map {r : Option Nat} : scal (.map r) = true := Eq.trans rfl rfl
theorem scal_func {f : Fn} {a c : Array Value} : scal (.func f a c) = true := Eq.trans rfl rfl
theorem scal_nilFunc : scal .nilFunc = true := Eq.trans rfl rfl
theorem scal_iface {t : TypeId} {v : Value} : scal (.iface t v) = true := Eq.trans rfl rfl
theorem scal_nilIface : scal .nilIface = true := Eq.trans rfl rfl

/-- The end of a function over what it began with. -/
theorem le_add_iff (A : AH) {b : Nat} {k : ABlk} (hf : Fresh H b) (h : A.le H) : A.le (H.add b k) := AH.le_add h hf.2
end
end Go.AX
