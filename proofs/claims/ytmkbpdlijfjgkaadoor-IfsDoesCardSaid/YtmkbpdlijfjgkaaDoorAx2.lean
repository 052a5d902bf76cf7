/- Frames, regions, code and calls over the abstract heap: a condition that is computed from the code, and is sound. -/
import Derived.Test.YtmkbpdlijfjgkaaDoorAx1
namespace Go.AX
set_option linter.unusedSimpArgs false
set_option linter.unusedVariables false
open Go Go.RowKit

/-- A letter whose type hangs on k: where it stands beside k, 'simp' does not look into k. -/
structure Lk {α : Type} (k : α) : Type where
  mk ::

abbrev Fr := List (Nat × Value)

structure FrOk (n : Nat) (fr : Fr) (a : Act) : Prop where
  defers : a.defers = []
  size : a.tmps.size = n
  vals : ∀ t v, alk t fr = some v → a.tmps[t]? = some v

def evd (fr : Fr) : Operand → Value
  | .tmp t => (alk t fr).getD undef
  | .const v => v
  | .global g => .pointer (some ⟨g, 0, none⟩)
  | .func f => .func (.func f) #[] #[]

def putf (dst : Option Tmp) (v : Value) (fr : Fr) : Fr :=
  match dst with
  | some d => (d, v) :: fr
  | none => fr

def kn1 (fr : Fr) : Operand → Bool
  | .tmp t => (alk t fr).isSome
  | _ => true

def isSel : Op → Bool
  | .select _ _ => true
  | _ => false

def dok (n : Nat) : Option Tmp → Bool
  | some d => decide (d < n)
  | none => true

/-- All operands are known; the result has a slot. -/
def okOp (n : Nat) (fr : Fr) (o : Oper) : Bool := o.op.operands.toList.all (kn1 fr) && !isSel o.op && dok n o.dst

theorem FrOk.put {n : Nat} {fr : Fr} {a : Act} (h : FrOk n fr a) {dst : Option Tmp} (hd : dok n dst = true) (v : Value) : FrOk n (putf dst v fr) (a.put dst v) := by
  cases dst with
  | none => exact h
  | some d =>
    have hd' : d < n := by simpa [dok] using hd
    refine ⟨h.defers, by simp [Act.put, h.size], fun t u hu => ?_⟩
    simp only [putf, alk_cons] at hu
    split at hu
    · rename_i e; subst e; cases hu
      simp [Act.put, h.size, hd']
    · rename_i hne
      simp only [Act.put]
      rw [Array.getElem?_setIfInBounds_ne (Ne.symm hne)]
      exact h.vals t u hu

theorem FrOk.eval {n : Nat} {fr : Fr} {a : Act} (h : FrOk n fr a) {x : Operand} (hx : kn1 fr x = true) : a.eval x = evd fr x := by
  cases x with
  | tmp t =>
    simp only [kn1] at hx
    obtain ⟨v, hv⟩ := Option.isSome_iff_exists.1 hx
    simp only [Act.eval, evd, hv, Option.getD_some]
    have := h.vals t v hv
    simp [Array.getD_eq_getD_getElem?, this]
  | _ => rfl

theorem FrOk.exec {n : Nat} {fr : Fr} {a : Act} (h : FrOk n fr a) {o : Oper} (ho : okOp n fr o = true) : execOp a.eval o = execOp (evd fr) o := by
  simp only [okOp, Bool.and_eq_true, List.all_eq_true] at ho
  refine execOp_congr o (fun cs b e => ?_) (fun x hx => h.eval (ho.1.1 x (by simpa using hx)))
  have := ho.1.2
  simp [e, isSel] at this

/-! ### One operation -/
def ACalls (P : Program) (f : FuncId) (args : Array Value) (H : AH) (K : Value → AH → Prop) (_t : Lk (K, H, f) := .mk) : Prop :=
  ∀ E w, Sat E H w → Calls P f args w (fun e w' => ∃ v H', e = .returned v ∧ Sat E H' w' ∧ K v H')

/-- The same with one answer, and all that is known left alone. -/
def QCalls (P : Program) (f : FuncId) (args : Array Value) (H : AH) (K : Value → Prop) (_t : Lk (K, H, f) := .mk) : Prop := ∃ v, ACalls P f args H (fun v' H' => v' = v ∧ H.le H') ∧ K v

/-- A call, in a region that draws its order (q) or in another one. -/
def AC (q : Bool) (P : Program) (f : FuncId) (args : Array Value) (H : AH) (K : Value → AH → Prop) (_t : Lk (K, H, f) := .mk) : Prop :=
  match q with
  | true => QCalls P f args H (fun v => K v H)
  | false => ACalls P f args H K

def anext (q : Bool) (P : Program) (K : Value → AH → Prop) : Next → AH → Prop
  | .value v, H => K v H
  | .skip, H => K undef H
  | .enter f args, H => AC q P f args H K
  | _, _ => False

/-- What the operation comes to, whatever the world is. -/
def ASem (P : Program) (s : Sem Next) (H : AH) (K : Value → AH → Prop) (_t : Lk (K, H) := .mk) : Prop :=
  ∀ E w, Sat E H w → ∃ nx w' H', s.run P w = .ok nx w' ∧ Sat E H' w' ∧ anext false P K nx H'

theorem ASem.of_arun {P : Program} {s : Sem Next} {H : AH} {K : Value → AH → Prop} (h : arun P s H (anext false P K)) : ASem P s H K :=
  fun _ w hs => arun_sound P s H _ w h hs

theorem ACalls.mono {P : Program} {f : FuncId} {args : Array Value} {H : AH} {K K' : Value → AH → Prop} (h : ACalls P f args H K) (hk : ∀ v H', K v H' → K' v H') : ACalls P f args H K' :=
  fun E w hs => (h E w hs).mono fun e w' ⟨v, H', h1, h2, h3⟩ => ⟨v, H', h1, h2, hk _ _ h3⟩

theorem ACalls.weak {P : Program} {f : FuncId} {args : Array Value} {H H1 : AH} {K : Value → AH → Prop} (hl : H1.le H) (h : ACalls P f args H1 K) : ACalls P f args H K :=
  fun E w hs => h E w (hs.mono hl)

inductive Cls where
  | read | write | other
  deriving DecidableEq

def bcls : Builtin → Cls
  | .len | .cap | .min | .max => .read
  | _ => .other

def cls : Op → Cls
  | .alloc _ | .box .. | .buildSlice .. | .store .. | .makeSlice .. | .makeMap .. => .write
  | .call { callee := .builtin b, .. } => bcls b
  | .lookup .. | .mapUpdate .. | .mapEntry .. | .entryStore .. | .insert .. | .range .. | .next .. | .entry _ => .other
  | _ => .read

def aop (q : Bool) (P : Program) (fr : Fr) (H : AH) (o : Oper) (K : Value → AH → Prop) : Prop :=
  match cls o.op with
  | .read => match qrun P (execOp (evd fr) o) H with
    | some nx => anext q P K nx H
    | none => False
  | .write => q = false ∧ arun P (execOp (evd fr) o) H (anext false P K)
  | .other => q = false ∧ ASem P (execOp (evd fr) o) H K

theorem aop_sem {P : Program} {fr : Fr} {H : AH} {o : Oper} {K : Value → AH → Prop} (h : aop false P fr H o K) : ASem P (execOp (evd fr) o) H K := by
  unfold aop at h
  split at h
  · split at h
    · rename_i nx hn; exact fun _ w hs => ⟨nx, w, H, qrun_sound P _ H nx w hn hs, hs, h⟩
    · exact h.elim
  · exact .of_arun h.2
  · exact h.2

theorem ASem.wp {P : Program} {n : Nat} {fr : Fr} {H : AH} {o : Oper} {K : Value → AH → Prop} {a : Act} {w : World} {next : Act → World → Prop} {Q : Exit → Act → World → Prop} {E : Nat → Option Obj}
    (h : ASem P (execOp (evd fr) o) H K) (hf : FrOk n fr a) (ho : okOp n fr o = true) (hs : Sat E H w)
    (hk : ∀ v H' w', K v H' → Sat E H' w' → next (a.put o.dst v) w') : o.wp P a w next Q := by
  obtain ⟨nx, w', H', hr, hs', hn⟩ := h E w hs
  unfold Oper.wp
  rw [hf.exec ho, hr]
  cases nx <;> simp only [anext] at hn <;> try exact hn.elim
  · exact hk _ _ _ hn hs'
  · exact hk _ _ _ hn hs'
  · refine (hn E w' hs').mono ?_
    rintro e w'' ⟨v, H2, rfl, h2, h3⟩
    exact hk _ _ _ h3 h2

/-! ### Regions -/
def aguard (ds : List (Option Tmp)) (fr : Fr) (o : Oper) : Option Bool :=
  match o.guard with
  | none => some true
  | some (j, want) => match ds[j]?.bind id with
    | none => some false
    | some d => match alk d fr with
      | none => none
      | some (.bool b) => some (b == want)
      | some _ => some false

theorem aguard_sound {n : Nat} {fr : Fr} {a : Act} {ops : Array Oper} {o : Oper} {g : Bool} (hf : FrOk n fr a) (h : aguard (ops.toList.map (·.dst)) fr o = some g) : Region.wanted o (yielded ops a.tmps) = g := by
  unfold aguard at h
  unfold Region.wanted
  split at h
  · rename_i hg; rw [hg]; simpa using h
  · rename_i j want hg
    rw [hg]
    simp only [List.getElem?_map] at h
    have e : ((ops[j]?).bind (·.dst)) = ((ops.toList[j]?.map (·.dst)).bind id) := by
      cases hj : ops[j]? <;> simp [hj]
    simp only [yielded, e]
    split at h
    · rename_i hd; rw [hd]; simpa using h
    · rename_i d hd
      rw [hd]
      split at h
      · cases h
      · rename_i b hb
        have := hf.vals _ _ hb
        simp only [Option.bind_some, this, Option.some.injEq] at h ⊢
        rw [← h]; cases b <;> cases want <;> rfl
      · rename_i v hv hb
        have := hf.vals _ _ hb
        simp only [Option.bind_some, this]
        simp only [Option.some.injEq] at h
        subst h
        cases v <;> first | rfl | (rename_i b; exact absurd rfl (hv b))

/-- The frame behind a guard that was asked: its slot holds just what the answer says. -/
def gov (ds : List (Option Tmp)) (fr : Fr) (o : Oper) (g : Bool) : Fr :=
  match o.guard with
  | none => fr
  | some (j, want) => match ds[j]?.bind id with
    | none => fr
    | some d => match alk d fr with
      | some (.bool _) => (d, .bool (if g = true then want else !want)) :: fr
      | _ => fr

theorem gov_same {ds : List (Option Tmp)} {fr : Fr} {o : Oper} {g : Bool} (h : aguard ds fr o = some g) (t : Nat) : alk t (gov ds fr o g) = alk t fr := by
  unfold aguard at h
  unfold gov
  cases hg : o.guard with
  | none => rfl
  | some jw =>
    obtain ⟨j, want⟩ := jw
    simp only [hg] at h ⊢
    cases hd : ds[j]?.bind id with
    | none => rfl
    | some d =>
      simp only [hd] at h ⊢
      cases hb : alk d fr with
      | none => rfl
      | some b =>
        simp only [hb] at h ⊢
        cases b <;> try rfl
        rename_i b
        simp only [Option.some.injEq] at h
        simp only [alk_cons]
        split
        · rename_i e; subst e
          rw [hb]
          subst h
          cases b <;> cases want <;> rfl
        · rfl

def aops (q : Bool) (P : Program) (n : Nat) (ds : List (Option Tmp)) : List Oper → Fr → AH → (Fr → AH → Prop) → Prop
  | [], fr, H, K => K fr H
  | o :: rest, fr, H, K =>
    match aguard ds fr o with
    | none => False
    | some g => (g = true → okOp n (gov ds fr o true) o = true ∧ aop q P (gov ds fr o true) H o (fun v H' => aops q P n ds rest (putf o.dst v (gov ds fr o true)) H' K)) ∧
      (g = false → dok n o.dst = true ∧ aops q P n ds rest (putf o.dst undef (gov ds fr o false)) H K)

theorem FrOk.gov {n : Nat} {fr : Fr} {a : Act} {ds : List (Option Tmp)} {o : Oper} {g : Bool} (hf : FrOk n fr a) (h : aguard ds fr o = some g) : FrOk n (gov ds fr o g) a :=
  ⟨hf.defers, hf.size, fun t v hv => hf.vals t v (by rw [gov_same h] at hv; exact hv)⟩

theorem aops_sound {E : Nat → Option Obj} {P : Program} {n : Nat} {ops : Array Oper} {Q : Exit → Act → World → Prop} {K : Fr → AH → Prop}
    (hQ : ∀ fr H a w, FrOk n fr a → Sat E H w → K fr H → Q .normal a w) : ∀ (l : List Oper) (fr : Fr) (H : AH) (a : Act) (w : World), aops false P n (ops.toList.map (·.dst)) l fr H K → FrOk n fr a → Sat E H w → wpList P ops Q l a w
  | [], fr, H, a, w, h, hf, hs => hQ _ _ _ _ hf hs h
  | o :: rest, fr, H, a, w, h, hf, hs => by
    simp only [aops] at h
    split at h
    · exact h.elim
    · rename_i g hg
      have hw := aguard_sound hf hg
      simp only [wpList, hw]
      cases g with
      | true =>
        obtain ⟨ho, h1⟩ := h.1 rfl
        have hd : dok n o.dst = true := by simp only [okOp, Bool.and_eq_true] at ho; exact ho.2
        simp only [if_true]
        exact .inl ((aop_sem h1).wp (hf.gov hg) ho hs fun v H' w' hk hs' => aops_sound hQ rest _ _ _ _ hk ((hf.gov hg).put hd v) hs')
      | false =>
        obtain ⟨hd, h1⟩ := h.2 rfl
        simp only [Bool.false_eq_true, if_false]
        exact aops_sound hQ rest _ _ _ _ h1 ((hf.gov hg).put hd _) hs

end Go.AX
