/- A region that draws its order: reads, operations that make a block, and a chain of others. One order is walked; the others come to the same. -/
import Derived.Test.YtmkbpdlijfjgkaaDoorAx15
namespace Go.AX
set_option linter.unusedSimpArgs false
set_option linter.unusedVariables false
open Go Go.RowKit

/-- rd: reads what stays; pu: reads no block of ours; al: makes a block; ch: of the chain. -/
inductive Cl where
  | rd | pu | al | ch
  deriving DecidableEq

inductive En where
  | op (c : Cl) (i : Nat)
  | ea (b : Nat) (k : ABlk)

def En.idx : En → Option Nat
  | .op _ i => some i
  | .ea .. => none

/-! ### Blocks made early -/
def phy : List En → AH → AH
  | [], H => H
  | .ea b k :: l, H => phy l (H.add b k)
  | .op .. :: l, H => phy l H
def frs : List En → AH → Prop
  | [], _ => True
  | .ea b k :: l, H => Fresh H b ∧ frs l (H.add b k)
  | .op .. :: l, H => frs l H

def AEq (A B : AH) : Prop := A.w0 = B.w0 ∧ ∀ x, A.find x = B.find x
theorem AEq.refl (A : AH) : AEq A A := ⟨rfl, fun _ => rfl⟩
theorem AEq.trans {A B C : AH} (h : AEq A B) (k : AEq B C) : AEq A C := ⟨h.1.trans k.1, fun x => (h.2 x).trans (k.2 x)⟩
theorem AEq.symm {A B : AH} (h : AEq A B) : AEq B A := ⟨h.1.symm, fun x => (h.2 x).symm⟩
theorem AEq.le {A B : AH} (h : AEq A B) : A.le B := ⟨h.1, fun b k hk => by rw [← h.2]; exact hk⟩
theorem AEq.add {A B : AH} (h : AEq A B) (b : Nat) (k : ABlk) : AEq (A.add b k) (B.add b k) := ⟨h.1, fun x => by rw [find_add, find_add, h.2]⟩
theorem AEq.fresh {A B : AH} (h : AEq A B) {b : Nat} (hf : Fresh A b) : Fresh B b := ⟨h.1 ▸ hf.1, by rw [← h.2]; exact hf.2⟩
theorem AEq.swap {H : AH} {b b' : Nat} {k k' : ABlk} (h : b ≠ b') : AEq ((H.add b k).add b' k') ((H.add b' k').add b k) := ⟨rfl, fun x => by
  simp only [find_add]
  by_cases h1 : x = b'
  · subst h1; simp [Ne.symm h]
  · simp [h1]⟩
theorem AEq.phy : ∀ (l : List En) {A B : AH}, AEq A B → AEq (phy l A) (phy l B)
  | [], _, _, h => h
  | .ea b k :: l, _, _, h => AEq.phy l (h.add b k)
  | .op .. :: l, _, _, h => AEq.phy l h
theorem AEq.frs : ∀ (l : List En) {A B : AH}, AEq A B → frs l A → frs l B
  | [], _, _, _, _ => trivial
  | .ea b k :: l, _, _, h, hf => ⟨h.fresh hf.1, AEq.frs l (h.add b k) hf.2⟩
  | .op .. :: l, _, _, h, hf => AEq.frs l h hf
theorem phy_le : ∀ (l : List En) {H : AH}, frs l H → H.le (phy l H)
  | [], H, _ => AH.le_refl H
  | .ea b k :: l, H, hf => AH.le_trans (AH.le_add (AH.le_refl H) hf.1.2) (phy_le l hf.2)
  | .op .. :: l, H, hf => phy_le l (H := H) hf
theorem phy_w0 : ∀ (l : List En) (H : AH), (phy l H).w0 = H.w0
  | [], _ => rfl
  | .ea b k :: l, H => (phy_w0 l (H.add b k)).trans rfl
  | .op .. :: l, H => phy_w0 l H
theorem Fresh.of_le {A B : AH} {b : Nat} (h : A.le B) (hf : Fresh B b) : Fresh A b := ⟨h.1 ▸ hf.1, by
  cases hx : A.find b with
  | none => rfl
  | some k => have := h.2 _ _ hx; rw [hf.2] at this; cases this⟩
/-- One more, behind all. -/
theorem phy_add : ∀ (l : List En) {H : AH} {b : Nat} {k : ABlk}, frs l H → Fresh (phy l H) b → frs l (H.add b k) ∧ AEq (phy l (H.add b k)) ((phy l H).add b k)
  | [], H, b, k, _, _ => ⟨trivial, AEq.refl _⟩
  | .op .. :: l, H, b, k, h1, h2 => phy_add l (H := H) h1 h2
  | .ea b' k' :: l, H, b, k, h1, h2 => by
    have hb : Fresh (H.add b' k') b := Fresh.of_le (phy_le l h1.2) h2
    have hne : b ≠ b' := by
      intro e; subst e
      have := hb.2
      rw [find_add_self] at this; cases this
    obtain ⟨h3, h4⟩ := phy_add l (H := H.add b' k') (k := k) h1.2 h2
    have hs := AEq.swap (H := H) (b := b) (b' := b') (k := k) (k' := k') hne
    refine ⟨⟨⟨h1.1.1, by rw [find_add, if_neg (Ne.symm hne)]; exact h1.1.2⟩, AEq.frs l hs.symm h3⟩, (AEq.phy l hs).trans h4⟩
theorem phy_append : ∀ (l l' : List En) (H : AH), phy (l ++ l') H = phy l' (phy l H)
  | [], _, _ => rfl
  | .ea b k :: l, l', H => phy_append l l' (H.add b k)
  | .op .. :: l, l', H => phy_append l l' H
theorem frs_append : ∀ (l l' : List En) (H : AH), frs (l ++ l') H ↔ frs l H ∧ frs l' (phy l H)
  | [], _, _ => by simp [frs, phy]
  | .ea b k :: l, l', H => by
    simp only [List.cons_append, frs, phy, frs_append l l' (H.add b k), and_assoc]
  | .op .. :: l, l', H => by
    simp only [List.cons_append, frs, phy, frs_append l l' H]

/-- Early blocks as other blocks: what is done beneath them is done with them. -/
theorem Sat.under' : ∀ (l : List En) {H : AH} {E : Nat → Option Obj} {w : World}, frs l H → Sat E (phy l H) w →
    ∃ E1, Sat E1 H w ∧ ∀ H' w', Sat E1 H' w' → Sat E (phy l H') w' ∧ frs l H'
  | [], H, E, w, _, hs => ⟨E, hs, fun _ _ h => ⟨h, trivial⟩⟩
  | .op .. :: l, H, E, w, hf, hs => Sat.under' l (H := H) hf hs
  | .ea b k :: l, H, E, w, hf, hs => by
    obtain ⟨E1, h1, h2⟩ := Sat.under' l (H := H.add b k) hf.2 hs
    obtain ⟨o, ho, h3, h4⟩ := h1.hoist hf.1
    refine ⟨fun x => if x = b then some o else E1 x, h3, fun H' w' h' => ?_⟩
    have hb : (fun x => if x = b then some o else E1 x) b = some o := by simp
    have h5 := h'.absorb hb ho
    have h6 : Sat E1 (H'.add b k) w' := h5.few fun x o' hx => by
      by_cases e : x = b
      · subst e; rw [h4] at hx; cases hx
      · simp [e, hx]
    exact ⟨(h2 _ _ h6).1, h'.fresh hb, (h2 _ _ h6).2⟩

section
variable {P : Program} {ops : Array Oper}

/-! ### The run of one operation, as far as it is asked -/
def OpOk (P : Program) (ops : Array Oper) (j : Nat) (o : Oper) (a : Act) (H : AH) (N : Value → AH → Prop) : Prop :=
  ∀ E w, Sat E H w → wpOp P ops Q0 j (fun a' w' => ∃ v H', a' = a.put o.dst v ∧ Sat E H' w' ∧ N v H') a w

theorem wpOp_some {j : Nat} {K : Act → World → Prop} {a : Act} {w : World} (h : wpOp P ops Q0 j K a w) : ∃ a' w', K a' w' := by
  have hl : ¬ LetsOut Q0 := fun ⟨_, _, h⟩ => h
  unfold wpOp at h
  split at h
  · exact ⟨_, _, h⟩
  · rename_i o ho
    split at h
    · rcases h with h | ⟨_, hl'⟩
      case inr => exact absurd hl' hl
      unfold Oper.wp at h
      generalize (execOp a.eval o).run P w = r at *
      cases r with
      | ok n w' =>
        cases n <;> simp only [Oper.upon] at h
        case value u => exact ⟨_, _, h⟩
        case skip => exact ⟨_, _, h⟩
        case defer d => exact ⟨_, _, h⟩
        case enter f args =>
          obtain ⟨e, w'', fr, he, _⟩ := h []
          cases e with
          | returned u => exact ⟨_, _, he⟩
          | panicked c => exact he.elim
          | outgrown => exact absurd he hl
        case row row args =>
          obtain ⟨v, w'', he, _⟩ := h (Frame.enter P 0 #[] .normal) []
          exact ⟨_, _, he⟩
      | halt x w' =>
        cases x <;> simp only [Oper.upon] at h
        case panic u => exact h.elim
    · exact ⟨_, _, h⟩

theorem wpOp_put {j : Nat} {oj : Oper} (hj : ops[j]? = some oj) {d : Option Tmp} (hd : ∀ t, d = some t → t ∉ oj.looksAt ops) (hne : ∀ t, d = some t → oj.dst ≠ some t) (hsj : ∀ cs b, oj.op ≠ .select cs b) {M : Value → World → Prop} (u : Value) {a : Act} {w : World}
    (h : wpOp P ops Q0 j (fun a' w' => ∃ v, a' = a.put oj.dst v ∧ M v w') a w) : wpOp P ops Q0 j (fun a' w' => ∃ v, a' = (a.put d u).put oj.dst v ∧ M v w') (a.put d u) w := by
  have hl : ¬ LetsOut Q0 := fun ⟨_, _, h⟩ => h
  have key : ∀ v w', (∃ v', a.put oj.dst v = a.put oj.dst v' ∧ M v' w') → ∃ v', (a.put d u).put oj.dst v = (a.put d u).put oj.dst v' ∧ M v' w' := fun v w' ⟨v', h1, h2⟩ =>
    ⟨v', by rw [Act.put_comm a u v hne, Act.put_comm a u v' hne, h1], h2⟩
  unfold wpOp at *
  simp only [hj] at *
  rw [wanted_put oj a d u hd]
  split
  · rename_i hw
    simp only [hw, if_true] at h
    rcases h with h | ⟨_, hl'⟩
    case inr => exact absurd hl' hl
    refine .inl ?_
    unfold Oper.wp at *
    rw [execOp_put oj hsj a d u hd]
    generalize (execOp a.eval oj).run P w = r at *
    cases r with
    | ok n w' =>
      cases n <;> simp only [Oper.upon] at h ⊢
      case value u => exact key _ _ h
      case skip => exact key _ _ h
      case defer d' =>
        obtain ⟨v, h1, _⟩ := h
        exfalso
        have h2 := congrArg (fun a : Act => a.defers.length) h1
        have h3 : ∀ (a : Act) d v, (a.put d v).defers = a.defers := fun a d v => by cases d <;> rfl
        simp only [h3, List.length_cons] at h2
        omega
      case enter f args =>
        refine Calls.mono h fun e w'' he => ?_
        cases e with
        | returned u => exact key _ _ he
        | panicked c => exact he.elim
        | outgrown => exact absurd he hl
      case row row args => exact Rows.mono h fun u w'' he => key _ _ he
    | halt x w' =>
      cases x <;> simp only [Oper.upon] at h ⊢
      case panic u => exact h.elim
  · rename_i hw
    simp only [hw] at h
    exact key _ _ h

/-! ### Apart -/
def Ap (ops : Array Oper) (x y : Oper) : Prop := (∀ d, x.dst = some d → d ∉ y.looksAt ops) ∧ (∀ d, x.dst = some d → y.dst ≠ some d) ∧ (∀ d, y.dst = some d → d ∉ x.looksAt ops)
theorem Ap.symm {x y : Oper} (h : Ap ops x y) : Ap ops y x := ⟨h.2.2, fun d hd he => h.2.1 d he hd, h.1⟩
theorem OpOk.put' {j : Nat} {oi oj : Oper} {a : Act} {H : AH} {N : Value → AH → Prop} (hj : ops[j]? = some oj) (hap : Ap ops oi oj) (hsj : ∀ cs b, oj.op ≠ .select cs b) (u : Value) (h : OpOk P ops j oj a H N) : OpOk P ops j oj (a.put oi.dst u) H N := by
  intro E w hs
  obtain ⟨h1, h2, h3⟩ := hap
  have := wpOp_put (P := P) hj (d := oi.dst) h1 h2 hsj (M := fun v w' => ∃ H', Sat E H' w' ∧ N v H') u (wpOp_mono' (fun a' w' ⟨v, H', q1, q2⟩ => ⟨v, q1, H', q2⟩) (h E w hs))
  exact wpOp_mono' (fun a' w' ⟨v, q1, H', q2⟩ => ⟨v, H', q1, q2⟩) this
def old (a : Act) : Option Tmp → Value
  | some d => a.tmps.getD d undef
  | none => undef
theorem put_old (a : Act) (d : Option Tmp) (u : Value) : (a.put d u).put d (old a d) = a := by
  cases d with
  | none => rfl
  | some d =>
    simp only [Act.put, old]
    have : (a.tmps.setIfInBounds d u).setIfInBounds d (a.tmps.getD d undef) = a.tmps := by
      apply Array.ext_getElem?
      intro i
      by_cases e : d = i
      · subst e
        by_cases hlt : d < a.tmps.size
        · simp [Array.getElem?_setIfInBounds, hlt]
        · simp [Array.getElem?_setIfInBounds, hlt]
      · simp [Array.getElem?_setIfInBounds_ne e]
    rw [this]
theorem OpOk.back' {j : Nat} {oi oj : Oper} {a : Act} {H : AH} {N : Value → AH → Prop} (hj : ops[j]? = some oj) (hap : Ap ops oi oj) (hsj : ∀ cs b, oj.op ≠ .select cs b) (u : Value) (h : OpOk P ops j oj (a.put oi.dst u) H N) : OpOk P ops j oj a H N := by
  have := OpOk.put' (P := P) hj hap hsj (old a oi.dst) h
  rwa [put_old] at this
theorem RY.put' {C : World → Prop} {oi oj : Oper} {v : Value} {a : Act} (hap : Ap ops oj oi) (hsi : ∀ cs b, oi.op ≠ .select cs b) (u : Value) (hy : RY P ops C oi v a) : RY P ops C oi v (a.put oj.dst u) :=
  hy.of_same (execOp_put oi hsi a oj.dst u hap.1) (wanted_put oi a oj.dst u hap.1)
theorem RY.back' {C : World → Prop} {oi oj : Oper} {v : Value} {a : Act} (hap : Ap ops oj oi) (hsi : ∀ cs b, oi.op ≠ .select cs b) (u : Value) (hy : RY P ops C oi v (a.put oj.dst u)) : RY P ops C oi v a :=
  hy.of_same (execOp_put oi hsi a oj.dst u hap.1).symm (wanted_put oi a oj.dst u hap.1).symm
theorem RY.uniq {C : World → Prop} {o : Oper} {v v' : Value} {a : Act} (hC : ∃ w, C w) (h : RY P ops C o v a) (h' : RY P ops C o v' a) : v = v' := by
  obtain ⟨w, hw⟩ := hC
  rcases h with ⟨h1, h2⟩ | ⟨h1, rfl⟩
  · rcases h' with ⟨_, h3⟩ | ⟨h3, _⟩
    · have := h2 w hw
      rw [h3 w hw] at this
      cases this; rfl
    · rw [h1] at h3; cases h3
  · rcases h' with ⟨h3, _⟩ | ⟨_, rfl⟩
    · rw [h1] at h3; cases h3
    · rfl
theorem alc_put {oi oj : Oper} {a : Act} (hap : Ap ops oj oi) (u : Value) : alc P oi.op (a.put oj.dst u).eval = alc P oi.op a.eval :=
  alc_congr fun x hx => Act.eval_put fun d hd hxd => hap.1 d hd (by
    subst hxd
    exact List.mem_append_left _ (List.mem_filterMap.2 ⟨.tmp d, by simpa using hx, rfl⟩))

/-! ### What is left to do -/
section
variable (P) (ops) (Hc : AH) (m : Nat) (R : Act → AH → Prop)
def CX : Cl → World → Prop
  | .rd => fun w => ∃ E, Sat E Hc w
  | _ => fun _ => True
def GG : List En → Act → AH → Prop
  | [], a, H => R a H
  | .ea b k :: l, a, H => Fresh H b → GG l a (H.add b k)
  | .op c i :: l, a, H => match c with
    | .al => ∃ o p, ops[i]? = some o ∧ o.guard = none ∧ alc P o.op a.eval = some p ∧ ∀ b, Fresh H b → GG l (a.put o.dst (p.1 b)) (H.add b p.2)
    | .ch => ∃ o N, ops[i]? = some o ∧ OpOk P ops i o a H N ∧ ∀ v H', N v H' → (i < m → Hc.le H') ∧ GG l (a.put o.dst v) H'
    | c => ∃ o v, ops[i]? = some o ∧ RY P ops (CX Hc c) o v a ∧ GG l (a.put o.dst v) H
end
def ids (l : List En) : List Nat := l.filterMap En.idx
theorem ids_app (l l' : List En) : ids (l ++ l') = ids l ++ ids l' := List.filterMap_append
theorem ids_op {c : Cl} {i : Nat} {l : List En} : ids (.op c i :: l) = i :: ids l := rfl
theorem ids_ea {b : Nat} {k : ABlk} {l : List En} : ids (.ea b k :: l) = ids l := rfl

variable {Hc : AH} {m : Nat} {R : Act → AH → Prop}
/-- All that stand ahead are apart. -/
def Aps (ops : Array Oper) (oi : Oper) (l : List En) : Prop := ∀ h oh, h ∈ ids l → ops[h]? = some oh → Ap ops oh oi
theorem Aps.tail {oi : Oper} {e : En} {l : List En} (h : Aps ops oi (e :: l)) : Aps ops oi l := fun x ox hx => h x ox (by
  cases e with
  | op c i => rw [ids_op]; exact List.mem_cons_of_mem _ hx
  | ea b k => exact hx)
theorem Aps.head {oi oh : Oper} {c : Cl} {i : Nat} {l : List En} (h : Aps ops oi (.op c i :: l)) (ho : ops[i]? = some oh) : Ap ops oh oi := h i oh (by rw [ids_op]; simp) ho

/-- What holds at an operation's turn, and does not look at what was done ahead, holds now. -/
theorem GG_ext {oi : Oper} {e : En} {post : List En} (Φ : Act → Prop) (h0 : ∀ a H, GG P ops Hc m R (e :: post) a H → Φ a)
    (hb : ∀ oh u a, Ap ops oh oi → Φ (a.put oh.dst u) → Φ a) : ∀ (pre : List En) (a : Act) (H : AH) (E : Nat → Option Obj) (w : World), Aps ops oi pre →
      frs pre H → Sat E (phy pre H) w → GG P ops Hc m R (pre ++ e :: post) a H → Φ a
  | [], a, H, _, _, _, _, _, h => h0 a H h
  | .ea b k :: pre, a, H, E, w, ha, hf, hs, h => GG_ext Φ h0 hb pre a _ E w ha.tail hf.2 hs (h hf.1)
  | .op .rd i :: pre, a, H, E, w, ha, hf, hs, h => by
    obtain ⟨o, v, h1, h2, h3⟩ := h
    exact hb o v a (ha.head h1) (GG_ext Φ h0 hb pre _ H E w ha.tail hf hs h3)
  | .op .pu i :: pre, a, H, E, w, ha, hf, hs, h => by
    obtain ⟨o, v, h1, h2, h3⟩ := h
    exact hb o v a (ha.head h1) (GG_ext Φ h0 hb pre _ H E w ha.tail hf hs h3)
  | .op .al i :: pre, a, H, E, w, ha, hf, hs, h => by
    obtain ⟨o, p, h1, h2, h3, h4⟩ := h
    obtain ⟨nx, w', H', q1, q2, q3⟩ := alc_sound (o := o) h3 (phy pre H) E w hs
    cases nx <;> simp only [anext] at q3
    case value v =>
      obtain ⟨b, hb1, rfl, rfl⟩ := q3
      obtain ⟨q4, q5⟩ := phy_add pre (k := p.2) hf hb1
      exact hb o _ a (ha.head h1) (GG_ext Φ h0 hb pre _ _ E w' ha.tail q4 (q2.mono q5.le) (h4 b (Fresh.of_le (phy_le pre hf) hb1)))
    case skip =>
      obtain ⟨b, hb1, hv, rfl⟩ := q3
      obtain ⟨q4, q5⟩ := phy_add pre (k := p.2) hf hb1
      exact hb o _ a (ha.head h1) (GG_ext Φ h0 hb pre _ _ E w' ha.tail q4 (q2.mono q5.le) (h4 b (Fresh.of_le (phy_le pre hf) hb1)))
    case enter f args =>
      obtain ⟨e, w'', fr, ⟨v, H2, _, q4, b, hb1, _, rfl⟩, _⟩ := q3 E w' q2 []
      obtain ⟨q5, q6⟩ := phy_add pre (k := p.2) hf hb1
      exact hb o _ a (ha.head h1) (GG_ext Φ h0 hb pre _ _ E w'' ha.tail q5 (q4.mono q6.le) (h4 b (Fresh.of_le (phy_le pre hf) hb1)))
  | .op .ch i :: pre, a, H, E, w, ha, hf, hs, h => by
    obtain ⟨o, N, h1, h2, h3⟩ := h
    obtain ⟨E1, q1, q2⟩ := Sat.under' pre (H := H) hf hs
    obtain ⟨a', w', v, H', rfl, q3, q4⟩ := wpOp_some (h2 E1 w q1)
    obtain ⟨q5, q6⟩ := q2 _ _ q3
    exact hb o v a (ha.head h1) (GG_ext Φ h0 hb pre _ H' E w' ha.tail q6 q5 (h3 v H' q4).2)

section
variable (hsel : ∀ (j : Nat) (o : Oper) cs b, ops[j]? = some o → o.op ≠ .select cs b)
include hsel
/-- A read, done now. -/
theorem GG_rd {c : Cl} {i : Nat} {oi : Oper} {v : Value} {post : List En} (hc : c = .rd ∨ c = .pu) (hi : ops[i]? = some oi) (hne : ∃ w, CX Hc c w) : ∀ (pre : List En) (a : Act) (H : AH), Aps ops oi pre →
    GG P ops Hc m R (pre ++ .op c i :: post) a H → RY P ops (CX Hc c) oi v a → GG P ops Hc m R (pre ++ post) (a.put oi.dst v) H
  | [], a, H, _, h, hy => by
    have : ∃ o v, ops[i]? = some o ∧ RY P ops (CX Hc c) o v a ∧ GG P ops Hc m R post (a.put o.dst v) H := by
      rcases hc with rfl | rfl <;> exact h
    obtain ⟨o, v', h1, h2, h3⟩ := this
    rw [hi] at h1; cases h1
    rw [hy.uniq hne h2]; exact h3
  | .ea b k :: pre, a, H, ha, h, hy => fun hb => GG_rd hc hi hne pre a _ ha.tail (h hb) hy
  | .op .rd j :: pre, a, H, ha, h, hy => by
    obtain ⟨o, u, h1, h2, h3⟩ := h
    have hap := ha.head h1
    refine ⟨o, u, h1, h2.put' hap.symm (fun cs b => hsel j o cs b h1) v, ?_⟩
    rw [Act.put_comm a v u hap.symm.2.1]
    exact GG_rd hc hi hne pre _ H ha.tail h3 (hy.put' hap (fun cs b => hsel i oi cs b hi) u)
  | .op .pu j :: pre, a, H, ha, h, hy => by
    obtain ⟨o, u, h1, h2, h3⟩ := h
    have hap := ha.head h1
    refine ⟨o, u, h1, h2.put' hap.symm (fun cs b => hsel j o cs b h1) v, ?_⟩
    rw [Act.put_comm a v u hap.symm.2.1]
    exact GG_rd hc hi hne pre _ H ha.tail h3 (hy.put' hap (fun cs b => hsel i oi cs b hi) u)
  | .op .al j :: pre, a, H, ha, h, hy => by
    obtain ⟨o, p, h1, h2, h3, h4⟩ := h
    have hap := ha.head h1
    refine ⟨o, p, h1, h2, by rw [alc_put hap.symm]; exact h3, fun b hb => ?_⟩
    rw [Act.put_comm a v (p.1 b) hap.symm.2.1]
    exact GG_rd hc hi hne pre _ _ ha.tail (h4 b hb) (hy.put' hap (fun cs b => hsel i oi cs b hi) _)
  | .op .ch j :: pre, a, H, ha, h, hy => by
    obtain ⟨o, N, h1, h2, h3⟩ := h
    have hap := ha.head h1
    refine ⟨o, N, h1, h2.put' h1 hap.symm (fun cs b => hsel j o cs b h1) v, fun u H' hN => ⟨(h3 u H' hN).1, ?_⟩⟩
    rw [Act.put_comm a v u hap.symm.2.1]
    exact GG_rd hc hi hne pre _ _ ha.tail (h3 u H' hN).2 (hy.put' hap (fun cs b => hsel i oi cs b hi) u)

/-- A block, made now. -/
theorem GG_al {i : Nat} {oi : Oper} {p : (Nat → Value) × ABlk} {b : Nat} {post : List En} (hi : ops[i]? = some oi) : ∀ (pre : List En) (a : Act) (H : AH), Aps ops oi pre →
    GG P ops Hc m R (pre ++ .op .al i :: post) a H → alc P oi.op a.eval = some p → GG P ops Hc m R (pre ++ .ea b p.2 :: post) (a.put oi.dst (p.1 b)) H
  | [], a, H, _, h, hy => by
    obtain ⟨o, p', h1, h2, h3, h4⟩ := h
    rw [hi] at h1; cases h1
    rw [hy] at h3; cases h3
    exact fun hb => h4 b hb
  | .ea b' k :: pre, a, H, ha, h, hy => fun hb => GG_al hi pre a _ ha.tail (h hb) hy
  | .op .rd j :: pre, a, H, ha, h, hy => by
    obtain ⟨o, u, h1, h2, h3⟩ := h
    have hap := ha.head h1
    refine ⟨o, u, h1, h2.put' hap.symm (fun cs b => hsel j o cs b h1) _, ?_⟩
    rw [Act.put_comm a _ u hap.symm.2.1]
    exact GG_al hi pre _ H ha.tail h3 (by rw [alc_put hap]; exact hy)
  | .op .pu j :: pre, a, H, ha, h, hy => by
    obtain ⟨o, u, h1, h2, h3⟩ := h
    have hap := ha.head h1
    refine ⟨o, u, h1, h2.put' hap.symm (fun cs b => hsel j o cs b h1) _, ?_⟩
    rw [Act.put_comm a _ u hap.symm.2.1]
    exact GG_al hi pre _ H ha.tail h3 (by rw [alc_put hap]; exact hy)
  | .op .al j :: pre, a, H, ha, h, hy => by
    obtain ⟨o, p', h1, h2, h3, h4⟩ := h
    have hap := ha.head h1
    refine ⟨o, p', h1, h2, by rw [alc_put hap.symm]; exact h3, fun b' hb => ?_⟩
    rw [Act.put_comm a _ (p'.1 b') hap.symm.2.1]
    exact GG_al hi pre _ _ ha.tail (h4 b' hb) (by rw [alc_put hap]; exact hy)
  | .op .ch j :: pre, a, H, ha, h, hy => by
    obtain ⟨o, N, h1, h2, h3⟩ := h
    have hap := ha.head h1
    refine ⟨o, N, h1, h2.put' h1 hap.symm (fun cs b => hsel j o cs b h1) _, fun u H' hN => ⟨(h3 u H' hN).1, ?_⟩⟩
    rw [Act.put_comm a _ u hap.symm.2.1]
    exact GG_al hi pre _ _ ha.tail (h3 u H' hN).2 (by rw [alc_put hap]; exact hy)

/-- One of the chain, done now: ahead of it stand reads and early blocks alone. -/
def soft : List En → Prop
  | [] => True
  | .ea .. :: l => soft l
  | .op c _ :: l => (c = .rd ∨ c = .pu) ∧ soft l
def strip : List En → List En
  | [] => []
  | .ea .. :: l => strip l
  | .op c i :: l => .op c i :: strip l
theorem GG_ch {j : Nat} {oj : Oper} {post : List En} (hj : ops[j]? = some oj) : ∀ (pre : List En) (a : Act) (H : AH), Aps ops oj pre → soft pre → frs pre H →
    GG P ops Hc m R (pre ++ .op .ch j :: post) a H → ∃ N, OpOk P ops j oj a (phy pre H) N ∧ ∀ v H', N v H' → (j < m → Hc.le H') ∧ GG P ops Hc m R (strip pre ++ post) (a.put oj.dst v) H'
  | [], a, H, _, _, _, h => by
    obtain ⟨o, N, h1, h2, h3⟩ := h
    rw [hj] at h1; cases h1
    exact ⟨N, h2, h3⟩
  | .ea b k :: pre, a, H, ha, hsf, hf, h => GG_ch hj pre a _ ha.tail hsf hf.2 (h hf.1)
  | .op .rd i :: pre, a, H, ha, hsf, hf, h => by
    obtain ⟨o, u, h1, h2, h3⟩ := h
    have hap := ha.head h1
    obtain ⟨N, q1, q2⟩ := GG_ch hj pre _ H ha.tail hsf.2 hf h3
    refine ⟨N, q1.back' hj hap (fun cs b => hsel j oj cs b hj) u, fun v H' hN => ⟨(q2 v H' hN).1, o, u, h1, h2.put' hap.symm (fun cs b => hsel i o cs b h1) v, ?_⟩⟩
    rw [Act.put_comm a v u hap.symm.2.1]
    exact (q2 v H' hN).2
  | .op .pu i :: pre, a, H, ha, hsf, hf, h => by
    obtain ⟨o, u, h1, h2, h3⟩ := h
    have hap := ha.head h1
    obtain ⟨N, q1, q2⟩ := GG_ch hj pre _ H ha.tail hsf.2 hf h3
    refine ⟨N, q1.back' hj hap (fun cs b => hsel j oj cs b hj) u, fun v H' hN => ⟨(q2 v H' hN).1, o, u, h1, h2.put' hap.symm (fun cs b => hsel i o cs b h1) v, ?_⟩⟩
    rw [Act.put_comm a v u hap.symm.2.1]
    exact (q2 v H' hN).2
  | .op .al i :: pre, a, H, ha, hsf, hf, h => by rcases hsf.1 with e | e <;> cases e
  | .op .ch i :: pre, a, H, ha, hsf, hf, h => by rcases hsf.1 with e | e <;> cases e
end
theorem phy_soft : ∀ (pre post : List En) (H : AH), phy (strip pre ++ post) H = phy post H
  | [], _, _ => rfl
  | .ea b k :: pre, post, H => phy_soft pre post H
  | .op c i :: pre, post, H => phy_soft pre post H
theorem frs_soft : ∀ (pre post : List En) (H : AH), frs (strip pre ++ post) H ↔ frs post H
  | [], _, _ => Iff.rfl
  | .ea b k :: pre, post, H => frs_soft pre post H
  | .op c i :: pre, post, H => frs_soft pre post H
theorem ids_strip : ∀ (pre : List En), ids (strip pre) = ids pre
  | [] => rfl
  | .ea b k :: pre => ids_strip pre
  | .op c i :: pre => by rw [strip, ids_op, ids_op, ids_strip pre]
theorem mem_strip : ∀ (pre : List En) (c : Cl) (i : Nat), En.op c i ∈ strip pre ↔ En.op c i ∈ pre
  | [], _, _ => Iff.rfl
  | .ea b k :: pre, c, i => by rw [strip, mem_strip pre]; simp
  | .op c' i' :: pre, c, i => by rw [strip, List.mem_cons, List.mem_cons, mem_strip pre]
theorem GG_end : ∀ (l : List En) (a : Act) (H : AH), ids l = [] → frs l H → GG P ops Hc m R l a H → R a (phy l H)
  | [], _, _, _, _, h => h
  | .ea b k :: l, a, H, hi, hf, h => GG_end l a _ hi hf.2 (h hf.1)
  | .op c i :: l, a, H, hi, hf, h => by rw [ids_op] at hi; cases hi
theorem split_of : ∀ {es : List En} {i : Nat}, i ∈ ids es → ∃ pre c post, es = pre ++ .op c i :: post
  | [], _, h => by simp [ids] at h
  | .ea b k :: l, i, h => by
    obtain ⟨pre, c, post, rfl⟩ := split_of (es := l) h
    exact ⟨.ea b k :: pre, c, post, rfl⟩
  | .op c j :: l, i, h => by
    rw [ids_op] at h
    by_cases e : i = j
    · subst e; exact ⟨[], c, l, rfl⟩
    · obtain ⟨pre, c', post, rfl⟩ := split_of (es := l) (by
        rcases List.mem_cons.1 h with h | h
        · exact absurd h e
        · exact h)
      exact ⟨.op c j :: pre, c', post, rfl⟩

/-! ### What is checked of the edges -/
def waitsB (ops : Array Oper) (i j : Nat) : Bool := Region.waitsFor .any ops i j
def ancB (ops : Array Oper) (anc : List Nat) : Bool :=
  (List.range ops.size).all fun j => anc.getD j 0 == (List.range j).foldl (fun m y => if waitsB ops j y then m ||| ((1 <<< y) ||| anc.getD y 0) else m) 0
def isAnc (anc : List Nat) (j i : Nat) : Bool := (anc.getD j 0).testBit i
def genB (ops : Array Oper) (cls : List Cl) (anc : List Nat) (m : Nat) : Bool :=
  Region.noSelect ops && decide (cls.length = ops.size) && ancB ops anc &&
  ((List.range ops.size).all fun i => match ops[i]? with | some o => o.after.all fun e => !Region.binds .any e || decide (e.on < i) | none => true) &&
  ((List.range ops.size).all fun j => (List.range j).all fun i => isAnc anc j i || match ops[i]?, ops[j]? with | some oi, some oj => oi.apart ops oj | _, _ => true) &&
  ((List.range ops.size).all fun j => decide (cls[j]? ≠ some .ch) || (List.range j).all fun i => decide (cls[i]? ≠ some .ch ∧ cls[i]? ≠ some .al) || isAnc anc j i) &&
  ((List.range ops.size).all fun j => decide (j < m) || decide (cls[j]? ≠ some .ch) || (List.range ops.size).all fun i => decide (cls[i]? ≠ some .rd) || isAnc anc j i)

theorem fold_bit (f : Nat → Bool) (g : Nat → Nat) (i : Nat) : ∀ (l : List Nat) (m : Nat), (l.foldl (fun m y => if f y then m ||| ((1 <<< y) ||| g y) else m) m).testBit i = true → m.testBit i = true ∨ ∃ y ∈ l, f y = true ∧ (y = i ∨ (g y).testBit i = true)
  | [], m, h => .inl h
  | y :: l, m, h => by
    rw [List.foldl_cons] at h
    rcases fold_bit f g i l _ h with h | ⟨z, hz, h1, h2⟩
    · split at h
      · rename_i hf
        rw [Nat.testBit_or, Nat.testBit_or, Bool.or_eq_true, Bool.or_eq_true] at h
        rcases h with h | h | h
        · exact .inl h
        · refine .inr ⟨y, by simp, hf, .inl ?_⟩
          rw [Nat.one_shiftLeft, Nat.testBit_two_pow] at h
          simpa using h
        · exact .inr ⟨y, by simp, hf, .inr h⟩
      · exact .inl h
    · exact .inr ⟨z, by simp [hz], h1, h2⟩

theorem anc_done {ops : Array Oper} {anc : List Nat} (hB : ancB ops anc = true) {D : Nat → Prop} (hD : ∀ x y, D x → waitsB ops x y = true → D y) :
    ∀ (j : Nat), j < ops.size → (∀ y, waitsB ops j y = true → D y) → ∀ i, isAnc anc j i = true → D i := by
  intro j
  induction j using Nat.strongRecOn with
  | _ j ih =>
    intro hj hw i hi
    have h1 := List.all_eq_true.1 hB j (List.mem_range.2 hj)
    simp only [beq_iff_eq] at h1
    unfold isAnc at hi
    rw [h1] at hi
    rcases fold_bit _ _ i _ _ hi with h | ⟨y, hy, h2, h3⟩
    · simp at h
    · have hyj := List.mem_range.1 hy
      have hDy := hw y h2
      rcases h3 with rfl | h3
      · exact hDy
      · exact ih y hyj (by omega) (fun z hz => hD y z hDy hz) i h3

structure GInv (ops : Array Oper) (cls : List Cl) (ls : Array Bool) (es : List En) : Prop where
  size : ls.size = ops.size
  mem : ∀ i, i ∈ ids es ↔ i < ops.size ∧ ls.getD i true = false
  pw : (ids es).Pairwise (· < ·)
  kind : ∀ c i, En.op c i ∈ es → cls[i]? = some c
  clo : ∀ x y, ls.getD x false = true → waitsB ops x y = true → ls.getD y false = true

theorem GInv.step {ops : Array Oper} {cls : List Cl} {ls : Array Bool} {pre post mid : List En} {c : Cl} {i : Nat} (inv : GInv ops cls ls (pre ++ .op c i :: post))
    (hw : ∀ y, waitsB ops i y = true → ls.getD y false = true) (hm : ids mid = []) (hk : ∀ c i, En.op c i ∉ mid) : GInv ops cls (ls.setIfInBounds i true) (pre ++ (mid ++ post)) := by
  have hids : ids (pre ++ .op c i :: post) = ids pre ++ i :: ids post := by rw [ids_app, ids_op]
  have hids' : ids (pre ++ (mid ++ post)) = ids pre ++ ids post := by rw [ids_app, ids_app, hm, List.nil_append]
  have hpw := inv.pw
  rw [hids] at hpw
  have hi : i < ops.size := ((inv.mem i).1 (by rw [hids]; simp)).1
  refine ⟨by simp [inv.size], fun j => ?_, ?_, fun c' j hj => ?_, fun x y hx hxy => ?_⟩
  · rw [hids']
    have h1 := inv.mem j
    rw [hids] at h1
    by_cases e : j = i
    · subst e
      have hd := List.pairwise_append.1 hpw
      have n1 : j ∉ ids pre := fun h => by have := hd.2.2 j h j (by simp); omega
      have n2 : j ∉ ids post := fun h => by have := (List.pairwise_cons.1 hd.2.1).1 j h; omega
      rw [getD_set_self (by rw [inv.size]; exact hi)]
      simp [n1, n2]
    · rw [getD_set_ne true (Ne.symm e), ← h1]
      simp [e]
  · rw [hids']
    exact hpw.sublist (List.Sublist.append_left (List.sublist_cons_self _ _) _)
  · refine inv.kind c' j ?_
    rcases List.mem_append.1 hj with h | h
    · exact List.mem_append_left _ h
    · rcases List.mem_append.1 h with h | h
      · exact absurd h (hk _ _)
      · exact List.mem_append_right _ (List.mem_cons_of_mem _ h)
  · by_cases e : x = i
    · subst e; exact getD_set_true (hw y hxy)
    · rw [getD_set_ne false (Ne.symm e)] at hx
      exact getD_set_true (inv.clo x y hx hxy)

theorem gen_any {cls : List Cl} {anc : List Nat} {Hc : AH} {E : Nat → Option Obj} {m : Nat} {R : Act → AH → Prop} {Q : Exit → Act → World → Prop} (hB : genB ops cls anc m = true) (hR : ∀ a H w, R a H → Sat E H w → Q .normal a w) :
    ∀ (f : Nat) (ls : Array Bool) (es : List En) (a : Act) (H : AH) (w : World), f = (ids es).length → GInv ops cls ls es → Sat E (phy es H) w → frs es H →
      ((∃ i, En.op .rd i ∈ es) → Hc.le H) → GG P ops Hc m R es a H → wpAny P .any ops Q f ls a w := by
  simp only [genB, Bool.and_eq_true, decide_eq_true_eq, List.all_eq_true, List.mem_range] at hB
  obtain ⟨⟨⟨⟨⟨⟨hns, hlen⟩, hanc⟩, hback⟩, hapart⟩, hchain⟩, hlate⟩ := hB
  have hsel : ∀ (j : Nat) (o : Oper) cs b, ops[j]? = some o → o.op ≠ .select cs b := Region.noSelect_spec hns
  have back : ∀ i y, waitsB ops i y = true → y < i := fun i y h => by
    obtain ⟨o, ho, e, he, hb, heq⟩ := Region.waitsFor_spec h
    have hlt := (Array.getElem?_eq_some_iff.1 ho).1
    have h1 := hback i hlt
    rw [ho] at h1
    have h2 := Array.all_eq_true'.1 h1 e he
    rw [← heq]; simpa [hb] using h2
  have waits_of : ∀ i o e, ops[i]? = some o → e ∈ o.after → Region.binds .any e = true → waitsB ops i e.on = true := fun i o e ho he hb => by
    unfold waitsB Region.waitsFor
    rw [ho]
    exact Array.any_eq_true'.2 ⟨e, he, by simp [hb]⟩
  intro f
  induction f with
  | zero =>
    intro ls es a H w hf inv hs hfr hrd hG
    have h1 : ids es = [] := List.eq_nil_of_length_eq_zero hf.symm
    refine ⟨?_, hR _ _ _ (GG_end es a H h1 hfr hG) hs⟩
    cases hr : Region.ready .any ops ls with
    | nil => rfl
    | cons i l =>
      obtain ⟨hun, o, ho, _⟩ := mem_ready.1 (show i ∈ Region.ready .any ops ls by rw [hr]; simp)
      have hlt := (Array.getElem?_eq_some_iff.1 ho).1
      exact absurd ((inv.mem i).2 ⟨hlt, hun⟩) (by rw [h1]; simp)
  | succ f ih =>
    intro ls es a H w hf inv hs hfr hrd hG
    refine ⟨fun h0 => ?_, fun i hi => ?_⟩
    · exfalso
      cases hq : ids es with
      | nil => rw [hq] at hf; cases hf
      | cons h tl =>
        have hh := (inv.mem h).1 (by rw [hq]; simp)
        have : h ∈ Region.ready .any ops ls := mem_ready.2 ⟨hh.2, ops[h]'hh.1, Array.getElem?_eq_getElem hh.1, fun e he hb => by
          have hw := waits_of h _ e (Array.getElem?_eq_getElem hh.1) he hb
          have hlt := back h _ hw
          refine getD_done (by rw [inv.size]; omega) fun hun => ?_
          have hm := (inv.mem e.on).2 ⟨by omega, hun⟩
          have hpw := inv.pw
          rw [hq] at hm hpw
          rcases List.mem_cons.1 hm with h7 | h7
          · omega
          · have := (List.pairwise_cons.1 hpw).1 _ h7; omega⟩
        rw [h0] at this; cases this
    · obtain ⟨hun, oi, hoi, hall⟩ := mem_ready.1 hi
      have hlt := (Array.getElem?_eq_some_iff.1 hoi).1
      have hwd : ∀ y, waitsB ops i y = true → ls.getD y false = true := fun y h => by
        obtain ⟨o, ho, e, he, hb, heq⟩ := Region.waitsFor_spec h
        rw [hoi] at ho; cases ho
        rw [← heq]; exact hall e he hb
      have hmem := (inv.mem i).2 ⟨hlt, hun⟩
      obtain ⟨pre, c, post, rfl⟩ := split_of hmem
      have hidl : (ids (pre ++ .op c i :: post)).length = (ids pre).length + (ids post).length + 1 := by rw [ids_app, ids_op]; simp; omega
      have noanc : ∀ h, h ∈ ids (pre ++ .op c i :: post) → isAnc anc i h = false := fun h hh => by
        cases ha : isAnc anc i h with
        | false => rfl
        | true =>
          have hd := anc_done hanc (D := fun x => ls.getD x false = true) inv.clo i hlt hwd h ha
          have hu := (inv.mem h).1 hh
          have hls : h < ls.size := by rw [inv.size]; exact hu.1
          have e1 : ls[h]? = some ls[h] := Array.getElem?_eq_getElem hls
          have hu2 := hu.2
          simp only [Array.getD_eq_getD_getElem?, e1, Option.getD_some] at hd hu2
          rw [hd] at hu2; cases hu2
      have hpw := inv.pw
      rw [ids_app, ids_op] at hpw
      have hbefore : ∀ h, h ∈ ids pre → h < i := fun h hh => (List.pairwise_append.1 hpw).2.2 h hh i (by simp)
      have haps : Aps ops oi pre := fun h oh hh ho => by
        have h1 := hapart i hlt h (hbefore h hh)
        rw [noanc h (by rw [ids_app]; exact List.mem_append_left _ hh), ho, hoi] at h1
        exact Oper.apart_spec (by simpa using h1)
      have hkc : cls[i]? = some c := inv.kind c i (by simp)
      have hfp := (frs_append _ _ _).1 hfr
      have hwo : ∀ {K : Act → World → Prop}, wpOp P ops Q0 i K a w → wpOp P ops Q i K a w := fun h => wpOp_of_Q0 (fun ⟨_, _, h⟩ => h) h
      rw [phy_append] at hs
      have rdcase : ∀ (hc : c = .rd ∨ c = .pu), wpOp P ops Q i (wpAny P .any ops Q f (ls.setIfInBounds i true)) a w := fun hc => by
        have hCC : CX Hc c w := by
          have h2 : H.le (phy post (phy pre H)) := AH.le_trans (phy_le pre hfp.1) (phy_le post hfp.2)
          rcases hc with rfl | rfl
          · exact ⟨E, hs.mono (AH.le_trans (hrd ⟨i, by simp⟩) h2)⟩
          · trivial
        obtain ⟨v, hy⟩ := GG_ext (e := .op c i) (post := post) (oi := oi) (Φ := fun a => ∃ v, RY P ops (CX Hc c) oi v a) (fun a H hg => by
            have : ∃ o v, ops[i]? = some o ∧ RY P ops (CX Hc c) o v a ∧ GG P ops Hc m R post (a.put o.dst v) H := by
              rcases hc with rfl | rfl <;> exact hg
            obtain ⟨o, v, h1, h2, _⟩ := this
            rw [hoi] at h1; cases h1
            exact ⟨v, h2⟩) (fun oh u a hap ⟨v, hv⟩ => ⟨v, hv.back' hap (fun cs b => hsel i oi cs b hoi) u⟩) pre a H _ w haps hfp.1 (hs.mono (phy_le post hfp.2)) hG
        have hG' := GG_rd hsel hc hoi ⟨w, hCC⟩ pre a H haps hG hy
        refine hy.wpOp hoi hCC (ih _ (pre ++ post) _ H w (by rw [hidl] at hf; rw [ids_app, List.length_append]; omega) ?_ (by rw [phy_append]; exact hs) ((frs_append _ _ _).2 hfp) (fun ⟨j, hj⟩ => hrd ⟨j, by
          rcases List.mem_append.1 hj with h | h
          · exact List.mem_append_left _ h
          · exact List.mem_append_right _ (List.mem_cons_of_mem _ h)⟩) hG')
        exact inv.step hwd (mid := []) rfl (fun _ _ h => by cases h)
      cases c with
      | rd => exact rdcase (.inl rfl)
      | pu => exact rdcase (.inr rfl)
      | al =>
        obtain ⟨p, hg, hp⟩ := GG_ext (e := .op .al i) (post := post) (oi := oi) (Φ := fun a => ∃ p, oi.guard = none ∧ alc P oi.op a.eval = some p) (fun a H hg => by
            obtain ⟨o, p, h1, h2, h3, _⟩ := hg
            rw [hoi] at h1; cases h1
            exact ⟨p, h2, h3⟩) (fun oh u a hap ⟨p, h1, h2⟩ => ⟨p, h1, by rw [← alc_put hap u]; exact h2⟩) pre a H _ w haps hfp.1 (hs.mono (phy_le post hfp.2)) hG
        unfold wpOp
        simp only [hoi]
        have hwant : Region.wanted oi (yielded ops a.tmps) = true := by unfold Region.wanted; rw [hg]
        simp only [hwant, if_true]
        refine .inl ?_
        obtain ⟨nx, w', H', q1, q2, q3⟩ := alc_sound (o := oi) hp (phy post (phy pre H)) E w hs
        have fin : ∀ b w'', Fresh (phy post (phy pre H)) b → Sat E ((phy post (phy pre H)).add b p.2) w'' → wpAny P .any ops Q f (ls.setIfInBounds i true) (a.put oi.dst (p.1 b)) w'' := fun b w'' hb hsb => by
          have hG' := GG_al hsel (b := b) hoi pre a H haps hG hp
          obtain ⟨r1, r2⟩ := phy_add post (k := p.2) hfp.2 hb
          refine ih _ (pre ++ .ea b p.2 :: post) _ H w'' (by rw [hidl] at hf; rw [ids_app, ids_ea, List.length_append]; omega) ?_ ?_ ((frs_append _ _ _).2 ⟨hfp.1, Fresh.of_le (phy_le post hfp.2) hb, r1⟩) (fun ⟨j, hj⟩ => hrd ⟨j, by
            rcases List.mem_append.1 hj with h | h
            · exact List.mem_append_left _ h
            · rcases List.mem_cons.1 h with h | h
              · cases h
              · exact List.mem_append_right _ (List.mem_cons_of_mem _ h)⟩) hG'
          · exact inv.step hwd (mid := [.ea b p.2]) rfl (fun _ _ h => by simp at h)
          · rw [phy_append]; exact hsb.mono r2.le
        unfold Oper.wp
        rw [q1]
        cases nx <;> simp only [anext] at q3 <;> simp only [Oper.upon]
        case value v => obtain ⟨b, hb, rfl, rfl⟩ := q3; exact fin b w' hb q2
        case skip => obtain ⟨b, hb, hv, rfl⟩ := q3; rw [hv]; exact fin b w' hb q2
        case enter fn args =>
          refine (q3 E w' q2).mono ?_
          rintro e w'' ⟨v, H2, rfl, h2, b, hb, rfl, rfl⟩
          exact fin b w'' hb h2
      | ch =>
        have hsoft : soft pre := by
          have key : ∀ l : List En, (∀ c j, En.op c j ∈ l → c = .rd ∨ c = .pu) → soft l := fun l => by
            induction l with
            | nil => intro _; trivial
            | cons e l ihl =>
              intro h
              cases e with
              | op c j => exact ⟨h c j (by simp), ihl fun c j hj => h c j (List.mem_cons_of_mem _ hj)⟩
              | ea b k => exact ihl fun c j hj => h c j (List.mem_cons_of_mem _ hj)
          refine key pre fun c j hj => ?_
          have hjm : j ∈ ids pre := List.mem_filterMap.2 ⟨_, hj, rfl⟩
          have hji := hbefore j hjm
          have h1 := hchain i hlt
          simp only [Bool.or_eq_true, decide_eq_true_eq, List.all_eq_true, List.mem_range] at h1
          rcases h1 with h1 | h1
          · exact absurd hkc h1
          · have h2 := h1 j hji
            have hkj := inv.kind c j (List.mem_append_left _ hj)
            rw [noanc j (by rw [ids_app]; exact List.mem_append_left _ hjm)] at h2
            simp only [Bool.false_eq_true, or_false] at h2
            rw [hkj] at h2
            cases c <;> simp at h2 ⊢
        obtain ⟨N, q1, q2⟩ := GG_ch hsel hoi pre a H haps hsoft hfp.1 hG
        obtain ⟨E1, q3, q4⟩ := Sat.under' post (H := phy pre H) hfp.2 hs
        refine hwo (wpOp_mono' ?_ (q1 E1 w q3))
        rintro a' w' ⟨v, H', rfl, h1, h2⟩
        obtain ⟨r1, r2⟩ := q4 _ _ h1
        obtain ⟨r3, r4⟩ := q2 v H' h2
        have hrd' : (∃ k, En.op .rd k ∈ strip pre ++ post) → Hc.le H' := fun ⟨k, hk⟩ => by
          refine r3 ?_
          have hk' : En.op .rd k ∈ pre ++ .op .ch i :: post := by
            rcases List.mem_append.1 hk with h | h
            · exact List.mem_append_left _ ((mem_strip _ _ _).1 h)
            · exact List.mem_append_right _ (List.mem_cons_of_mem _ h)
          have hkm : k ∈ ids (pre ++ .op .ch i :: post) := List.mem_filterMap.2 ⟨_, hk', rfl⟩
          have h5 := hlate i hlt
          simp only [Bool.or_eq_true, decide_eq_true_eq, List.all_eq_true, List.mem_range] at h5
          rcases h5 with (h5 | h5) | h5
          · exact h5
          · exact absurd hkc h5
          · have := h5 k ((inv.mem k).1 hkm).1
            rw [noanc k hkm, inv.kind _ _ hk'] at this
            simp at this
        refine ih _ (strip pre ++ post) _ H' w' (by rw [hidl] at hf; rw [ids_app, ids_strip, List.length_append]; omega) ?_ (by rw [phy_soft]; exact r1) ((frs_soft _ _ _).2 r2) hrd' r4
        · have h6 := inv.step hwd (mid := []) rfl (fun _ _ h => by cases h)
          refine ⟨h6.size, fun j => ?_, ?_, fun c j hj => h6.kind c j ?_, h6.clo⟩
          · rw [← h6.mem j, ids_app, ids_app, ids_strip]; rfl
          · have := h6.pw
            rw [ids_app] at this
            rw [ids_app, ids_strip]; exact this
          · rcases List.mem_append.1 hj with h | h
            · exact List.mem_append_left _ ((mem_strip _ _ _).1 h)
            · exact List.mem_append_right _ h

/-! ### The walk -/
theorem qrun_bare (P : Program) {α : Type} (s : Sem α) : ∀ (w0 : World) (a : α) (w : World), qrun P s ⟨{ w0 with heap := #[] }, []⟩ = some a → s.run P w = .ok a w := by
  induction s with
  | pure a => intro w0 x w h; simp only [qrun, Option.some.injEq] at h; subst h; rfl
  | load m a k ih =>
    intro w0 x w h
    simp only [qrun] at h
    split at h
    · rename_i v hv
      simp [AH.rd, AH.find, alk] at hv
    · cases h
  | shape r k ih =>
    intro w0 x w h
    simp only [qrun] at h
    split at h
    · rename_i v hv
      simp [AH.shp, AH.find, alk] at hv
    · cases h
  | frozen r k ih =>
    intro w0 x w h
    simp only [qrun] at h
    split at h
    · rename_i v hv
      simp [AH.frz, AH.find, alk] at hv
    · cases h
  | program k ih => intro w0 x w h; simp only [qrun] at h; simp only [Sem.run]; exact ih _ _ _ _ h
  | mark m k ih => intro w0 x w h; simp only [qrun] at h; simp only [Sem.run]; exact ih _ _ _ h
  | _ => intro w0 x w h; simp only [qrun] at h; cases h
/-- No block at all. -/
def AH.bare (H : AH) : AH := ⟨{ H.w0 with heap := #[] }, []⟩

def isAl : Op → Bool
  | .alloc _ | .buildSlice .. | .makeMap _ none | .box .. => true
  | _ => false
theorem alc_vop {o : Oper} {fr : Fr} {H : AH} {k : Value → AH → Prop} (ha : isAl o.op = true) (h : vop false P fr H o k) : ∃ p, alc P o.op (evd fr) = some p ∧ ∀ b, Fresh H b → k (p.1 b) (H.add b p.2) := by
  obtain ⟨dst, op, ty, pos, af, g⟩ := o
  cases op <;> simp only [isAl] at ha <;> try (cases ha; done)
  case alloc t =>
    obtain ⟨_, h⟩ := h
    unfold wo at h
    split at h
    · rename_i cs hz
      exact ⟨(fun b => .pointer (some ⟨b, 0, none⟩), .cells cs t cs.length), by simp only [alc, hz]; rfl, h⟩
    · exact h.elim
  case buildSlice t len ps =>
    obtain ⟨_, _, h⟩ := h
    unfold bsl wo at h
    split at h
    · rename_i s hz
      obtain ⟨h1, h2, h⟩ := h
      split at h
      · rename_i cs hc
        exact ⟨(fun b => .slice (some ⟨b, 0, none⟩) len len, .cells cs s.1 cs.length), by simp only [alc, hz, Option.bind_some]; rw [if_pos ⟨h1, h2⟩, hc]; rfl, h⟩
      · exact h.elim
    · exact h.elim
  case makeMap t r =>
    cases r with
    | some x => cases ha
    | none => exact ⟨_, rfl, h.2⟩
  case box t x => exact ⟨_, rfl, h.2.2⟩

def clsB : List Cl → List Oper → Bool
  | [], [] => true
  | c :: cs, o :: l => (match c with | .al => o.guard.isNone && isAl o.op | .ch => true | _ => isRd o.op) && clsB cs l
  | _, _ => false
section
variable {n : Nat} {ds : List (Option Tmp)}
def gw (P : Program) (n : Nat) (ds : List (Option Tmp)) (Hc : AH) (m : Nat) : Nat → List Cl → List Oper → Fr → AH → (Fr → AH → Prop) → Prop
  | i, .rd :: cs, o :: l, fr, H, K => vops true P n ds [o] fr Hc fun fr _ => gw P n ds Hc m (i + 1) cs l fr H K
  | i, .pu :: cs, o :: l, fr, H, K => vops true P n ds [o] fr Hc.bare fun fr _ => gw P n ds Hc m (i + 1) cs l fr H K
  | i, .al :: cs, o :: l, fr, H, K => vops false P n ds [o] fr H fun fr H => gw P n ds Hc m (i + 1) cs l fr H K
  | i, .ch :: cs, o :: l, fr, H, K => vops false P n ds [o] fr H fun fr H => (i < m → Hc.le H) ∧ gw P n ds Hc m (i + 1) cs l fr H K
  | _, _, _, fr, H, K => K fr H
theorem gw_rd {i : Nat} {cs : List Cl} {o : Oper} {l : List Oper} {fr : Fr} {H : AH} {K : Fr → AH → Prop} : gw P n ds Hc m i (.rd :: cs) (o :: l) fr H K = vops true P n ds [o] fr Hc fun fr _ => gw P n ds Hc m (i + 1) cs l fr H K := Eq.trans rfl rfl
theorem gw_pu {i : Nat} {cs : List Cl} {o : Oper} {l : List Oper} {fr : Fr} {H : AH} {K : Fr → AH → Prop} : gw P n ds Hc m i (.pu :: cs) (o :: l) fr H K = vops true P n ds [o] fr Hc.bare fun fr _ => gw P n ds Hc m (i + 1) cs l fr H K := Eq.trans rfl rfl
theorem gw_al {i : Nat} {cs : List Cl} {o : Oper} {l : List Oper} {fr : Fr} {H : AH} {K : Fr → AH → Prop} : gw P n ds Hc m i (.al :: cs) (o :: l) fr H K = vops false P n ds [o] fr H fun fr H => gw P n ds Hc m (i + 1) cs l fr H K := Eq.trans rfl rfl
theorem gw_ch {i : Nat} {cs : List Cl} {o : Oper} {l : List Oper} {fr : Fr} {H : AH} {K : Fr → AH → Prop} : gw P n ds Hc m i (.ch :: cs) (o :: l) fr H K = vops false P n ds [o] fr H fun fr H => (i < m → Hc.le H) ∧ gw P n ds Hc m (i + 1) cs l fr H K := Eq.trans rfl rfl
theorem gw_nil {i : Nat} {fr : Fr} {H : AH} {K : Fr → AH → Prop} : gw P n ds Hc m i [] [] fr H K = K fr H := by simp [gw]

theorem vops1_rd {o : Oper} {fr : Fr} {Hx : AH} {a : Act} {K : Fr → AH → Prop} (hds : ds = ops.toList.map (·.dst)) (hr : isRd o.op = true)
    (h : vops true P n ds [o] fr Hx K) (hf : FrOk n fr a) : ∃ v, ((Region.wanted o (yielded ops a.tmps) = true ∧ qrun P (execOp a.eval o) Hx = some (.value v)) ∨ (Region.wanted o (yielded ops a.tmps) = false ∧ v = undef)) ∧ ∃ fr', FrOk n fr' (a.put o.dst v) ∧ K fr' Hx := by
  obtain ⟨d, op, ty, pos, af, g⟩ := o
  cases g with
  | none =>
    obtain ⟨h1, h2⟩ := h
    obtain ⟨a1, a2, a3⟩ := vop_sound h2
    obtain ⟨v, hv, hk⟩ := vop_rd (by exact hr) h2
    have hok : okOp n fr ⟨d, op, ty, pos, af, none⟩ = true := by simp only [okOp, a1, a2, h1]; rfl
    exact ⟨v, .inl ⟨rfl, by rw [hf.exec hok]; exact hv⟩, _, hf.put h1 v, hk⟩
  | some jw =>
    obtain ⟨j, want⟩ := jw
    simp only [vops] at h
    cases hj : ds[j]? with
    | none => rw [hj] at h; exact h.elim
    | some t =>
      rw [hj] at h
      cases t with
      | none => exact h.elim
      | some t =>
        simp only [wo_some] at h
        cases hb : alk t fr with
        | none => rw [hb] at h; exact h.elim
        | some b =>
          rw [hb] at h
          simp only [wo_some] at h
          have same : ∀ c : Bool, b = .bool c → FrOk n ((t, .bool c) :: fr) a := fun c hc => ⟨hf.defers, hf.size, fun t' v' h' => by
            rw [alk_cons] at h'
            split at h'
            · rename_i e; subst e; cases h'; exact hf.vals _ _ (by rw [hb, hc])
            · exact hf.vals _ _ h'⟩
          have hgd : ∀ gg, aguard ds fr ⟨d, op, ty, pos, af, some (j, want)⟩ = some gg → Region.wanted ⟨d, op, ty, pos, af, some (j, want)⟩ (yielded ops a.tmps) = gg := fun gg hgg => aguard_sound hf (by rw [← hds]; exact hgg)
          have yes : ∀ fr', FrOk n fr' a → Region.wanted ⟨d, op, ty, pos, af, some (j, want)⟩ (yielded ops a.tmps) = true → (dok n d = true ∧ vop true P fr' Hx ⟨d, op, ty, pos, af, none⟩ (fun v H' => K (putf d v fr') H')) →
              ∃ v, ((Region.wanted ⟨d, op, ty, pos, af, some (j, want)⟩ (yielded ops a.tmps) = true ∧ qrun P (execOp a.eval ⟨d, op, ty, pos, af, some (j, want)⟩) Hx = some (.value v)) ∨ (Region.wanted ⟨d, op, ty, pos, af, some (j, want)⟩ (yielded ops a.tmps) = false ∧ v = undef)) ∧ ∃ fr', FrOk n fr' (a.put d v) ∧ K fr' Hx := fun fr' hf' hw ⟨h1, h2⟩ => by
            obtain ⟨a1, a2, a3⟩ := vop_sound h2
            obtain ⟨v, hv, hk⟩ := vop_rd (by exact hr) h2
            have hok : okOp n fr' ⟨d, op, ty, pos, af, none⟩ = true := by simp only [okOp, a1, a2, h1]; rfl
            exact ⟨v, .inl ⟨hw, by
              have : execOp a.eval ⟨d, op, ty, pos, af, some (j, want)⟩ = execOp a.eval ⟨d, op, ty, pos, af, none⟩ := rfl
              rw [this, hf'.exec hok]; exact hv⟩, _, hf'.put h1 v, hk⟩
          have no : ∀ fr', FrOk n fr' a → Region.wanted ⟨d, op, ty, pos, af, some (j, want)⟩ (yielded ops a.tmps) = false → (dok n d = true ∧ K (putf d undef fr') Hx) →
              ∃ v, ((Region.wanted ⟨d, op, ty, pos, af, some (j, want)⟩ (yielded ops a.tmps) = true ∧ qrun P (execOp a.eval ⟨d, op, ty, pos, af, some (j, want)⟩) Hx = some (.value v)) ∨ (Region.wanted ⟨d, op, ty, pos, af, some (j, want)⟩ (yielded ops a.tmps) = false ∧ v = undef)) ∧ ∃ fr', FrOk n fr' (a.put d v) ∧ K fr' Hx := fun fr' hf' hw ⟨h1, h2⟩ =>
            ⟨undef, .inr ⟨hw, rfl⟩, _, hf'.put h1 undef, h2⟩
          cases b with
          | bool b =>
            have e1 := hgd (b == want) (by simp only [aguard, hj, Option.bind_some, id, hb])
            simp only [ag] at h
            by_cases hbw : b = want
            · exact yes _ (same want (by rw [hbw])) (by rw [e1]; simpa using hbw) (h.1 hbw)
            · exact no _ (same (!want) (by cases b <;> cases want <;> simp_all)) (by rw [e1]; simpa using hbw) (h.2 hbw)
          | _ =>
            have e1 := hgd false (by simp only [aguard, hj, Option.bind_some, id, hb])
            simp only [ag] at h
            exact no _ hf e1 h

def ents : Nat → List Cl → List En
  | _, [] => []
  | k, c :: cs => .op c k :: ents (k + 1) cs
def RR (n : Nat) (Q : Exit → Fr → AH → Prop) (a : Act) (H : AH) : Prop := ∃ fr H0, FrOk n fr a ∧ H0.le H ∧ Q .normal fr H0
theorem gw_GG {Q : Exit → Fr → AH → Prop} (hds : ds = ops.toList.map (·.dst)) : ∀ (cs : List Cl) (l : List Oper) (k : Nat) (fr : Fr) (H : AH) (a : Act), clsB cs l = true → (∀ j, j < l.length → l[j]? = ops[k + j]?) →
    gw P n ds Hc m k cs l fr H (Q .normal) → FrOk n fr a → GG P ops Hc m (RR n Q) (ents k cs) a H
  | [], [], k, fr, H, a, _, _, h, hf => ⟨fr, H, hf, AH.le_refl _, h⟩
  | [], _ :: _, _, _, _, _, hc, _, _, _ => by simp [clsB] at hc
  | _ :: _, [], _, _, _, _, hc, _, _, _ => by simp [clsB] at hc
  | c :: cs, o :: l, k, fr, H, a, hc, hl, h, hf => by
    simp only [clsB, Bool.and_eq_true] at hc
    have ho : ops[k]? = some o := by simpa using (hl 0 (by simp)).symm
    have hl' : ∀ j, j < l.length → l[j]? = ops[k + 1 + j]? := fun j hj => by
      have := hl (j + 1) (by simp; omega)
      rw [show k + 1 + j = k + (j + 1) from by omega, ← this]; rfl
    cases c with
    | rd =>
      obtain ⟨v, h1, fr', h2, h3⟩ := vops1_rd hds hc.1 h hf
      refine ⟨o, v, ho, ?_, gw_GG hds cs l (k + 1) fr' H _ hc.2 hl' h3 h2⟩
      rcases h1 with ⟨h1, h4⟩ | h1
      · exact .inl ⟨h1, fun w ⟨E, hw⟩ => qrun_sound P _ Hc _ w h4 hw⟩
      · exact .inr h1
    | pu =>
      obtain ⟨v, h1, fr', h2, h3⟩ := vops1_rd hds hc.1 h hf
      refine ⟨o, v, ho, ?_, gw_GG hds cs l (k + 1) fr' H _ hc.2 hl' h3 h2⟩
      rcases h1 with ⟨h1, h4⟩ | h1
      · exact .inl ⟨h1, fun w _ => qrun_bare P _ Hc.w0 _ w h4⟩
      · exact .inr h1
    | al =>
      simp only [Bool.and_eq_true] at hc
      obtain ⟨⟨hg, hal⟩, hc2⟩ := hc
      obtain ⟨d, op, ty, pos, af, g⟩ := o
      cases g with
      | some g => cases hg
      | none =>
        obtain ⟨h1, h2⟩ := h
        obtain ⟨a1, a2, a3⟩ := vop_sound h2
        obtain ⟨p, hp, hk⟩ := alc_vop (o := ⟨d, op, ty, pos, af, none⟩) hal h2
        refine ⟨_, p, ho, rfl, ?_, fun b hb => gw_GG hds cs l (k + 1) _ _ _ hc2 hl' (hk b hb) (hf.put h1 _)⟩
        rw [← hp]
        refine alc_congr fun x hx => hf.eval ?_
        have := List.all_eq_true.1 a1 x (by simpa using hx)
        exact this
    | ch =>
      have h2 := vops_sound _ _ _ h
      simp only [aops] at h2
      split at h2
      · exact h2.elim
      · rename_i g hg
        rw [hds] at hg
        have hw := aguard_sound hf hg
        rw [← hds] at hg
        cases g with
        | true =>
          obtain ⟨hok, h1⟩ := h2.1 rfl
          have hd : dok n o.dst = true := by simp only [okOp, Bool.and_eq_true] at hok; exact hok.2
          refine ⟨o, fun v H' => (k < m → Hc.le H') ∧ gw P n ds Hc m (k + 1) cs l (putf o.dst v (gov ds fr o true)) H' (Q .normal), ho, fun E w hs => ?_, fun v H' hN => ⟨hN.1, gw_GG hds cs l (k + 1) _ H' _ hc.2 hl' hN.2 ((hf.gov hg).put hd v)⟩⟩
          unfold wpOp
          simp only [ho, hw, if_true]
          exact .inl ((aop_sem h1).wp (hf.gov hg) hok hs fun v H' w' hk hs' => ⟨v, H', rfl, hs', hk⟩)
        | false =>
          obtain ⟨hd, h1⟩ := h2.2 rfl
          refine ⟨o, fun v H' => v = undef ∧ H' = H, ho, fun E w hs => ?_, fun v H' hN => ?_⟩
          · unfold wpOp
            simp only [ho, hw, Bool.false_eq_true, if_false]
            exact ⟨undef, H, rfl, hs, rfl, rfl⟩
          · obtain ⟨rfl, rfl⟩ := hN
            exact ⟨h1.1, gw_GG hds cs l (k + 1) _ _ _ hc.2 hl' h1.2 ((hf.gov hg).put hd _)⟩

theorem ids_ents : ∀ (cs : List Cl) (k : Nat), ids (ents k cs) = List.range' k cs.length
  | [], _ => rfl
  | c :: cs, k => by rw [ents, ids_op, ids_ents cs (k + 1), List.length_cons, List.range'_succ]
theorem kind_ents : ∀ (cs : List Cl) (k : Nat) (c : Cl) (i : Nat), En.op c i ∈ ents k cs → k ≤ i ∧ cs[i - k]? = some c
  | [], _, _, _, h => by cases h
  | c' :: cs, k, c, i, h => by
    rcases List.mem_cons.1 h with h | h
    · cases h; simp
    · obtain ⟨h1, h2⟩ := kind_ents cs (k + 1) c i h
      refine ⟨by omega, ?_⟩
      rw [show i - k = (i - (k + 1)) + 1 from by omega]; simpa using h2
theorem phy_ents : ∀ (cs : List Cl) (k : Nat) (H : AH), phy (ents k cs) H = H ∧ frs (ents k cs) H
  | [], _, _ => ⟨rfl, trivial⟩
  | c :: cs, k, H => phy_ents cs (k + 1) H

/-- cs: what each operation is; anc: whom each waits for, as bits; m: from which place on no read is left that waits for none of the chain. -/
theorem AWp.gen {id : Nat} {l : List Oper} {Q : Exit → Fr → AH → Prop} {fr : Fr} {H : AH} (cs : List Cl) (anc : List Nat) (m : Nat) (Hc : AH) (hm : P.follows .mixedOrders = true) (hB : (genB l.toArray cs anc m && clsB cs l) = true) (hc : Hc.le H)
    (h : nd (l.map (·.dst)) fun ds => gw P n ds Hc m 0 cs l fr H (Q .normal)) : AWp P n (.region id l.toArray true) Q fr H := by
  intro E a w hf hs
  rw [Bool.and_eq_true] at hB
  have h' : gw P n (l.toArray.toList.map (·.dst)) Hc m 0 cs l fr H (Q .normal) := h
  have hlen : cs.length = l.length := by
    have := hB.1
    simp only [genB, Bool.and_eq_true, decide_eq_true_eq] at this
    simpa using this.1.1.1.1.1.2
  refine wp_region_any hm ?_
  have hs' : Sat E H { w with drawn := w.drawn + 1 } := hs.drew
  have hG := gw_GG (ops := l.toArray) (Hc := Hc) (m := m) (P := P) (n := n) (Q := Q) rfl cs l 0 fr H a hB.2 (fun j hj => by simp) h' hf
  refine gen_any (E := E) (cls := cs) (anc := anc) (Q := AQ E n Q) hB.1 (fun a H w ⟨fr, H0, h1, h2, h3⟩ hs => ⟨fr, H0, h1, hs.mono h2, h3⟩) _ _ (ents 0 cs) a H _ ?_ ?_ (by rw [(phy_ents cs 0 H).1]; exact hs') (phy_ents cs 0 H).2 (fun _ => hc) hG
  · rw [ids_ents]; simp [hlen]
  · refine ⟨by simp, fun i => ?_, by rw [ids_ents]; exact List.pairwise_lt_range', fun c i hci => (kind_ents cs 0 c i hci).2, fun x y hx => ?_⟩
    · rw [ids_ents, List.mem_range'_1]
      constructor
      · intro hh; exact ⟨by simp; omega, by rw [getD_in (by simp; omega) (getD_replicate_false _ _)]⟩
      · intro hh; have := hh.1; simp at this; omega
    · rw [getD_replicate_false] at hx; cases hx
/-- A loop over heaps that meet a relation. -/
theorem AWp.loopr {P : Program} {n : Nat} {c : Code} {Q : Exit → Fr → AH → Prop} {fr : Fr} {H : AH} {ι : Type} (V : ι → AH → Prop) (F : ι → Fr) (μ : ι → Nat) (i0 : ι) (A0 : AH)
    (hv : V i0 A0) (hf : FrLe (F i0) fr) (hh : A0.le H)
    (round : ∀ i A, V i A → ∀ Q' : Exit → Fr → AH → Prop, (∀ i' fr A' A'', V i' A' → FrLe (F i') fr → A'.le A'' → μ i' < μ i → Q' .normal fr A'') → (∀ e fr H, e ≠ .normal → Q e fr H → Q' e fr H) →
      avc P n c Q' (F i) A) : AWp P n (.loop c) Q fr H :=
  AWp.loop (fun i fr H => fr = F i ∧ V i H) μ i0 ⟨_, _, hf, hh, rfl, hv⟩ fun i fr H ⟨h1, h2⟩ => by
    subst h1
    exact round i H h2 _ (fun i' _ A' _ h1 h2 h3 h4 => ⟨i', _, A', h2, h3, ⟨rfl, h1⟩, h4⟩) (fun e _ _ he hq => by cases e <;> first | exact absurd rfl he | exact hq)
/-- A loop, by the run of its round. -/
theorem AWp.loopw {P : Program} {n : Nat} {c : Code} {Q : Exit → Fr → AH → Prop} {fr : Fr} {H : AH} {ι : Type} (I : ι → Fr → AH → Prop) (μ : ι → Nat) (i0 : ι)
    (h0 : I i0 fr H) (round : ∀ i fr H, I i fr H → AWp P n c (around I μ i Q) fr H) : AWp P n (.loop c) Q fr H := by
  intro E a w hf hs
  have key : ∀ m i fr H a w, μ i = m → I i fr H → FrOk n fr a → Sat E H w → ∀ (b : Frame) (k : List Item) (cs : List Frame),
      ∃ e a' w', AQ E n Q e a' w' ∧ Arrives P (lone (b.at a (.code c :: .inLoop c :: k)) cs w) b k cs e a' w' := by
    intro m
    induction m using Nat.strongRecOn with
    | _ m ih =>
      intro i fr H a w hm hI hf hs b k cs
      obtain ⟨e, a₁, w₁, ⟨fr1, H1, hf1, hs1, hq⟩, harr⟩ := round i fr H hI E a w hf hs b (.inLoop c :: k) cs
      cases e with
      | normal =>
        obtain ⟨i', fr2, H2, hfl, hhl, hI2, hlt⟩ := hq
        obtain ⟨e₂, a₂, w₂, hq₂, harr₂⟩ := ih (μ i') (hm ▸ hlt) i' fr2 H2 a₁ w₁ rfl hI2 (hf1.mono hfl) (hs1.mono hhl) b k cs
        exact ⟨e₂, a₂, w₂, hq₂, .of_steps (Steps.trans harr (.one step_inLoop)) harr₂⟩
      | exit id => exact ⟨_, a₁, w₁, ⟨fr1, H1, hf1, hs1, hq⟩, .pass (x := .inLoop c) rfl (fun _ _ => .inl (by simp)) harr⟩
      | goto l => exact ⟨_, a₁, w₁, ⟨fr1, H1, hf1, hs1, hq⟩, .pass (x := .inLoop c) rfl (fun _ _ => .inl (by simp)) harr⟩
      | ret => exact ⟨_, a₁, w₁, ⟨fr1, H1, hf1, hs1, hq⟩, .pass (x := .inLoop c) rfl (fun _ _ => .inl (by simp)) harr⟩
      | panic ch => exact ⟨_, a₁, w₁, ⟨fr1, H1, hf1, hs1, hq⟩, .pass (x := .inLoop c) rfl (fun _ _ => .inl (by simp)) harr⟩
      | outgrown => exact ⟨_, a₁, w₁, ⟨fr1, H1, hf1, hs1, hq⟩, .pass (x := .inLoop c) rfl (fun _ _ => .inl (by simp)) harr⟩
  intro b k cs
  obtain ⟨e, a', w', hq, harr⟩ := key _ i0 fr H a w rfl h0 hf hs b k cs
  exact ⟨e, a', w', hq, .of_steps (.one step_loop) harr⟩
/-- So many rounds at most, written out. -/
def rnd (P : Program) (n : Nat) (c : Code) (Q : Exit → Fr → AH → Prop) : Nat → Exit → Fr → AH → Prop
  | k + 1, .normal => fun fr H => avc P n c (rnd P n c Q k) fr H
  | 0, .normal => fun _ _ => False
  | _, e => Q e
theorem rnd_normal {P : Program} {n k : Nat} {c : Code} {Q : Exit → Fr → AH → Prop} {fr : Fr} {H : AH} : rnd P n c Q (k + 1) .normal fr H = avc P n c (rnd P n c Q k) fr H := Eq.trans rfl rfl
theorem rnd_zero {P : Program} {n : Nat} {c : Code} {Q : Exit → Fr → AH → Prop} {fr : Fr} {H : AH} : rnd P n c Q 0 .normal fr H = False := Eq.trans rfl rfl
theorem rnd_exit {P : Program} {n k i : Nat} {c : Code} {Q : Exit → Fr → AH → Prop} {fr : Fr} {H : AH} : rnd P n c Q k (.exit i) fr H = Q (.exit i) fr H := by cases k <;> rfl
theorem rnd_ret {P : Program} {n k : Nat} {c : Code} {Q : Exit → Fr → AH → Prop} {fr : Fr} {H : AH} : rnd P n c Q k .ret fr H = Q .ret fr H := by cases k <;> rfl
theorem AWp.rounds {P : Program} {n : Nat} {c : Code} {Q : Exit → Fr → AH → Prop} {fr : Fr} {H : AH} (k : Nat) (h : avc P n c (rnd P n c Q k) fr H) : AWp P n (.loop c) Q fr H :=
  AWp.loopw (fun k fr H => avc P n c (rnd P n c Q k) fr H) id k h fun k fr H h => (avc_sound P n c _ _ _ h).mono fun e fr H h => by
    cases e with
    | normal =>
      cases k with
      | zero => exact h.elim
      | succ k => exact ⟨k, fr, H, FrLe.refl _, AH.le_refl _, h, Nat.lt_succ_self k⟩
    | _ => cases k <;> exact h
end
end
end Go.AX
