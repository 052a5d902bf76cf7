/- A region that draws its order, where writes may come ahead of reads: reads of what no write touches, in whatever order, and a chain of operations that write. -/
import Derived.Test.YtmkbpdlijfjgkaaDoorAx12
namespace Go.AX
set_option linter.unusedSimpArgs false
set_option linter.unusedVariables false
open Go Go.RowKit

section
variable {P : Program} {ops : Array Oper} {md : Region.Mode} {C : World → Prop}

def Q0 : Exit → Act → World → Prop := fun _ _ _ => False

theorem wpOp_of_Q0 {j : Nat} {K : Act → World → Prop} {Q : Exit → Act → World → Prop} {a : Act} {w : World} (hl : ¬ LetsOut Q0) (h : wpOp P ops Q0 j K a w) : wpOp P ops Q j K a w := by
  unfold wpOp at *
  split
  · rename_i ho; simp only [ho] at h; exact h
  · rename_i o ho
    simp only [ho] at h
    split
    · rename_i hw
      simp only [hw, if_true] at h
      rcases h with h | ⟨_, hlets⟩
      case inr => exact absurd hlets hl
      refine .inl ?_
      unfold Oper.wp at *
      generalize (execOp a.eval o).run P w = r at *
      cases r with
      | ok n w' =>
        cases n <;> simp only [Oper.upon] at h ⊢
        case value u => exact h
        case skip => exact h
        case defer d => exact h
        case enter f args =>
          refine Calls.mono h fun e w'' he => ?_
          cases e with
          | returned u => exact he
          | panicked c => exact he.elim
          | outgrown => exact absurd he hl
        case row row args => exact h
      | halt x w' =>
        cases x <;> simp only [Oper.upon] at h ⊢
        case panic u => exact h.elim
    · rename_i hw; simp only [hw] at h; exact h

/-- A read: one value in every world of C, which it leaves as it is. -/
def RY (P : Program) (ops : Array Oper) (C : World → Prop) (o : Oper) (v : Value) (a : Act) : Prop :=
  (Region.wanted o (yielded ops a.tmps) = true ∧ ∀ w, C w → (execOp a.eval o).run P w = .ok (.value v) w) ∨ (Region.wanted o (yielded ops a.tmps) = false ∧ v = undef)
theorem RY.of_same {o : Oper} {v : Value} {a a' : Act} (hy : RY P ops C o v a) (he : execOp a'.eval o = execOp a.eval o)
    (hw : Region.wanted o (yielded ops a'.tmps) = Region.wanted o (yielded ops a.tmps)) : RY P ops C o v a' := by
  unfold RY at *
  rw [he, hw]; exact hy
theorem RY.put {oi oj : Oper} {v : Value} {a : Act} (hap : oi.apart ops oj = true) (hsi : ∀ cs b, oi.op ≠ .select cs b) (hy : RY P ops C oi v a) (u : Value) : RY P ops C oi v (a.put oj.dst u) := by
  obtain ⟨h1, h2, h3⟩ := Oper.apart_spec hap
  exact hy.of_same (execOp_put oi hsi a oj.dst u h3) (wanted_put oi a oj.dst u h3)
theorem RY.back {oi oj : Oper} {v u : Value} {a : Act} (hap : oi.apart ops oj = true) (hsj : ∀ cs b, oj.op ≠ .select cs b) (hy : RY P ops C oj u (a.put oi.dst v)) : RY P ops C oj u a := by
  obtain ⟨h1, h2, h3⟩ := Oper.apart_spec hap
  exact hy.of_same (execOp_put oj hsj a oi.dst v h1).symm (wanted_put oj a oi.dst v h1).symm
theorem RY.wpOp {i : Nat} {o : Oper} {v : Value} {a : Act} {K : Act → World → Prop} {Q : Exit → Act → World → Prop} {w : World} (hi : ops[i]? = some o) (hy : RY P ops C o v a) (hC : C w) (h : K (a.put o.dst v) w) : wpOp P ops Q i K a w := by
  unfold Go.wpOp
  simp only [hi]
  rcases hy with ⟨hw, hv⟩ | ⟨hw, rfl⟩
  · simp only [hw, if_true, Oper.wp, hv w hC, Oper.upon]; exact .inl h
  · simp only [hw, Bool.false_eq_true, if_false]; exact h

theorem wpOp_putIn {j : Nat} {oi oj : Oper} {v : Value} (hj : ops[j]? = some oj) (hap : oi.apart ops oj = true)
    (hsi : ∀ cs b, oi.op ≠ .select cs b) (hsj : ∀ cs b, oj.op ≠ .select cs b) {K : Act → World → Prop} {a : Act} {w : World}
    (hy : RY P ops C oi v a) (h : wpOp P ops Q0 j K (a.put oi.dst v) w) :
    wpOp P ops Q0 j (fun a' w' => RY P ops C oi v a' ∧ K (a'.put oi.dst v) w') a w := by
  obtain ⟨h1, h2, h3⟩ := Oper.apart_spec hap
  have keep : ∀ (a : Act), RY P ops C oi v a → ∀ u, RY P ops C oi v (a.put oj.dst u) := fun a hy u =>
    hy.of_same (execOp_put oi hsi a oj.dst u h3) (wanted_put oi a oj.dst u h3)
  have keepD : ∀ d, RY P ops C oi v { a with defers := d :: a.defers } := fun d => hy.of_same rfl rfl
  unfold wpOp at *
  simp only [hj] at *
  rw [wanted_put oj a oi.dst v h1] at h
  split
  · rename_i hw
    simp only [hw, if_true] at h
    rcases h with h | ⟨hasks, hlets⟩
    case inr => exact .inr ⟨by unfold Oper.asks at *; rw [execOp_put oj hsj a oi.dst v h1] at hasks; exact hasks, hlets⟩
    refine .inl ?_
    unfold Oper.wp at *
    rw [execOp_put oj hsj a oi.dst v h1] at h
    generalize (execOp a.eval oj).run P w = r at *
    cases r with
    | ok n w' =>
      cases n <;> simp only [Oper.upon] at h ⊢
      case value u => exact ⟨keep a hy u, by rw [← Act.put_comm a v u h2]; exact h⟩
      case skip => exact ⟨keep a hy _, by rw [← Act.put_comm a v undef h2]; exact h⟩
      case defer d =>
        refine ⟨keep _ (keepD d) _, ?_⟩
        rw [← Act.put_comm _ v undef h2, ← Act.put_defers]
        exact h
      case enter f args =>
        refine Calls.mono h fun e w'' he => ?_
        cases e with
        | returned u => exact ⟨keep a hy u, by rw [← Act.put_comm a v u h2]; exact he⟩
        | panicked c => exact he.elim
        | outgrown => exact he
      case row row args => exact Rows.mono h fun u w'' he => ⟨keep a hy u, by rw [← Act.put_comm a v u h2]; exact he⟩
    | halt x w' =>
      cases x <;> simp only [Oper.upon] at h ⊢
      case panic u => exact h.elim
  · rename_i hw
    simp only [hw] at h
    exact ⟨keep a hy _, by rw [← Act.put_comm a v undef h2]; exact h⟩

/-- The operations of the chain that are left, one after the other. -/
def TL (P : Program) (ops : Array Oper) (C : World → Prop) (R : Act → World → Prop) : List Nat → Act → World → Prop
  | [], a, w => R a w
  | j :: ts, a, w => wpOp P ops Q0 j (fun a' w' => C w' ∧ TL P ops C R ts a' w') a w
/-- The reads that are left, then those. -/
def SQ (P : Program) (ops : Array Oper) (C : World → Prop) (R : Act → World → Prop) : List Nat → List Nat → Act → World → Prop
  | [], ts, a, w => TL P ops C R ts a w
  | i :: hs, ts, a, w => ∃ o v, ops[i]? = some o ∧ RY P ops C o v a ∧ SQ P ops C R hs ts (a.put o.dst v) w

variable {R : Act → World → Prop}

theorem wpOp_mono' {j : Nat} {K K' : Act → World → Prop} {Q : Exit → Act → World → Prop} {a : Act} {w : World} (h : ∀ a w, K a w → K' a w) (hh : wpOp P ops Q j K a w) : wpOp P ops Q j K' a w := by
  unfold wpOp at *
  split
  · rename_i ho; simp only [ho] at hh; exact h _ _ hh
  · rename_i o ho
    simp only [ho] at hh
    split
    · rename_i hw
      simp only [hw, if_true] at hh
      rcases hh with hh | hh
      · exact .inl (Oper.wp_mono h hh)
      · exact .inr hh
    · rename_i hw; simp only [hw] at hh; exact h _ _ hh

/-- One of the reads, brought to the front. -/
theorem SQ_front {i : Nat} {oi : Oper} (hsel : ∀ (j : Nat) (o : Oper) cs b, ops[j]? = some o → o.op ≠ .select cs b) (hi : ops[i]? = some oi) :
    ∀ (hs ts : List Nat) (a : Act) (w : World), i ∈ hs → (∀ h oh, h ∈ hs → h < i → ops[h]? = some oh → oh.apart ops oi = true) → hs.Pairwise (· < ·) →
      SQ P ops C R hs ts a w → ∃ v, RY P ops C oi v a ∧ SQ P ops C R (hs.erase i) ts (a.put oi.dst v) w
  | [], _, _, _, h, _, _, _ => by simp at h
  | h :: hs, ts, a, w, hmem, hap, hpw, hS => by
    obtain ⟨oh, v, hoh, hy, hK⟩ := hS
    by_cases e : h = i
    · subst e
      rw [hi] at hoh; cases hoh
      rw [List.erase_cons_head]; exact ⟨v, hy, hK⟩
    · have hih : i ∈ hs := by
        rcases List.mem_cons.1 hmem with e' | e'
        · exact absurd e'.symm e
        · exact e'
      have hlti : h < i := (List.pairwise_cons.1 hpw).1 i hih
      have ha := hap h oh (by simp) hlti hoh
      obtain ⟨u, hu, ih⟩ := SQ_front hsel hi hs ts _ w hih (fun h' oh' hh hl ho => hap h' oh' (by simp [hh]) hl ho) (List.pairwise_cons.1 hpw).2 hK
      refine ⟨u, RY.back ha (fun cs b => hsel i oi cs b hi) hu, ?_⟩
      rw [List.erase_cons_tail (by simpa using e)]
      refine ⟨oh, v, hoh, RY.put ha (fun cs b => hsel h oh cs b hoh) hy u, ?_⟩
      rw [← Act.put_comm a v u (Oper.apart_spec ha).2.1]; exact ih

/-- The first of the chain, brought ahead of all reads. -/
theorem SQ_late {j : Nat} {oj : Oper} (hsel : ∀ (j : Nat) (o : Oper) cs b, ops[j]? = some o → o.op ≠ .select cs b) (hj : ops[j]? = some oj) :
    ∀ (hs ts : List Nat) (a : Act) (w : World), (∀ h oh, h ∈ hs → ops[h]? = some oh → oh.apart ops oj = true) →
      SQ P ops C R hs (j :: ts) a w → wpOp P ops Q0 j (fun a' w' => C w' ∧ SQ P ops C R hs ts a' w') a w
  | [], ts, a, w, _, hS => hS
  | h :: hs, ts, a, w, hap, hS => by
    obtain ⟨oh, v, hoh, hy, hK⟩ := hS
    have ih := SQ_late hsel hj hs ts _ w (fun h' oh' hh ho => hap h' oh' (by simp [hh]) ho) hK
    have := wpOp_putIn (C := C) hj (hap h oh (by simp) hoh) (fun cs b => hsel h oh cs b hoh) (fun cs b => hsel j oj cs b hj) hy ih
    exact wpOp_mono' (fun a' w' h3 => ⟨h3.2.1, oh, v, hoh, h3.1, h3.2.2⟩) this

/-- What is checked of the edges: they lead back; the chain; who does not wait is apart. -/
def lateB (md : Region.Mode) (ops : Array Oper) (k : Nat) : Bool :=
  Region.noSelect ops && decide (k ≤ ops.size) &&
  ((List.range ops.size).all fun i => match ops[i]? with | some o => o.after.all fun e => !Region.binds md e || decide (e.on < i) | none => true) &&
  ((List.range ops.size).all fun t => decide (t ≤ k) || Region.waitsFor md ops t (t - 1)) &&
  ((List.range k).all fun h => (List.range ops.size).all fun j => decide (j ≤ h) || Region.waitsFor md ops j h || match ops[h]?, ops[j]? with | some oh, some oj => oh.apart ops oj | _, _ => true)

structure LInv (md : Region.Mode) (ops : Array Oper) (k : Nat) (ls : Array Bool) (hs ts : List Nat) : Prop where
  size : ls.size = ops.size
  heads : ∀ i, i ∈ hs ↔ i < k ∧ ls.getD i true = false
  pw : hs.Pairwise (· < ·)
  tails : ∃ t, k ≤ t ∧ t ≤ ops.size ∧ ts = List.range' t (ops.size - t) ∧ ∀ j, k ≤ j → j < ops.size → (ls.getD j true = false ↔ t ≤ j)

theorem getD_set_self {ls : Array Bool} {i : Nat} (h : i < ls.size) : (ls.setIfInBounds i true).getD i true = true := by simp [Array.getElem?_setIfInBounds, h]
theorem getD_done {ls : Array Bool} {i : Nat} (hi : i < ls.size) (h : ¬ ls.getD i true = false) : ls.getD i false = true := by
  have e : ls[i]? = some ls[i] := Array.getElem?_eq_getElem hi
  simp only [Array.getD_eq_getD_getElem?, e, Option.getD_some] at h ⊢
  simpa using h

theorem late_any {Q : Exit → Act → World → Prop} {k : Nat} (hB : lateB md ops k = true) :
    ∀ (f : Nat) (ls : Array Bool) (hs ts : List Nat) (a : Act) (w : World), f = hs.length + ts.length → LInv md ops k ls hs ts → C w → SQ P ops C (Q .normal) hs ts a w → wpAny P md ops Q f ls a w := by
  have hB' := hB
  simp only [lateB, Bool.and_eq_true, decide_eq_true_eq, List.all_eq_true, List.mem_range] at hB'
  obtain ⟨⟨⟨⟨hns, hk⟩, hback⟩, hchain⟩, hfree⟩ := hB'
  have hsel : ∀ (j : Nat) (o : Oper) cs b, ops[j]? = some o → o.op ≠ .select cs b := Region.noSelect_spec hns
  have back : ∀ (i : Nat) (o : Oper), ops[i]? = some o → ∀ e ∈ o.after, Region.binds md e = true → e.on < i := fun i o ho e he hb => by
    have hlt := (Array.getElem?_eq_some_iff.1 ho).1
    have h1 := hback i hlt
    rw [ho] at h1
    have h2 := Array.all_eq_true'.1 h1 e he
    simpa [hb] using h2
  have free : ∀ (h j : Nat) (oh oj : Oper), h < k → h < j → ops[h]? = some oh → ops[j]? = some oj → Region.waitsFor md ops j h = false → oh.apart ops oj = true := fun h j oh oj h1 h2 h3 h4 h5 => by
    have := hfree h h1 j (Array.getElem?_eq_some_iff.1 h4).1
    simp only [h3, h4, h5, Bool.or_eq_true, decide_eq_true_eq] at this
    rcases this with (h6 | h6) | h6
    · omega
    · cases h6
    · exact h6
  intro f
  induction f with
  | zero =>
    intro ls hs ts a w hf inv hC hS
    have h1 : hs = [] := List.eq_nil_of_length_eq_zero (by omega)
    have h2 : ts = [] := List.eq_nil_of_length_eq_zero (by omega)
    subst h1; subst h2
    refine ⟨?_, hS⟩
    cases hr : Region.ready md ops ls with
    | nil => rfl
    | cons i l =>
      obtain ⟨hun, o, ho, _⟩ := mem_ready.1 (show i ∈ Region.ready md ops ls by rw [hr]; simp)
      have hlt := (Array.getElem?_eq_some_iff.1 ho).1
      by_cases hik : i < k
      · exact absurd ((inv.heads i).2 ⟨hik, hun⟩) (by simp)
      · obtain ⟨t, h3, h4, h5, h6⟩ := inv.tails
        have h7 := (h6 i (by omega) hlt).1 hun
        have : ops.size - t = 0 := by
          have := congrArg List.length h5
          simpa using this.symm
        omega
  | succ f ih =>
    intro ls hs ts a w hf inv hC hS
    obtain ⟨t, h3, h4, h5, h6⟩ := inv.tails
    have notdone : ∀ i, i < ops.size → ¬ ls.getD i true = false → ls.getD i false = true := fun i hi h => getD_done (by rw [inv.size]; exact hi) h
    refine ⟨fun h0 => ?_, fun i hi => ?_⟩
    · exfalso
      have hne : ∃ i, i ∈ Region.ready md ops ls := by
        cases hs with
        | cons h hs =>
          have hh := (inv.heads h).1 (by simp)
          have hlt : h < ops.size := by omega
          refine ⟨h, mem_ready.2 ⟨hh.2, ops[h], Array.getElem?_eq_getElem hlt, fun e he hb => ?_⟩⟩
          have hlt2 := back h _ (Array.getElem?_eq_getElem hlt) e he hb
          refine notdone e.on (by omega) fun hun => ?_
          have hm := (inv.heads e.on).2 ⟨by omega, hun⟩
          rcases List.mem_cons.1 hm with h7 | h7
          · omega
          · have := (List.pairwise_cons.1 inv.pw).1 _ h7; omega
        | nil =>
          have htn : t < ops.size := by
            rw [h5] at hf
            simp at hf; omega
          refine ⟨t, mem_ready.2 ⟨(h6 t h3 htn).2 (Nat.le_refl _), ops[t], Array.getElem?_eq_getElem htn, fun e he hb => ?_⟩⟩
          have hlt2 := back t _ (Array.getElem?_eq_getElem htn) e he hb
          refine notdone e.on (by omega) fun hun => ?_
          by_cases hek : e.on < k
          · exact absurd ((inv.heads e.on).2 ⟨hek, hun⟩) (by simp)
          · have := (h6 e.on (by omega) (by omega)).1 hun; omega
      obtain ⟨i, hi⟩ := hne
      rw [h0] at hi; cases hi
    · obtain ⟨hun, oi, hoi, hall⟩ := mem_ready.1 hi
      have hlt := (Array.getElem?_eq_some_iff.1 hoi).1
      have nowait : ∀ h, h < ops.size → ls.getD h true = false → Region.waitsFor md ops i h = false := fun h hh hu => by
        cases hw : Region.waitsFor md ops i h with
        | false => rfl
        | true =>
          obtain ⟨oj, hoj, e, he, hb, heq⟩ := Region.waitsFor_spec hw
          rw [hoi] at hoj; cases hoj
          have := hall e he hb
          rw [heq] at this
          have hls : h < ls.size := by rw [inv.size]; exact hh
          have e1 : ls[h]? = some ls[h] := Array.getElem?_eq_getElem hls
          simp only [Array.getD_eq_getD_getElem?, e1, Option.getD_some] at this hu
          rw [this] at hu; cases hu
      by_cases hik : i < k
      · have hmem := (inv.heads i).2 ⟨hik, hun⟩
        obtain ⟨v, hy, hS'⟩ := SQ_front hsel hoi hs ts a w hmem (fun h oh hh hl ho => free h i oh oi (by have := (inv.heads h).1 hh; omega) hl ho hoi (nowait h (by omega) ((inv.heads h).1 hh).2)) inv.pw hS
        refine hy.wpOp hoi hC (ih _ (hs.erase i) ts _ w ?_ ⟨by simp [inv.size], fun j => ?_, inv.pw.sublist List.erase_sublist, t, h3, h4, h5, fun j h7 h8 => ?_⟩ hC hS')
        · rw [List.length_erase_of_mem hmem]
          have := List.length_pos_of_mem hmem
          omega
        · have hnd : hs.Nodup := inv.pw.imp (fun h => Nat.ne_of_lt h)
          rw [hnd.mem_erase_iff, inv.heads]
          by_cases e : j = i
          · subst e
            simp only [ne_eq, not_true_eq_false, false_and, false_iff, not_and]
            intro _ hh
            rw [getD_set_self (by rw [inv.size]; exact hlt)] at hh
            cases hh
          · rw [getD_set_ne true (Ne.symm e)]; simp [e]
        · rw [getD_set_ne true (by omega)]; exact h6 j h7 h8
      · have hti := (h6 i (by omega) hlt).1 hun
        have hit : i = t := by
          by_cases e : i = t
          · exact e
          · exfalso
            have hc := hchain i hlt
            simp only [Bool.or_eq_true, decide_eq_true_eq] at hc
            rcases hc with hc | hc
            · omega
            · have := nowait (i - 1) (by omega) ((h6 (i - 1) (by omega) (by omega)).2 (by omega))
              rw [this] at hc; cases hc
        subst hit
        obtain ⟨m, hm⟩ : ∃ m, ops.size - i = m + 1 := ⟨ops.size - i - 1, by omega⟩
        have hts : ts = i :: List.range' (i + 1) m := by rw [h5, hm, List.range'_succ]
        rw [hts] at hS
        have h9 := SQ_late hsel hoi hs (List.range' (i + 1) m) a w (fun h oh hh ho => free h i oh oi ((inv.heads h).1 hh).1 (by have := (inv.heads h).1 hh; omega) ho hoi (nowait h (by have := (inv.heads h).1 hh; omega) ((inv.heads h).1 hh).2)) hS
        refine wpOp_of_Q0 (fun ⟨_, _, h⟩ => h) (wpOp_mono' (fun a' w' h10 => ih _ hs (List.range' (i + 1) m) a' w' ?_ ⟨by simp [inv.size], fun j => ?_, inv.pw, i + 1, by omega, by omega, by rw [show ops.size - (i + 1) = m from by omega], fun j h7 h8 => ?_⟩ h10.1 h10.2) h9)
        · rw [hts] at hf; simp at hf ⊢; omega
        · rw [inv.heads]
          by_cases e : j = i
          · subst e; simp [hik]
          · rw [getD_set_ne true (Ne.symm e)]
        · by_cases e : j = i
          · subst e
            rw [getD_set_self (by rw [inv.size]; exact hlt)]
            simp
          · rw [getD_set_ne true (Ne.symm e), h6 j h7 h8]; omega
end
end Go.AX
