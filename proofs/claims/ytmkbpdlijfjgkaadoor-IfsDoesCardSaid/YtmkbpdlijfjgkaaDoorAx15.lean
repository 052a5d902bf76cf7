/- A region that draws its order, of any kind: the law on worlds. One order is walked; the others come to the same. -/
import Derived.Test.YtmkbpdlijfjgkaaDoorAx14
namespace Go.AX
set_option linter.unusedSimpArgs false
set_option linter.unusedVariables false
open Go Go.RowKit

/-! ### Other blocks -/
theorem ok_congr {w w' : World} {b : Nat} {k : ABlk} (h : w'.heap[b]? = w.heap[b]?) (hk : k.ok w b) : k.ok w' b := by
  cases k <;> simp only [ABlk.ok, h] at hk ⊢ <;> exact hk
section
variable {E E0 : Nat → Option Obj} {H : AH} {w : World} {b : Nat} {k : ABlk} {o : Obj}
theorem Sat.few (h : Sat E H w) (hE : ∀ b o, E0 b = some o → E b = some o) : Sat E0 H w := ⟨h.below, h.known, fun b o ho => h.far b o (hE b o ho)⟩
theorem Sat.nofar (h : Sat E H w) : Sat (fun _ => none) H w := h.few fun b o ho => by cases ho
theorem Sat.fresh (h : Sat E H w) (hb : E b = some o) : Fresh H b := ⟨(h.far b o hb).1, (h.far b o hb).2.1⟩
theorem Sat.absorb (h : Sat E H w) (hb : E b = some o) (hk : ∀ w' : World, w'.heap[b]? = some o → k.ok w' b) : Sat (fun x => if x = b then none else E x) (H.add b k) w := by
  obtain ⟨h1, h2, h3⟩ := h.far b o hb
  refine ⟨h.below, fun b' k' hk' => ?_, fun b' o' ho' => ?_⟩
  · rw [find_add] at hk'
    split at hk'
    · rename_i e; subst e; cases hk'
      exact ⟨h1, (Array.getElem?_eq_some_iff.1 h3).1, hk w h3⟩
    · exact h.known b' k' hk'
  · split at ho'
    · cases ho'
    · rename_i hne
      obtain ⟨q1, q2, q3⟩ := h.far b' o' ho'
      exact ⟨q1, by rw [find_add, if_neg hne]; exact q2, q3⟩
theorem Sat.hoist (h : Sat E (H.add b k) w) (hf : Fresh H b) : ∃ o, (∀ w' : World, w'.heap[b]? = some o → k.ok w' b) ∧ Sat (fun x => if x = b then some o else E x) H w ∧ E b = Option.none := by
  obtain ⟨h1, h2, h3⟩ := h.known b k (find_add_self _ _ _)
  have hb : w.heap[b]? = some w.heap[b] := Array.getElem?_eq_getElem h2
  refine ⟨w.heap[b], fun w' hw' => ok_congr (by rw [hw', hb]) h3, ⟨h.below, fun b' k' hk' => ?_, fun b' o' ho' => ?_⟩, ?_⟩
  · have hne : b' ≠ b := fun e => by subst e; rw [hf.2] at hk'; cases hk'
    exact h.known b' k' (by rw [find_add, if_neg hne]; exact hk')
  · by_cases e : b' = b
    · subst e
      rw [if_pos rfl] at ho'
      cases ho'
      exact ⟨h1, hf.2, hb⟩
    · rw [if_neg e] at ho'
      obtain ⟨q1, q2, q3⟩ := h.far b' o' ho'
      rw [find_add, if_neg e] at q2
      exact ⟨q1, q2, q3⟩
  · cases he : E b with
    | none => rfl
    | some o' =>
      have := (h.far b o' he).2.1
      rw [find_add_self] at this; cases this
/-- What a heap knows beyond another one, as other blocks. -/
def over (E : Nat → Option Obj) (H0 H : AH) (w : World) (x : Nat) : Option Obj := if H0.find x = none ∧ (H.find x).isSome then w.heap[x]? else E x
theorem Sat.over {H0 : AH} (h : Sat E H w) (hl : H0.le H) : Sat (over E H0 H w) H0 w := by
  refine ⟨(h.mono hl).below, (h.mono hl).known, fun b o ho => ?_⟩
  unfold AX.over at ho
  split at ho
  · rename_i hc
    obtain ⟨k, hk⟩ := Option.isSome_iff_exists.1 hc.2
    exact ⟨hl.1 ▸ (h.known b k hk).1, hc.1, ho⟩
  · exact (h.mono hl).far b o ho
theorem Sat.under {H0 : AH} {w' : World} (h : Sat E H w) (hl : H0.le H) (h' : Sat (AX.over E H0 H w) H0 w') : Sat E H w' := by
  refine ⟨hl.1 ▸ h'.below, fun b k hk => ?_, fun b o ho => ?_⟩
  · obtain ⟨h1, h2, h3⟩ := h.known b k hk
    cases h0 : H0.find b with
    | some k' =>
      have := hl.2 _ _ h0
      rw [hk] at this; cases this
      obtain ⟨q1, q2, q3⟩ := h'.known b k h0
      exact ⟨h1, q2, q3⟩
    | none =>
      have hb : w.heap[b]? = some w.heap[b] := Array.getElem?_eq_getElem h2
      have e : AX.over E H0 H w b = some w.heap[b] := by unfold AX.over; rw [if_pos ⟨h0, by rw [hk]; rfl⟩]; exact hb
      obtain ⟨q1, q2, q3⟩ := h'.far b _ e
      exact ⟨h1, (Array.getElem?_eq_some_iff.1 q3).1, ok_congr (by rw [q3, hb]) h3⟩
  · obtain ⟨h1, h2, h3⟩ := h.far b o ho
    have e : AX.over E H0 H w b = some o := by unfold AX.over; rw [if_neg (fun hc => by rw [h2] at hc; exact absurd hc.2 (by simp))]; exact ho
    exact ⟨h1, h2, (h'.far b o e).2.2⟩
end

/-! ### Operations that make one block -/
def alc (P : Program) (op : Op) (ev : Operand → Value) : Option ((Nat → Value) × ABlk) :=
  match op with
  | .alloc t => (zrOf P t).map fun cs => (fun b => .pointer (some ⟨b, 0, none⟩), .cells cs t cs.length)
  | .buildSlice t len ps => (slE P t).bind fun s => if len = ((ps.toList.map (·.1)).zip ((ps.toList.map (·.2)).map ev)).length ∧ len * s.2.1 ≤ 16777216 then
      (bskL s.2.1 0 ((ps.toList.map (·.1)).zip ((ps.toList.map (·.2)).map ev))).map fun cs => (fun b => .slice (some ⟨b, 0, none⟩) len len, .cells cs s.1 cs.length) else none
  | .makeMap _ none => some (fun b => .map (some b), .amap [])
  | .box t x => some (fun b => .pointer (some ⟨b, 0, none⟩), .cells (vcells (ev x)) t (vcells (ev x)).length)
  | _ => none

theorem alc_congr {P : Program} {op : Op} {ev ev' : Operand → Value} (h : ∀ x ∈ op.operands, ev x = ev' x) : alc P op ev = alc P op ev' := by
  cases op <;> try rfl
  case makeMap t r => cases r <;> rfl
  case box t x => simp only [alc, h x (by simp [Op.operands])]
  case buildSlice t len ps =>
    have e : (ps.toList.map (·.2)).map ev = (ps.toList.map (·.2)).map ev' := List.map_congr_left fun x hx => h x (by simpa [Op.operands] using hx)
    simp only [alc, e]

set_option maxHeartbeats 2000000 in
theorem bsl_arun {P : Program} {H : AH} {ev : Operand → Value} {dst : Option Tmp} {t : TypeId} {len : Nat} {ps : Array (Nat × Operand)} {ty : TypeId} {pos : String} {af : Array Edge} {g : Option (Nat × Bool)} {k : Value → AH → Prop}
    (h : bsl P t len ((ps.toList.map (·.1)).zip ((ps.toList.map (·.2)).map ev)) H k) : arun P (execOp ev ⟨dst, .buildSlice t len ps, ty, pos, af, g⟩) H (anext false P k) := by
  show arun P (Instr.buildSlice t len (ps.map fun (i, x) => (i, ev x)) >>= fun v => pure (Next.value v)) H _
  rw [arun_bind]
  have e : (ps.map fun (i, x) => (i, ev x)) = ((ps.toList.map (·.1)).zip ((ps.toList.map (·.2)).map ev)).toArray := by
    rw [← zip_parts ev ps.toList, ← Array.toList_map, Array.toArray_toList]
  rw [e]; exact bsl_run h

theorem alc_sound {P : Program} {o : Oper} {ev : Operand → Value} {p : (Nat → Value) × ABlk} (h : alc P o.op ev = some p) (H1 : AH) :
    ASem P (execOp ev o) H1 (fun v H2 => ∃ b, Fresh H1 b ∧ v = p.1 b ∧ H2 = H1.add b p.2) := by
  obtain ⟨dst, op, ty, pos, af, g⟩ := o
  refine ASem.of_arun ?_
  cases op <;> simp only [alc] at h <;> try (cases h; done)
  case alloc t =>
    obtain ⟨cs, hz, rfl⟩ := Option.map_eq_some_iff.1 h
    show arun P (Instr.alloc t true (.tuple #[]) >>= fun v => pure (Next.value v)) H1 _
    rw [arun_bind]
    obtain ⟨z, h1, h2⟩ := zeroValue_run (H := H1) hz
    simp only [Instr.alloc, arun_bind]
    refine arun_of_qrun _ _ _ h1 ?_
    refine arun_newVar ?_
    have e : vcells z = cs := h2
    rw [e]
    exact fun b hb => ⟨b, hb, rfl, rfl⟩
  case buildSlice t len ps =>
    obtain ⟨s, hs, h⟩ := Option.bind_eq_some_iff.1 h
    split at h
    · rename_i hc
      obtain ⟨cs, hcs, rfl⟩ := Option.map_eq_some_iff.1 h
      refine bsl_arun ?_
      unfold bsl
      rw [hs]
      refine ⟨hc.1, hc.2, ?_⟩
      rw [hcs]
      exact fun b hb => ⟨b, hb, rfl, rfl⟩
    · cases h
  case makeMap t r =>
    cases r with
    | some x => cases h
    | none =>
      simp only [Option.some.injEq] at h
      subst h
      show arun P (Instr.makeMap t none >>= fun v => pure (Next.value v)) H1 _
      rw [arun_bind]
      exact arun_makeMap (fun b hb => ⟨b, hb, rfl, rfl⟩)
  case box t x =>
    simp only [Option.some.injEq] at h
    subst h
    show arun P (Instr.box t (ev x) >>= fun v => pure (Next.value v)) H1 _
    rw [arun_bind]
    simp only [Instr.box, arun_bind]
    exact arun_newVar (fun b hb => ⟨b, hb, rfl, rfl⟩)

/-- What a block of ours may be made ahead of, though it stands behind. -/
def hoistOver : Op → Bool
  | .store .. => true
  | .call { callee := .builtin b, .. } => match b with | .append => true | _ => false
  | _ => false
theorem hoistOver_run {P : Program} {o : Oper} {ev : Operand → Value} (h : hoistOver o.op = true) {w w' : World} {nx : Next} (hr : (execOp ev o).run P w = .ok nx w') : nx = .skip ∨ ∃ v, nx = .value v := by
  obtain ⟨dst, op, ty, pos, af, g⟩ := o
  cases op <;> simp only [hoistOver] at h <;> try (cases h; done)
  case store t x y =>
    have e : execOp ev ⟨dst, .store t x y, ty, pos, af, g⟩ = (Instr.storeAt t (ev x) (ev y) >>= fun _ => pure Next.skip) := rfl
    rw [e, Sem.run_bind] at hr
    cases h2 : (Instr.storeAt t (ev x) (ev y)).run P w with
    | ok u w2 => rw [h2] at hr; simp only [Result.andThen_ok, Sem.run_pure, Result.ok.injEq] at hr; exact .inl hr.1.symm
    | halt x w2 => rw [h2] at hr; cases hr
  case call c =>
    obtain ⟨callee, args, tys⟩ := c
    cases callee <;> simp only [hoistOver] at h <;> try (cases h; done)
    rename_i b
    cases b <;> simp only at h <;> try (cases h; done)
    have e : execOp ev ⟨dst, .call { callee := .builtin .append, args := args, argTypes := tys }, ty, pos, af, g⟩ = (do pure (Next.value (← Builtin.append_ tys ty (args.map ev)))) := rfl
    rw [e] at hr
    exact .inr (value_only (α := Unit) hr)

end Go.AX
