/- A region that draws its order, where writes may come ahead of reads, over the abstract heap. -/
import Derived.Test.YtmkbpdlijfjgkaaDoorAx13
namespace Go.AX
set_option linter.unusedSimpArgs false
set_option linter.unusedVariables false
open Go Go.RowKit

section
variable {P : Program} {n : Nat} {ds : List (Option Tmp)} {q : Bool} {E : Nat → Option Obj}

/-- What reads, and is no call. -/
def isRd : Op → Bool
  | .move _ | .assign _ | .pick .. | .binOp .. | .unOp .. | .extract .. | .convert .. | .load .. | .fieldAddr .. | .indexAddr .. | .nilCheck _ | .index .. | .field .. | .slice .. | .build .. | .makeInterface .. | .typeAssert .. => true
  | .call { callee := .builtin b, .. } => match b with | .len | .cap | .min | .max => true | _ => false
  | _ => false

theorem rd_value' {o : Oper} {fr : Fr} {H : AH} {s : Sem Value} (he : execOp (evd fr) o = (do pure (.value (← s)))) {k : Value → AH → Prop} (h : wo (qrun P s H) fun v => k v H) : ∃ v, qrun P (execOp (evd fr) o) H = some (.value v) ∧ k v H := by
  rw [he, qrun_bind]
  cases hs : qrun P s H with
  | none => rw [hs] at h; exact h.elim
  | some v => rw [hs] at h; exact ⟨v, rfl, h⟩

theorem vop_rd {o : Oper} {fr : Fr} {H : AH} {k : Value → AH → Prop} (hr : isRd o.op = true) (h : vop q P fr H o k) : ∃ v, qrun P (execOp (evd fr) o) H = some (.value v) ∧ k v H := by
  obtain ⟨dst, op, ty, pos, af, g⟩ := o
  unfold vop at h
  cases op <;> simp only at h <;> simp only [isRd] at hr <;> try (cases hr; done)
  case move x => exact ⟨_, rfl, h.2⟩
  case assign x => exact ⟨_, rfl, h.2⟩
  case pick c a b =>
    obtain ⟨h1, h2, h3, h4⟩ := h
    simp only [execOp]
    revert h4
    generalize evd fr c = c
    intro h4
    cases c <;> first | exact ⟨_, rfl, h4⟩ | exact h4.elim
  case binOp op t x y yt => exact rd_value' rfl h.2.2.2
  case unOp op t x => exact rd_value' rfl h.2
  case extract x i => exact rd_value' rfl h.2
  case convert s t x => exact rd_value' rfl h.2.2.2
  case load t x => exact rd_value' rfl (ldv_run h.2)
  case fieldAddr s x i => exact rd_value' rfl (fap_run h.2)
  case indexAddr t x i => exact rd_value' rfl (ixp_run h.1 h.2.2.2)
  case nilCheck x =>
    have h2 := h.2
    simp only [execOp]
    revert h2
    generalize evd fr x = v
    intro h2
    unfold nck at h2
    split at h2
    · exact ⟨_, rfl, h2⟩
    · exact ⟨_, rfl, h2⟩
    · exact ⟨_, rfl, h2⟩
    · exact h2.elim
  case makeInterface t x => exact rd_value' rfl h.2
  case typeAssert x t u ok => exact rd_value' rfl h.2
  case index t x i => exact rd_value' rfl h.2.2
  case field t x i => exact rd_value' rfl h.2
  case slice t x lo hi mx =>
    obtain ⟨h1, h⟩ := h
    have key : ∀ (o : Option Operand) (k : Option Value → Prop), osome fr o k → k (o.map (evd fr)) := fun o k h => by
      cases o with
      | none => exact h
      | some x => exact h.2
    exact rd_value' rfl (key _ _ (key _ _ (key _ _ h)))
  case build t ps =>
    obtain ⟨h1, h2⟩ := h
    refine rd_value' (s := Instr.build t (ps.map fun (i, x) => (i, evd fr x))) rfl ?_
    have e : (ps.map fun (i, x) => (i, evd fr x)) = ((ps.toList.map (·.1)).zip ((ps.toList.map (·.2)).map (evd fr))).toArray := by
      rw [← zip_parts (evd fr) ps.toList, ← Array.toList_map, Array.toArray_toList]
    rw [e]; exact bld_run h2
  case call c =>
    obtain ⟨callee, args, tys⟩ := c
    cases callee <;> simp only [isRd] at hr <;> try (cases hr; done)
    case builtin b =>
      have e : (args.toList.map (evd fr)).toArray = args.map (evd fr) := by rw [← Array.toList_map, Array.toArray_toList]
      have fin : ∀ (b : Builtin) (hb : bcls b = .read), (wvs fr args.toList fun as => rdb (tys[0]?.bind P.underlying) b as fun v => k v H) → ∃ v, qrun P (execOp (evd fr) ⟨dst, .call { callee := .builtin b, args := args, argTypes := tys }, ty, pos, af, g⟩) H = some (.value v) ∧ k v H := fun b hb h => by
        obtain ⟨h1, h2⟩ := h
        simp only [execOp, resolve, qrun_bind, qrun_pure, Option.bind_some, invoke]
        unfold rdb wo at h2
        split at h2
        · rename_i v hv
          have hrun : ∀ cs, qrun P (builtin b tys ty cs (args.map (evd fr))) H = some (.value v) := fun cs => by
            have := rdv_run (P := P) (H := H) (ty := ty) (cs := cs) hv
            rwa [e] at this
          exact ⟨v, hrun _, h2⟩
        · exact h2.elim
      cases b <;> simp only [isRd] at hr <;> try (cases hr; done)
      all_goals exact fin _ rfl h

theorem vops_rd {ops : Array Oper} {Hc : AH} {R : Act → World → Prop} {ts : List Nat} {w : World} {K : Fr → AH → Prop} (hds : ds = ops.toList.map (·.dst))
    (hK : ∀ fr a, FrOk n fr a → K fr Hc → TL P ops (Sat E Hc) R ts a w) : ∀ (l : List Oper) (k : Nat) (fr : Fr) (a : Act), (l.all fun o => isRd o.op) = true → (∀ j, j < l.length → l[j]? = ops[k + j]?) →
      vops true P n ds l fr Hc K → FrOk n fr a → SQ P ops (Sat E Hc) R (List.range' k l.length) ts a w
  | [], k, fr, a, _, _, h, hf => hK fr a hf h
  | o :: rest, k, fr, a, hr, hl, h, hf => by
    simp only [List.all_cons, Bool.and_eq_true] at hr
    have ho : ops[k]? = some o := by simpa using (hl 0 (by simp)).symm
    have hl' : ∀ j, j < rest.length → rest[j]? = ops[k + 1 + j]? := fun j hj => by
      have := hl (j + 1) (by simp; omega)
      rw [show k + 1 + j = k + (j + 1) from by omega, ← this]; rfl
    have hagr := vops_sound (q := true) (P := P) (n := n) (ds := ds) (K := K) (o :: rest) fr Hc h
    rw [List.length_cons, List.range'_succ]
    obtain ⟨d, op, ty, pos, af, g⟩ := o
    cases g with
    | none =>
      obtain ⟨h1, h2⟩ := h
      obtain ⟨a1, a2, a3⟩ := vop_sound h2
      obtain ⟨v, hv, hk⟩ := vop_rd (by exact hr.1) h2
      have hok : okOp n fr ⟨d, op, ty, pos, af, none⟩ = true := by simp only [okOp, a1, a2, h1]; rfl
      exact ⟨_, v, ho, .inl ⟨rfl, fun w hw => by rw [hf.exec hok]; exact qrun_sound P _ Hc _ w hv hw⟩, vops_rd hds hK rest (k + 1) _ _ hr.2 hl' hk (hf.put h1 v)⟩
    | some jw =>
      obtain ⟨j, want⟩ := jw
      simp only [vops] at h
      cases hj : ds[j]? with
      | none => rw [hj] at h; exact h.elim
      | some t =>
        rw [hj] at h
        cases t with
        | none => exact h.elim
        | some t =>
          simp only [wo_some] at h
          cases hb : alk t fr with
          | none => rw [hb] at h; exact h.elim
          | some b =>
            rw [hb] at h
            simp only [wo_some] at h
            have same : ∀ c : Bool, b = .bool c → FrOk n ((t, .bool c) :: fr) a := fun c hc => ⟨hf.defers, hf.size, fun t' v' h' => by
              rw [alk_cons] at h'
              split at h'
              · rename_i e; subst e; cases h'; exact hf.vals _ _ (by rw [hb, hc])
              · exact hf.vals _ _ h'⟩
            have hgd : ∀ gg, aguard ds fr ⟨d, op, ty, pos, af, some (j, want)⟩ = some gg → Region.wanted ⟨d, op, ty, pos, af, some (j, want)⟩ (yielded ops a.tmps) = gg := fun gg hgg => aguard_sound hf (by rw [← hds]; exact hgg)
            have yes : ∀ fr', FrOk n fr' a → Region.wanted ⟨d, op, ty, pos, af, some (j, want)⟩ (yielded ops a.tmps) = true → (dok n d = true ∧ vop true P fr' Hc ⟨d, op, ty, pos, af, none⟩ (fun v H' => vops true P n ds rest (putf d v fr') H' K)) →
                ∃ o v, ops[k]? = some o ∧ RY P ops (Sat E Hc) o v a ∧ SQ P ops (Sat E Hc) R (List.range' (k + 1) rest.length) ts (a.put o.dst v) w := fun fr' hf' hw ⟨h1, h2⟩ => by
              obtain ⟨a1, a2, a3⟩ := vop_sound h2
              obtain ⟨v, hv, hk⟩ := vop_rd (by exact hr.1) h2
              have hok : okOp n fr' ⟨d, op, ty, pos, af, none⟩ = true := by simp only [okOp, a1, a2, h1]; rfl
              exact ⟨_, v, ho, .inl ⟨hw, fun w hw => by
                have : execOp a.eval ⟨d, op, ty, pos, af, some (j, want)⟩ = execOp a.eval ⟨d, op, ty, pos, af, none⟩ := rfl
                rw [this, hf'.exec hok]; exact qrun_sound P _ Hc _ w hv hw⟩, vops_rd hds hK rest (k + 1) _ _ hr.2 hl' hk (hf'.put h1 v)⟩
            have no : ∀ fr', FrOk n fr' a → Region.wanted ⟨d, op, ty, pos, af, some (j, want)⟩ (yielded ops a.tmps) = false → (dok n d = true ∧ vops true P n ds rest (putf d undef fr') Hc K) →
                ∃ o v, ops[k]? = some o ∧ RY P ops (Sat E Hc) o v a ∧ SQ P ops (Sat E Hc) R (List.range' (k + 1) rest.length) ts (a.put o.dst v) w := fun fr' hf' hw ⟨h1, h2⟩ =>
              ⟨_, undef, ho, .inr ⟨hw, rfl⟩, vops_rd hds hK rest (k + 1) _ _ hr.2 hl' h2 (hf'.put h1 undef)⟩
            cases b with
            | bool b =>
              have e1 := hgd (b == want) (by simp only [aguard, hj, Option.bind_some, id, hb])
              simp only [ag] at h
              by_cases hbw : b = want
              · exact yes _ (same want (by rw [hbw])) (by rw [e1]; simpa using hbw) (h.1 hbw)
              · exact no _ (same (!want) (by cases b <;> cases want <;> simp_all)) (by rw [e1]; simpa using hbw) (h.2 hbw)
            | _ =>
              have e1 := hgd false (by simp only [aguard, hj, Option.bind_some, id, hb])
              simp only [ag] at h
              exact no _ hf e1 h

/-- The chain that writes: one after the other, what no write may touch is there all the time. -/
def tailC (P : Program) (n : Nat) (ds : List (Option Tmp)) (Hc : AH) : List Oper → Fr → AH → (Fr → AH → Prop) → Prop
  | [], fr, H, K => K fr H
  | o :: l, fr, H, K => vops false P n ds [o] fr H fun fr H => Hc.le H ∧ tailC P n ds Hc l fr H K
theorem tailC_nil {Hc : AH} {fr : Fr} {H : AH} {K : Fr → AH → Prop} : tailC P n ds Hc [] fr H K = K fr H := Eq.trans rfl rfl
theorem tailC_cons {Hc : AH} {o : Oper} {l : List Oper} {fr : Fr} {H : AH} {K : Fr → AH → Prop} : tailC P n ds Hc (o :: l) fr H K = vops false P n ds [o] fr H fun fr H => Hc.le H ∧ tailC P n ds Hc l fr H K := Eq.trans rfl rfl

theorem tailC_sound {ops : Array Oper} {Hc : AH} {Q : Exit → Fr → AH → Prop} (hds : ds = ops.toList.map (·.dst)) : ∀ (l : List Oper) (k : Nat) (fr : Fr) (H : AH) (a : Act) (w : World), (∀ j, j < l.length → l[j]? = ops[k + j]?) →
    tailC P n ds Hc l fr H (Q .normal) → FrOk n fr a → Sat E H w → TL P ops (Sat E Hc) (AQ E n Q .normal) (List.range' k l.length) a w
  | [], k, fr, H, a, w, _, h, hf, hs => ⟨fr, H, hf, hs, h⟩
  | o :: l, k, fr, H, a, w, hl, h, hf, hs => by
    have ho : ops[k]? = some o := by simpa using (hl 0 (by simp)).symm
    have hl' : ∀ j, j < l.length → l[j]? = ops[k + 1 + j]? := fun j hj => by
      have := hl (j + 1) (by simp; omega)
      rw [show k + 1 + j = k + (j + 1) from by omega, ← this]; rfl
    rw [List.length_cons, List.range'_succ]
    have h2 := vops_sound _ _ _ h
    simp only [aops] at h2
    show wpOp P ops Q0 k _ a w
    unfold wpOp
    simp only [ho]
    split at h2
    · exact h2.elim
    · rename_i g hg
      rw [hds] at hg
      have hw := aguard_sound hf hg
      rw [← hds] at hg
      simp only [hw]
      cases g with
      | true =>
        obtain ⟨hok, h1⟩ := h2.1 rfl
        have hd : dok n o.dst = true := by simp only [okOp, Bool.and_eq_true] at hok; exact hok.2
        simp only [if_true]
        exact .inl ((aop_sem h1).wp (hf.gov hg) hok hs fun v H' w' hk hs' => ⟨hs'.mono hk.1, tailC_sound hds l (k + 1) _ _ _ _ hl' hk.2 ((hf.gov hg).put hd v) hs'⟩)
      | false =>
        obtain ⟨hd, h1⟩ := h2.2 rfl
        simp only [Bool.false_eq_true, if_false]
        exact ⟨hs.mono h1.1, tailC_sound hds l (k + 1) _ _ _ _ hl' h1.2 ((hf.gov hg).put hd _) hs⟩

theorem AWp.late {id : Nat} {l : List Oper} {Q : Exit → Fr → AH → Prop} {fr : Fr} {H : AH} (k : Nat) (Hc : AH) (hm : P.follows .mixedOrders = true) (hB : lateB .any l.toArray k = true) (hr : ((l.take k).all fun o => isRd o.op) = true) (hc : Hc.le H)
    (h : nd (l.map (·.dst)) fun ds => vops true P n ds (l.take k) fr Hc fun fr _ => tailC P n ds Hc (l.drop k) fr H (Q .normal)) : AWp P n (.region id l.toArray true) Q fr H := by
  intro E a w hf hs
  have hk : k ≤ l.length := by
    simp only [lateB, Bool.and_eq_true, decide_eq_true_eq] at hB
    simpa using hB.1.1.1.2
  have h' : vops true P n (l.toArray.toList.map (·.dst)) (l.take k) fr Hc fun fr _ => tailC P n (l.toArray.toList.map (·.dst)) Hc (l.drop k) fr H (Q .normal) := h
  refine wp_region_any hm ?_
  have hs' : Sat E H { w with drawn := w.drawn + 1 } := hs.drew
  have hSQ := vops_rd (ops := l.toArray) (R := AQ E n Q .normal) (ts := List.range' k (l.drop k).length) (w := { w with drawn := w.drawn + 1 }) rfl
    (fun fr' a' h1 h2 => tailC_sound rfl (l.drop k) k fr' H a' _ (fun j hj => by simp [List.getElem?_drop]) h2 h1 hs') (l.take k) 0 fr a hr (fun j hj => by
      have : j < k := by simp at hj; omega
      simp [List.getElem?_take, this]) h' hf
  refine late_any hB _ _ _ _ a _ ?_ ?_ (hs'.mono hc) hSQ
  · simp; omega
  · refine ⟨by simp, fun i => ?_, List.pairwise_lt_range', k, Nat.le_refl _, by simpa using hk, by simp, fun j h1 h2 => ?_⟩
    · rw [List.length_take, Nat.min_eq_left hk, List.mem_range'_1]
      constructor
      · intro hh; exact ⟨by omega, by rw [getD_in (by simp; omega) (getD_replicate_false _ _)]⟩
      · intro hh; omega
    · constructor
      · intro _; exact h1
      · intro _; rw [getD_in (by simpa using h2) (getD_replicate_false _ _)]

end
end Go.AX
