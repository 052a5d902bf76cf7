/- A region that draws its order: first operations that read, and calls that leave what is known alone, in whatever order; then operations whose order is fixed, which may write. -/
import Derived.Test.YtmkbpdlijfjgkaaDoorAx9
import Derived.StillTail
import Derived.Deep.Quiet
namespace Go.AX
set_option linter.unusedSimpArgs false
set_option linter.unusedVariables false
open Go Go.RowKit

section
variable {P : Program} {ops : Array Oper} {md : Region.Mode} {C : World → Prop}

/-- Whatever is picked next, f times, is one of the first n operations, and quiet; then L. -/
def hq (P : Program) (md : Region.Mode) (ops : Array Oper) (C : World → Prop) (n : Nat) (L : Array Bool → Act → Prop) : Nat → Array Bool → Act → Prop
  | 0, ls, a => L ls a
  | f + 1, ls, a => Region.ready md ops ls ≠ [] ∧ ∀ i ∈ Region.ready md ops ls, i < n ∧ qOp P ops C i (hq P md ops C n L f (ls.setIfInBounds i true)) a

theorem hq_any {n g : Nat} {L : Array Bool → Act → Prop} {Q : Exit → Act → World → Prop} (hL : ∀ ls a w, C w → L ls a → wpAny P md ops Q g ls a w) (f : Nat) :
    ∀ ls a w, C w → hq P md ops C n L f ls a → wpAny P md ops Q (f + g) ls a w := by
  induction f with
  | zero => intro ls a w hw h; rw [Nat.zero_add]; exact hL ls a w hw h
  | succ f ih =>
    intro ls a w hw h
    rw [show f + 1 + g = f + g + 1 from by omega]
    exact ⟨fun h0 => absurd h0 h.1, fun i hi => wpOp_of_qOp hw (fun a' w' hw' h' => ih _ a' w' hw' h') (h.2 i hi).2⟩

theorem hq_first {n i : Nat} {oi : Oper} {v : Value} {L : Array Bool → Act → Prop} (hi : ops[i]? = some oi) (hsel : ∀ (j : Nat) (o : Oper) cs b, ops[j]? = some o → o.op ≠ .select cs b)
    (hs : Region.sinkB md ops n = true) (hc : Region.chainB md ops n = true) (hn : n < ops.size) (hin : i < n)
    (hdone : ∀ ls a, L ls a → ∀ j ∈ Region.ready md ops ls, n ≤ j) (f : Nat) :
    ∀ (ls : Array Bool) (a : Act), HeadInv md ops n ls →
      (∀ j oj, ops[j]? = some oj → j ≠ i → ls.getD j true = false → (∀ e ∈ oj.after, Region.binds md e = true → e.on ≠ i) → oi.apart ops oj = true) →
      i ∈ Region.ready md ops ls → YieldsIn P ops C oi v a → hq P md ops C n L f (ls.setIfInBounds i true) (a.put oi.dst v) → hq P md ops C n L (f + 1) ls a := by
  have low : ∀ ls, HeadInv md ops n ls → i ∈ Region.ready md ops ls → ∀ j ∈ Region.ready md ops ls, j < n := fun ls inv hr j hj => by
    rcases Nat.lt_or_ge j n with h | h
    · exact h
    · exact absurd hj (tail_waits hs hc hn inv _ i rfl hin (mem_ready.1 hr).1 j h)
  induction f with
  | zero =>
    intro ls a inv _ hr hy h
    refine ⟨List.ne_nil_of_mem hr, fun j hj => ⟨low ls inv hr j hj, ?_⟩⟩
    by_cases e : j = i
    · subst e; exact hy.qOp hi h
    · have h1 := hdone _ _ h j (ready_mono hj e)
      have h2 := low ls inv hr j hj
      omega
  | succ f ih =>
    intro ls a inv hfree hr hy h
    refine ⟨List.ne_nil_of_mem hr, fun j hj => ⟨low ls inv hr j hj, ?_⟩⟩
    by_cases e : j = i
    · subst e; exact hy.qOp hi h
    · obtain ⟨hjun, oj, hoj, hall⟩ := mem_ready.1 hj
      have hno : ∀ e ∈ oj.after, Region.binds md e = true → e.on ≠ i := fun e he hb heq => by
        have h1 := hall e he hb
        rw [heq, getD_both (mem_ready.1 hr).1] at h1
        cases h1
      refine qOp_mono (fun a' h3 => ?_) (qOp_put hoj (hfree j oj hoj e hjun hno) (fun cs b => hsel i oi cs b hi) (fun cs b => hsel j oj cs b hoj) hy (h.2 j (ready_mono hj e)).2)
      refine ih _ a' (inv.set hj (low ls inv hr j hj)) (fun k ok hk hki hun hno' => hfree k ok hk hki ?_ hno') (ready_mono hr (Ne.symm e)) h3.1 (by rw [Array.setIfInBounds_comm _ _ e]; exact h3.2)
      by_cases hjk : j = k
      · subst hjk; exact hjun
      · rw [getD_set_ne true hjk] at hun; exact hun

theorem hq_lex {n g : Nat} {K : Act → Prop} (hsel : Region.noSelect ops = true) (hs : Region.sinkB md ops n = true) (hc : Region.chainB md ops n = true) (hn : n < ops.size) (l : List Oper) :
    ∀ (k : Nat) (ls : Array Bool) (a : Act), (∀ j, j < l.length → l[j]? = ops[k + j]?) → k + l.length = n → HeadInv md ops n ls → Region.lexHead md ops g l.length k ls = true → wpQuiet P ops C K l a →
    hq P md ops C n (fun ls' a' => Region.seqB md ops g n ls' = true ∧ K a') l.length ls a := by
  induction l with
  | nil =>
    intro k ls a _ hk _ hB h
    have : k = n := by simpa using hk
    subst this
    exact ⟨by simpa [Region.lexHead] using hB, h⟩
  | cons o l ih =>
    intro k ls a hl hk inv hB h
    have h0 : ops[k]? = some o := by simpa using (hl 0 (by simp)).symm
    simp only [List.length_cons, Region.lexHead, Bool.and_eq_true] at hB
    obtain ⟨⟨hr, hf⟩, hB'⟩ := hB
    simp only [List.length_cons] at hk
    have hr' : k ∈ Region.ready md ops ls := by simpa using hr
    obtain ⟨v, hy, hK⟩ := yieldsIn_of_qOp h0 (show qOp P ops C k (wpQuiet P ops C K l) a by unfold qOp; simp only [h0]; exact h)
    exact hq_first h0 (Region.noSelect_spec hsel) hs hc hn (by omega) (fun ls' a' hL => seqB_ready hL.1) l.length ls a inv (Region.free_spec h0 hf) hr' hy
      (ih (k + 1) _ _ (fun j hj => by have := hl (j + 1) (by simp; omega); simpa [Nat.add_assoc, Nat.add_comm 1 j] using this) (by omega) (inv.set hr' (by omega)) hB' hK)

theorem region_quiet_tail {id : Nat} {Q : Exit → Act → World → Prop} {a : Act} {w : World} {l : List Oper} (n : Nat) (hm : P.follows .mixedOrders = true) (hB : Region.lexTailB .any l.toArray n = true) (hC : C { w with drawn := w.drawn + 1 })
    (h : wpQuiet P l.toArray C (fun a' => ∀ w', C w' → wpList P l.toArray Q (l.drop n) a' w') (l.take n) a) : (Code.region id l.toArray true).wp P Q a w := by
  simp only [Region.lexTailB, Bool.and_eq_true, decide_eq_true_eq] at hB
  obtain ⟨⟨⟨⟨hsel, hn⟩, hs⟩, hc⟩, hlex⟩ := hB
  have hn' : n < l.length := by simpa using hn
  have htl : (l.take n).length = n := by simp; omega
  have hdl : (l.drop n).length = l.toArray.size - n := by simp
  have inv0 : HeadInv .any l.toArray n (Array.replicate l.toArray.size false) :=
    ⟨by simp, fun j oj _ hl => (by rw [getD_replicate_false] at hl; cases hl), fun t _ ht => getD_in (by simpa using ht) (getD_replicate_false _ _)⟩
  have h2 := hq_lex (md := .any) (g := l.toArray.size - n) hsel hs hc hn (l.take n) 0 _ a (fun j hj => by
    have hj' : j < n := by rw [htl] at hj; exact hj
    simp [hj']) (by simpa using htl) inv0 (by rw [htl]; exact hlex) h
  have h3 := hq_any (Q := Q) (g := l.toArray.size - n) (fun ls a' w' hw' hL => by
    have := wpAny_of_seq (md := .any) (Q' := Q) (l.drop n) n ls a' w' (fun j => by simp [List.getElem?_drop]) (by rw [hdl]; exact hL.1) (hL.2 w' hw')
    rwa [hdl] at this) _ _ _ _ hC h2
  refine wp_region_any hm ?_
  rw [htl, show n + (l.toArray.size - n) = l.toArray.size from by simp; omega] at h3
  exact h3
end

theorem AWp.tail {P : Program} {n : Nat} {id : Nat} {l : List Oper} {Q : Exit → Fr → AH → Prop} {fr : Fr} {H : AH} (k : Nat) (hm : P.follows .mixedOrders = true) (hB : Region.lexTailB .any l.toArray k = true)
    (h : nd (l.map (·.dst)) fun ds => vops true P n ds (l.take k) fr H fun fr H => vops false P n ds (l.drop k) fr H (Q .normal)) : AWp P n (.region id l.toArray true) Q fr H := by
  intro E a w hf hs
  refine region_quiet_tail (C := Sat E H) k hm hB hs.drew ?_
  have h' : vops true P n (l.toArray.toList.map (·.dst)) (l.take k) fr H fun fr H => vops false P n (l.toArray.toList.map (·.dst)) (l.drop k) fr H (Q .normal) := h
  exact aqops_sound (K := fun fr H => vops false P n (l.toArray.toList.map (·.dst)) (l.drop k) fr H (Q .normal)) (fun fr' a' h1 h2 w' hs' =>
    aops_sound (Q := AQ E n Q) (fun fr H a w h1 h2 h3 => ⟨fr, H, h1, h2, h3⟩) _ _ _ _ _ (vops_sound _ _ _ h2) h1 hs') _ _ _ (vops_sound _ _ _ h') hf

end Go.AX
