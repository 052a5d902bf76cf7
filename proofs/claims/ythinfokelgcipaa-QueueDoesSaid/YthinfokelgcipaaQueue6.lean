/- The reference's queue: Pop, Fail and Push as calls. -/
import Derived.Test.YthinfokelgcipaaQueue4
import Derived.Test.YthinfokelgcipaaAx18
namespace Go.Proofs.Ythinfokelgcipaa.Queue
set_option linter.unusedSimpArgs false
set_option linter.unusedVariables false
open Go Go.AX Go.Proofs Ty
set_option maxHeartbeats 4000000
set_option maxRecDepth 10000

def encT (t : Int) : List Value := [.int .i64 t]
theorem encT_len (t : Int) : (encT t).length = 1 := rfl
abbrev brk (lb : Option Addr) (n lc : Nat) (tb : Option Addr) (m tc : Nat) : ABlk := .cells [.slice lb n lc, .slice tb m tc] 65 2
/-- The reference's queue at br: its list, its tries. -/
structure RAt (H A : AH) (br : Nat) (lb : Option Addr) (lc : Nat) (tb : Option Addr) (tc : Nat) (l : List Req) (tr : List Int) : Prop where
  at_ : A.find br = some (brk lb l.length lc tb tr.length tc)
  ls : SlcIn A 10 lb lc (l.map encR)
  ts : SlcIn A 1 tb tc (tr.map encT)
  len : l.length = tr.length
  tf : ∀ a, tb = some a → (∃ cs e m, A.find a.block = some (.cells cs e m) ∧ cs.length ≤ m) ∧ Fresh H a.block ∧ a.block ≠ br ∧ ∀ a', lb = some a' → a'.block ≠ a.block
  lf : ∀ a, lb = some a → a.block ≠ br ∧ (∃ k, A.find a.block = some k) ∧ Fresh H a.block
def popv : List Req → Value
  | [] => noneV
  | x :: _ => .tuple #[.agg (encR x).toArray, .bool true]

theorem RPop_c (H A : AH) (br : Nat) (lb : Option Addr) (lc : Nat) (tb : Option Addr) (tc : Nat) (l : List Req) (tr : List Int) (h : RAt H A br lb lc tb tc l tr) :
    ACalls Try.prog 38 #[.pointer (some ⟨br, 0, none⟩)] A (fun v A' => v = popv l ∧ ∃ lb' lc' tb' tc', RAt H A' br lb' lc' tb' tc' l.tail tr.tail ∧ Keep A A' (· = br) ∧ (∀ a, tb' = some a → exB tb a.block) ∧ (∀ a, lb' = some a → exB lb a.block)) := by
  have hls : SlcIn (A.del br) 10 lb lc (l.map encR) := h.ls.same rfl fun a ha => by rw [find_del, if_neg (h.lf a ha).1]
  have hlf := fun a ha => (h.lf a ha).1
  refine ACalls.at h.at_ ?_
  refine ACalls.enter2 Try.func38 rfl Try.ntmps38 Try.results38 (by simp) ?_; simp (dsimp := false) (maxSteps := 4000000) only [encR_len, encR_scal, go_sem, ↓reduceIte, Nat.reduceEqDiff, Nat.reduceLT, Nat.reduceLeDiff, Nat.reduceAdd, Nat.reduceMul, Nat.reduceSub, reduceCtorEq, Int.reduceToNat, Int.reduceLT, Int.reduceLE, Int.reduceEq, Int.reduceNe, Int.reduceBEq, Nat.reduceBEq, Int.reduceBNe, Nat.reduceBNe]
  refine AllB.mk fun b2 h_b2 => ?_; have hn_b2 := h_b2; (try simp only [fresh_add, fresh_set, ne_eq] at hn_b2); have hr_b2 := hn_b2; (try simp only [@eq_comm Nat b2] at hr_b2); simp (dsimp := false) (maxSteps := 4000000) only [encR_len, encR_scal, hn_b2, hr_b2, go_sem, ↓reduceIte, Nat.reduceEqDiff, Nat.reduceLT, Nat.reduceLeDiff, Nat.reduceAdd, Nat.reduceMul, Nat.reduceSub, reduceCtorEq, Int.reduceToNat, Int.reduceLT, Int.reduceLE, Int.reduceEq, Int.reduceNe, Int.reduceBEq, Nat.reduceBEq, Int.reduceBNe, Nat.reduceBNe]
  cases l with
  | nil =>
    have ht : tr = [] := List.eq_nil_of_length_eq_zero h.len.symm
    subst ht
    simp (dsimp := false) (maxSteps := 4000000) only [encR_len, encR_scal, hn_b2, hr_b2, go_sem, ↓reduceIte, Nat.reduceEqDiff, Nat.reduceLT, Nat.reduceLeDiff, Nat.reduceAdd, Nat.reduceMul, Nat.reduceSub, reduceCtorEq, Int.reduceToNat, Int.reduceLT, Int.reduceLE, Int.reduceEq, Int.reduceNe, Int.reduceBEq, Nat.reduceBEq, Int.reduceBNe, Nat.reduceBNe]
    exact ⟨A, AH.le_add (at_eq h.at_).le h_b2.2, rfl, lb, lc, tb, tc, h, .refl, fun a ha => ⟨a, ha, rfl⟩, fun a ha => ⟨a, ha, rfl⟩⟩
  | cons x l =>
    cases tr with
    | nil => have := h.len; simp at this
    | cons t tr =>
    obtain ⟨b, o, rfl, hrow, hrd⟩ := hls.get (r := encR x) (i := 0) rfl
    obtain ⟨tb_, to, rfl, _, _⟩ := h.ts.get (r := encT t) (i := 0) rfl
    have hle := h.ls.le
    have hle2 := h.ts.le
    have hlen := h.len
    simp only [List.map_cons, List.length_cons, List.length_map] at hle hle2 hlen
    rw [Nat.zero_mul, Nat.add_zero] at hrow
    have n0 : ¬ br = b := fun e => hlf _ rfl e.symm
    have c0 : (0 : Int) < ((l.length + 1 : Nat) : Int) := by omega
    have c1 : ¬ ((l.length + 1 : Nat) : Int) = 0 := by omega
    have c2 : (1 : Int) ≤ lc := by omega
    have c3 : (1 : Int) ≤ tc := by omega
    have n1 : ¬ b2 = b := h_b2.ne_row (row_add_ne _ n0 _ _ _ ▸ hrow)
    
    simp (dsimp := false) (maxSteps := 4000000) only [encR_len, encR_scal, lput_full, List.length_cons, c0, c1, c2, c3, n0, n1, hrow, hn_b2, hr_b2, go_sem, ↓reduceIte, Nat.reduceEqDiff, Nat.reduceLT, Nat.reduceLeDiff, Nat.reduceAdd, Nat.reduceMul, Nat.reduceSub, reduceCtorEq, Int.reduceToNat, Int.reduceLT, Int.reduceLE, Int.reduceEq, Int.reduceNe, Int.reduceBEq, Nat.reduceBEq, Int.reduceBNe, Nat.reduceBNe]
    refine AllB.mk fun b4 h_b4 => ?_; have hn_b4 := h_b4; (try simp only [fresh_add, fresh_set, ne_eq] at hn_b4); have hr_b4 := hn_b4; (try simp only [@eq_comm Nat b4] at hr_b4); simp (dsimp := false) (maxSteps := 4000000) only [encR_len, encR_scal, lput_full, List.length_cons, c0, c1, c2, c3, n0, n1, hrow, hn_b2, hr_b2, hn_b4, hr_b4, go_sem, ↓reduceIte, Nat.reduceEqDiff, Nat.reduceLT, Nat.reduceLeDiff, Nat.reduceAdd, Nat.reduceMul, Nat.reduceSub, reduceCtorEq, Int.reduceToNat, Int.reduceLT, Int.reduceLE, Int.reduceEq, Int.reduceNe, Int.reduceBEq, Nat.reduceBEq, Int.reduceBNe, Nat.reduceBNe]
    have n2 : ¬ b4 = b := h_b4.ne_row (row_mono h_b2 (row_add_ne _ n0 _ _ _ ▸ hrow))
    
    refine AWp.gen [.pu, .pu, .pu, .pu, .pu, .rd, .pu, .pu, .pu, .pu, .rd, .pu, .pu, .pu, .ch, .pu, .pu, .ch] [0, 0, 0, 4, 12, 28, 60, 0, 128, 384, 896, 1920, 2045, 6141, 14333, 32767, 65535, 131071] 0 (_) mixed (by kernel_rfl) (AH.le_refl _) ?_
    have c4 : (1 : Int) ≤ ((l.length + 1 : Nat) : Int) := by omega
    have c5 : (1 : Int) ≤ ((tr.length + 1 : Nat) : Int) := by omega
    simp (dsimp := false) (maxSteps := 4000000) only [c4, c5, Nat.add_sub_cancel, encR_len, encR_scal, lput_full, List.length_cons, c0, c1, c2, c3, n0, n1, n2, hrow, hn_b2, hr_b2, hn_b4, hr_b4, go_sem, ↓reduceIte, Nat.reduceEqDiff, Nat.reduceLT, Nat.reduceLeDiff, Nat.reduceAdd, Nat.reduceMul, Nat.reduceSub, reduceCtorEq, Int.reduceToNat, Int.reduceLT, Int.reduceLE, Int.reduceEq, Int.reduceNe, Int.reduceBEq, Nat.reduceBEq, Int.reduceBNe, Nat.reduceBNe]
    have hk : Keep A ((A.del br).add br (brk (some ⟨b, if lc = 1 then o else o + 10, none⟩) l.length (lc - 1) (some ⟨tb_, if tc = 1 then to else to + 1, none⟩) tr.length (tc - 1))) (· = br) := Keep.put
    have hlb := (h.lf _ rfl).1
    obtain ⟨⟨cs, e, m, hf, hm⟩, hF, hne, hne2⟩ := h.tf _ rfl
    refine ⟨_, AH.le_add (AH.le_add (AH.le_refl _) (by (show AH.find _ _ = _; simp only [find_add_self, find_add_ne, find_fresh, fresh_add, ne_eq, not_false_eq_true, true_and, and_true, and_self, encR_len, encR_scal, lput_full, List.length_cons, c0, c1, c2, c3, n0, n1, n2, hrow, hn_b2, hr_b2, hn_b4, hr_b4]))) (by (show AH.find _ _ = _; simp only [find_add_self, find_add_ne, find_fresh, fresh_add, ne_eq, not_false_eq_true, true_and, and_true, and_self, encR_len, encR_scal, lput_full, List.length_cons, c0, c1, c2, c3, n0, n1, n2, hrow, hn_b2, hr_b2, hn_b4, hr_b4])), rfl, some ⟨b, if lc = 1 then o else o + 10, none⟩, lc - 1, some ⟨tb_, if tc = 1 then to else to + 1, none⟩, tc - 1, ⟨find_add_self _ _ _, ?_, ?_, by simpa using hlen, ?_, ?_⟩, hk, fun a ha => ?_, fun a ha => ?_⟩
    · exact h.ls.tail.keep hk fun a ha => by cases ha; exact hlb
    · exact h.ts.tail.keep hk fun a ha => by cases ha; exact hne
    · intro a ha
      cases ha
      exact ⟨⟨cs, e, m, hk.find hne hf, hm⟩, hF, hne, fun a' ha' => by cases ha'; exact hne2 ⟨b, o, none⟩ rfl⟩
    · intro a ha
      cases ha
      obtain ⟨_, ⟨k, hk1⟩, hF1⟩ := h.lf _ rfl
      exact ⟨hlb, ⟨k, hk.find hlb hk1⟩, hF1⟩
    · cases ha; exact ⟨_, rfl, rfl⟩
    · cases ha; exact ⟨_, rfl, rfl⟩

theorem RAt.keep {H A A' : AH} {br : Nat} {lb : Option Addr} {lc : Nat} {tb : Option Addr} {tc : Nat} {l : List Req} {tr : List Int} {ex : Nat → Prop} (h : RAt H A br lb lc tb tc l tr) (hk : Keep A A' ex)
    (h1 : ¬ ex br) (h2 : ∀ a, lb = some a → ¬ ex a.block) (h3 : ∀ a, tb = some a → ¬ ex a.block) : RAt H A' br lb lc tb tc l tr := by
  refine ⟨hk.find h1 h.at_, h.ls.keep hk h2, h.ts.keep hk h3, h.len, fun a ha => ?_, fun a ha => ?_⟩
  · obtain ⟨⟨cs, e, m, hf, hm⟩, q⟩ := h.tf a ha
    exact ⟨⟨cs, e, m, hk.find (h3 a ha) hf, hm⟩, q⟩
  · obtain ⟨q1, ⟨k, q2⟩, q3⟩ := h.lf a ha
    exact ⟨q1, ⟨k, hk.find (h2 a ha) q2⟩, q3⟩
def failR : List Req → List Int → List Req × List Int
  | x :: l, t :: tr => if t + 1 = 3 then (l, tr) else (x :: l, (t + 1) :: tr)
  | l, tr => (l, tr)
def failRv : List Req → List Int → Value
  | x :: _, t :: _ => if t + 1 = 3 then .tuple #[.agg (encR x).toArray, .bool true] else noneV
  | _, _ => noneV
def exR (br : Nat) (tb : Option Addr) (b : Nat) : Prop := b = br ∨ exB tb b

theorem RFail_c (H A : AH) (br : Nat) (lb : Option Addr) (lc : Nat) (tb : Option Addr) (tc : Nat) (l : List Req) (tr : List Int) (h : RAt H A br lb lc tb tc l tr) (hb : ∀ t ∈ tr, 0 ≤ t ∧ t ≤ 100) :
    ACalls Try.prog 40 #[.pointer (some ⟨br, 0, none⟩)] A (fun v A' => v = failRv l tr ∧ ∃ lb' lc' tb' tc', RAt H A' br lb' lc' tb' tc' (failR l tr).1 (failR l tr).2 ∧ Keep A A' (exR br tb) ∧ (∀ a, tb' = some a → exB tb a.block) ∧ (∀ a, lb' = some a → exB lb a.block)) := by
  cases l with
  | nil =>
    have ht : tr = [] := List.eq_nil_of_length_eq_zero h.len.symm
    subst ht
    have hr := rd_find (off := 0) h.at_
    simp only [List.getElem?_cons_zero] at hr
    refine ACalls.enter2 Try.func40 rfl Try.ntmps40 Try.results40 (by simp) ?_; simp (dsimp := false) (maxSteps := 4000000) only [encR_len, encR_scal, hr, go_sem, ↓reduceIte, Nat.reduceEqDiff, Nat.reduceLT, Nat.reduceLeDiff, Nat.reduceAdd, Nat.reduceMul, Nat.reduceSub, reduceCtorEq, Int.reduceToNat, Int.reduceLT, Int.reduceLE, Int.reduceEq, Int.reduceNe, Int.reduceBEq, Nat.reduceBEq, Int.reduceBNe, Nat.reduceBNe]
    refine AllB.mk fun b2 h_b2 => ?_; have hn_b2 := h_b2; (try simp only [fresh_add, fresh_set, ne_eq] at hn_b2); have hr_b2 := hn_b2; (try simp only [@eq_comm Nat b2] at hr_b2); simp (dsimp := false) (maxSteps := 4000000) only [encR_len, encR_scal, hr, hn_b2, hr_b2, go_sem, ↓reduceIte, Nat.reduceEqDiff, Nat.reduceLT, Nat.reduceLeDiff, Nat.reduceAdd, Nat.reduceMul, Nat.reduceSub, reduceCtorEq, Int.reduceToNat, Int.reduceLT, Int.reduceLE, Int.reduceEq, Int.reduceNe, Int.reduceBEq, Nat.reduceBEq, Int.reduceBNe, Nat.reduceBNe]
    have n2 : ¬ b2 = br := h_b2.ne_find h.at_
    simp (dsimp := false) (maxSteps := 4000000) only [n2, encR_len, encR_scal, hr, hn_b2, hr_b2, go_sem, ↓reduceIte, Nat.reduceEqDiff, Nat.reduceLT, Nat.reduceLeDiff, Nat.reduceAdd, Nat.reduceMul, Nat.reduceSub, reduceCtorEq, Int.reduceToNat, Int.reduceLT, Int.reduceLE, Int.reduceEq, Int.reduceNe, Int.reduceBEq, Nat.reduceBEq, Int.reduceBNe, Nat.reduceBNe]
    exact ⟨A, AH.le_add (AH.le_refl _) h_b2.2, rfl, lb, lc, tb, tc, h, .refl, fun a ha => ⟨a, ha, rfl⟩, fun a ha => ⟨a, ha, rfl⟩⟩
  | cons x l =>
    cases tr with
    | nil => have := h.len; simp at this
    | cons t tr =>
    obtain ⟨tb_, to, rfl, _, hrd⟩ := h.ts.get (r := encT t) (i := 0) rfl
    obtain ⟨⟨cs, e, m, hf, hm⟩, hF, hne, hne2⟩ := h.tf _ rfl
    simp only at hf hne
    have ht := hb t (by simp)
    have hput := h.ts.put (r' := encT (t + 1)) (i := 0) (by decide) hf (by simp) rfl
    rw [Nat.zero_mul, Nat.add_zero] at hput
    obtain ⟨hts, hin⟩ := hput
    have hcs : cs[to]? = some (.int .i64 t) := by
      have := hrd 0 _ rfl
      rw [rd_find hf] at this
      simpa using this
    have hset : lput cs to (encT (t + 1)) = cs.set to (.int .i64 (t + 1)) := rfl
    have hget : (cs.set to (.int .i64 (t + 1)))[to]? = some (.int .i64 (t + 1)) := List.getElem?_set_self (by omega)
    have e1 : IntKind.i64.wrap (t + 1) = t + 1 := i64_eq (by omega) (by omega)
    have hbr : (A.del tb_).find br = some (brk lb (l.length + 1) lc (some ⟨tb_, to, none⟩) (tr.length + 1) tc) := by rw [find_del, if_neg (Ne.symm hne)]; exact h.at_
    have hr0 := rd_find (off := 0) hbr
    have hr1 := rd_find (off := 1) hbr
    simp only [List.getElem?_cons_zero, List.getElem?_cons_succ] at hr0 hr1
    have c0 : (0 : Int) < ((tr.length + 1 : Nat) : Int) := by omega
    have c1 : ¬ ((l.length + 1 : Nat) : Int) = 0 := by omega
    refine ACalls.at hf ?_
    refine ACalls.enter2 Try.func40 rfl Try.ntmps40 Try.results40 (by simp) ?_; simp (dsimp := false) (maxSteps := 4000000) only [encR_len, encR_scal, hr0, hr1, hne, hcs, e1, c0, c1, hm, hin, hget, go_sem, ↓reduceIte, Nat.reduceEqDiff, Nat.reduceLT, Nat.reduceLeDiff, Nat.reduceAdd, Nat.reduceMul, Nat.reduceSub, reduceCtorEq, Int.reduceToNat, Int.reduceLT, Int.reduceLE, Int.reduceEq, Int.reduceNe, Int.reduceBEq, Nat.reduceBEq, Int.reduceBNe, Nat.reduceBNe]
    refine AllB.mk fun b2 h_b2 => ?_; have hn_b2 := h_b2; (try simp only [fresh_add, fresh_set, ne_eq] at hn_b2); have hr_b2 := hn_b2; (try simp only [@eq_comm Nat b2] at hr_b2); simp (dsimp := false) (maxSteps := 4000000) only [encR_len, encR_scal, hr0, hr1, hne, hcs, e1, c0, c1, hm, hin, hget, hn_b2, hr_b2, go_sem, ↓reduceIte, Nat.reduceEqDiff, Nat.reduceLT, Nat.reduceLeDiff, Nat.reduceAdd, Nat.reduceMul, Nat.reduceSub, reduceCtorEq, Int.reduceToNat, Int.reduceLT, Int.reduceLE, Int.reduceEq, Int.reduceNe, Int.reduceBEq, Nat.reduceBEq, Int.reduceBNe, Nat.reduceBNe]
    have n2 : ¬ b2 = br := fun e => by subst e; have := h_b2.2; rw [find_add, if_neg (Ne.symm hne), hbr] at this; cases this
    have n3 : ¬ b2 = tb_ := fun e => by subst e; have := h_b2.2; rw [find_add_self] at this; cases this
    have hR1 : RAt H ((A.del tb_).add tb_ (.cells (cs.set to (.int .i64 (t + 1))) e m)) br lb lc (some ⟨tb_, to, none⟩) tc (x :: l) ((t + 1) :: tr) := by
      have hk : Keep A ((A.del tb_).add tb_ (.cells (cs.set to (.int .i64 (t + 1))) e m)) (· = tb_) := Keep.put
      rw [hset] at hts
      refine ⟨hk.find (Ne.symm hne) h.at_, h.ls.keep hk fun a ha => hne2 a ha, hts, h.len, fun a ha => ?_, fun a ha => ?_⟩
      · cases ha; exact ⟨⟨_, e, m, find_add_self _ _ _, by simpa using hm⟩, hF, hne, hne2⟩
      · obtain ⟨q1, ⟨k, q2⟩, q3⟩ := h.lf a ha
        exact ⟨q1, ⟨k, hk.find (hne2 a ha) q2⟩, q3⟩
    have hk1 : Keep A ((A.del tb_).add tb_ (.cells (cs.set to (.int .i64 (t + 1))) e m)) (exR br (some ⟨tb_, to, none⟩)) := Keep.put.mono fun b hb => .inr (exB_some.2 hb)
    
    simp (dsimp := false) (maxSteps := 4000000) only [hcs, e1, c0, c1, hm, hin, hget, encR_len, encR_scal, hr0, hr1, hne, n2, n3, lput_full, hn_b2, hr_b2, go_sem, ↓reduceIte, Nat.reduceEqDiff, Nat.reduceLT, Nat.reduceLeDiff, Nat.reduceAdd, Nat.reduceMul, Nat.reduceSub, reduceCtorEq, Int.reduceToNat, Int.reduceLT, Int.reduceLE, Int.reduceEq, Int.reduceNe, Int.reduceBEq, Nat.reduceBEq, Int.reduceBNe, Nat.reduceBNe]
    refine ⟨imp.mk fun h3 => ?_, imp.mk fun h3 => ?_⟩
    · simp (dsimp := false) (maxSteps := 4000000) only [encR_len, encR_scal, hr0, hr1, hne, n2, n3, lput_full, hn_b2, hr_b2, go_sem, ↓reduceIte, Nat.reduceEqDiff, Nat.reduceLT, Nat.reduceLeDiff, Nat.reduceAdd, Nat.reduceMul, Nat.reduceSub, reduceCtorEq, Int.reduceToNat, Int.reduceLT, Int.reduceLE, Int.reduceEq, Int.reduceNe, Int.reduceBEq, Nat.reduceBEq, Int.reduceBNe, Nat.reduceBNe]
      have hf2 : ∀ k, Fresh ((A.del tb_).add tb_ k) b2 := fun k => ⟨h_b2.1, by rw [find_add, if_neg n3]; have := h_b2.2; rw [find_add, if_neg n3] at this; exact this⟩
      have hk2 := fun k => Keep.add (k := k) (ex := fun _ => False) (hf2 (.cells (cs.set to (.int .i64 (t + 1))) e m))
      refine (RPop_c H _ br lb lc (some ⟨tb_, to, none⟩) tc (x :: l) ((t + 1) :: tr) (hR1.keep (hk2 _) (fun h => h) (fun _ _ h => h) (fun _ _ h => h))).monoW ?_
      rintro _ A' ⟨rfl, lb', lc', tb', tc', hR, hK, ht1, hl1⟩
      have hb2 := hK.find n2 (find_add_self _ _ _)
      refine ⟨_, le_at hb2, ?_⟩
      simp only [popv]
      simp (dsimp := false) (maxSteps := 4000000) only [encR_len, encR_scal, hr0, hr1, hne, n2, n3, lput_full, hn_b2, hr_b2, go_sem, ↓reduceIte, Nat.reduceEqDiff, Nat.reduceLT, Nat.reduceLeDiff, Nat.reduceAdd, Nat.reduceMul, Nat.reduceSub, reduceCtorEq, Int.reduceToNat, Int.reduceLT, Int.reduceLE, Int.reduceEq, Int.reduceNe, Int.reduceBEq, Nat.reduceBEq, Int.reduceBNe, Nat.reduceBNe]
      have hk3 := ((hk1.then (hk2 _) (fun _ h => h.elim)).then hK fun b hb => .inl (.inl hb)).then (Keep.put (b := b2) (k := .cells (encR x) 69 10)) fun b hb => .inr (by subst hb; exact Fresh.of_le (at_eq hf).le h_b2)
      refine ⟨_, AH.le_refl _, ?_, lb', lc', tb', tc', ?_, hk3, ht1, hl1⟩
      · simp only [failRv, h3, if_true]
      · simp only [failR, h3, if_true]
        exact hR.keep (Keep.put (b := b2)) (fun e => n2 e.symm) (fun a ha e => by
          obtain ⟨_, ⟨k, q⟩, _⟩ := h.lf _ (hl1 a ha).choose_spec.1
          have := (hl1 a ha).choose_spec.2
          rw [← this, e] at q
          exact h_b2.ne_find ((at_eq hf).2 _ ▸ q) rfl) (fun a ha e => by
          obtain ⟨_, h5, h6⟩ := ht1 a ha
          cases h5; exact n3 (e.symm.trans h6))
    · simp (dsimp := false) (maxSteps := 4000000) only [encR_len, encR_scal, hr0, hr1, hne, n2, n3, lput_full, hn_b2, hr_b2, go_sem, ↓reduceIte, Nat.reduceEqDiff, Nat.reduceLT, Nat.reduceLeDiff, Nat.reduceAdd, Nat.reduceMul, Nat.reduceSub, reduceCtorEq, Int.reduceToNat, Int.reduceLT, Int.reduceLE, Int.reduceEq, Int.reduceNe, Int.reduceBEq, Nat.reduceBEq, Int.reduceBNe, Nat.reduceBNe]
      refine ⟨_, AH.le_add (AH.le_refl _) (by (show AH.find _ _ = _; simp only [find_add_self, find_add_ne, find_fresh, fresh_add, ne_eq, not_false_eq_true, true_and, and_true, and_self, encR_len, encR_scal, hr0, hr1, hne, n2, n3, lput_full, hn_b2, hr_b2])), ?_, lb, lc, some ⟨tb_, to, none⟩, tc, ?_, hk1, fun a ha => ⟨a, ha, rfl⟩, fun a ha => ⟨a, ha, rfl⟩⟩
      · simp only [failRv, h3, if_false]; rfl
      · simp only [failR, h3, if_false]; exact hR1

theorem rows10 (l : List Req) : ∀ r ∈ l.map encR, r.length = 10 := fun r hr => by
  obtain ⟨w, _, rfl⟩ := List.mem_map.1 hr
  exact encR_len w
theorem rows1 (l : List Int) : ∀ r ∈ l.map encT, r.length = 1 := fun r hr => by
  obtain ⟨w, _, rfl⟩ := List.mem_map.1 hr
  rfl
theorem scal10 (l : List Req) : ((l.map encR).flatten).all scal = true := by
  rw [List.all_flatten, List.all_map, List.all_eq_true]
  intro r _; exact encR_scal r
theorem scal1 (l : List Int) : ((l.map encT).flatten).all scal = true := by
  rw [List.all_flatten, List.all_map, List.all_eq_true]
  intro r _; rfl

theorem RPush_c (H A : AH) (hA : Keep H A fun _ => False) (br : Nat) (hfb : Fresh H br) (lb : Option Addr) (lc : Nat) (tb : Option Addr) (tc : Nat) (l : List Req) (tr : List Int) (x : Req) (h : RAt H A br lb lc tb tc l tr) (h8 : l.length ≤ 8) :
    ACalls Try.prog 42 #[.pointer (some ⟨br, 0, none⟩), .agg (encR x).toArray] A (fun v A' => v = .int .i64 (if l.length = 8 then 12 else 0) ∧ ∃ lb' lc' tb' tc', RAt H A' br lb' lc' tb' tc' (if l.length = 8 then l else l ++ [x]) (if l.length = 8 then tr else tr ++ [0]) ∧ Keep A A' (· = br) ∧
      (∀ a, tb' = some a → exB tb a.block ∨ Fresh A a.block) ∧ (∀ a, lb' = some a → exB lb a.block ∨ Fresh A a.block)) := by
  have hr0 := rd_find (off := 0) h.at_
  have hr1 := rd_find (off := 1) h.at_
  simp only [List.getElem?_cons_zero, List.getElem?_cons_succ] at hr0 hr1
  refine ACalls.enter2 Try.func42 rfl Try.ntmps42 Try.results42 (by simp) ?_; simp (dsimp := false) (maxSteps := 4000000) only [encR_len, encR_scal, hr0, hr1, go_sem, ↓reduceIte, Nat.reduceEqDiff, Nat.reduceLT, Nat.reduceLeDiff, Nat.reduceAdd, Nat.reduceMul, Nat.reduceSub, reduceCtorEq, Int.reduceToNat, Int.reduceLT, Int.reduceLE, Int.reduceEq, Int.reduceNe, Int.reduceBEq, Nat.reduceBEq, Int.reduceBNe, Nat.reduceBNe]
  refine AllB.mk fun b2 h_b2 => ?_; have hn_b2 := h_b2; (try simp only [fresh_add, fresh_set, ne_eq] at hn_b2); have hr_b2 := hn_b2; (try simp only [@eq_comm Nat b2] at hr_b2); simp (dsimp := false) (maxSteps := 4000000) only [encR_len, encR_scal, hr0, hr1, hn_b2, hr_b2, go_sem, ↓reduceIte, Nat.reduceEqDiff, Nat.reduceLT, Nat.reduceLeDiff, Nat.reduceAdd, Nat.reduceMul, Nat.reduceSub, reduceCtorEq, Int.reduceToNat, Int.reduceLT, Int.reduceLE, Int.reduceEq, Int.reduceNe, Int.reduceBEq, Nat.reduceBEq, Int.reduceBNe, Nat.reduceBNe]
  have n2 : ¬ b2 = br := h_b2.ne_find h.at_
  
  by_cases hm : l.length = 8
  · have hm' : (8 : Int) ≤ ((l.length : Nat) : Int) := by omega
    simp (dsimp := false) (maxSteps := 4000000) only [hm', encR_len, encR_scal, hr0, hr1, n2, hn_b2, hr_b2, go_sem, ↓reduceIte, Nat.reduceEqDiff, Nat.reduceLT, Nat.reduceLeDiff, Nat.reduceAdd, Nat.reduceMul, Nat.reduceSub, reduceCtorEq, Int.reduceToNat, Int.reduceLT, Int.reduceLE, Int.reduceEq, Int.reduceNe, Int.reduceBEq, Nat.reduceBEq, Int.reduceBNe, Nat.reduceBNe]
    exact ⟨A, AH.le_add (AH.le_refl _) h_b2.2, by rw [if_pos hm], lb, lc, tb, tc, by rw [if_pos hm, if_pos hm]; exact h, .refl, fun a ha => .inl ⟨a, ha, rfl⟩, fun a ha => .inl ⟨a, ha, rfl⟩⟩
  · have hm' : ¬ (8 : Int) ≤ ((l.length : Nat) : Int) := by omega
    simp (dsimp := false) (maxSteps := 4000000) only [hm', encR_len, encR_scal, hr0, hr1, n2, hn_b2, hr_b2, go_sem, ↓reduceIte, Nat.reduceEqDiff, Nat.reduceLT, Nat.reduceLeDiff, Nat.reduceAdd, Nat.reduceMul, Nat.reduceSub, reduceCtorEq, Int.reduceToNat, Int.reduceLT, Int.reduceLE, Int.reduceEq, Int.reduceNe, Int.reduceBEq, Nat.reduceBEq, Int.reduceBNe, Nat.reduceBNe]
    refine AWp.gen [.pu, .pu, .al, .pu, .pu, .pu, .rd, .ch, .rd, .al, .ch, .al, .pu, .pu, .pu, .rd, .ch, .al, .ch, .pu, .pu, .ch, .pu, .pu, .ch] [0, 0, 0, 0, 8, 24, 56, 124, 0, 256, 1020, 0, 0, 4096, 12288, 28672, 65532, 0, 262140, 524285, 1048573, 2097149, 4194303, 8388607, 16777215] 11 (_) mixed (by kernel_rfl) (AH.le_refl _) ?_
    simp (dsimp := false) (maxSteps := 4000000) only [encR_len, encR_scal, hr0, hr1, n2, hn_b2, hr_b2, go_sem, ↓reduceIte, Nat.reduceEqDiff, Nat.reduceLT, Nat.reduceLeDiff, Nat.reduceAdd, Nat.reduceMul, Nat.reduceSub, reduceCtorEq, Int.reduceToNat, Int.reduceLT, Int.reduceLE, Int.reduceEq, Int.reduceNe, Int.reduceBEq, Nat.reduceBEq, Int.reduceBNe, Nat.reduceBNe]
    refine AllB.mk fun b13 h_b13 => ?_; have hn_b13 := h_b13; (try simp only [fresh_add, fresh_set, ne_eq] at hn_b13); have hr_b13 := hn_b13; (try simp only [@eq_comm Nat b13] at hr_b13); simp (dsimp := false) (maxSteps := 4000000) only [encR_len, encR_scal, hr0, hr1, n2, hn_b2, hr_b2, hn_b13, hr_b13, go_sem, ↓reduceIte, Nat.reduceEqDiff, Nat.reduceLT, Nat.reduceLeDiff, Nat.reduceAdd, Nat.reduceMul, Nat.reduceSub, reduceCtorEq, Int.reduceToNat, Int.reduceLT, Int.reduceLE, Int.reduceEq, Int.reduceNe, Int.reduceBEq, Nat.reduceBEq, Int.reduceBNe, Nat.reduceBNe]
    have hle0 : H.le ((A.add b2 (.cells (encR x) 69 10)).add b13 (.cells [] 69 0)) := AH.le_add (AH.le_add hA.all h_b2.2) h_b13.2
    have hO0 : OwnS H ((A.add b2 (.cells (encR x) 69 10)).add b13 (.cells [] 69 0)) 69 10 (some ⟨b13, 0, none⟩) 0 [] := OwnS.new h_b13 (AH.le_add hA.all h_b2.2) rfl rfl rfl (by simp) (by simp)
    refine APD.grow (x := .slice lb l.length lc) (R' := l.map encR) (m := l.length) hO0 hle0 se_62 rfl (by decide) (by rw [Try.underlying62]; rfl) rfl (by simp) rfl (((h.ls.add h_b2).add h_b13).srow (rows10 l) (by decide) (by simp)) (rows10 l) (scal10 l) (by omega) fun s1 c1 A1 hO1 hK1 hN1 => ?_
    simp (dsimp := false) (maxSteps := 4000000) only [encR_len, encR_scal, hr0, hr1, n2, hn_b2, hr_b2, hn_b13, hr_b13, go_sem, ↓reduceIte, Nat.reduceEqDiff, Nat.reduceLT, Nat.reduceLeDiff, Nat.reduceAdd, Nat.reduceMul, Nat.reduceSub, reduceCtorEq, Int.reduceToNat, Int.reduceLT, Int.reduceLE, Int.reduceEq, Int.reduceNe, Int.reduceBEq, Nat.reduceBEq, Int.reduceBNe, Nat.reduceBNe]
    obtain ⟨B, hB⟩ : ∃ B, B = A.add b2 (.cells (encR x) 69 10) := ⟨_, rfl⟩
    rw [← hB] at h_b13 hK1 hN1 ⊢
    have kB1 : Keep B A1 fun _ => False := (Keep.add h_b13).ow hK1 fun b hb => exB_some.1 hb ▸ h_b13
    have kAB : Keep A B fun _ => False := hB ▸ Keep.add h_b2
    have kHB : Keep H B fun _ => False := hA.trans kAB
    have hbB : ∀ a, Fresh B a → a ≠ br := fun a ha e => by subst e; exact ha.ne_find (kAB.find (fun h => h) h.at_) rfl
    have f1 : ∀ a, s1 = some a → Fresh B a.block := fun a ha => by
      rcases hN1 a ha with ⟨a', h1, h2⟩ | h1
      · cases h1; rw [h2]; exact h_b13
      · exact Fresh.of_le (AH.le_add (AH.le_refl _) h_b13.2) h1
    refine ⟨kB1.all, ?_⟩
    
    refine AllB.mk fun b20 h_b20 => ?_; have hn_b20 := h_b20; (try simp only [fresh_add, fresh_set, ne_eq] at hn_b20); have hr_b20 := hn_b20; (try simp only [@eq_comm Nat b20] at hr_b20); simp (dsimp := false) (maxSteps := 4000000) only [encR_len, encR_scal, hr0, hr1, n2, hn_b2, hr_b2, hn_b13, hr_b13, hn_b20, hr_b20, go_sem, ↓reduceIte, Nat.reduceEqDiff, Nat.reduceLT, Nat.reduceLeDiff, Nat.reduceAdd, Nat.reduceMul, Nat.reduceSub, reduceCtorEq, Int.reduceToNat, Int.reduceLT, Int.reduceLE, Int.reduceEq, Int.reduceNe, Int.reduceBEq, Nat.reduceBEq, Int.reduceBNe, Nat.reduceBNe]
    have f20 : Fresh B b20 := Fresh.of_le kB1.all h_b20
    have hO1' : OwnS H (A1.add b20 (.cells (encR x) 69 10)) 69 10 s1 c1 ([] ++ l.map encR) := hO1.keep (Keep.add h_b20) (ex := fun _ => False) fun _ _ h => h
    refine APD.grow (x := .slice (some ⟨b20, 0, none⟩) 1 1) (R' := [encR x]) (m := 1) hO1' ((kHB.trans kB1).nw h_b20).all se_62 rfl (by decide) (by rw [Try.underlying62]; rfl) (by simp) rfl rfl (by rw [srow_some, row_add_self]; simp [encR_len, List.take_of_length_le]) (by simp [encR_len]) (by simpa using encR_scal x) (by omega) fun s2 c2 A2 hO2 hK2 hN2 => ?_
    simp (dsimp := false) (maxSteps := 4000000) only [encR_len, encR_scal, hr0, hr1, n2, hn_b2, hr_b2, hn_b13, hr_b13, hn_b20, hr_b20, go_sem, ↓reduceIte, Nat.reduceEqDiff, Nat.reduceLT, Nat.reduceLeDiff, Nat.reduceAdd, Nat.reduceMul, Nat.reduceSub, reduceCtorEq, Int.reduceToNat, Int.reduceLT, Int.reduceLE, Int.reduceEq, Int.reduceNe, Int.reduceBEq, Nat.reduceBEq, Int.reduceBNe, Nat.reduceBNe]
    have kB2 : Keep B A2 fun _ => False := (kB1.nw h_b20).ow hK2 fun b ⟨a, ha, hb⟩ => hb ▸ f1 a ha
    have f2 : ∀ a, s2 = some a → Fresh B a.block := fun a ha => by
      rcases hN2 a ha with ⟨a', h1, h2⟩ | h1
      · rw [h2]; exact f1 _ h1
      · exact Fresh.of_le (AH.le_trans kB1.all (AH.le_add (AH.le_refl _) h_b20.2)) h1
    refine ⟨kB2.all, ?_⟩
    
    have hB1 : B.rd ⟨br, 1, none⟩ = some (.slice tb tr.length tc) := by rw [hB, rd_add_ne _ n2]; exact hr1
    
    
    refine AllB.mk fun b22 h_b22 => ?_; have hn_b22 := h_b22; (try simp only [fresh_add, fresh_set, ne_eq] at hn_b22); have hr_b22 := hn_b22; (try simp only [@eq_comm Nat b22] at hr_b22); simp (dsimp := false) (maxSteps := 4000000) only [encR_len, encR_scal, hr0, hr1, hB1, n2, hn_b2, hr_b2, hn_b13, hr_b13, hn_b22, hr_b22, go_sem, ↓reduceIte, Nat.reduceEqDiff, Nat.reduceLT, Nat.reduceLeDiff, Nat.reduceAdd, Nat.reduceMul, Nat.reduceSub, reduceCtorEq, Int.reduceToNat, Int.reduceLT, Int.reduceLE, Int.reduceEq, Int.reduceNe, Int.reduceBEq, Nat.reduceBEq, Int.reduceBNe, Nat.reduceBNe]
    have f22 : Fresh B b22 := Fresh.of_le kB2.all h_b22
    have kB2' : Keep B (A2.add b22 (.cells [] 3 0)) fun _ => False := kB2.nw h_b22
    have hT0 : OwnS H (A2.add b22 (.cells [] 3 0)) 3 1 (some ⟨b22, 0, none⟩) 0 [] := OwnS.new h_b22 (kHB.trans kB2).all rfl rfl rfl (by simp) (by simp)
    have hts : SlcIn (A2.add b22 (.cells [] 3 0)) 1 tb tc (tr.map encT) := h.ts.keep (kAB.trans kB2') fun _ _ h => h
    have hlen := h.len
    refine APD.grow (x := .slice tb tr.length tc) (R' := tr.map encT) (m := tr.length) hT0 (kHB.trans kB2').all se_63 rfl (by decide) (by rw [Try.underlying63]; rfl) rfl (by simp) rfl (hts.srow (rows1 tr) (by decide) (by simp)) (rows1 tr) (scal1 tr) (by omega) fun s3 c3 A3 hO3 hK3 hN3 => ?_
    simp (dsimp := false) (maxSteps := 4000000) only [encR_len, encR_scal, hr0, hr1, hB1, n2, hn_b2, hr_b2, hn_b13, hr_b13, hn_b22, hr_b22, go_sem, ↓reduceIte, Nat.reduceEqDiff, Nat.reduceLT, Nat.reduceLeDiff, Nat.reduceAdd, Nat.reduceMul, Nat.reduceSub, reduceCtorEq, Int.reduceToNat, Int.reduceLT, Int.reduceLE, Int.reduceEq, Int.reduceNe, Int.reduceBEq, Nat.reduceBEq, Int.reduceBNe, Nat.reduceBNe]
    have kB3 : Keep B A3 fun _ => False := kB2'.ow hK3 fun b hb => exB_some.1 hb ▸ f22
    have k23 : Keep A2 A3 fun _ => False := (Keep.add h_b22).ow hK3 fun b hb => exB_some.1 hb ▸ h_b22
    have f3 : ∀ a, s3 = some a → Fresh A2 a.block := fun a ha => by
      rcases hN3 a ha with ⟨a', h1, h2⟩ | h1
      · cases h1; rw [h2]; exact h_b22
      · exact Fresh.of_le (AH.le_add (AH.le_refl _) h_b22.2) h1
    
    
    refine AllB.mk fun b28 h_b28 => ?_; have hn_b28 := h_b28; (try simp only [fresh_add, fresh_set, ne_eq] at hn_b28); have hr_b28 := hn_b28; (try simp only [@eq_comm Nat b28] at hr_b28); simp (dsimp := false) (maxSteps := 4000000) only [encR_len, encR_scal, hr0, hr1, hB1, n2, hn_b2, hr_b2, hn_b13, hr_b13, hn_b28, hr_b28, go_sem, ↓reduceIte, Nat.reduceEqDiff, Nat.reduceLT, Nat.reduceLeDiff, Nat.reduceAdd, Nat.reduceMul, Nat.reduceSub, reduceCtorEq, Int.reduceToNat, Int.reduceLT, Int.reduceLE, Int.reduceEq, Int.reduceNe, Int.reduceBEq, Nat.reduceBEq, Int.reduceBNe, Nat.reduceBNe]
    have hO3' : OwnS H (A3.add b28 (.cells [.int .i64 0] 3 1)) 3 1 s3 c3 ([] ++ tr.map encT) := hO3.keep (Keep.add h_b28) (ex := fun _ => False) fun _ _ h => h
    refine APD.growW (x := .slice (some ⟨b28, 0, none⟩) 1 1) (R' := [encT 0]) (m := 1) hO3' ((kHB.trans kB3).nw h_b28).all se_63 rfl (by decide) (by rw [Try.underlying63]; rfl) (by simp) rfl rfl (by rw [srow_some, row_add_self]; rfl) (by simp [encT]) (by simp [encT, scal]) (by omega) fun s4 c4 A4 hO4 hK4 hN4 => ?_
    have kB4 : Keep B A4 fun _ => False := (kB3.nw h_b28).ow hK4 fun b ⟨a, ha, hb⟩ => hb ▸ kB2.fr (f3 a ha)
    have k24 : Keep A2 A4 fun _ => False := (k23.nw h_b28).ow hK4 fun b ⟨a, ha, hb⟩ => hb ▸ f3 a ha
    have f4 : ∀ a, s4 = some a → Fresh A2 a.block := fun a ha => by
      rcases hN4 a ha with ⟨a', h1, h2⟩ | h1
      · rw [h2]; exact f3 _ h1
      · exact Fresh.of_le (AH.le_trans k23.all (AH.le_add (AH.le_refl _) h_b28.2)) h1
    have hbr4 : A4.find br = some (brk lb l.length lc tb tr.length tc) := (kAB.trans kB4).find (fun h => h) h.at_
    refine ⟨_, le_at hbr4, ?_⟩
    simp (dsimp := false) (maxSteps := 4000000) only [encR_len, encR_scal, hr0, hr1, hB1, n2, hn_b2, hr_b2, hn_b13, hr_b13, hn_b28, hr_b28, go_sem, ↓reduceIte, Nat.reduceEqDiff, Nat.reduceLT, Nat.reduceLeDiff, Nat.reduceAdd, Nat.reduceMul, Nat.reduceSub, reduceCtorEq, Int.reduceToNat, Int.reduceLT, Int.reduceLE, Int.reduceEq, Int.reduceNe, Int.reduceBEq, Nat.reduceBEq, Int.reduceBNe, Nat.reduceBNe]
    have f4B : ∀ a, s4 = some a → Fresh B a.block := fun a ha => kB2.fr (f4 a ha)
    have hO2' := (hO2.keep k24 fun _ _ h => h).keep (Keep.put (b := br) (k := brk s2 (l.length + 1) c2 s4 (tr.length + 1) c4)) fun a ha => hbB _ (f2 a ha)
    have hO4' := hO4.keep (Keep.put (b := br) (k := brk s2 (l.length + 1) c2 s4 (tr.length + 1) c4)) fun a ha => hbB _ (f4B a ha)
    have fin : ∀ {a : Nat}, Fresh B a → Fresh A a := fun h => kAB.fr h
    refine ⟨_, AH.le_refl _, by rw [if_neg hm], s2, c2, s4, c4, ?_, (kAB.trans kB4).mono (fun _ h => h.elim) |>.trans Keep.put, fun a ha => .inr (fin (f4B a ha)), fun a ha => .inr (fin (f2 a ha))⟩
    rw [if_neg hm, if_neg hm]
    refine ⟨by rw [find_add_self]; simp, by have := hO2'.slc; simpa using this, by have := hO4'.slc; simpa using this, by simp [hlen], fun a ha => ?_, fun a ha => ?_⟩
    · rcases hO4'.at_ with ⟨h1, _⟩ | ⟨b, h1, h2, h3⟩
      · rw [ha] at h1; cases h1
      · rw [ha] at h1; cases h1
        refine ⟨⟨_, _, _, h2, ?_⟩, h3, hbB _ (f4B _ ha), fun a' ha' e => ?_⟩
        · rw [flat_len hO4'.rows]; exact Nat.mul_le_mul_right _ hO4'.le
        · rcases hO2.at_ with ⟨h4, _⟩ | ⟨b', h4, h5, _⟩
          · rw [ha'] at h4; cases h4
          · rw [ha'] at h4; cases h4
            exact (f4 _ ha).ne_find h5 e.symm
    · rcases hO2'.at_ with ⟨h1, _⟩ | ⟨b, h1, h2, h3⟩
      · rw [ha] at h1; cases h1
      · rw [ha] at h1; cases h1
        exact ⟨hbB _ (f2 _ ha), ⟨_, h2⟩, h3⟩
    
end Go.Proofs.Ythinfokelgcipaa.Queue
