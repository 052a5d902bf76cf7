/- QueueDoes, as a call. -/
import Derived.Test.YthinfokelgcipaaQueue6
namespace Go.Proofs.Ythinfokelgcipaa.Queue
set_option linter.unusedSimpArgs false
set_option linter.unusedVariables false
open Go Go.AX Go.Proofs Ty
set_option maxHeartbeats 4000000
set_option maxRecDepth 10000

structure Deed where
  kind : Int
  id : Int
  kd : Int
  node : Int
  file : Int
  rc : Int
  v0 : Int
  v1 : Int
  v2 : Int
  v3 : Int
  key : Int
def Deed.req (d : Deed) : Req := ⟨d.id, d.kd, d.node, d.file, d.rc, d.v0, d.v1, d.v2, d.v3, d.key⟩
def encD (d : Deed) : List Value := .int .u8 d.kind :: encR d.req
theorem neqR {u : Option TypeDesc} {H : AH} {a b : Operand} {kk : Value → Prop} (x : Req) : bin u Try.prog H .neq 69 a b (.agg (encR x).toArray) (.agg (encR x).toArray) kk = (u = Try.prog.underlying 69 ∧ nv (.bool false) kk) := by
  unfold encR; rw [neq_69]; simp

def lsW (s : QS) : List Req := (W s).map (·.1)
def trW (s : QS) : List Int := (W s).map (·.2)
theorem lsW_len (s : QS) : (lsW s).length = s.many := by rw [lsW, List.length_map, W_len]
theorem firstv_pop {s : QS} (hs : s.Ok) : firstv s = popv (lsW s) ∧ lsW (popQ s) = (lsW s).tail ∧ trW (popQ s) = (trW s).tail := by
  obtain ⟨w, hw⟩ := ring_first hs
  by_cases h : s.many = 0
  · have h1 : W s = [] := List.eq_nil_of_length_eq_zero (by rw [W_len, h])
    rw [firstv_none h, popQ_none h]
    simp only [lsW, trW, h1, List.map_nil, List.tail_nil, popv, noneV, and_self]
  · rw [firstv_some h hw]
    simp only [lsW, trW, W_pop hs h hw, List.map_cons, List.tail_cons, popv, and_self]
theorem fail_fail {s : QS} {w : Wt} (hs : s.Ok) (hw : s.ring[s.first]? = some w) (ht : ∀ x ∈ W s, 0 ≤ x.2 ∧ x.2 ≤ 2) : failv s w = failRv (lsW s) (trW s) ∧ (lsW (failQ s w), trW (failQ s w)) = failR (lsW s) (trW s) ∧ (failQ s w).Ok ∧ ∀ x ∈ W (failQ s w), 0 ≤ x.2 ∧ x.2 ≤ 2 := by
  by_cases h : s.many = 0
  · have h1 : W s = [] := List.eq_nil_of_length_eq_zero (by rw [W_len, h])
    rw [show failv s w = noneV from if_pos (.inl h), show failQ s w = s from if_pos h]
    simp only [lsW, trW, h1, List.map_nil]
    exact ⟨rfl, rfl, hs, by simp [h1]⟩
  · obtain ⟨l, hl1, hl2⟩ := W_tried hs h hw
    have hb := ht w (by rw [hl1]; simp)
    by_cases h3 : w.2 + 1 < 3
    · have h3' : ¬ w.2 + 1 = 3 := by omega
      rw [show failv s w = noneV from if_pos (.inr h3), show failQ s w = triedQ s w from by rw [failQ, if_neg h, if_pos h3]]
      simp only [lsW, trW, hl1, hl2, List.map_cons, failRv, failR, h3', if_false]
      refine ⟨trivial, trivial, triedQ_ok hs, fun x hx => ?_⟩
      rcases List.mem_cons.1 hx with rfl | hx
      · simp only; omega
      · exact ht x (by rw [hl1]; simp [hx])
    · have h3' : w.2 + 1 = 3 := by omega
      have hw2 : (triedQ s w).ring[(triedQ s w).first]? = some (w.1, w.2 + 1) := by
        simp only [triedQ]; rw [List.getElem?_set_self (by rw [hs.len]; exact hs.first)]
      have hp := W_pop (triedQ_ok (w := w) hs) h hw2
      rw [hl2] at hp
      have hp' : W (popQ (triedQ s w)) = l := by simpa using hp.symm
      rw [show failv s w = .tuple #[.agg (encR w.1).toArray, .bool true] from if_neg (by omega), show failQ s w = popQ (triedQ s w) from by rw [failQ, if_neg h, if_neg h3]]
      simp only [lsW, trW, hl1, hp', List.map_cons, failRv, failR, h3', if_true]
      exact ⟨trivial, trivial, popQ_ok (triedQ_ok hs), fun x hx => ht x (by rw [hl1]; simp [hx])⟩
theorem push_push {s : QS} {x : Req} (hs : s.Ok) : lsW (pushQ s x) = (if (lsW s).length = 8 then lsW s else lsW s ++ [x]) ∧ trW (pushQ s x) = (if (lsW s).length = 8 then trW s else trW s ++ [0]) := by
  rw [lsW_len]
  by_cases h : s.many = 8
  · rw [if_pos h, if_pos h, pushQ_full h]; exact ⟨rfl, rfl⟩
  · rw [if_neg h, if_neg h]; simp [lsW, trW, W_push hs h]
theorem popv_form (l : List Req) : ∃ r b, popv l = .tuple #[.agg (encR r).toArray, .bool b] := by
  cases l with
  | nil => exact ⟨zeroR, false, rfl⟩
  | cons x l => exact ⟨x, true, rfl⟩
theorem failRv_form (l : List Req) (tr : List Int) : ∃ r b, failRv l tr = .tuple #[.agg (encR r).toArray, .bool b] := by
  unfold failRv
  split
  · split
    · exact ⟨_, _, rfl⟩
    · exact ⟨zeroR, false, rfl⟩
  · exact ⟨zeroR, false, rfl⟩

structure StD where
  i : Nat
  s : QS
  lb : Option Addr
  lc : Nat
  tb : Option Addr
  tc : Nat
structure InvD (L : List Deed) (H : AH) (bq br : Nat) (t : StD) (A : AH) : Prop where
  i1 : t.i ≤ L.length
  i2 : t.i ≤ 100
  ok : t.s.Ok
  tr : ∀ w ∈ W t.s, 0 ≤ w.2 ∧ w.2 ≤ 2
  ka : Keep H A fun _ => False
  hq : At A bq t.s
  hr : RAt H A br t.lb t.lc t.tb t.tc (lsW t.s) (trW t.s)
  n1 : ∀ a, t.tb = some a → a.block ≠ bq
  n2 : ∀ a, t.lb = some a → a.block ≠ bq

theorem QueueDoes_c (L : List Deed) (base : Option Addr) (cap : Nat) (H : AH) (hs : SlcIn H 11 base cap (L.map encD)) (hw : ∀ s ∈ L, (Lit.int .u8 s.kind).wf = true ∧ (Lit.int .u8 s.v0).wf = true ∧ (Lit.int .u8 s.v1).wf = true ∧ (Lit.int .u8 s.v2).wf = true ∧ (Lit.int .u8 s.v3).wf = true) :
    ACalls Try.prog 8 #[.slice base L.length cap] H (fun v H' => v = .bool true ∧ H = H') := by
  have hle := hs.le
  have hbig := hs.big
  simp only [List.length_map] at hle
  refine ACalls.enter2 Try.func8 rfl Try.ntmps8 Try.results8 (by simp) ?_; simp (dsimp := false) (maxSteps := 4000000) only [encR_len, encR_scal, go_sem, ↓reduceIte, Nat.reduceEqDiff, Nat.reduceLT, Nat.reduceLeDiff, Nat.reduceAdd, Nat.reduceMul, Nat.reduceSub, reduceCtorEq, Int.reduceToNat, Int.reduceLT, Int.reduceLE, Int.reduceEq, Int.reduceNe, Int.reduceBEq, Nat.reduceBEq, Int.reduceBNe, Nat.reduceBNe]
  refine (New_c _).mono ?_; rintro _ _ ⟨bq, h_bq, rfl, rfl⟩; have hn_bq := h_bq; (try simp only [fresh_add, fresh_set, ne_eq] at hn_bq); have hr_bq := hn_bq; (try simp only [@eq_comm Nat bq] at hr_bq)
  simp (dsimp := false) (maxSteps := 4000000) only [encR_len, encR_scal, hn_bq, hr_bq, go_sem, ↓reduceIte, Nat.reduceEqDiff, Nat.reduceLT, Nat.reduceLeDiff, Nat.reduceAdd, Nat.reduceMul, Nat.reduceSub, reduceCtorEq, Int.reduceToNat, Int.reduceLT, Int.reduceLE, Int.reduceEq, Int.reduceNe, Int.reduceBEq, Nat.reduceBEq, Int.reduceBNe, Nat.reduceBNe]
  refine AllB.mk fun br h_br => ?_; have hn_br := h_br; (try simp only [fresh_add, fresh_set, ne_eq] at hn_br); have hr_br := hn_br; (try simp only [@eq_comm Nat br] at hr_br); simp (dsimp := false) (maxSteps := 4000000) only [encR_len, encR_scal, hn_bq, hr_bq, hn_br, hr_br, go_sem, ↓reduceIte, Nat.reduceEqDiff, Nat.reduceLT, Nat.reduceLeDiff, Nat.reduceAdd, Nat.reduceMul, Nat.reduceSub, reduceCtorEq, Int.reduceToNat, Int.reduceLT, Int.reduceLE, Int.reduceEq, Int.reduceNe, Int.reduceBEq, Nat.reduceBEq, Int.reduceBNe, Nat.reduceBNe]
  have hqr : ¬ bq = br := hr_br.1
  have hfq : Fresh H bq := h_bq
  have hfr : Fresh H br := hn_br.2
  refine AWp.loopr (ι := StD) (InvD L H bq br) (fun t => [(5, .int .i64 t.i), (3, .pointer (some ⟨bq, 0, none⟩)), (4, .pointer (some ⟨br, 0, none⟩)), (0, .slice base L.length cap)])
    (fun t => L.length - t.i) ⟨0, newQ, none, 0, none, 0⟩ _ ⟨by simp, by simp, newQ_ok, by simp [W_new], (Keep.add h_bq).nw h_br, (find_add_ne _ hn_br.1 _).trans (find_add_self _ _ _), ⟨find_add_self _ _ _, SlcIn.nil, SlcIn.nil, rfl, fun a ha => by (cases ha), fun a ha => by (cases ha)⟩, fun a ha => by (cases ha), fun a ha => by (cases ha)⟩ (FrLe.of_lks ?_) (AH.le_refl _) fun t A hi Q again out => ?_
  · simp (dsimp := false) (maxSteps := 4000000) only [encR_len, encR_scal, hn_bq, hr_bq, hn_br, hr_br, go_sem, ↓reduceIte, Nat.reduceEqDiff, Nat.reduceLT, Nat.reduceLeDiff, Nat.reduceAdd, Nat.reduceMul, Nat.reduceSub, reduceCtorEq, Int.reduceToNat, Int.reduceLT, Int.reduceLE, Int.reduceEq, Int.reduceNe, Int.reduceBEq, Nat.reduceBEq, Int.reduceBNe, Nat.reduceBNe]
  · clear hn_br hr_br h_br
    
    obtain ⟨i, s, lb, lc, tb, tc⟩ := t
    obtain ⟨i1, i2, ok, tr, ka, hq, hr, n1, n2⟩ := hi
    simp only at i1 i2 ok tr ka hq hr n1 n2 ⊢
    have e1 := i64_succ (i := i) (by omega)
    have hsA := hs.keep ka fun _ _ h => h
    by_cases hrun : (i : Int) < L.length ∧ (i : Int) < 100
    · obtain ⟨h, h100⟩ := hrun
      obtain ⟨d, hx⟩ := get_some (l := L) (i := i) (by omega)
      obtain ⟨b, o, rfl, hrow, hrd⟩ := hsA.get (by rw [List.getElem?_map, hx]; rfl : (L.map encD)[i]? = some (encD d))
      obtain ⟨b_, o_, e_, _, hrdH⟩ := hs.get (by rw [List.getElem?_map, hx]; rfl : (L.map encD)[i]? = some (encD d))
      cases e_
      have hk := byte_wf (hw d (List.mem_of_getElem? hx)).1
      have hreq := row_of_rd (H := H) (b := b) (off := o + i * 11 + 1) (n := 10) (l := encR d.req) (by rw [encR_len]) (by omega) (fun j c hc => by
        have := hrdH (j + 1) c (by simpa [encD] using hc)
        rw [show o + i * 11 + (j + 1) = o + i * 11 + 1 + j from by omega] at this
        exact this)
      have hkind := hrd 0 _ rfl
      rw [Nat.add_zero] at hkind
      generalize d.req = x at hreq
      generalize d.kind = kd at hkind hk
      have ek : kd.tmod 4 = kd % 4 := Int.tmod_eq_emod_of_nonneg hk.1
      have h3 : kd % 4 = 0 ∨ kd % 4 = 1 ∨ (¬ kd % 4 = 0 ∧ ¬ kd % 4 = 1) := by omega
      rcases h3 with k0 | k1 | ⟨k0, k1⟩
      case' inl =>
        
        simp (dsimp := false) (maxSteps := 4000000) only [h, h100, hkind, ek, k0, encR_len, encR_scal, go_sem, ↓reduceIte, Nat.reduceEqDiff, Nat.reduceLT, Nat.reduceLeDiff, Nat.reduceAdd, Nat.reduceMul, Nat.reduceSub, reduceCtorEq, Int.reduceToNat, Int.reduceLT, Int.reduceLE, Int.reduceEq, Int.reduceNe, Int.reduceBEq, Nat.reduceBEq, Int.reduceBNe, Nat.reduceBNe]
        refine (Pop_c s ok bq A hq).mono ?_; rintro _ _ ⟨rfl, rfl⟩
        obtain ⟨q1, q2, q3⟩ := firstv_pop ok
        obtain ⟨r, bb, hv⟩ := popv_form (lsW s)
        rw [q1, hv]
        simp (dsimp := false) (maxSteps := 4000000) only [encR_len, encR_scal, go_sem, ↓reduceIte, Nat.reduceEqDiff, Nat.reduceLT, Nat.reduceLeDiff, Nat.reduceAdd, Nat.reduceMul, Nat.reduceSub, reduceCtorEq, Int.reduceToNat, Int.reduceLT, Int.reduceLE, Int.reduceEq, Int.reduceNe, Int.reduceBEq, Nat.reduceBEq, Int.reduceBNe, Nat.reduceBNe]
        refine AllB.mk fun b6 h_b6 => ?_; have hn_b6 := h_b6; (try simp only [fresh_add, fresh_set, ne_eq] at hn_b6); have hr_b6 := hn_b6; (try simp only [@eq_comm Nat b6] at hr_b6); simp (dsimp := false) (maxSteps := 4000000) only [encR_len, encR_scal, hn_b6, hr_b6, go_sem, ↓reduceIte, Nat.reduceEqDiff, Nat.reduceLT, Nat.reduceLeDiff, Nat.reduceAdd, Nat.reduceMul, Nat.reduceSub, reduceCtorEq, Int.reduceToNat, Int.reduceLT, Int.reduceLE, Int.reduceEq, Int.reduceNe, Int.reduceBEq, Nat.reduceBEq, Int.reduceBNe, Nat.reduceBNe]
        have k6 : Keep A ((put A bq (popQ s)).add b6 (.cells (encR r) 69 10)) (· = bq) := Keep.put.trans (Keep.add h_b6)
        have hra := hr.keep k6 (fun e => hqr e.symm) n2 n1
        refine (RPop_c H _ br lb lc tb tc (lsW s) (trW s) hra).mono ?_
        rintro _ A' ⟨rfl, lb', lc', tb', tc', hR, hK, ht1, hl1⟩
        have hb6 := hK.find (h_b6.ne_find ((Keep.put (b := bq)).find (fun e => hqr e.symm) hr.at_)) (find_add_self _ _ _)
        have hr6 := row_find (off := 0) (n := 10) hb6 (by rw [encR_len]; decide)
        rw [List.drop_zero, List.take_of_length_le (by rw [encR_len]; decide)] at hr6
        have n6 : ∀ b8, Fresh A' b8 → ¬ b8 = b6 := fun b8 h => h.ne_find hb6
        rw [hv]
        simp (dsimp := false) (maxSteps := 4000000) only [encR_len, encR_scal, hn_b6, hr_b6, go_sem, ↓reduceIte, Nat.reduceEqDiff, Nat.reduceLT, Nat.reduceLeDiff, Nat.reduceAdd, Nat.reduceMul, Nat.reduceSub, reduceCtorEq, Int.reduceToNat, Int.reduceLT, Int.reduceLE, Int.reduceEq, Int.reduceNe, Int.reduceBEq, Nat.reduceBEq, Int.reduceBNe, Nat.reduceBNe]
        refine AllB.mk fun b8 h_b8 => ?_; have hn_b8 := h_b8; (try simp only [fresh_add, fresh_set, ne_eq] at hn_b8); have hr_b8 := hn_b8; (try simp only [@eq_comm Nat b8] at hr_b8); simp (dsimp := false) (maxSteps := 4000000) only [encR_len, encR_scal, hn_b6, hr_b6, hn_b8, hr_b8, go_sem, ↓reduceIte, Nat.reduceEqDiff, Nat.reduceLT, Nat.reduceLeDiff, Nat.reduceAdd, Nat.reduceMul, Nat.reduceSub, reduceCtorEq, Int.reduceToNat, Int.reduceLT, Int.reduceLE, Int.reduceEq, Int.reduceNe, Int.reduceBEq, Nat.reduceBEq, Int.reduceBNe, Nat.reduceBNe]
        have n68 := n6 _ h_b8
        simp (dsimp := false) (maxSteps := 4000000) only [n68, hr6, neqR, encR_len, encR_scal, hn_b6, hr_b6, hn_b8, hr_b8, go_sem, ↓reduceIte, Nat.reduceEqDiff, Nat.reduceLT, Nat.reduceLeDiff, Nat.reduceAdd, Nat.reduceMul, Nat.reduceSub, reduceCtorEq, Int.reduceToNat, Int.reduceLT, Int.reduceLE, Int.reduceEq, Int.reduceNe, Int.reduceBEq, Nat.reduceBEq, Int.reduceBNe, Nat.reduceBNe]
        obtain ⟨A2, hA2⟩ : ∃ X, X = A'.add b8 (.cells (encR r) 69 10) := ⟨_, rfl⟩
        have k2 : Keep A A2 (fun b => b = bq ∨ b = br) := by rw [hA2]; exact ((k6.mono fun _ h => .inl h).trans (hK.mono fun _ h => .inr h)).trans (Keep.add h_b8)
        have ka2 : Keep H A2 fun _ => False := ka.ow k2 fun b hb => by
          rcases hb with rfl | rfl
          · exact hfq
          · exact hfr
        have hq2 : At A2 bq (popQ s) := by
          rw [hA2]; exact (Keep.add h_b8 (ex := fun _ => False)).find (fun h => h) (hK.find hqr ((Keep.add h_b6 (ex := fun _ => False)).find (fun h => h) (find_add_self _ _ _)))
        have hr2 : RAt H A2 br lb' lc' tb' tc' (lsW (popQ s)) (trW (popQ s)) := by
          rw [hA2, q2, q3]; exact hR.keep (Keep.add h_b8) (ex := fun _ => False) (fun h => h) (fun _ _ h => h) (fun _ _ h => h)
        have n12 : ∀ a, tb' = some a → a.block ≠ bq := fun a ha => by
          obtain ⟨a', h1, h2⟩ := ht1 a ha
          rw [h2]; exact n1 _ h1
        have n22 : ∀ a, lb' = some a → a.block ≠ bq := fun a ha => by
          obtain ⟨a', h1, h2⟩ := hl1 a ha
          rw [h2]; exact n2 _ h1
        have ok2 := popQ_ok ok
        have tr2 : ∀ w ∈ W (popQ s), 0 ≤ w.2 ∧ w.2 ≤ 2 := fun w hw => by
          obtain ⟨w0, hw0⟩ := ring_first ok
          by_cases hm : s.many = 0
          · rw [popQ_none hm] at hw; exact tr w hw
          · exact tr w (by rw [W_pop ok hm hw0]; exact List.mem_cons_of_mem _ hw)
        rw [← hA2]
        generalize popQ s = s2 at hq2 hr2 ok2 tr2
        clear hA2 k2 hra k6 hb6 hr6 hK hR n6 n68 hn_b8 hr_b8 h_b8 hn_b6 hr_b6 h_b6
        
      case' inr.inl =>
        
        have k0 : ¬ kd % 4 = 0 := by omega
        simp (dsimp := false) (maxSteps := 4000000) only [h, h100, hkind, ek, k0, k1, encR_len, encR_scal, go_sem, ↓reduceIte, Nat.reduceEqDiff, Nat.reduceLT, Nat.reduceLeDiff, Nat.reduceAdd, Nat.reduceMul, Nat.reduceSub, reduceCtorEq, Int.reduceToNat, Int.reduceLT, Int.reduceLE, Int.reduceEq, Int.reduceNe, Int.reduceBEq, Nat.reduceBEq, Int.reduceBNe, Nat.reduceBNe]
        obtain ⟨w, hwt⟩ := ring_first ok
        obtain ⟨q1, q2, ok2, tr2⟩ := fail_fail ok hwt tr
        have q3 := congrArg Prod.fst q2
        have q4 := congrArg Prod.snd q2
        simp only at q3 q4
        refine (Fail_c s ok w hwt (fun hm => by have := tr w (by rw [W_pop ok hm hwt]; simp); omega) bq A hq).mono ?_; rintro _ _ ⟨rfl, rfl⟩
        obtain ⟨r, bb, hv⟩ := failRv_form (lsW s) (trW s)
        rw [q1, hv]
        simp (dsimp := false) (maxSteps := 4000000) only [encR_len, encR_scal, go_sem, ↓reduceIte, Nat.reduceEqDiff, Nat.reduceLT, Nat.reduceLeDiff, Nat.reduceAdd, Nat.reduceMul, Nat.reduceSub, reduceCtorEq, Int.reduceToNat, Int.reduceLT, Int.reduceLE, Int.reduceEq, Int.reduceNe, Int.reduceBEq, Nat.reduceBEq, Int.reduceBNe, Nat.reduceBNe]
        refine AllB.mk fun b6 h_b6 => ?_; have hn_b6 := h_b6; (try simp only [fresh_add, fresh_set, ne_eq] at hn_b6); have hr_b6 := hn_b6; (try simp only [@eq_comm Nat b6] at hr_b6); simp (dsimp := false) (maxSteps := 4000000) only [encR_len, encR_scal, hn_b6, hr_b6, go_sem, ↓reduceIte, Nat.reduceEqDiff, Nat.reduceLT, Nat.reduceLeDiff, Nat.reduceAdd, Nat.reduceMul, Nat.reduceSub, reduceCtorEq, Int.reduceToNat, Int.reduceLT, Int.reduceLE, Int.reduceEq, Int.reduceNe, Int.reduceBEq, Nat.reduceBEq, Int.reduceBNe, Nat.reduceBNe]
        have k6 : Keep A ((put A bq (failQ s w)).add b6 (.cells (encR r) 69 10)) (· = bq) := Keep.put.trans (Keep.add h_b6)
        have hra := hr.keep k6 (fun e => hqr e.symm) n2 n1
        refine (RFail_c H _ br lb lc tb tc (lsW s) (trW s) hra (fun t ht => by
          obtain ⟨w, hw, rfl⟩ := List.mem_map.1 ht
          have := tr w hw; omega)).mono ?_
        rintro _ A' ⟨rfl, lb', lc', tb', tc', hR, hK, ht1, hl1⟩
        have hx6 : ¬ exR br tb b6 := fun hx => by
          rcases hx with hx | ⟨a, ha, hx⟩
          · exact h_b6.ne_find ((Keep.put (b := bq)).find (fun e => hqr e.symm) hr.at_) hx
          · obtain ⟨⟨cs, e, m, hf, _⟩, _⟩ := hr.tf a ha
            exact h_b6.ne_find ((Keep.put (b := bq)).find (n1 a ha) hf) hx
        have hxq : ¬ exR br tb bq := fun hx => by
          rcases hx with hx | ⟨a, ha, hx⟩
          · exact hqr hx
          · exact n1 a ha hx.symm
        have hb6 := hK.find hx6 (find_add_self _ _ _)
        have hr6 := row_find (off := 0) (n := 10) hb6 (by rw [encR_len]; decide)
        rw [List.drop_zero, List.take_of_length_le (by rw [encR_len]; decide)] at hr6
        have n6 : ∀ b8, Fresh A' b8 → ¬ b8 = b6 := fun b8 h => h.ne_find hb6
        rw [hv]
        simp (dsimp := false) (maxSteps := 4000000) only [encR_len, encR_scal, hn_b6, hr_b6, go_sem, ↓reduceIte, Nat.reduceEqDiff, Nat.reduceLT, Nat.reduceLeDiff, Nat.reduceAdd, Nat.reduceMul, Nat.reduceSub, reduceCtorEq, Int.reduceToNat, Int.reduceLT, Int.reduceLE, Int.reduceEq, Int.reduceNe, Int.reduceBEq, Nat.reduceBEq, Int.reduceBNe, Nat.reduceBNe]
        refine AllB.mk fun b8 h_b8 => ?_; have hn_b8 := h_b8; (try simp only [fresh_add, fresh_set, ne_eq] at hn_b8); have hr_b8 := hn_b8; (try simp only [@eq_comm Nat b8] at hr_b8); simp (dsimp := false) (maxSteps := 4000000) only [encR_len, encR_scal, hn_b6, hr_b6, hn_b8, hr_b8, go_sem, ↓reduceIte, Nat.reduceEqDiff, Nat.reduceLT, Nat.reduceLeDiff, Nat.reduceAdd, Nat.reduceMul, Nat.reduceSub, reduceCtorEq, Int.reduceToNat, Int.reduceLT, Int.reduceLE, Int.reduceEq, Int.reduceNe, Int.reduceBEq, Nat.reduceBEq, Int.reduceBNe, Nat.reduceBNe]
        have n68 := n6 _ h_b8
        simp (dsimp := false) (maxSteps := 4000000) only [n68, hr6, neqR, encR_len, encR_scal, hn_b6, hr_b6, hn_b8, hr_b8, go_sem, ↓reduceIte, Nat.reduceEqDiff, Nat.reduceLT, Nat.reduceLeDiff, Nat.reduceAdd, Nat.reduceMul, Nat.reduceSub, reduceCtorEq, Int.reduceToNat, Int.reduceLT, Int.reduceLE, Int.reduceEq, Int.reduceNe, Int.reduceBEq, Nat.reduceBEq, Int.reduceBNe, Nat.reduceBNe]
        obtain ⟨A2, hA2⟩ : ∃ X, X = A'.add b8 (.cells (encR r) 69 10) := ⟨_, rfl⟩
        have k2 : Keep A A2 (fun b => b = bq ∨ exR br tb b) := by rw [hA2]; exact ((k6.mono fun _ h => .inl h).trans (hK.mono fun _ h => .inr h)).trans (Keep.add h_b8)
        have ka2 : Keep H A2 fun _ => False := ka.ow k2 fun b hb => by
          rcases hb with rfl | rfl | ⟨a, ha, rfl⟩
          · exact hfq
          · exact hfr
          · exact (hr.tf a ha).2.1
        have hq2 : At A2 bq (failQ s w) := by
          rw [hA2]; exact (Keep.add h_b8 (ex := fun _ => False)).find (fun h => h) (hK.find hxq ((Keep.add h_b6 (ex := fun _ => False)).find (fun h => h) (find_add_self _ _ _)))
        have hr2 : RAt H A2 br lb' lc' tb' tc' (lsW (failQ s w)) (trW (failQ s w)) := by
          rw [hA2, q3, q4]; exact hR.keep (Keep.add h_b8) (ex := fun _ => False) (fun h => h) (fun _ _ h => h) (fun _ _ h => h)
        have n12 : ∀ a, tb' = some a → a.block ≠ bq := fun a ha => by
          obtain ⟨a', h1, h2⟩ := ht1 a ha
          rw [h2]; exact n1 _ h1
        have n22 : ∀ a, lb' = some a → a.block ≠ bq := fun a ha => by
          obtain ⟨a', h1, h2⟩ := hl1 a ha
          rw [h2]; exact n2 _ h1
        rw [← hA2]
        generalize failQ s w = s2 at hq2 hr2 ok2 tr2
        clear hA2 k2 hra k6 hb6 hr6 hK hR n6 n68 hn_b8 hr_b8 h_b8 hn_b6 hr_b6 h_b6 hx6 hxq
        
      case' inr.inr =>
        
        simp (dsimp := false) (maxSteps := 4000000) only [h, h100, hkind, ek, k0, k1, encR_len, encR_scal, go_sem, ↓reduceIte, Nat.reduceEqDiff, Nat.reduceLT, Nat.reduceLeDiff, Nat.reduceAdd, Nat.reduceMul, Nat.reduceSub, reduceCtorEq, Int.reduceToNat, Int.reduceLT, Int.reduceLE, Int.reduceEq, Int.reduceNe, Int.reduceBEq, Nat.reduceBEq, Int.reduceBNe, Nat.reduceBNe]
        refine AWp.gen [.pu, .pu, .pu, .pu, .pu, .rd, .ch, .pu, .pu, .pu, .pu, .pu, .rd, .ch, .pu] [0, 0, 0, 6, 14, 30, 63, 0, 0, 0, 768, 1792, 3840, 8191, 16383] 7 (H) mixed (by kernel_rfl) (ka.all) ?_
        have hi' : (i : Int) < L.length := h
        simp (dsimp := false) (maxSteps := 4000000) only [hreq, hi', encR_len, encR_scal, go_sem, ↓reduceIte, Nat.reduceEqDiff, Nat.reduceLT, Nat.reduceLeDiff, Nat.reduceAdd, Nat.reduceMul, Nat.reduceSub, reduceCtorEq, Int.reduceToNat, Int.reduceLT, Int.reduceLE, Int.reduceEq, Int.reduceNe, Int.reduceBEq, Nat.reduceBEq, Int.reduceBNe, Nat.reduceBNe]
        obtain ⟨q2, q3⟩ := push_push (x := x) ok
        have ok2 := pushQ_ok (x := x) ok
        have tr2 : ∀ w ∈ W (pushQ s x), 0 ≤ w.2 ∧ w.2 ≤ 2 := fun w hw => by
          by_cases hm : s.many = 8
          · rw [pushQ_full hm] at hw; exact tr w hw
          · rw [W_push ok hm] at hw
            rcases List.mem_append.1 hw with hw | hw
            · exact tr w hw
            · simp only [List.mem_singleton] at hw; subst hw; simp
        refine (Push_c s ok x bq A hq).mono ?_; rintro _ _ ⟨rfl, rfl⟩
        have hka1 : Keep H (put A bq (pushQ s x)) fun _ => False := ka.ow Keep.put fun b hb => hb ▸ hfq
        simp (dsimp := false) (maxSteps := 4000000) only [hka1.all, hreq, hi', encR_len, encR_scal, go_sem, ↓reduceIte, Nat.reduceEqDiff, Nat.reduceLT, Nat.reduceLeDiff, Nat.reduceAdd, Nat.reduceMul, Nat.reduceSub, reduceCtorEq, Int.reduceToNat, Int.reduceLT, Int.reduceLE, Int.reduceEq, Int.reduceNe, Int.reduceBEq, Nat.reduceBEq, Int.reduceBNe, Nat.reduceBNe]
        have hra := hr.keep (Keep.put (b := bq) (k := .cells (pushQ s x).cells 113 90)) (fun e => hqr e.symm) n2 n1
        refine (RPush_c H _ hka1 br hfr lb lc tb tc (lsW s) (trW s) x hra (by rw [lsW_len]; exact ok.many)).mono ?_
        rintro _ A2 ⟨rfl, lb', lc', tb', tc', hr2, hK, ht1, hl1⟩
        rw [lsW_len] at hr2 ⊢
        have ka2 : Keep H A2 fun _ => False := hka1.ow hK fun b hb => hb ▸ hfr
        have hq2 : At A2 bq (pushQ s x) := hK.find hqr (find_add_self _ _ _)
        rw [lsW_len] at q2 q3
        rw [← q2, ← q3] at hr2
        have n12 : ∀ a, tb' = some a → a.block ≠ bq := fun a ha => by
          rcases ht1 a ha with ⟨a', h1, h2⟩ | h1
          · rw [h2]; exact n1 _ h1
          · exact h1.ne_find (find_add_self _ _ _)
        have n22 : ∀ a, lb' = some a → a.block ≠ bq := fun a ha => by
          rcases hl1 a ha with ⟨a', h1, h2⟩ | h1
          · rw [h2]; exact n2 _ h1
          · exact h1.ne_find (find_add_self _ _ _)
        simp (dsimp := false) (maxSteps := 4000000) only [ka2.all, encR_len, encR_scal, go_sem, ↓reduceIte, Nat.reduceEqDiff, Nat.reduceLT, Nat.reduceLeDiff, Nat.reduceAdd, Nat.reduceMul, Nat.reduceSub, reduceCtorEq, Int.reduceToNat, Int.reduceLT, Int.reduceLE, Int.reduceEq, Int.reduceNe, Int.reduceBEq, Nat.reduceBEq, Int.reduceBNe, Nat.reduceBNe]
        generalize pushQ s x = s2 at hq2 hr2 ok2 tr2
        
      all_goals
        have hle2 := ok2.many
        refine (First_c s2 ok2 bq A2 hq2).mono ?_; rintro _ _ ⟨rfl, rfl⟩
        obtain ⟨q1, _, _⟩ := firstv_pop ok2
        have hlm := lsW_len s2
        have hkA := hr2
        rw [q1]
        cases hl : lsW s2 with
        | nil =>
          rw [hl] at hkA hlm
          have hm0 : s2.many = 0 := by simpa using hlm.symm
          have hr0 := rd_find (off := 0) hkA.at_
          simp only [List.getElem?_cons_zero, List.length_nil] at hr0
          
          simp (dsimp := false) (maxSteps := 4000000) only [popv, noneV, encR_len, encR_scal, go_sem, ↓reduceIte, Nat.reduceEqDiff, Nat.reduceLT, Nat.reduceLeDiff, Nat.reduceAdd, Nat.reduceMul, Nat.reduceSub, reduceCtorEq, Int.reduceToNat, Int.reduceLT, Int.reduceLE, Int.reduceEq, Int.reduceNe, Int.reduceBEq, Nat.reduceBEq, Int.reduceBNe, Nat.reduceBNe]
          refine AllB.mk fun b14 h_b14 => ?_; have hn_b14 := h_b14; (try simp only [fresh_add, fresh_set, ne_eq] at hn_b14); have hr_b14 := hn_b14; (try simp only [@eq_comm Nat b14] at hr_b14); simp (dsimp := false) (maxSteps := 4000000) only [encR_len, encR_scal, hn_b14, hr_b14, go_sem, ↓reduceIte, Nat.reduceEqDiff, Nat.reduceLT, Nat.reduceLeDiff, Nat.reduceAdd, Nat.reduceMul, Nat.reduceSub, reduceCtorEq, Int.reduceToNat, Int.reduceLT, Int.reduceLE, Int.reduceEq, Int.reduceNe, Int.reduceBEq, Nat.reduceBEq, Int.reduceBNe, Nat.reduceBNe]
          have n14 : ¬ b14 = br := h_b14.ne_find hkA.at_
          refine AWp.gen [.pu, .ch, .pu, .pu, .pu, .rd, .pu, .pu, .pu, .pu, .pu, .pu, .pu, .rd, .pu, .pu, .pu, .pu, .pu, .pu, .pu, .rd, .pu, .pu, .pu, .rd, .pu, .rd, .pu, .pu, .pu] [0, 1, 0, 4, 12, 28, 60, 127, 255, 511, 511, 1535, 3583, 7679, 15871, 32255, 65535, 131071, 262143, 524287, 1048575, 2097151, 2097151, 6291455, 14680063, 31457279, 65011711, 132120575, 268435455, 536870911, 1073741823] 2 (_) mixed (by kernel_rfl) (AH.le_refl _) ?_
          simp (dsimp := false) (maxSteps := 4000000) only [encR_len, encR_scal, hn_b14, hr_b14, go_sem, ↓reduceIte, Nat.reduceEqDiff, Nat.reduceLT, Nat.reduceLeDiff, Nat.reduceAdd, Nat.reduceMul, Nat.reduceSub, reduceCtorEq, Int.reduceToNat, Int.reduceLT, Int.reduceLE, Int.reduceEq, Int.reduceNe, Int.reduceBEq, Nat.reduceBEq, Int.reduceBNe, Nat.reduceBNe]
          refine (Len_c s2 ok2 bq _ ((Keep.add h_b14 (ex := fun _ => False)).find (fun h => h) hq2)).mono ?_; rintro _ _ ⟨rfl, rfl⟩
          simp (dsimp := false) (maxSteps := 4000000) only [AH.le_refl, hm0, hr0, n14, encR_len, encR_scal, hn_b14, hr_b14, go_sem, ↓reduceIte, Nat.reduceEqDiff, Nat.reduceLT, Nat.reduceLeDiff, Nat.reduceAdd, Nat.reduceMul, Nat.reduceSub, reduceCtorEq, Int.reduceToNat, Int.reduceLT, Int.reduceLE, Int.reduceEq, Int.reduceNe, Int.reduceBEq, Nat.reduceBEq, Int.reduceBNe, Nat.reduceBNe]
          simp (dsimp := false) (maxSteps := 4000000) only [e1, encR_len, encR_scal, hn_b14, hr_b14, go_sem, ↓reduceIte, Nat.reduceEqDiff, Nat.reduceLT, Nat.reduceLeDiff, Nat.reduceAdd, Nat.reduceMul, Nat.reduceSub, reduceCtorEq, Int.reduceToNat, Int.reduceLT, Int.reduceLE, Int.reduceEq, Int.reduceNe, Int.reduceBEq, Nat.reduceBEq, Int.reduceBNe, Nat.reduceBNe]
          exact again ⟨i + 1, s2, lb', lc', tb', tc'⟩ _ A2 _ ⟨by simp only; omega, by simp only; omega, ok2, tr2, ka2, hq2, hr2, n12, n22⟩ (FrLe.of_lks (by simp (dsimp := false) (maxSteps := 4000000) only [encR_len, encR_scal, hn_b14, hr_b14, go_sem, ↓reduceIte, Nat.reduceEqDiff, Nat.reduceLT, Nat.reduceLeDiff, Nat.reduceAdd, Nat.reduceMul, Nat.reduceSub, reduceCtorEq, Int.reduceToNat, Int.reduceLT, Int.reduceLE, Int.reduceEq, Int.reduceNe, Int.reduceBEq, Nat.reduceBEq, Int.reduceBNe, Nat.reduceBNe])) (AH.le_add (AH.le_refl _) h_b14.2) (by simp only; omega)
          
        | cons y l =>
          rw [hl] at hkA hlm
          have hr0 := rd_find (off := 0) hkA.at_
          simp only [List.getElem?_cons_zero, List.length_cons] at hr0 hlm
          have hmi : (s2.many : Int) = ((l.length + 1 : Nat) : Int) := by rw [hlm]
          have c0 : (0 : Int) < ((l.length + 1 : Nat) : Int) := by omega
          obtain ⟨bl, ol, rfl, hrow2, _⟩ := hkA.ls.get (r := encR y) (i := 0) rfl
          rw [Nat.zero_mul, Nat.add_zero] at hrow2
          
          simp (dsimp := false) (maxSteps := 4000000) only [popv, encR_len, encR_scal, go_sem, ↓reduceIte, Nat.reduceEqDiff, Nat.reduceLT, Nat.reduceLeDiff, Nat.reduceAdd, Nat.reduceMul, Nat.reduceSub, reduceCtorEq, Int.reduceToNat, Int.reduceLT, Int.reduceLE, Int.reduceEq, Int.reduceNe, Int.reduceBEq, Nat.reduceBEq, Int.reduceBNe, Nat.reduceBNe]
          refine AllB.mk fun b14 h_b14 => ?_; have hn_b14 := h_b14; (try simp only [fresh_add, fresh_set, ne_eq] at hn_b14); have hr_b14 := hn_b14; (try simp only [@eq_comm Nat b14] at hr_b14); simp (dsimp := false) (maxSteps := 4000000) only [encR_len, encR_scal, hn_b14, hr_b14, go_sem, ↓reduceIte, Nat.reduceEqDiff, Nat.reduceLT, Nat.reduceLeDiff, Nat.reduceAdd, Nat.reduceMul, Nat.reduceSub, reduceCtorEq, Int.reduceToNat, Int.reduceLT, Int.reduceLE, Int.reduceEq, Int.reduceNe, Int.reduceBEq, Nat.reduceBEq, Int.reduceBNe, Nat.reduceBNe]
          have n14 : ¬ b14 = br := h_b14.ne_find hkA.at_
          have n14l : ¬ b14 = bl := h_b14.ne_row hrow2
          refine AWp.gen [.pu, .ch, .pu, .pu, .pu, .rd, .pu, .pu, .pu, .pu, .pu, .pu, .pu, .rd, .pu, .pu, .pu, .pu, .pu, .pu, .pu, .rd, .pu, .pu, .pu, .rd, .pu, .rd, .pu, .pu, .pu] [0, 1, 0, 4, 12, 28, 60, 127, 255, 511, 511, 1535, 3583, 7679, 15871, 32255, 65535, 131071, 262143, 524287, 1048575, 2097151, 2097151, 6291455, 14680063, 31457279, 65011711, 132120575, 268435455, 536870911, 1073741823] 2 (_) mixed (by kernel_rfl) (AH.le_refl _) ?_
          simp (dsimp := false) (maxSteps := 4000000) only [encR_len, encR_scal, hn_b14, hr_b14, go_sem, ↓reduceIte, Nat.reduceEqDiff, Nat.reduceLT, Nat.reduceLeDiff, Nat.reduceAdd, Nat.reduceMul, Nat.reduceSub, reduceCtorEq, Int.reduceToNat, Int.reduceLT, Int.reduceLE, Int.reduceEq, Int.reduceNe, Int.reduceBEq, Nat.reduceBEq, Int.reduceBNe, Nat.reduceBNe]
          refine (Len_c s2 ok2 bq _ ((Keep.add h_b14 (ex := fun _ => False)).find (fun h => h) hq2)).mono ?_; rintro _ _ ⟨rfl, rfl⟩
          rw [hmi]
          simp (dsimp := false) (maxSteps := 4000000) only [AH.le_refl, hr0, n14, n14l, c0, hrow2, neqR, encR_len, encR_scal, hn_b14, hr_b14, go_sem, ↓reduceIte, Nat.reduceEqDiff, Nat.reduceLT, Nat.reduceLeDiff, Nat.reduceAdd, Nat.reduceMul, Nat.reduceSub, reduceCtorEq, Int.reduceToNat, Int.reduceLT, Int.reduceLE, Int.reduceEq, Int.reduceNe, Int.reduceBEq, Nat.reduceBEq, Int.reduceBNe, Nat.reduceBNe]
          simp (dsimp := false) (maxSteps := 4000000) only [e1, encR_len, encR_scal, hn_b14, hr_b14, go_sem, ↓reduceIte, Nat.reduceEqDiff, Nat.reduceLT, Nat.reduceLeDiff, Nat.reduceAdd, Nat.reduceMul, Nat.reduceSub, reduceCtorEq, Int.reduceToNat, Int.reduceLT, Int.reduceLE, Int.reduceEq, Int.reduceNe, Int.reduceBEq, Nat.reduceBEq, Int.reduceBNe, Nat.reduceBNe]
          exact again ⟨i + 1, s2, some ⟨bl, ol, none⟩, lc', tb', tc'⟩ _ A2 _ ⟨by simp only; omega, by simp only; omega, ok2, tr2, ka2, hq2, hr2, n12, n22⟩ (FrLe.of_lks (by simp (dsimp := false) (maxSteps := 4000000) only [encR_len, encR_scal, hn_b14, hr_b14, go_sem, ↓reduceIte, Nat.reduceEqDiff, Nat.reduceLT, Nat.reduceLeDiff, Nat.reduceAdd, Nat.reduceMul, Nat.reduceSub, reduceCtorEq, Int.reduceToNat, Int.reduceLT, Int.reduceLE, Int.reduceEq, Int.reduceNe, Int.reduceBEq, Nat.reduceBEq, Int.reduceBNe, Nat.reduceBNe])) (AH.le_add (AH.le_refl _) h_b14.2) (by simp only; omega)
          
    · have fin : ∀ B : AH, B = A → True := fun _ _ => trivial
      by_cases h : (i : Int) < L.length
      · have h100 : ¬ (i : Int) < 100 := fun e => hrun ⟨h, e⟩
        simp (dsimp := false) (maxSteps := 4000000) only [h, h100, encR_len, encR_scal, go_sem, ↓reduceIte, Nat.reduceEqDiff, Nat.reduceLT, Nat.reduceLeDiff, Nat.reduceAdd, Nat.reduceMul, Nat.reduceSub, reduceCtorEq, Int.reduceToNat, Int.reduceLT, Int.reduceLE, Int.reduceEq, Int.reduceNe, Int.reduceBEq, Nat.reduceBEq, Int.reduceBNe, Nat.reduceBNe]
        refine out _ _ _ (by simp) ?_
        simp (dsimp := false) (maxSteps := 4000000) only [encR_len, encR_scal, go_sem, ↓reduceIte, Nat.reduceEqDiff, Nat.reduceLT, Nat.reduceLeDiff, Nat.reduceAdd, Nat.reduceMul, Nat.reduceSub, reduceCtorEq, Int.reduceToNat, Int.reduceLT, Int.reduceLE, Int.reduceEq, Int.reduceNe, Int.reduceBEq, Nat.reduceBEq, Int.reduceBNe, Nat.reduceBNe]
        refine (awake22_c _).mono ?_; rintro _ _ ⟨rfl, rfl⟩
        simp (dsimp := false) (maxSteps := 4000000) only [encR_len, encR_scal, go_sem, ↓reduceIte, Nat.reduceEqDiff, Nat.reduceLT, Nat.reduceLeDiff, Nat.reduceAdd, Nat.reduceMul, Nat.reduceSub, reduceCtorEq, Int.reduceToNat, Int.reduceLT, Int.reduceLE, Int.reduceEq, Int.reduceNe, Int.reduceBEq, Nat.reduceBEq, Int.reduceBNe, Nat.reduceBNe]
        exact ⟨H, ka.all, rfl⟩
      · simp (dsimp := false) (maxSteps := 4000000) only [h, encR_len, encR_scal, go_sem, ↓reduceIte, Nat.reduceEqDiff, Nat.reduceLT, Nat.reduceLeDiff, Nat.reduceAdd, Nat.reduceMul, Nat.reduceSub, reduceCtorEq, Int.reduceToNat, Int.reduceLT, Int.reduceLE, Int.reduceEq, Int.reduceNe, Int.reduceBEq, Nat.reduceBEq, Int.reduceBNe, Nat.reduceBNe]
        refine out _ _ _ (by simp) ?_
        simp (dsimp := false) (maxSteps := 4000000) only [encR_len, encR_scal, go_sem, ↓reduceIte, Nat.reduceEqDiff, Nat.reduceLT, Nat.reduceLeDiff, Nat.reduceAdd, Nat.reduceMul, Nat.reduceSub, reduceCtorEq, Int.reduceToNat, Int.reduceLT, Int.reduceLE, Int.reduceEq, Int.reduceNe, Int.reduceBEq, Nat.reduceBEq, Int.reduceBNe, Nat.reduceBNe]
        refine (awake22_c _).mono ?_; rintro _ _ ⟨rfl, rfl⟩
        simp (dsimp := false) (maxSteps := 4000000) only [encR_len, encR_scal, go_sem, ↓reduceIte, Nat.reduceEqDiff, Nat.reduceLT, Nat.reduceLeDiff, Nat.reduceAdd, Nat.reduceMul, Nat.reduceSub, reduceCtorEq, Int.reduceToNat, Int.reduceLT, Int.reduceLE, Int.reduceEq, Int.reduceNe, Int.reduceBEq, Nat.reduceBEq, Int.reduceBNe, Nat.reduceBNe]
        exact ⟨H, ka.all, rfl⟩
end Go.Proofs.Ythinfokelgcipaa.Queue
