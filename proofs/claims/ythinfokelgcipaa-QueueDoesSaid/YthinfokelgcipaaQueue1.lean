/- The ring: its cells, and what each operation does to them. -/
import Derived.Test.YthinfokelgcipaaTy
namespace Go.Proofs.Ythinfokelgcipaa.Queue
set_option linter.unusedSimpArgs false
set_option linter.unusedVariables false
open Go Go.AX Go.Proofs Ty
set_option maxHeartbeats 2000000
set_option maxRecDepth 10000

structure Req where
  id : Int
  kind : Int
  node : Int
  file : Int
  rc : Int
  v0 : Int
  v1 : Int
  v2 : Int
  v3 : Int
  key : Int
def encR (r : Req) : List Value := [.int .i64 r.id, .int .i64 r.kind, .int .i64 r.node, .int .i64 r.file, .int .i64 r.rc, .int .u8 r.v0, .int .u8 r.v1, .int .u8 r.v2, .int .u8 r.v3, .int .i64 r.key]
def zeroR : Req := ⟨0, 0, 0, 0, 0, 0, 0, 0, 0, 0⟩
theorem encR_len (r : Req) : (encR r).length = 10 := by simp [encR]
theorem encR_scal (r : Req) : (encR r).all scal = true := by simp [encR, scal]
theorem encR_inj {r s : Req} (h : encR r = encR s) : r = s := by
  cases r; cases s; simp only [encR, List.cons.injEq, Value.int.injEq, true_and, and_true] at h
  obtain ⟨rfl, rfl, rfl, rfl, rfl, rfl, rfl, rfl, rfl, rfl⟩ := h; rfl

abbrev Wt := Req × Int
def encW (w : Wt) : List Value := encR w.1 ++ [.int .i64 w.2]
theorem encW_len (w : Wt) : (encW w).length = 11 := by simp [encW, encR]
theorem encW_scal (w : Wt) : (encW w).all scal = true := by simp [encW, encR, scal]

structure QS where
  ring : List Wt
  first : Nat
  many : Nat
def QS.cells (s : QS) : List Value := (s.ring.map encW).flatten ++ [.int .i64 s.first, .int .i64 s.many]
structure QS.Ok (s : QS) : Prop where
  len : s.ring.length = 8
  first : s.first < 8
  many : s.many ≤ 8

/-! ### Rows laid flat -/
theorem flat_lput {sz : Nat} : ∀ {R : List (List Value)} (_ : ∀ r ∈ R, r.length = sz) (i : Nat) (r' : List Value), i < R.length → r'.length = sz → lput R.flatten (i * sz) r' = (R.set i r').flatten
  | [], _, _, _, h, _ => by simp at h
  | r0 :: R, hR, 0, r', _, h => by
    have h0 : r0.length = sz := hR r0 (by simp)
    rw [lput_eq _ _ _ (by simp [h, h0]), Nat.zero_mul, Nat.zero_add, h, ← h0, List.flatten_cons, List.drop_left]
    simp
  | r0 :: R, hR, i + 1, r', hi, h => by
    have h0 : r0.length = sz := hR r0 (by simp)
    have hRl := flat_len (fun r hr => hR r (by simp [hr]) : ∀ r ∈ R, r.length = sz)
    have ih := flat_lput (fun r hr => hR r (by simp [hr]) : ∀ r ∈ R, r.length = sz) i r' (by simpa using hi) h
    have hm : (i + 1) * sz ≤ R.length * sz := Nat.mul_le_mul_right _ (by simp at hi; omega)
    rw [Nat.succ_mul] at hm
    rw [lput_eq _ _ _ (by rw [hRl, h]; omega)] at ih
    rw [List.set_cons_succ, List.flatten_cons, List.flatten_cons, ← ih, lput_eq _ _ _ (by rw [List.length_append, hRl, h0, h, Nat.succ_mul]; omega), Nat.succ_mul]
    rw [List.take_append, List.drop_append, List.take_of_length_le (show r0.length ≤ i * sz + sz from by omega), List.drop_eq_nil_of_le (show r0.length ≤ i * sz + sz + r'.length from by omega), h0,
      show i * sz + sz - sz = i * sz from by omega, show i * sz + sz + r'.length - sz = i * sz + r'.length from by omega]
    simp
theorem lput_append : ∀ (vs A B : List Value) (off : Nat), off + vs.length ≤ A.length → lput (A ++ B) off vs = lput A off vs ++ B
  | [], _, _, _, _ => rfl
  | v :: vs, A, B, off, h => by
    simp only [List.length_cons] at h
    simp only [lput]
    rw [List.set_append_left (h := by omega), lput_append vs _ _ _ (by simp; omega)]

namespace QS
variable {s : QS}
theorem rows (s : QS) : ∀ r ∈ s.ring.map encW, r.length = 11 := by
  intro r hr
  obtain ⟨w, _, rfl⟩ := List.mem_map.1 hr
  exact encW_len w
theorem flen (h : s.Ok) : ((s.ring.map encW).flatten).length = 88 := by rw [flat_len s.rows]; simp [h.len]
theorem length (h : s.Ok) : s.cells.length = 90 := by unfold QS.cells; rw [List.length_append, flen h]; rfl
theorem g88 (h : s.Ok) : s.cells[88]? = some (.int .i64 s.first) := by
  unfold QS.cells; rw [List.getElem?_append_right (by rw [flen h]; omega), flen h]; rfl
theorem g89 (h : s.Ok) : s.cells[89]? = some (.int .i64 s.many) := by
  unfold QS.cells; rw [List.getElem?_append_right (by rw [flen h]; omega), flen h]; rfl
theorem ilt {i : Nat} {w : Wt} (hw : s.ring[i]? = some w) (h : s.Ok) : i < 8 := by
  rcases Nat.lt_or_ge i s.ring.length with h' | h'
  · rw [h.len] at h'; exact h'
  · rw [List.getElem?_eq_none h'] at hw; cases hw
theorem row (h : s.Ok) {i : Nat} {w : Wt} (hw : s.ring[i]? = some w) : (s.cells.drop (i * 11)).take 10 = encR w.1 := by
  have hi := ilt hw h
  unfold QS.cells
  have e := flat_row s.rows i (encW w) (by rw [List.getElem?_map, hw]; rfl)
  rw [List.drop_append_of_le_length (by rw [flen h]; omega), List.take_append_of_le_length (by rw [List.length_drop, flen h]; omega)]
  have : (((s.ring.map encW).flatten.drop (i * 11)).take 11).take 10 = (encW w).take 10 := by rw [e]
  rw [List.take_take] at this
  rw [show min 10 11 = 10 from rfl] at this
  rw [this]; simp [encW, encR]
theorem tries (h : s.Ok) {i : Nat} {w : Wt} (hw : s.ring[i]? = some w) : s.cells[i * 11 + 10]? = some (.int .i64 w.2) := by
  have hi := ilt hw h
  unfold QS.cells
  rw [List.getElem?_append_left (by rw [flen h]; omega)]
  exact flat_get s.rows i 10 (encW w) _ (by rw [List.getElem?_map, hw]; rfl) (by simp [encW, encR])
theorem set88 (h : s.Ok) (f : Nat) : s.cells.set 88 (.int .i64 f) = QS.cells { s with first := f } := by
  unfold QS.cells; rw [List.set_append_right _ _ (by rw [flen h]; omega), flen h]; rfl
theorem set89 (h : s.Ok) (m : Nat) : s.cells.set 89 (.int .i64 m) = QS.cells { s with many := m } := by
  unfold QS.cells; rw [List.set_append_right _ _ (by rw [flen h]; omega), flen h]; rfl
theorem lputW (h : s.Ok) {i : Nat} (hi : i < 8) (w : Wt) : lput s.cells (i * 11) (encW w) = QS.cells { s with ring := s.ring.set i w } := by
  unfold QS.cells
  rw [lput_append _ _ _ _ (by rw [flen h, encW_len]; omega), flat_lput s.rows i (encW w) (by simp [h.len]; omega) (encW_len w), List.map_set]
theorem setTr (h : s.Ok) {i : Nat} {w : Wt} (hw : s.ring[i]? = some w) (t : Int) : s.cells.set (i * 11 + 10) (.int .i64 t) = QS.cells { s with ring := s.ring.set i (w.1, t) } := by
  have hi := ilt hw h
  rw [← lputW h hi, lput_eq _ _ _ (by rw [length h, encW_len]; omega)]
  have e := row h hw
  apply List.ext_getElem?
  intro j
  have hl := length h
  simp only [List.getElem?_set, hl]
  by_cases hj : i * 11 + 10 = j
  · subst hj
    rw [if_pos rfl, if_pos (by omega), List.getElem?_append_left (by simp [encW_len, hl]; omega), List.getElem?_append_right (by simp [hl]; omega)]
    simp [hl, show min (i * 11) 90 = i * 11 from by omega, encW, encR]
  · rw [if_neg hj]
    rw [List.append_assoc]
    by_cases h1 : j < i * 11
    · rw [List.getElem?_append_left (by simp [hl]; omega), List.getElem?_take, if_pos h1]
    · rw [List.getElem?_append_right (by simp [hl]; omega), List.length_take, hl, show min (i * 11) 90 = i * 11 from by omega]
      by_cases h2 : j < i * 11 + 10
      · rw [List.getElem?_append_left (by simp [encW_len]; omega)]
        have : ((s.cells.drop (i * 11)).take 10)[j - i * 11]? = (encR w.1)[j - i * 11]? := by rw [e]
        rw [List.getElem?_take, if_pos (by omega), List.getElem?_drop, show i * 11 + (j - i * 11) = j from by omega] at this
        rw [this]
        simp only [encW]
        rw [List.getElem?_append_left (by simp [encR]; omega)]
      · rw [List.getElem?_append_right (by simp [encW_len]; omega), encW_len, List.getElem?_drop]
        congr 1; omega
end QS

/-- Where the queue lies. -/
abbrev At (H : AH) (b : Nat) (s : QS) : Prop := H.find b = some (.cells s.cells 113 90)

theorem Len_c (s : QS) (hs : s.Ok) (b : Nat) (H : AH) (hq : At H b s) : ACalls Try.prog 44 #[.pointer (some ⟨b, 0, none⟩)] H (fun v H' => v = .int .i64 s.many ∧ H = H') := by
  refine ACalls.enter2 Try.func44 rfl Try.ntmps44 Try.results44 (by simp) ?_; simp (dsimp := false) (maxSteps := 4000000) only [(rd_find hq).trans (QS.g89 hs), go_sem, ↓reduceIte, Nat.reduceEqDiff, Nat.reduceLT, Nat.reduceLeDiff, Nat.reduceAdd, Nat.reduceMul, Nat.reduceSub, reduceCtorEq, Int.reduceToNat, Int.reduceLT, Int.reduceLE, Int.reduceEq, Int.reduceNe, Int.reduceBEq, Nat.reduceBEq, Int.reduceBNe, Nat.reduceBNe]
  exact ⟨_, (AH.le_refl _), (by first | exact ⟨rfl, rfl⟩ | rfl)⟩

theorem Len_nil (H : AH) : ACalls Try.prog 44 #[.pointer none] H (fun v H' => v = .int .i64 0 ∧ H = H') := by
  refine ACalls.enter2 Try.func44 rfl Try.ntmps44 Try.results44 (by simp) ?_; simp (dsimp := false) (maxSteps := 4000000) only [go_sem, ↓reduceIte, Nat.reduceEqDiff, Nat.reduceLT, Nat.reduceLeDiff, Nat.reduceAdd, Nat.reduceMul, Nat.reduceSub, reduceCtorEq, Int.reduceToNat, Int.reduceLT, Int.reduceLE, Int.reduceEq, Int.reduceNe, Int.reduceBEq, Nat.reduceBEq, Int.reduceBNe, Nat.reduceBNe]
  exact ⟨_, (AH.le_refl _), (by first | exact ⟨rfl, rfl⟩ | rfl)⟩

def firstv (s : QS) : Value :=
  if s.many = 0 then .tuple #[.agg (encR zeroR).toArray, .bool false]
  else .tuple #[.agg (encR (s.ring.getD s.first (zeroR, 0)).1).toArray, .bool true]
theorem firstv_none {s : QS} (h : s.many = 0) : firstv s = .tuple #[.agg (encR zeroR).toArray, .bool false] := if_pos h
theorem firstv_some {s : QS} {w : Wt} (h : s.many ≠ 0) (hw : s.ring[s.first]? = some w) : firstv s = .tuple #[.agg (encR w.1).toArray, .bool true] := by
  rw [firstv, if_neg h, List.getD_eq_getElem?_getD, hw]; rfl

theorem First_c (s : QS) (hs : s.Ok) (b : Nat) (H : AH) (hq : At H b s) : ACalls Try.prog 43 #[.pointer (some ⟨b, 0, none⟩)] H (fun v H' => v = firstv s ∧ H = H') := by
  obtain ⟨w, hw⟩ := get_some (l := s.ring) (i := s.first) (by rw [hs.len]; exact hs.first)
  have hlen := QS.length hs
  have hf := hs.first
  have hf' : (s.first : Int) < 8 := by omega
  have hrow : H.row b (s.first * 11) 10 = some (encR w.1) := by rw [row_find hq (by rw [hlen]; omega), QS.row hs hw]
  refine ACalls.enter2 Try.func43 rfl Try.ntmps43 Try.results43 (by simp) ?_; simp (dsimp := false) (maxSteps := 4000000) only [(rd_find hq).trans (QS.g88 hs), hf', hrow, encR_len, encR_scal, go_sem, ↓reduceIte, Nat.reduceEqDiff, Nat.reduceLT, Nat.reduceLeDiff, Nat.reduceAdd, Nat.reduceMul, Nat.reduceSub, reduceCtorEq, Int.reduceToNat, Int.reduceLT, Int.reduceLE, Int.reduceEq, Int.reduceNe, Int.reduceBEq, Nat.reduceBEq, Int.reduceBNe, Nat.reduceBNe]
  refine AllB.mk fun b2 h_b2 => ?_; have hn_b2 := h_b2; (try simp only [fresh_add, fresh_set, ne_eq] at hn_b2); have hr_b2 := hn_b2; (try simp only [@eq_comm Nat b2] at hr_b2); simp (dsimp := false) (maxSteps := 4000000) only [(rd_find hq).trans (QS.g88 hs), hf', hrow, encR_len, encR_scal, hn_b2, hr_b2, go_sem, ↓reduceIte, Nat.reduceEqDiff, Nat.reduceLT, Nat.reduceLeDiff, Nat.reduceAdd, Nat.reduceMul, Nat.reduceSub, reduceCtorEq, Int.reduceToNat, Int.reduceLT, Int.reduceLE, Int.reduceEq, Int.reduceNe, Int.reduceBEq, Nat.reduceBEq, Int.reduceBNe, Nat.reduceBNe]
  have hne : b2 ≠ b := h_b2.ne_find hq
  
  refine (Len_c s hs b _ ((find_add_ne _ hne _).trans hq)).mono ?_; rintro _ _ ⟨rfl, rfl⟩
  by_cases h : s.many = 0
  · have h' : (s.many : Int) = 0 := by omega
    simp (dsimp := false) (maxSteps := 4000000) only [h', (rd_find hq).trans (QS.g88 hs), hf', hrow, encR_len, encR_scal, hne, hn_b2, hr_b2, go_sem, ↓reduceIte, Nat.reduceEqDiff, Nat.reduceLT, Nat.reduceLeDiff, Nat.reduceAdd, Nat.reduceMul, Nat.reduceSub, reduceCtorEq, Int.reduceToNat, Int.reduceLT, Int.reduceLE, Int.reduceEq, Int.reduceNe, Int.reduceBEq, Nat.reduceBEq, Int.reduceBNe, Nat.reduceBNe]
    exact ⟨_, (AH.le_add (AH.le_refl _) ((by simp only [fresh_add, fresh_set, ne_eq, hn_b2, not_false_eq_true, and_self] : Fresh _ b2).2)), (by first | exact ⟨(firstv_none h).symm, rfl⟩ | rfl)⟩
  · have h' : ¬ (s.many : Int) = 0 := by omega
    simp (dsimp := false) (maxSteps := 4000000) only [h', (rd_find hq).trans (QS.g88 hs), hf', hrow, encR_len, encR_scal, hne, hn_b2, hr_b2, go_sem, ↓reduceIte, Nat.reduceEqDiff, Nat.reduceLT, Nat.reduceLeDiff, Nat.reduceAdd, Nat.reduceMul, Nat.reduceSub, reduceCtorEq, Int.reduceToNat, Int.reduceLT, Int.reduceLE, Int.reduceEq, Int.reduceNe, Int.reduceBEq, Nat.reduceBEq, Int.reduceBNe, Nat.reduceBNe]
    refine AWp.tail 10 mixed (by kernel_rfl) ?_
    simp (dsimp := false) (maxSteps := 4000000) only [(rd_find hq).trans (QS.g88 hs), hf', hrow, encR_len, encR_scal, hne, hn_b2, hr_b2, go_sem, ↓reduceIte, Nat.reduceEqDiff, Nat.reduceLT, Nat.reduceLeDiff, Nat.reduceAdd, Nat.reduceMul, Nat.reduceSub, reduceCtorEq, Int.reduceToNat, Int.reduceLT, Int.reduceLE, Int.reduceEq, Int.reduceNe, Int.reduceBEq, Nat.reduceBEq, Int.reduceBNe, Nat.reduceBNe]
    exact ⟨_, (AH.le_add (AH.le_refl _) ((by simp only [fresh_add, fresh_set, ne_eq, hn_b2, not_false_eq_true, and_self] : Fresh _ b2).2)), (by first | exact ⟨(firstv_some h hw).symm, rfl⟩ | rfl)⟩

end Go.Proofs.Ythinfokelgcipaa.Queue
