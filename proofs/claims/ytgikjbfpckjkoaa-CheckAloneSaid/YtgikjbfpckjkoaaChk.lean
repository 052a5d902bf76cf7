/- Declarations cut out of other texts of mine. -/
import Derived.Test.YtgikjbfpckjkoaaTy
import Derived.Test.YtgikjbfpckjkoaaAx19
namespace Go.Proofs.Ytgikjbfpckjkoaa.Chk
set_option linter.unusedSimpArgs false
set_option linter.unusedVariables false
open Go Go.AX Go.Proofs Ty
set_option maxHeartbeats 4000000
set_option maxRecDepth 10000

abbrev Rc := Int × Int × Int × Int
def enc (r : Rc) : List Value := [.int .u8 r.1, .int .u8 r.2.1, .int .u8 r.2.2.1, .int .u8 r.2.2.2]
def zr : Rc := (0, 0, 0, 0)
theorem enc_len (r : Rc) : (enc r).length = 4 := rfl
theorem enc_scal (r : Rc) : (enc r).all scal = true := rfl
theorem rows4 (R : List Rc) : ∀ r ∈ R.map enc, r.length = 4 := fun r hr => by
  obtain ⟨w, _, rfl⟩ := List.mem_map.1 hr
  rfl
theorem scal4 (l : List Rc) : ((l.map enc).flatten).all scal = true := by
  rw [List.all_flatten, List.all_map, List.all_eq_true]
  intro r _; rfl
theorem map_get {α : Type} {f : α → List Value} {L : List α} {i : Nat} {s : α} (h : L[i]? = some s) : (L.map f)[i]? = some (f s) := by rw [List.getElem?_map, h]; rfl
def hd (perm n : Int) : Rc := (IntKind.u8.wrap n, IntKind.u8.wrap perm, 165, ibits .xor .u8 (ibits .xor .u8 (IntKind.u8.wrap n) (IntKind.u8.wrap perm)) 165)
theorem header_c (perm n : Int) (H : AH) : ACalls Try.prog 133 #[.int .i64 perm, .int .i64 n] H (fun v H' => v = .agg (enc (hd perm n)).toArray ∧ H = H') := by
  refine ACalls.enter2 Try.func133 rfl Try.ntmps133 Try.results133 (by simp) ?_; simp (dsimp := false) (maxSteps := 4000000) only [go_sem, ↓reduceIte, Nat.reduceEqDiff, Nat.reduceLT, Nat.reduceLeDiff, Nat.reduceAdd, Nat.reduceMul, Nat.reduceSub, reduceCtorEq, Int.reduceToNat, Int.reduceLT, Int.reduceLE, Int.reduceEq, Int.reduceNe, Int.reduceBEq, Nat.reduceBEq, Int.reduceBNe, Nat.reduceBNe, Int.reduceAdd, Int.reduceSub, Int.reduceMul, Int.reduceNeg]
  refine AllB.mk fun b1 h_b1 => ?_; have hn_b1 := h_b1; (try simp only [fresh_add, fresh_set, ne_eq] at hn_b1); have hr_b1 := hn_b1; (try simp only [@eq_comm Nat b1] at hr_b1); simp (dsimp := false) (maxSteps := 4000000) only [hn_b1, hr_b1, go_sem, ↓reduceIte, Nat.reduceEqDiff, Nat.reduceLT, Nat.reduceLeDiff, Nat.reduceAdd, Nat.reduceMul, Nat.reduceSub, reduceCtorEq, Int.reduceToNat, Int.reduceLT, Int.reduceLE, Int.reduceEq, Int.reduceNe, Int.reduceBEq, Nat.reduceBEq, Int.reduceBNe, Nat.reduceBNe, Int.reduceAdd, Int.reduceSub, Int.reduceMul, Int.reduceNeg]
  exact ⟨H, (AH.le_add (AH.le_refl _) ((by simp only [fresh_add, fresh_set, ne_eq, hn_b1, not_false_eq_true, and_self] : Fresh _ b1).2)), (by first | exact ⟨rfl, rfl⟩ | rfl)⟩
/-- A file, as a value. -/
def fv (p : Int) (base : Option Addr) (n cap : Nat) : Value := .agg #[.int .i64 p, .slice base n cap]
def fbad (p : Int) : Value := .tuple #[.agg #[.int .i64 0, .slice none 0 0], .int .i64 p]
def okNew (perm n : Int) : Prop := 0 ≤ perm ∧ perm ≤ 7 ∧ 0 ≤ n ∧ n < 256
def newR (perm : Int) (n : Nat) : List Rc := hd perm n :: List.replicate n zr
theorem New_c (perm : Int) (n : Nat) (h : okNew perm n) (H : AH) : ACalls Try.prog 119 #[.int .i64 perm, .int .i64 n] H (fun v H' => ∃ b, Fresh H b ∧ v = .tuple #[fv perm (some ⟨b, 0, none⟩) (n + 1) (n + 1), .int .i64 0] ∧ H' = H.add b (.cells ((newR perm n).map enc).flatten 41 ((n + 1) * 4))) := by
  obtain ⟨h0, h1, h2, h3⟩ := h
  have a : ¬ perm < 0 := by omega
  have b : ¬ 7 < perm := by omega
  have c : ¬ (n : Int) < 0 := by omega
  have d : ¬ (256 : Int) ≤ n := by omega
  have e : IntKind.i64.wrap (1 + (n : Int)) = ((n + 1 : Nat) : Int) := by rw [i64_eq (by omega) (by omega)]; omega
  refine ACalls.enter2 Try.func119 rfl Try.ntmps119 Try.results119 (by simp) ?_; simp (dsimp := false) (maxSteps := 4000000) only [a, b, c, d, e, go_sem, ↓reduceIte, Nat.reduceEqDiff, Nat.reduceLT, Nat.reduceLeDiff, Nat.reduceAdd, Nat.reduceMul, Nat.reduceSub, reduceCtorEq, Int.reduceToNat, Int.reduceLT, Int.reduceLE, Int.reduceEq, Int.reduceNe, Int.reduceBEq, Nat.reduceBEq, Int.reduceBNe, Nat.reduceBNe, Int.reduceAdd, Int.reduceSub, Int.reduceMul, Int.reduceNeg]
  refine AllB.mk fun b1 h_b1 => ?_; have hn_b1 := h_b1; (try simp only [fresh_add, fresh_set, ne_eq] at hn_b1); have hr_b1 := hn_b1; (try simp only [@eq_comm Nat b1] at hr_b1); simp (dsimp := false) (maxSteps := 4000000) only [a, b, c, d, e, hn_b1, hr_b1, go_sem, ↓reduceIte, Nat.reduceEqDiff, Nat.reduceLT, Nat.reduceLeDiff, Nat.reduceAdd, Nat.reduceMul, Nat.reduceSub, reduceCtorEq, Int.reduceToNat, Int.reduceLT, Int.reduceLE, Int.reduceEq, Int.reduceNe, Int.reduceBEq, Nat.reduceBEq, Int.reduceBNe, Nat.reduceBNe, Int.reduceAdd, Int.reduceSub, Int.reduceMul, Int.reduceNeg]
  have hz : zf [Value.int .u8 0, .int .u8 0, .int .u8 0, .int .u8 0] ((n + 1) * 4) = ((List.replicate (n + 1) zr).map enc).flatten := by
    rw [zf_rows (zs := [Value.int .u8 0, .int .u8 0, .int .u8 0, .int .u8 0]) (n := n + 1) (m := (n + 1) * 4) rfl, List.map_replicate]; rfl
  refine ⟨by omega, by omega, by omega, ?_⟩
  rw [hz]
  refine AllB.mk fun bl h_bl => ?_; have hn_bl := h_bl; (try simp only [fresh_add, fresh_set, ne_eq] at hn_bl); have hr_bl := hn_bl; (try simp only [@eq_comm Nat bl] at hr_bl); simp (dsimp := false) (maxSteps := 4000000) only [a, b, c, d, e, hn_b1, hr_b1, hn_bl, hr_bl, go_sem, ↓reduceIte, Nat.reduceEqDiff, Nat.reduceLT, Nat.reduceLeDiff, Nat.reduceAdd, Nat.reduceMul, Nat.reduceSub, reduceCtorEq, Int.reduceToNat, Int.reduceLT, Int.reduceLE, Int.reduceEq, Int.reduceNe, Int.reduceBEq, Nat.reduceBEq, Int.reduceBNe, Nat.reduceBNe, Int.reduceAdd, Int.reduceSub, Int.reduceMul, Int.reduceNeg]
  refine AllB.mk fun b6 h_b6 => ?_; have hn_b6 := h_b6; (try simp only [fresh_add, fresh_set, ne_eq] at hn_b6); have hr_b6 := hn_b6; (try simp only [@eq_comm Nat b6] at hr_b6); simp (dsimp := false) (maxSteps := 4000000) only [a, b, c, d, e, hn_b1, hr_b1, hn_bl, hr_bl, hn_b6, hr_b6, go_sem, ↓reduceIte, Nat.reduceEqDiff, Nat.reduceLT, Nat.reduceLeDiff, Nat.reduceAdd, Nat.reduceMul, Nat.reduceSub, reduceCtorEq, Int.reduceToNat, Int.reduceLT, Int.reduceLE, Int.reduceEq, Int.reduceNe, Int.reduceBEq, Nat.reduceBEq, Int.reduceBNe, Nat.reduceBNe, Int.reduceAdd, Int.reduceSub, Int.reduceMul, Int.reduceNeg]
  refine AWp.gen [.pu, .rd, .pu, .pu, .ch, .pu, .ch] [0, 1, 0, 0, 12, 31, 63] 5 (_) mixed (by kernel_rfl) (AH.le_refl _) ?_
  simp (dsimp := false) (maxSteps := 4000000) only [a, b, c, d, e, hn_b1, hr_b1, hn_bl, hr_bl, hn_b6, hr_b6, go_sem, ↓reduceIte, Nat.reduceEqDiff, Nat.reduceLT, Nat.reduceLeDiff, Nat.reduceAdd, Nat.reduceMul, Nat.reduceSub, reduceCtorEq, Int.reduceToNat, Int.reduceLT, Int.reduceLE, Int.reduceEq, Int.reduceNe, Int.reduceBEq, Nat.reduceBEq, Int.reduceBNe, Nat.reduceBNe, Int.reduceAdd, Int.reduceSub, Int.reduceMul, Int.reduceNeg]
  refine (header_c perm n _).mono ?_; rintro _ _ ⟨rfl, rfl⟩
  have hl : ((List.replicate (n + 1) zr).map enc).flatten.length = (n + 1) * 4 := by rw [flat_len (rows4 _)]; simp
  have hp : lput ((List.replicate (n + 1) zr).map enc).flatten 0 (enc (hd perm n)) = ((newR perm n).map enc).flatten := by
    have := flat_lput (rows4 (List.replicate (n + 1) zr)) 0 (enc (hd perm n)) (by simp) rfl
    rw [Nat.zero_mul] at this
    rw [this, List.replicate_succ]
    rfl
  have c0 : (0 : Int) < ((n + 1 : Nat) : Int) := by omega
  have c1 : 0 + 4 ≤ (n + 1) * 4 := by omega
  have c2 : (n + 1) * 4 ≤ (n + 1) * 4 := Nat.le_refl _
  simp (dsimp := false) (maxSteps := 4000000) only [AH.le_refl, hl, hp, c0, c1, c2, enc_len, enc_scal, a, b, c, d, e, hn_b1, hr_b1, hn_bl, hr_bl, hn_b6, hr_b6, go_sem, ↓reduceIte, Nat.reduceEqDiff, Nat.reduceLT, Nat.reduceLeDiff, Nat.reduceAdd, Nat.reduceMul, Nat.reduceSub, reduceCtorEq, Int.reduceToNat, Int.reduceLT, Int.reduceLE, Int.reduceEq, Int.reduceNe, Int.reduceBEq, Nat.reduceBEq, Int.reduceBNe, Nat.reduceBNe, Int.reduceAdd, Int.reduceSub, Int.reduceMul, Int.reduceNeg]
  exact ⟨_, (by refine AH.le_cons ?_ ?_; (show AH.find _ _ = _; simp only [find_add_self, find_add_ne, find_fresh, fresh_add, ne_eq, not_false_eq_true, true_and, and_true, and_self, a, b, c, d, e, hn_b1, hr_b1, hn_bl, hr_bl, hn_b6, hr_b6]); (repeat (first | exact AH.le_refl _ | refine AH.le_add ?_ ?_)); all_goals (first | exact AH.le_refl _ | (show AH.find _ _ = _; simp only [find_add_self, find_add_ne, find_fresh, fresh_add, ne_eq, not_false_eq_true, true_and, and_true, and_self, a, b, c, d, e, hn_b1, hr_b1, hn_bl, hr_bl, hn_b6, hr_b6]))), bl, hn_bl.2, rfl, rfl⟩
theorem lt_of_get {α : Type} {l : List α} {i : Nat} {s : α} (h : l[i]? = some s) : i < l.length := by
  rcases Nat.lt_or_ge i l.length with h' | h'
  · exact h'
  · rw [List.getElem?_eq_none h'] at h; cases h
theorem enc_take (r : Rc) : (enc r).take 4 = enc r := rfl
theorem enc_z4 (r : Rc) : lput [.int .u8 0, .int .u8 0, .int .u8 0, .int .u8 0] 0 (enc r) = enc r := rfl
theorem flat4 (L : List Rc) : (L.map enc).flatten.length = L.length * 4 := by rw [flat_len (rows4 L), List.length_map]
theorem row4 {L : List Rc} {i : Nat} {r : Rc} (h : L[i]? = some r) : ((L.map enc).flatten.drop (i * 4)).take 4 = enc r := flat_row (rows4 L) i _ (map_get h)
theorem put4 {L : List Rc} {i : Nat} (r : Rc) (h : i < L.length) : lput (L.map enc).flatten (i * 4) (enc r) = ((L.set i r).map enc).flatten := by
  rw [flat_lput (rows4 L) i (enc r) (by rw [List.length_map]; exact h) rfl, List.map_set]
theorem getD4 {L : List Rc} {i : Nat} {r : Rc} (h : L[i]? = some r) : L.getD i zr = r := by rw [List.getD_eq_getElem?_getD, h]; rfl
theorem u8w (x : Int) : IntKind.u8.wrap x = x % 256 := rfl
/-- A slice that was made in a call. -/
structure Got (H H' : AH) (sz : Nat) (base : Option Addr) (cap : Nat) (R : List (List Value)) : Prop where
  slc : SlcIn H' sz base cap R
  new : ∀ a, base = some a → Fresh H a.block
  keep : Keep H H' fun _ => False
theorem Got.nil {H : AH} {sz : Nat} : Got H H sz none 0 [] := ⟨SlcIn.nil, (fun a h => by cases h), Keep.refl⟩
theorem Got.own {H H' : AH} {e sz cap : Nat} {base : Option Addr} {R : List (List Value)} (h : OwnS H H' e sz base cap R) (k : Keep H H' fun _ => False) : Got H H' sz base cap R := ⟨h.slc, h.fresh, k⟩
theorem Got.add {H : AH} {e sz cap m b : Nat} {R : List (List Value)} (hf : Fresh H b) (hR : ∀ r ∈ R, r.length = sz) (hl : R.length ≤ cap) (hb : R.length < 9223372036854775808) : Got H (H.add b (.cells R.flatten e m)) sz (some ⟨b, 0, none⟩) cap R :=
  ⟨SlcIn.own hR hl hb, fun a h => by cases h; exact hf, Keep.add hf⟩
/-- What a call has made, over own blocks. -/
theorem _root_.Go.AX.Keep.row {H A : AH} {b n e m : Nat} {cs : List Value} (h : Keep H A fun _ => False) (hf : H.find b = some (.cells cs e m)) (hn : cs.length = n) : A.row b 0 n = some cs := by
  have := row_find (off := 0) (n := n) (h.find (fun h => h) hf) (by omega)
  rw [this, List.drop_zero, List.take_of_length_le (by omega)]
abbrev En := Int × Int × Int × Int × Int
def encE (x : En) : List Value := [.int .i64 x.1, .int .i64 x.2.1, .int .i64 x.2.2.1, .int .i64 x.2.2.2.1, .int .i64 x.2.2.2.2]
def placeB (s f r : Int) : Bool := decide (1 ≤ s ∧ s ≤ 16 ∧ 0 ≤ f ∧ f < 64 ∧ 1 ≤ r ∧ r < 256)
def goodE : En → Bool
  | (k, s, f, r, b) => if k = 4 then decide (s = 0 ∧ f = 0 ∧ r = 0 ∧ b = 0) else decide (1 ≤ k ∧ k ≤ 3 ∧ (k = 3 → b = 0)) && placeB s f r && decide (0 ≤ b ∧ b ≤ 3)
theorem place_c (k s f r b : Int) (H : AH) : ACalls Try.prog 139 #[.agg #[.int .i64 k, .int .i64 s, .int .i64 f, .int .i64 r, .int .i64 b]] H (fun v H' => v = .bool (placeB s f r) ∧ H = H') := by
  refine ACalls.enter2 Try.func139 rfl Try.ntmps139 Try.results139 (by simp) ?_; simp (dsimp := false) (maxSteps := 4000000) only [go_sem, ↓reduceIte, Nat.reduceEqDiff, Nat.reduceLT, Nat.reduceLeDiff, Nat.reduceAdd, Nat.reduceMul, Nat.reduceSub, reduceCtorEq, Int.reduceToNat, Int.reduceLT, Int.reduceLE, Int.reduceEq, Int.reduceNe, Int.reduceBEq, Nat.reduceBEq, Int.reduceBNe, Nat.reduceBNe, Int.reduceAdd, Int.reduceSub, Int.reduceMul, Int.reduceNeg]
  refine AllB.mk fun b1 h_b1 => ?_; have hn_b1 := h_b1; (try simp only [fresh_add, fresh_set, ne_eq] at hn_b1); have hr_b1 := hn_b1; (try simp only [@eq_comm Nat b1] at hr_b1); simp (dsimp := false) (maxSteps := 4000000) only [hn_b1, hr_b1, go_sem, ↓reduceIte, Nat.reduceEqDiff, Nat.reduceLT, Nat.reduceLeDiff, Nat.reduceAdd, Nat.reduceMul, Nat.reduceSub, reduceCtorEq, Int.reduceToNat, Int.reduceLT, Int.reduceLE, Int.reduceEq, Int.reduceNe, Int.reduceBEq, Nat.reduceBEq, Int.reduceBNe, Nat.reduceBNe, Int.reduceAdd, Int.reduceSub, Int.reduceMul, Int.reduceNeg]
  by_cases c2_0 : 1 ≤ s
  case neg =>
    
    simp (dsimp := false) (maxSteps := 4000000) only [c2_0, hn_b1, hr_b1, go_sem, ↓reduceIte, Nat.reduceEqDiff, Nat.reduceLT, Nat.reduceLeDiff, Nat.reduceAdd, Nat.reduceMul, Nat.reduceSub, reduceCtorEq, Int.reduceToNat, Int.reduceLT, Int.reduceLE, Int.reduceEq, Int.reduceNe, Int.reduceBEq, Nat.reduceBEq, Int.reduceBNe, Nat.reduceBNe, Int.reduceAdd, Int.reduceSub, Int.reduceMul, Int.reduceNeg]
    exact ⟨H, (AH.le_add (AH.le_refl _) ((by simp only [fresh_add, fresh_set, ne_eq, hn_b1, not_false_eq_true, and_self] : Fresh _ b1).2)), (by first | exact ⟨by rw [placeB, decide_eq_false (fun h => c2_0 (by omega))], rfl⟩ | rfl)⟩
    
  by_cases c2_1 : s ≤ 16
  case neg =>
    
    simp (dsimp := false) (maxSteps := 4000000) only [c2_0, c2_1, hn_b1, hr_b1, go_sem, ↓reduceIte, Nat.reduceEqDiff, Nat.reduceLT, Nat.reduceLeDiff, Nat.reduceAdd, Nat.reduceMul, Nat.reduceSub, reduceCtorEq, Int.reduceToNat, Int.reduceLT, Int.reduceLE, Int.reduceEq, Int.reduceNe, Int.reduceBEq, Nat.reduceBEq, Int.reduceBNe, Nat.reduceBNe, Int.reduceAdd, Int.reduceSub, Int.reduceMul, Int.reduceNeg]
    exact ⟨H, (AH.le_add (AH.le_refl _) ((by simp only [fresh_add, fresh_set, ne_eq, hn_b1, not_false_eq_true, and_self] : Fresh _ b1).2)), (by first | exact ⟨by rw [placeB, decide_eq_false (fun h => c2_1 (by omega))], rfl⟩ | rfl)⟩
    
  by_cases c2_2 : 0 ≤ f
  case neg =>
    
    simp (dsimp := false) (maxSteps := 4000000) only [c2_0, c2_1, c2_2, hn_b1, hr_b1, go_sem, ↓reduceIte, Nat.reduceEqDiff, Nat.reduceLT, Nat.reduceLeDiff, Nat.reduceAdd, Nat.reduceMul, Nat.reduceSub, reduceCtorEq, Int.reduceToNat, Int.reduceLT, Int.reduceLE, Int.reduceEq, Int.reduceNe, Int.reduceBEq, Nat.reduceBEq, Int.reduceBNe, Nat.reduceBNe, Int.reduceAdd, Int.reduceSub, Int.reduceMul, Int.reduceNeg]
    exact ⟨H, (AH.le_add (AH.le_refl _) ((by simp only [fresh_add, fresh_set, ne_eq, hn_b1, not_false_eq_true, and_self] : Fresh _ b1).2)), (by first | exact ⟨by rw [placeB, decide_eq_false (fun h => c2_2 (by omega))], rfl⟩ | rfl)⟩
    
  by_cases c2_3 : f < 64
  case neg =>
    
    simp (dsimp := false) (maxSteps := 4000000) only [c2_0, c2_1, c2_2, c2_3, hn_b1, hr_b1, go_sem, ↓reduceIte, Nat.reduceEqDiff, Nat.reduceLT, Nat.reduceLeDiff, Nat.reduceAdd, Nat.reduceMul, Nat.reduceSub, reduceCtorEq, Int.reduceToNat, Int.reduceLT, Int.reduceLE, Int.reduceEq, Int.reduceNe, Int.reduceBEq, Nat.reduceBEq, Int.reduceBNe, Nat.reduceBNe, Int.reduceAdd, Int.reduceSub, Int.reduceMul, Int.reduceNeg]
    exact ⟨H, (AH.le_add (AH.le_refl _) ((by simp only [fresh_add, fresh_set, ne_eq, hn_b1, not_false_eq_true, and_self] : Fresh _ b1).2)), (by first | exact ⟨by rw [placeB, decide_eq_false (fun h => c2_3 (by omega))], rfl⟩ | rfl)⟩
    
  by_cases c2_4 : 1 ≤ r
  case neg =>
    
    simp (dsimp := false) (maxSteps := 4000000) only [c2_0, c2_1, c2_2, c2_3, c2_4, hn_b1, hr_b1, go_sem, ↓reduceIte, Nat.reduceEqDiff, Nat.reduceLT, Nat.reduceLeDiff, Nat.reduceAdd, Nat.reduceMul, Nat.reduceSub, reduceCtorEq, Int.reduceToNat, Int.reduceLT, Int.reduceLE, Int.reduceEq, Int.reduceNe, Int.reduceBEq, Nat.reduceBEq, Int.reduceBNe, Nat.reduceBNe, Int.reduceAdd, Int.reduceSub, Int.reduceMul, Int.reduceNeg]
    exact ⟨H, (AH.le_add (AH.le_refl _) ((by simp only [fresh_add, fresh_set, ne_eq, hn_b1, not_false_eq_true, and_self] : Fresh _ b1).2)), (by first | exact ⟨by rw [placeB, decide_eq_false (fun h => c2_4 (by omega))], rfl⟩ | rfl)⟩
    
  by_cases c2_5 : r < 256
  case neg =>
    
    simp (dsimp := false) (maxSteps := 4000000) only [c2_0, c2_1, c2_2, c2_3, c2_4, c2_5, hn_b1, hr_b1, go_sem, ↓reduceIte, Nat.reduceEqDiff, Nat.reduceLT, Nat.reduceLeDiff, Nat.reduceAdd, Nat.reduceMul, Nat.reduceSub, reduceCtorEq, Int.reduceToNat, Int.reduceLT, Int.reduceLE, Int.reduceEq, Int.reduceNe, Int.reduceBEq, Nat.reduceBEq, Int.reduceBNe, Nat.reduceBNe, Int.reduceAdd, Int.reduceSub, Int.reduceMul, Int.reduceNeg]
    exact ⟨H, (AH.le_add (AH.le_refl _) ((by simp only [fresh_add, fresh_set, ne_eq, hn_b1, not_false_eq_true, and_self] : Fresh _ b1).2)), (by first | exact ⟨by rw [placeB, decide_eq_false (fun h => c2_5 (by omega))], rfl⟩ | rfl)⟩
    
  simp (dsimp := false) (maxSteps := 4000000) only [c2_0, c2_1, c2_2, c2_3, c2_4, c2_5, hn_b1, hr_b1, go_sem, ↓reduceIte, Nat.reduceEqDiff, Nat.reduceLT, Nat.reduceLeDiff, Nat.reduceAdd, Nat.reduceMul, Nat.reduceSub, reduceCtorEq, Int.reduceToNat, Int.reduceLT, Int.reduceLE, Int.reduceEq, Int.reduceNe, Int.reduceBEq, Nat.reduceBEq, Int.reduceBNe, Nat.reduceBNe, Int.reduceAdd, Int.reduceSub, Int.reduceMul, Int.reduceNeg]
  exact ⟨H, (AH.le_add (AH.le_refl _) ((by simp only [fresh_add, fresh_set, ne_eq, hn_b1, not_false_eq_true, and_self] : Fresh _ b1).2)), (by first | exact ⟨by rw [placeB, decide_eq_true (by omega)], rfl⟩ | rfl)⟩
theorem Good_c (k s f r b : Int) (H : AH) : ACalls Try.prog 132 #[.agg #[.int .i64 k, .int .i64 s, .int .i64 f, .int .i64 r, .int .i64 b]] H (fun v H' => v = .bool (goodE (k, s, f, r, b)) ∧ H = H') := by
  refine ACalls.enter2 Try.func132 rfl Try.ntmps132 Try.results132 (by simp) ?_; simp (dsimp := false) (maxSteps := 4000000) only [go_sem, ↓reduceIte, Nat.reduceEqDiff, Nat.reduceLT, Nat.reduceLeDiff, Nat.reduceAdd, Nat.reduceMul, Nat.reduceSub, reduceCtorEq, Int.reduceToNat, Int.reduceLT, Int.reduceLE, Int.reduceEq, Int.reduceNe, Int.reduceBEq, Nat.reduceBEq, Int.reduceBNe, Nat.reduceBNe, Int.reduceAdd, Int.reduceSub, Int.reduceMul, Int.reduceNeg]
  refine AllB.mk fun b1 h_b1 => ?_; have hn_b1 := h_b1; (try simp only [fresh_add, fresh_set, ne_eq] at hn_b1); have hr_b1 := hn_b1; (try simp only [@eq_comm Nat b1] at hr_b1); simp (dsimp := false) (maxSteps := 4000000) only [hn_b1, hr_b1, go_sem, ↓reduceIte, Nat.reduceEqDiff, Nat.reduceLT, Nat.reduceLeDiff, Nat.reduceAdd, Nat.reduceMul, Nat.reduceSub, reduceCtorEq, Int.reduceToNat, Int.reduceLT, Int.reduceLE, Int.reduceEq, Int.reduceNe, Int.reduceBEq, Nat.reduceBEq, Int.reduceBNe, Nat.reduceBNe, Int.reduceAdd, Int.reduceSub, Int.reduceMul, Int.reduceNeg]
  by_cases k4 : k = 4
  · subst k4
    simp (dsimp := false) (maxSteps := 4000000) only [hn_b1, hr_b1, go_sem, ↓reduceIte, Nat.reduceEqDiff, Nat.reduceLT, Nat.reduceLeDiff, Nat.reduceAdd, Nat.reduceMul, Nat.reduceSub, reduceCtorEq, Int.reduceToNat, Int.reduceLT, Int.reduceLE, Int.reduceEq, Int.reduceNe, Int.reduceBEq, Nat.reduceBEq, Int.reduceBNe, Nat.reduceBNe, Int.reduceAdd, Int.reduceSub, Int.reduceMul, Int.reduceNeg]
    exact ⟨H, (AH.le_add (AH.le_refl _) ((by simp only [fresh_add, fresh_set, ne_eq, hn_b1, not_false_eq_true, and_self] : Fresh _ b1).2)), (by first | exact ⟨congrArg Value.bool (by rw [Bool.eq_iff_iff]; simp [goodE]), rfl⟩ | rfl)⟩
  by_cases k3 : k = 3
  · subst k3
    by_cases b0 : b = 0
    · subst b0
      simp (dsimp := false) (maxSteps := 4000000) only [hn_b1, hr_b1, go_sem, ↓reduceIte, Nat.reduceEqDiff, Nat.reduceLT, Nat.reduceLeDiff, Nat.reduceAdd, Nat.reduceMul, Nat.reduceSub, reduceCtorEq, Int.reduceToNat, Int.reduceLT, Int.reduceLE, Int.reduceEq, Int.reduceNe, Int.reduceBEq, Nat.reduceBEq, Int.reduceBNe, Nat.reduceBNe, Int.reduceAdd, Int.reduceSub, Int.reduceMul, Int.reduceNeg]
      refine (place_c 3 s f r 0 _).mono ?_; rintro _ _ ⟨rfl, rfl⟩
      cases hp : placeB s f r with
      | true =>
        simp (dsimp := false) (maxSteps := 4000000) only [hn_b1, hr_b1, go_sem, ↓reduceIte, Nat.reduceEqDiff, Nat.reduceLT, Nat.reduceLeDiff, Nat.reduceAdd, Nat.reduceMul, Nat.reduceSub, reduceCtorEq, Int.reduceToNat, Int.reduceLT, Int.reduceLE, Int.reduceEq, Int.reduceNe, Int.reduceBEq, Nat.reduceBEq, Int.reduceBNe, Nat.reduceBNe, Int.reduceAdd, Int.reduceSub, Int.reduceMul, Int.reduceNeg]
        exact ⟨H, (AH.le_add (AH.le_refl _) ((by simp only [fresh_add, fresh_set, ne_eq, hn_b1, not_false_eq_true, and_self] : Fresh _ b1).2)), (by first | exact ⟨by simp [goodE, hp], rfl⟩ | rfl)⟩
      | false =>
        simp (dsimp := false) (maxSteps := 4000000) only [hn_b1, hr_b1, go_sem, ↓reduceIte, Nat.reduceEqDiff, Nat.reduceLT, Nat.reduceLeDiff, Nat.reduceAdd, Nat.reduceMul, Nat.reduceSub, reduceCtorEq, Int.reduceToNat, Int.reduceLT, Int.reduceLE, Int.reduceEq, Int.reduceNe, Int.reduceBEq, Nat.reduceBEq, Int.reduceBNe, Nat.reduceBNe, Int.reduceAdd, Int.reduceSub, Int.reduceMul, Int.reduceNeg]
        exact ⟨H, (AH.le_add (AH.le_refl _) ((by simp only [fresh_add, fresh_set, ne_eq, hn_b1, not_false_eq_true, and_self] : Fresh _ b1).2)), (by first | exact ⟨by simp [goodE, hp], rfl⟩ | rfl)⟩
    · simp (dsimp := false) (maxSteps := 4000000) only [b0, hn_b1, hr_b1, go_sem, ↓reduceIte, Nat.reduceEqDiff, Nat.reduceLT, Nat.reduceLeDiff, Nat.reduceAdd, Nat.reduceMul, Nat.reduceSub, reduceCtorEq, Int.reduceToNat, Int.reduceLT, Int.reduceLE, Int.reduceEq, Int.reduceNe, Int.reduceBEq, Nat.reduceBEq, Int.reduceBNe, Nat.reduceBNe, Int.reduceAdd, Int.reduceSub, Int.reduceMul, Int.reduceNeg]
      exact ⟨H, (AH.le_add (AH.le_refl _) ((by simp only [fresh_add, fresh_set, ne_eq, hn_b1, not_false_eq_true, and_self] : Fresh _ b1).2)), (by first | exact ⟨by simp [goodE, b0], rfl⟩ | rfl)⟩
  by_cases k1 : k = 1 ∨ k = 2
  · have kk : goodE (k, s, f, r, b) = (placeB s f r && decide (0 ≤ b ∧ b ≤ 3)) := by
      simp only [goodE]; rw [if_neg k4, decide_eq_true (by omega), Bool.true_and]
    rcases k1 with rfl | rfl
    · 
      simp (dsimp := false) (maxSteps := 4000000) only [hn_b1, hr_b1, go_sem, ↓reduceIte, Nat.reduceEqDiff, Nat.reduceLT, Nat.reduceLeDiff, Nat.reduceAdd, Nat.reduceMul, Nat.reduceSub, reduceCtorEq, Int.reduceToNat, Int.reduceLT, Int.reduceLE, Int.reduceEq, Int.reduceNe, Int.reduceBEq, Nat.reduceBEq, Int.reduceBNe, Nat.reduceBNe, Int.reduceAdd, Int.reduceSub, Int.reduceMul, Int.reduceNeg]
      refine (place_c 1 s f r b _).mono ?_; rintro _ _ ⟨rfl, rfl⟩
      cases hp : placeB s f r with
      | true =>
        by_cases c1 : 0 ≤ b
        · by_cases c2 : b ≤ 3
          · simp (dsimp := false) (maxSteps := 4000000) only [c1, c2, hn_b1, hr_b1, go_sem, ↓reduceIte, Nat.reduceEqDiff, Nat.reduceLT, Nat.reduceLeDiff, Nat.reduceAdd, Nat.reduceMul, Nat.reduceSub, reduceCtorEq, Int.reduceToNat, Int.reduceLT, Int.reduceLE, Int.reduceEq, Int.reduceNe, Int.reduceBEq, Nat.reduceBEq, Int.reduceBNe, Nat.reduceBNe, Int.reduceAdd, Int.reduceSub, Int.reduceMul, Int.reduceNeg]
            exact ⟨H, (AH.le_add (AH.le_refl _) ((by simp only [fresh_add, fresh_set, ne_eq, hn_b1, not_false_eq_true, and_self] : Fresh _ b1).2)), (by first | exact ⟨by rw [kk, hp, decide_eq_true ⟨c1, c2⟩]; rfl, rfl⟩ | rfl)⟩
          · simp (dsimp := false) (maxSteps := 4000000) only [c1, c2, hn_b1, hr_b1, go_sem, ↓reduceIte, Nat.reduceEqDiff, Nat.reduceLT, Nat.reduceLeDiff, Nat.reduceAdd, Nat.reduceMul, Nat.reduceSub, reduceCtorEq, Int.reduceToNat, Int.reduceLT, Int.reduceLE, Int.reduceEq, Int.reduceNe, Int.reduceBEq, Nat.reduceBEq, Int.reduceBNe, Nat.reduceBNe, Int.reduceAdd, Int.reduceSub, Int.reduceMul, Int.reduceNeg]
            exact ⟨H, (AH.le_add (AH.le_refl _) ((by simp only [fresh_add, fresh_set, ne_eq, hn_b1, not_false_eq_true, and_self] : Fresh _ b1).2)), (by first | exact ⟨by rw [kk, hp, decide_eq_false (fun h => c2 h.2)]; rfl, rfl⟩ | rfl)⟩
        · simp (dsimp := false) (maxSteps := 4000000) only [c1, hn_b1, hr_b1, go_sem, ↓reduceIte, Nat.reduceEqDiff, Nat.reduceLT, Nat.reduceLeDiff, Nat.reduceAdd, Nat.reduceMul, Nat.reduceSub, reduceCtorEq, Int.reduceToNat, Int.reduceLT, Int.reduceLE, Int.reduceEq, Int.reduceNe, Int.reduceBEq, Nat.reduceBEq, Int.reduceBNe, Nat.reduceBNe, Int.reduceAdd, Int.reduceSub, Int.reduceMul, Int.reduceNeg]
          exact ⟨H, (AH.le_add (AH.le_refl _) ((by simp only [fresh_add, fresh_set, ne_eq, hn_b1, not_false_eq_true, and_self] : Fresh _ b1).2)), (by first | exact ⟨by rw [kk, hp, decide_eq_false (fun h => c1 h.1)]; rfl, rfl⟩ | rfl)⟩
      | false =>
        simp (dsimp := false) (maxSteps := 4000000) only [hn_b1, hr_b1, go_sem, ↓reduceIte, Nat.reduceEqDiff, Nat.reduceLT, Nat.reduceLeDiff, Nat.reduceAdd, Nat.reduceMul, Nat.reduceSub, reduceCtorEq, Int.reduceToNat, Int.reduceLT, Int.reduceLE, Int.reduceEq, Int.reduceNe, Int.reduceBEq, Nat.reduceBEq, Int.reduceBNe, Nat.reduceBNe, Int.reduceAdd, Int.reduceSub, Int.reduceMul, Int.reduceNeg]
        exact ⟨H, (AH.le_add (AH.le_refl _) ((by simp only [fresh_add, fresh_set, ne_eq, hn_b1, not_false_eq_true, and_self] : Fresh _ b1).2)), (by first | exact ⟨by rw [kk, hp]; rfl, rfl⟩ | rfl)⟩
      
    · 
      simp (dsimp := false) (maxSteps := 4000000) only [hn_b1, hr_b1, go_sem, ↓reduceIte, Nat.reduceEqDiff, Nat.reduceLT, Nat.reduceLeDiff, Nat.reduceAdd, Nat.reduceMul, Nat.reduceSub, reduceCtorEq, Int.reduceToNat, Int.reduceLT, Int.reduceLE, Int.reduceEq, Int.reduceNe, Int.reduceBEq, Nat.reduceBEq, Int.reduceBNe, Nat.reduceBNe, Int.reduceAdd, Int.reduceSub, Int.reduceMul, Int.reduceNeg]
      refine (place_c 2 s f r b _).mono ?_; rintro _ _ ⟨rfl, rfl⟩
      cases hp : placeB s f r with
      | true =>
        by_cases c1 : 0 ≤ b
        · by_cases c2 : b ≤ 3
          · simp (dsimp := false) (maxSteps := 4000000) only [c1, c2, hn_b1, hr_b1, go_sem, ↓reduceIte, Nat.reduceEqDiff, Nat.reduceLT, Nat.reduceLeDiff, Nat.reduceAdd, Nat.reduceMul, Nat.reduceSub, reduceCtorEq, Int.reduceToNat, Int.reduceLT, Int.reduceLE, Int.reduceEq, Int.reduceNe, Int.reduceBEq, Nat.reduceBEq, Int.reduceBNe, Nat.reduceBNe, Int.reduceAdd, Int.reduceSub, Int.reduceMul, Int.reduceNeg]
            exact ⟨H, (AH.le_add (AH.le_refl _) ((by simp only [fresh_add, fresh_set, ne_eq, hn_b1, not_false_eq_true, and_self] : Fresh _ b1).2)), (by first | exact ⟨by rw [kk, hp, decide_eq_true ⟨c1, c2⟩]; rfl, rfl⟩ | rfl)⟩
          · simp (dsimp := false) (maxSteps := 4000000) only [c1, c2, hn_b1, hr_b1, go_sem, ↓reduceIte, Nat.reduceEqDiff, Nat.reduceLT, Nat.reduceLeDiff, Nat.reduceAdd, Nat.reduceMul, Nat.reduceSub, reduceCtorEq, Int.reduceToNat, Int.reduceLT, Int.reduceLE, Int.reduceEq, Int.reduceNe, Int.reduceBEq, Nat.reduceBEq, Int.reduceBNe, Nat.reduceBNe, Int.reduceAdd, Int.reduceSub, Int.reduceMul, Int.reduceNeg]
            exact ⟨H, (AH.le_add (AH.le_refl _) ((by simp only [fresh_add, fresh_set, ne_eq, hn_b1, not_false_eq_true, and_self] : Fresh _ b1).2)), (by first | exact ⟨by rw [kk, hp, decide_eq_false (fun h => c2 h.2)]; rfl, rfl⟩ | rfl)⟩
        · simp (dsimp := false) (maxSteps := 4000000) only [c1, hn_b1, hr_b1, go_sem, ↓reduceIte, Nat.reduceEqDiff, Nat.reduceLT, Nat.reduceLeDiff, Nat.reduceAdd, Nat.reduceMul, Nat.reduceSub, reduceCtorEq, Int.reduceToNat, Int.reduceLT, Int.reduceLE, Int.reduceEq, Int.reduceNe, Int.reduceBEq, Nat.reduceBEq, Int.reduceBNe, Nat.reduceBNe, Int.reduceAdd, Int.reduceSub, Int.reduceMul, Int.reduceNeg]
          exact ⟨H, (AH.le_add (AH.le_refl _) ((by simp only [fresh_add, fresh_set, ne_eq, hn_b1, not_false_eq_true, and_self] : Fresh _ b1).2)), (by first | exact ⟨by rw [kk, hp, decide_eq_false (fun h => c1 h.1)]; rfl, rfl⟩ | rfl)⟩
      | false =>
        simp (dsimp := false) (maxSteps := 4000000) only [hn_b1, hr_b1, go_sem, ↓reduceIte, Nat.reduceEqDiff, Nat.reduceLT, Nat.reduceLeDiff, Nat.reduceAdd, Nat.reduceMul, Nat.reduceSub, reduceCtorEq, Int.reduceToNat, Int.reduceLT, Int.reduceLE, Int.reduceEq, Int.reduceNe, Int.reduceBEq, Nat.reduceBEq, Int.reduceBNe, Nat.reduceBNe, Int.reduceAdd, Int.reduceSub, Int.reduceMul, Int.reduceNeg]
        exact ⟨H, (AH.le_add (AH.le_refl _) ((by simp only [fresh_add, fresh_set, ne_eq, hn_b1, not_false_eq_true, and_self] : Fresh _ b1).2)), (by first | exact ⟨by rw [kk, hp]; rfl, rfl⟩ | rfl)⟩
      
  have k1' : ¬ k = 1 := fun h => k1 (.inl h)
  have k2' : ¬ k = 2 := fun h => k1 (.inr h)
  simp (dsimp := false) (maxSteps := 4000000) only [k4, k3, k1', k2', hn_b1, hr_b1, go_sem, ↓reduceIte, Nat.reduceEqDiff, Nat.reduceLT, Nat.reduceLeDiff, Nat.reduceAdd, Nat.reduceMul, Nat.reduceSub, reduceCtorEq, Int.reduceToNat, Int.reduceLT, Int.reduceLE, Int.reduceEq, Int.reduceNe, Int.reduceBEq, Nat.reduceBEq, Int.reduceBNe, Nat.reduceBNe, Int.reduceAdd, Int.reduceSub, Int.reduceMul, Int.reduceNeg]
  exact ⟨H, (AH.le_add (AH.le_refl _) ((by simp only [fresh_add, fresh_set, ne_eq, hn_b1, not_false_eq_true, and_self] : Fresh _ b1).2)), (by first | exact ⟨by simp only [goodE]; rw [if_neg k4, decide_eq_false (by omega)]; rfl, rfl⟩ | rfl)⟩
theorem RefGood_c (k s f r b : Int) (H : AH) : ACalls Try.prog 107 #[.agg #[.int .i64 k, .int .i64 s, .int .i64 f, .int .i64 r, .int .i64 b]] H (fun v H' => v = .bool (goodE (k, s, f, r, b)) ∧ H = H') := by
  refine ACalls.enter2 Try.func107 rfl Try.ntmps107 Try.results107 (by simp) ?_; simp (dsimp := false) (maxSteps := 4000000) only [go_sem, ↓reduceIte, Nat.reduceEqDiff, Nat.reduceLT, Nat.reduceLeDiff, Nat.reduceAdd, Nat.reduceMul, Nat.reduceSub, reduceCtorEq, Int.reduceToNat, Int.reduceLT, Int.reduceLE, Int.reduceEq, Int.reduceNe, Int.reduceBEq, Nat.reduceBEq, Int.reduceBNe, Nat.reduceBNe, Int.reduceAdd, Int.reduceSub, Int.reduceMul, Int.reduceNeg]
  refine AllB.mk fun b1 h_b1 => ?_; have hn_b1 := h_b1; (try simp only [fresh_add, fresh_set, ne_eq] at hn_b1); have hr_b1 := hn_b1; (try simp only [@eq_comm Nat b1] at hr_b1); simp (dsimp := false) (maxSteps := 4000000) only [hn_b1, hr_b1, go_sem, ↓reduceIte, Nat.reduceEqDiff, Nat.reduceLT, Nat.reduceLeDiff, Nat.reduceAdd, Nat.reduceMul, Nat.reduceSub, reduceCtorEq, Int.reduceToNat, Int.reduceLT, Int.reduceLE, Int.reduceEq, Int.reduceNe, Int.reduceBEq, Nat.reduceBEq, Int.reduceBNe, Nat.reduceBNe, Int.reduceAdd, Int.reduceSub, Int.reduceMul, Int.reduceNeg]
  by_cases k4 : k = 4
  · subst k4
    by_cases c4_0 : s = 0
    case neg =>
      
      simp (dsimp := false) (maxSteps := 4000000) only [c4_0, hn_b1, hr_b1, go_sem, ↓reduceIte, Nat.reduceEqDiff, Nat.reduceLT, Nat.reduceLeDiff, Nat.reduceAdd, Nat.reduceMul, Nat.reduceSub, reduceCtorEq, Int.reduceToNat, Int.reduceLT, Int.reduceLE, Int.reduceEq, Int.reduceNe, Int.reduceBEq, Nat.reduceBEq, Int.reduceBNe, Nat.reduceBNe, Int.reduceAdd, Int.reduceSub, Int.reduceMul, Int.reduceNeg]
      exact ⟨H, (AH.le_add (AH.le_refl _) ((by simp only [fresh_add, fresh_set, ne_eq, hn_b1, not_false_eq_true, and_self] : Fresh _ b1).2)), (by first | exact ⟨by simp [goodE, c4_0], rfl⟩ | rfl)⟩
      
    by_cases c4_1 : f = 0
    case neg =>
      
      simp (dsimp := false) (maxSteps := 4000000) only [c4_0, c4_1, hn_b1, hr_b1, go_sem, ↓reduceIte, Nat.reduceEqDiff, Nat.reduceLT, Nat.reduceLeDiff, Nat.reduceAdd, Nat.reduceMul, Nat.reduceSub, reduceCtorEq, Int.reduceToNat, Int.reduceLT, Int.reduceLE, Int.reduceEq, Int.reduceNe, Int.reduceBEq, Nat.reduceBEq, Int.reduceBNe, Nat.reduceBNe, Int.reduceAdd, Int.reduceSub, Int.reduceMul, Int.reduceNeg]
      exact ⟨H, (AH.le_add (AH.le_refl _) ((by simp only [fresh_add, fresh_set, ne_eq, hn_b1, not_false_eq_true, and_self] : Fresh _ b1).2)), (by first | exact ⟨by simp [goodE, c4_1], rfl⟩ | rfl)⟩
      
    by_cases c4_2 : r = 0
    case neg =>
      
      simp (dsimp := false) (maxSteps := 4000000) only [c4_0, c4_1, c4_2, hn_b1, hr_b1, go_sem, ↓reduceIte, Nat.reduceEqDiff, Nat.reduceLT, Nat.reduceLeDiff, Nat.reduceAdd, Nat.reduceMul, Nat.reduceSub, reduceCtorEq, Int.reduceToNat, Int.reduceLT, Int.reduceLE, Int.reduceEq, Int.reduceNe, Int.reduceBEq, Nat.reduceBEq, Int.reduceBNe, Nat.reduceBNe, Int.reduceAdd, Int.reduceSub, Int.reduceMul, Int.reduceNeg]
      exact ⟨H, (AH.le_add (AH.le_refl _) ((by simp only [fresh_add, fresh_set, ne_eq, hn_b1, not_false_eq_true, and_self] : Fresh _ b1).2)), (by first | exact ⟨by simp [goodE, c4_2], rfl⟩ | rfl)⟩
      
    by_cases c4_3 : b = 0
    case neg =>
      
      simp (dsimp := false) (maxSteps := 4000000) only [c4_0, c4_1, c4_2, c4_3, hn_b1, hr_b1, go_sem, ↓reduceIte, Nat.reduceEqDiff, Nat.reduceLT, Nat.reduceLeDiff, Nat.reduceAdd, Nat.reduceMul, Nat.reduceSub, reduceCtorEq, Int.reduceToNat, Int.reduceLT, Int.reduceLE, Int.reduceEq, Int.reduceNe, Int.reduceBEq, Nat.reduceBEq, Int.reduceBNe, Nat.reduceBNe, Int.reduceAdd, Int.reduceSub, Int.reduceMul, Int.reduceNeg]
      exact ⟨H, (AH.le_add (AH.le_refl _) ((by simp only [fresh_add, fresh_set, ne_eq, hn_b1, not_false_eq_true, and_self] : Fresh _ b1).2)), (by first | exact ⟨by simp [goodE, c4_3], rfl⟩ | rfl)⟩
      
    simp (dsimp := false) (maxSteps := 4000000) only [c4_0, c4_1, c4_2, c4_3, hn_b1, hr_b1, go_sem, ↓reduceIte, Nat.reduceEqDiff, Nat.reduceLT, Nat.reduceLeDiff, Nat.reduceAdd, Nat.reduceMul, Nat.reduceSub, reduceCtorEq, Int.reduceToNat, Int.reduceLT, Int.reduceLE, Int.reduceEq, Int.reduceNe, Int.reduceBEq, Nat.reduceBEq, Int.reduceBNe, Nat.reduceBNe, Int.reduceAdd, Int.reduceSub, Int.reduceMul, Int.reduceNeg]
    exact ⟨H, (AH.le_add (AH.le_refl _) ((by simp only [fresh_add, fresh_set, ne_eq, hn_b1, not_false_eq_true, and_self] : Fresh _ b1).2)), (by first | exact ⟨by simp [goodE, c4_0, c4_1, c4_2, c4_3], rfl⟩ | rfl)⟩
  by_cases d1 : k < 1
  · simp (dsimp := false) (maxSteps := 4000000) only [k4, d1, hn_b1, hr_b1, go_sem, ↓reduceIte, Nat.reduceEqDiff, Nat.reduceLT, Nat.reduceLeDiff, Nat.reduceAdd, Nat.reduceMul, Nat.reduceSub, reduceCtorEq, Int.reduceToNat, Int.reduceLT, Int.reduceLE, Int.reduceEq, Int.reduceNe, Int.reduceBEq, Nat.reduceBEq, Int.reduceBNe, Nat.reduceBNe, Int.reduceAdd, Int.reduceSub, Int.reduceMul, Int.reduceNeg]
    exact ⟨H, (AH.le_add (AH.le_refl _) ((by simp only [fresh_add, fresh_set, ne_eq, hn_b1, not_false_eq_true, and_self] : Fresh _ b1).2)), (by first | exact ⟨by simp only [goodE]; rw [if_neg k4, decide_eq_false (by omega)]; rfl, rfl⟩ | rfl)⟩
  by_cases d2 : 3 < k
  · simp (dsimp := false) (maxSteps := 4000000) only [k4, d1, d2, hn_b1, hr_b1, go_sem, ↓reduceIte, Nat.reduceEqDiff, Nat.reduceLT, Nat.reduceLeDiff, Nat.reduceAdd, Nat.reduceMul, Nat.reduceSub, reduceCtorEq, Int.reduceToNat, Int.reduceLT, Int.reduceLE, Int.reduceEq, Int.reduceNe, Int.reduceBEq, Nat.reduceBEq, Int.reduceBNe, Nat.reduceBNe, Int.reduceAdd, Int.reduceSub, Int.reduceMul, Int.reduceNeg]
    exact ⟨H, (AH.le_add (AH.le_refl _) ((by simp only [fresh_add, fresh_set, ne_eq, hn_b1, not_false_eq_true, and_self] : Fresh _ b1).2)), (by first | exact ⟨by simp only [goodE]; rw [if_neg k4, decide_eq_false (by omega)]; rfl, rfl⟩ | rfl)⟩
  by_cases d3 : k = 3 ∧ ¬ b = 0
  · obtain ⟨rfl, d3⟩ := d3
    simp (dsimp := false) (maxSteps := 4000000) only [d3, hn_b1, hr_b1, go_sem, ↓reduceIte, Nat.reduceEqDiff, Nat.reduceLT, Nat.reduceLeDiff, Nat.reduceAdd, Nat.reduceMul, Nat.reduceSub, reduceCtorEq, Int.reduceToNat, Int.reduceLT, Int.reduceLE, Int.reduceEq, Int.reduceNe, Int.reduceBEq, Nat.reduceBEq, Int.reduceBNe, Nat.reduceBNe, Int.reduceAdd, Int.reduceSub, Int.reduceMul, Int.reduceNeg]
    exact ⟨H, (AH.le_add (AH.le_refl _) ((by simp only [fresh_add, fresh_set, ne_eq, hn_b1, not_false_eq_true, and_self] : Fresh _ b1).2)), (by first | exact ⟨by simp [goodE, d3], rfl⟩ | rfl)⟩
  have kk : goodE (k, s, f, r, b) = (placeB s f r && decide (0 ≤ b ∧ b ≤ 3)) := by
    simp only [goodE]; rw [if_neg k4, decide_eq_true (by omega), Bool.true_and]
  have d5 : (k = 3 ∧ b = 0) ∨ ¬ k = 3 := by omega
  rcases d5 with ⟨rfl, rfl⟩ | d5
  · skip
    by_cases c4_0 : 1 ≤ s
    case neg =>
      
      simp (dsimp := false) (maxSteps := 4000000) only [d1,  d2,  k4, c4_0, hn_b1, hr_b1, go_sem, ↓reduceIte, Nat.reduceEqDiff, Nat.reduceLT, Nat.reduceLeDiff, Nat.reduceAdd, Nat.reduceMul, Nat.reduceSub, reduceCtorEq, Int.reduceToNat, Int.reduceLT, Int.reduceLE, Int.reduceEq, Int.reduceNe, Int.reduceBEq, Nat.reduceBEq, Int.reduceBNe, Nat.reduceBNe, Int.reduceAdd, Int.reduceSub, Int.reduceMul, Int.reduceNeg]
      exact ⟨H, (AH.le_add (AH.le_refl _) ((by simp only [fresh_add, fresh_set, ne_eq, hn_b1, not_false_eq_true, and_self] : Fresh _ b1).2)), (by first | exact ⟨by rw [kk, placeB, decide_eq_false (fun h => c4_0 (by omega))]; rfl, rfl⟩ | rfl)⟩
      
    by_cases c4_1 : s ≤ 16
    case neg =>
      
      simp (dsimp := false) (maxSteps := 4000000) only [d1,  d2,  k4, c4_0, c4_1, hn_b1, hr_b1, go_sem, ↓reduceIte, Nat.reduceEqDiff, Nat.reduceLT, Nat.reduceLeDiff, Nat.reduceAdd, Nat.reduceMul, Nat.reduceSub, reduceCtorEq, Int.reduceToNat, Int.reduceLT, Int.reduceLE, Int.reduceEq, Int.reduceNe, Int.reduceBEq, Nat.reduceBEq, Int.reduceBNe, Nat.reduceBNe, Int.reduceAdd, Int.reduceSub, Int.reduceMul, Int.reduceNeg]
      exact ⟨H, (AH.le_add (AH.le_refl _) ((by simp only [fresh_add, fresh_set, ne_eq, hn_b1, not_false_eq_true, and_self] : Fresh _ b1).2)), (by first | exact ⟨by rw [kk, placeB, decide_eq_false (fun h => c4_1 (by omega))]; rfl, rfl⟩ | rfl)⟩
      
    by_cases c4_2 : 0 ≤ f
    case neg =>
      
      simp (dsimp := false) (maxSteps := 4000000) only [d1,  d2,  k4, c4_0, c4_1, c4_2, hn_b1, hr_b1, go_sem, ↓reduceIte, Nat.reduceEqDiff, Nat.reduceLT, Nat.reduceLeDiff, Nat.reduceAdd, Nat.reduceMul, Nat.reduceSub, reduceCtorEq, Int.reduceToNat, Int.reduceLT, Int.reduceLE, Int.reduceEq, Int.reduceNe, Int.reduceBEq, Nat.reduceBEq, Int.reduceBNe, Nat.reduceBNe, Int.reduceAdd, Int.reduceSub, Int.reduceMul, Int.reduceNeg]
      exact ⟨H, (AH.le_add (AH.le_refl _) ((by simp only [fresh_add, fresh_set, ne_eq, hn_b1, not_false_eq_true, and_self] : Fresh _ b1).2)), (by first | exact ⟨by rw [kk, placeB, decide_eq_false (fun h => c4_2 (by omega))]; rfl, rfl⟩ | rfl)⟩
      
    by_cases c4_3 : f ≤ 63
    case neg =>
      
      simp (dsimp := false) (maxSteps := 4000000) only [d1,  d2,  k4, c4_0, c4_1, c4_2, c4_3, hn_b1, hr_b1, go_sem, ↓reduceIte, Nat.reduceEqDiff, Nat.reduceLT, Nat.reduceLeDiff, Nat.reduceAdd, Nat.reduceMul, Nat.reduceSub, reduceCtorEq, Int.reduceToNat, Int.reduceLT, Int.reduceLE, Int.reduceEq, Int.reduceNe, Int.reduceBEq, Nat.reduceBEq, Int.reduceBNe, Nat.reduceBNe, Int.reduceAdd, Int.reduceSub, Int.reduceMul, Int.reduceNeg]
      exact ⟨H, (AH.le_add (AH.le_refl _) ((by simp only [fresh_add, fresh_set, ne_eq, hn_b1, not_false_eq_true, and_self] : Fresh _ b1).2)), (by first | exact ⟨by rw [kk, placeB, decide_eq_false (fun h => c4_3 (by omega))]; rfl, rfl⟩ | rfl)⟩
      
    by_cases c4_4 : 1 ≤ r
    case neg =>
      
      simp (dsimp := false) (maxSteps := 4000000) only [d1,  d2,  k4, c4_0, c4_1, c4_2, c4_3, c4_4, hn_b1, hr_b1, go_sem, ↓reduceIte, Nat.reduceEqDiff, Nat.reduceLT, Nat.reduceLeDiff, Nat.reduceAdd, Nat.reduceMul, Nat.reduceSub, reduceCtorEq, Int.reduceToNat, Int.reduceLT, Int.reduceLE, Int.reduceEq, Int.reduceNe, Int.reduceBEq, Nat.reduceBEq, Int.reduceBNe, Nat.reduceBNe, Int.reduceAdd, Int.reduceSub, Int.reduceMul, Int.reduceNeg]
      exact ⟨H, (AH.le_add (AH.le_refl _) ((by simp only [fresh_add, fresh_set, ne_eq, hn_b1, not_false_eq_true, and_self] : Fresh _ b1).2)), (by first | exact ⟨by rw [kk, placeB, decide_eq_false (fun h => c4_4 (by omega))]; rfl, rfl⟩ | rfl)⟩
      
    by_cases c4_5 : r ≤ 255
    case neg =>
      
      simp (dsimp := false) (maxSteps := 4000000) only [d1,  d2,  k4, c4_0, c4_1, c4_2, c4_3, c4_4, c4_5, hn_b1, hr_b1, go_sem, ↓reduceIte, Nat.reduceEqDiff, Nat.reduceLT, Nat.reduceLeDiff, Nat.reduceAdd, Nat.reduceMul, Nat.reduceSub, reduceCtorEq, Int.reduceToNat, Int.reduceLT, Int.reduceLE, Int.reduceEq, Int.reduceNe, Int.reduceBEq, Nat.reduceBEq, Int.reduceBNe, Nat.reduceBNe, Int.reduceAdd, Int.reduceSub, Int.reduceMul, Int.reduceNeg]
      exact ⟨H, (AH.le_add (AH.le_refl _) ((by simp only [fresh_add, fresh_set, ne_eq, hn_b1, not_false_eq_true, and_self] : Fresh _ b1).2)), (by first | exact ⟨by rw [kk, placeB, decide_eq_false (fun h => c4_5 (by omega))]; rfl, rfl⟩ | rfl)⟩
      
    have hp : placeB s f r = true := by rw [placeB, decide_eq_true (by omega)]
    simp (dsimp := false) (maxSteps := 4000000) only [d1,  d2,  k4, c4_0, c4_1, c4_2, c4_3, c4_4, c4_5, hn_b1, hr_b1, go_sem, ↓reduceIte, Nat.reduceEqDiff, Nat.reduceLT, Nat.reduceLeDiff, Nat.reduceAdd, Nat.reduceMul, Nat.reduceSub, reduceCtorEq, Int.reduceToNat, Int.reduceLT, Int.reduceLE, Int.reduceEq, Int.reduceNe, Int.reduceBEq, Nat.reduceBEq, Int.reduceBNe, Nat.reduceBNe, Int.reduceAdd, Int.reduceSub, Int.reduceMul, Int.reduceNeg]
    exact ⟨H, (AH.le_add (AH.le_refl _) ((by simp only [fresh_add, fresh_set, ne_eq, hn_b1, not_false_eq_true, and_self] : Fresh _ b1).2)), (by first | exact ⟨by rw [kk, hp]; rfl, rfl⟩ | rfl)⟩
  · skip
    by_cases c4_0 : 1 ≤ s
    case neg =>
      
      simp (dsimp := false) (maxSteps := 4000000) only [d1,  d2,  k4,  d5, c4_0, hn_b1, hr_b1, go_sem, ↓reduceIte, Nat.reduceEqDiff, Nat.reduceLT, Nat.reduceLeDiff, Nat.reduceAdd, Nat.reduceMul, Nat.reduceSub, reduceCtorEq, Int.reduceToNat, Int.reduceLT, Int.reduceLE, Int.reduceEq, Int.reduceNe, Int.reduceBEq, Nat.reduceBEq, Int.reduceBNe, Nat.reduceBNe, Int.reduceAdd, Int.reduceSub, Int.reduceMul, Int.reduceNeg]
      exact ⟨H, (AH.le_add (AH.le_refl _) ((by simp only [fresh_add, fresh_set, ne_eq, hn_b1, not_false_eq_true, and_self] : Fresh _ b1).2)), (by first | exact ⟨by rw [kk, placeB, decide_eq_false (fun h => c4_0 (by omega))]; rfl, rfl⟩ | rfl)⟩
      
    by_cases c4_1 : s ≤ 16
    case neg =>
      
      simp (dsimp := false) (maxSteps := 4000000) only [d1,  d2,  k4,  d5, c4_0, c4_1, hn_b1, hr_b1, go_sem, ↓reduceIte, Nat.reduceEqDiff, Nat.reduceLT, Nat.reduceLeDiff, Nat.reduceAdd, Nat.reduceMul, Nat.reduceSub, reduceCtorEq, Int.reduceToNat, Int.reduceLT, Int.reduceLE, Int.reduceEq, Int.reduceNe, Int.reduceBEq, Nat.reduceBEq, Int.reduceBNe, Nat.reduceBNe, Int.reduceAdd, Int.reduceSub, Int.reduceMul, Int.reduceNeg]
      exact ⟨H, (AH.le_add (AH.le_refl _) ((by simp only [fresh_add, fresh_set, ne_eq, hn_b1, not_false_eq_true, and_self] : Fresh _ b1).2)), (by first | exact ⟨by rw [kk, placeB, decide_eq_false (fun h => c4_1 (by omega))]; rfl, rfl⟩ | rfl)⟩
      
    by_cases c4_2 : 0 ≤ f
    case neg =>
      
      simp (dsimp := false) (maxSteps := 4000000) only [d1,  d2,  k4,  d5, c4_0, c4_1, c4_2, hn_b1, hr_b1, go_sem, ↓reduceIte, Nat.reduceEqDiff, Nat.reduceLT, Nat.reduceLeDiff, Nat.reduceAdd, Nat.reduceMul, Nat.reduceSub, reduceCtorEq, Int.reduceToNat, Int.reduceLT, Int.reduceLE, Int.reduceEq, Int.reduceNe, Int.reduceBEq, Nat.reduceBEq, Int.reduceBNe, Nat.reduceBNe, Int.reduceAdd, Int.reduceSub, Int.reduceMul, Int.reduceNeg]
      exact ⟨H, (AH.le_add (AH.le_refl _) ((by simp only [fresh_add, fresh_set, ne_eq, hn_b1, not_false_eq_true, and_self] : Fresh _ b1).2)), (by first | exact ⟨by rw [kk, placeB, decide_eq_false (fun h => c4_2 (by omega))]; rfl, rfl⟩ | rfl)⟩
      
    by_cases c4_3 : f ≤ 63
    case neg =>
      
      simp (dsimp := false) (maxSteps := 4000000) only [d1,  d2,  k4,  d5, c4_0, c4_1, c4_2, c4_3, hn_b1, hr_b1, go_sem, ↓reduceIte, Nat.reduceEqDiff, Nat.reduceLT, Nat.reduceLeDiff, Nat.reduceAdd, Nat.reduceMul, Nat.reduceSub, reduceCtorEq, Int.reduceToNat, Int.reduceLT, Int.reduceLE, Int.reduceEq, Int.reduceNe, Int.reduceBEq, Nat.reduceBEq, Int.reduceBNe, Nat.reduceBNe, Int.reduceAdd, Int.reduceSub, Int.reduceMul, Int.reduceNeg]
      exact ⟨H, (AH.le_add (AH.le_refl _) ((by simp only [fresh_add, fresh_set, ne_eq, hn_b1, not_false_eq_true, and_self] : Fresh _ b1).2)), (by first | exact ⟨by rw [kk, placeB, decide_eq_false (fun h => c4_3 (by omega))]; rfl, rfl⟩ | rfl)⟩
      
    by_cases c4_4 : 1 ≤ r
    case neg =>
      
      simp (dsimp := false) (maxSteps := 4000000) only [d1,  d2,  k4,  d5, c4_0, c4_1, c4_2, c4_3, c4_4, hn_b1, hr_b1, go_sem, ↓reduceIte, Nat.reduceEqDiff, Nat.reduceLT, Nat.reduceLeDiff, Nat.reduceAdd, Nat.reduceMul, Nat.reduceSub, reduceCtorEq, Int.reduceToNat, Int.reduceLT, Int.reduceLE, Int.reduceEq, Int.reduceNe, Int.reduceBEq, Nat.reduceBEq, Int.reduceBNe, Nat.reduceBNe, Int.reduceAdd, Int.reduceSub, Int.reduceMul, Int.reduceNeg]
      exact ⟨H, (AH.le_add (AH.le_refl _) ((by simp only [fresh_add, fresh_set, ne_eq, hn_b1, not_false_eq_true, and_self] : Fresh _ b1).2)), (by first | exact ⟨by rw [kk, placeB, decide_eq_false (fun h => c4_4 (by omega))]; rfl, rfl⟩ | rfl)⟩
      
    by_cases c4_5 : r ≤ 255
    case neg =>
      
      simp (dsimp := false) (maxSteps := 4000000) only [d1,  d2,  k4,  d5, c4_0, c4_1, c4_2, c4_3, c4_4, c4_5, hn_b1, hr_b1, go_sem, ↓reduceIte, Nat.reduceEqDiff, Nat.reduceLT, Nat.reduceLeDiff, Nat.reduceAdd, Nat.reduceMul, Nat.reduceSub, reduceCtorEq, Int.reduceToNat, Int.reduceLT, Int.reduceLE, Int.reduceEq, Int.reduceNe, Int.reduceBEq, Nat.reduceBEq, Int.reduceBNe, Nat.reduceBNe, Int.reduceAdd, Int.reduceSub, Int.reduceMul, Int.reduceNeg]
      exact ⟨H, (AH.le_add (AH.le_refl _) ((by simp only [fresh_add, fresh_set, ne_eq, hn_b1, not_false_eq_true, and_self] : Fresh _ b1).2)), (by first | exact ⟨by rw [kk, placeB, decide_eq_false (fun h => c4_5 (by omega))]; rfl, rfl⟩ | rfl)⟩
      
    have hp : placeB s f r = true := by rw [placeB, decide_eq_true (by omega)]
    by_cases e1 : 0 ≤ b
    case neg =>
      simp (dsimp := false) (maxSteps := 4000000) only [d1,  d2,  k4,  d5, c4_0, c4_1, c4_2, c4_3, c4_4, c4_5, e1, hn_b1, hr_b1, go_sem, ↓reduceIte, Nat.reduceEqDiff, Nat.reduceLT, Nat.reduceLeDiff, Nat.reduceAdd, Nat.reduceMul, Nat.reduceSub, reduceCtorEq, Int.reduceToNat, Int.reduceLT, Int.reduceLE, Int.reduceEq, Int.reduceNe, Int.reduceBEq, Nat.reduceBEq, Int.reduceBNe, Nat.reduceBNe, Int.reduceAdd, Int.reduceSub, Int.reduceMul, Int.reduceNeg]
      exact ⟨H, (AH.le_add (AH.le_refl _) ((by simp only [fresh_add, fresh_set, ne_eq, hn_b1, not_false_eq_true, and_self] : Fresh _ b1).2)), (by first | exact ⟨by rw [kk, hp, decide_eq_false (fun h => e1 h.1)]; rfl, rfl⟩ | rfl)⟩
    by_cases e2 : b ≤ 3
    · simp (dsimp := false) (maxSteps := 4000000) only [d1,  d2,  k4,  d5, c4_0, c4_1, c4_2, c4_3, c4_4, c4_5, e1, e2, hn_b1, hr_b1, go_sem, ↓reduceIte, Nat.reduceEqDiff, Nat.reduceLT, Nat.reduceLeDiff, Nat.reduceAdd, Nat.reduceMul, Nat.reduceSub, reduceCtorEq, Int.reduceToNat, Int.reduceLT, Int.reduceLE, Int.reduceEq, Int.reduceNe, Int.reduceBEq, Nat.reduceBEq, Int.reduceBNe, Nat.reduceBNe, Int.reduceAdd, Int.reduceSub, Int.reduceMul, Int.reduceNeg]
      exact ⟨H, (AH.le_add (AH.le_refl _) ((by simp only [fresh_add, fresh_set, ne_eq, hn_b1, not_false_eq_true, and_self] : Fresh _ b1).2)), (by first | exact ⟨by rw [kk, hp, decide_eq_true ⟨e1, e2⟩]; rfl, rfl⟩ | rfl)⟩
    · simp (dsimp := false) (maxSteps := 4000000) only [d1,  d2,  k4,  d5, c4_0, c4_1, c4_2, c4_3, c4_4, c4_5, e1, e2, hn_b1, hr_b1, go_sem, ↓reduceIte, Nat.reduceEqDiff, Nat.reduceLT, Nat.reduceLeDiff, Nat.reduceAdd, Nat.reduceMul, Nat.reduceSub, reduceCtorEq, Int.reduceToNat, Int.reduceLT, Int.reduceLE, Int.reduceEq, Int.reduceNe, Int.reduceBEq, Nat.reduceBEq, Int.reduceBNe, Nat.reduceBNe, Int.reduceAdd, Int.reduceSub, Int.reduceMul, Int.reduceNeg]
      exact ⟨H, (AH.le_add (AH.le_refl _) ((by simp only [fresh_add, fresh_set, ne_eq, hn_b1, not_false_eq_true, and_self] : Fresh _ b1).2)), (by first | exact ⟨by rw [kk, hp, decide_eq_false (fun h => e2 h.2)]; rfl, rfl⟩ | rfl)⟩
def putR : En → Rc
  | (k, s, f, r, b) => (64 * b + k, s, f, r)
def ze : En := (0, 0, 0, 0, 0)
def pR (x : En) : Rc := if goodE x = true then putR x else zr
def pE (x : En) : Int := if goodE x = true then 0 else 1
theorem goodE_range {k s f r b : Int} (h : goodE (k, s, f, r, b) = true) : (0 ≤ b ∧ b ≤ 3) ∧ (1 ≤ k ∧ k ≤ 4) ∧ (0 ≤ s ∧ s ≤ 16) ∧ (0 ≤ f ∧ f ≤ 63) ∧ (0 ≤ r ∧ r ≤ 255) := by
  simp only [goodE] at h
  split at h
  · have := of_decide_eq_true h
    omega
  · simp only [placeB, Bool.and_eq_true, decide_eq_true_eq] at h
    omega
theorem or_put : ∀ (x : Fin 4) (y : Fin 64), IntKind.u8.wrap (ibits .or .i64 (IntKind.i64.wrap ((x.val : Int) * 64)) (y.val : Int)) = 64 * (x.val : Int) + y.val := by decide +kernel
theorem or_eq {a c : Int} (a0 : 0 ≤ a) (a1 : a ≤ 3) (c0 : 0 ≤ c) (c1 : c < 64) : IntKind.u8.wrap (ibits .or .i64 (IntKind.i64.wrap (a * 64)) c) = 64 * a + c := by
  have := or_put ⟨a.toNat, by omega⟩ ⟨c.toNat, by omega⟩
  simpa [Int.toNat_of_nonneg a0, Int.toNat_of_nonneg c0] using this
theorem Put_u (k s f r b : Int) (H : AH) : ACalls Try.prog 120 #[.agg #[.int .i64 k, .int .i64 s, .int .i64 f, .int .i64 r, .int .i64 b]] H (fun v H' => v = .tuple #[.agg (enc (pR (k, s, f, r, b))).toArray, .int .i64 (pE (k, s, f, r, b))] ∧ H = H') := by
  refine ACalls.enter2 Try.func120 rfl Try.ntmps120 Try.results120 (by simp) ?_; simp (dsimp := false) (maxSteps := 4000000) only [go_sem, ↓reduceIte, Nat.reduceEqDiff, Nat.reduceLT, Nat.reduceLeDiff, Nat.reduceAdd, Nat.reduceMul, Nat.reduceSub, reduceCtorEq, Int.reduceToNat, Int.reduceLT, Int.reduceLE, Int.reduceEq, Int.reduceNe, Int.reduceBEq, Nat.reduceBEq, Int.reduceBNe, Nat.reduceBNe, Int.reduceAdd, Int.reduceSub, Int.reduceMul, Int.reduceNeg]
  refine AllB.mk fun b1 h_b1 => ?_; have hn_b1 := h_b1; (try simp only [fresh_add, fresh_set, ne_eq] at hn_b1); have hr_b1 := hn_b1; (try simp only [@eq_comm Nat b1] at hr_b1); simp (dsimp := false) (maxSteps := 4000000) only [hn_b1, hr_b1, go_sem, ↓reduceIte, Nat.reduceEqDiff, Nat.reduceLT, Nat.reduceLeDiff, Nat.reduceAdd, Nat.reduceMul, Nat.reduceSub, reduceCtorEq, Int.reduceToNat, Int.reduceLT, Int.reduceLE, Int.reduceEq, Int.reduceNe, Int.reduceBEq, Nat.reduceBEq, Int.reduceBNe, Nat.reduceBNe, Int.reduceAdd, Int.reduceSub, Int.reduceMul, Int.reduceNeg]
  refine AllB.mk fun b2 h_b2 => ?_; have hn_b2 := h_b2; (try simp only [fresh_add, fresh_set, ne_eq] at hn_b2); have hr_b2 := hn_b2; (try simp only [@eq_comm Nat b2] at hr_b2); simp (dsimp := false) (maxSteps := 4000000) only [hn_b1, hr_b1, hn_b2, hr_b2, go_sem, ↓reduceIte, Nat.reduceEqDiff, Nat.reduceLT, Nat.reduceLeDiff, Nat.reduceAdd, Nat.reduceMul, Nat.reduceSub, reduceCtorEq, Int.reduceToNat, Int.reduceLT, Int.reduceLE, Int.reduceEq, Int.reduceNe, Int.reduceBEq, Nat.reduceBEq, Int.reduceBNe, Nat.reduceBNe, Int.reduceAdd, Int.reduceSub, Int.reduceMul, Int.reduceNeg]
  refine (Good_c k s f r b _).mono ?_; rintro _ _ ⟨rfl, rfl⟩
  cases g : goodE (k, s, f, r, b) with
  | true =>
    obtain ⟨⟨h1, h2⟩, ⟨h3, h4⟩, ⟨h5, h6⟩, ⟨h7, h8⟩, ⟨h9, h10⟩⟩ := goodE_range g
    have e1 := or_eq h1 h2 (by omega : 0 ≤ k) (by omega)
    have e2 := u8_eq h5 (by omega)
    have e3 := u8_eq h7 (by omega)
    have e4 := u8_eq h9 (by omega)
    simp (dsimp := false) (maxSteps := 4000000) only [e1, e2, e3, e4, hn_b1, hr_b1, hn_b2, hr_b2, go_sem, ↓reduceIte, Nat.reduceEqDiff, Nat.reduceLT, Nat.reduceLeDiff, Nat.reduceAdd, Nat.reduceMul, Nat.reduceSub, reduceCtorEq, Int.reduceToNat, Int.reduceLT, Int.reduceLE, Int.reduceEq, Int.reduceNe, Int.reduceBEq, Nat.reduceBEq, Int.reduceBNe, Nat.reduceBNe, Int.reduceAdd, Int.reduceSub, Int.reduceMul, Int.reduceNeg]
    exact ⟨H, (AH.le_add (AH.le_add (AH.le_refl _) ((by simp only [fresh_add, fresh_set, ne_eq, hn_b1, not_false_eq_true, and_self] : Fresh _ b1).2)) ((by simp only [fresh_add, fresh_set, ne_eq, hn_b2, not_false_eq_true, and_self] : Fresh _ b2).2)), (by first | exact ⟨by simp [pR, pE, g, putR, enc, e1], rfl⟩ | rfl)⟩
  | false =>
    simp (dsimp := false) (maxSteps := 4000000) only [hn_b1, hr_b1, hn_b2, hr_b2, go_sem, ↓reduceIte, Nat.reduceEqDiff, Nat.reduceLT, Nat.reduceLeDiff, Nat.reduceAdd, Nat.reduceMul, Nat.reduceSub, reduceCtorEq, Int.reduceToNat, Int.reduceLT, Int.reduceLE, Int.reduceEq, Int.reduceNe, Int.reduceBEq, Nat.reduceBEq, Int.reduceBNe, Nat.reduceBNe, Int.reduceAdd, Int.reduceSub, Int.reduceMul, Int.reduceNeg]
    exact ⟨H, (AH.le_add (AH.le_add (AH.le_refl _) ((by simp only [fresh_add, fresh_set, ne_eq, hn_b1, not_false_eq_true, and_self] : Fresh _ b1).2)) ((by simp only [fresh_add, fresh_set, ne_eq, hn_b2, not_false_eq_true, and_self] : Fresh _ b2).2)), (by first | exact ⟨by simp [pR, pE, g, zr, enc], rfl⟩ | rfl)⟩
theorem rows5 (L : List En) : ∀ r ∈ L.map encE, r.length = 5 := fun r hr => by
  obtain ⟨w, _, rfl⟩ := List.mem_map.1 hr
  rfl
theorem scal5 (l : List En) : ((l.map encE).flatten).all scal = true := by
  rw [List.all_flatten, List.all_map, List.all_eq_true]
  intro r _; rfl
theorem encE_len (x : En) : (encE x).length = 5 := rfl
theorem encE_scal (x : En) : (encE x).all scal = true := rfl
theorem encE_mk (k s f r b : Int) : encE (k, s, f, r, b) = [.int .i64 k, .int .i64 s, .int .i64 f, .int .i64 r, .int .i64 b] := rfl
theorem flat5 (L : List En) : (L.map encE).flatten.length = L.length * 5 := by rw [flat_len (rows5 L), List.length_map]
def prv (L : List En) (i : Nat) : Int := if i = 0 then 0 else (L.getD (i - 1) ze).2.1
def chk (L : List En) (i : Nat) : Bool := match L[i]? with
  | none => true
  | some x => goodE x && !(decide (x.1 = 4)) && decide (prv L i < x.2.1)
def mayB (L : List En) : Bool := (List.range L.length).all (chk L) && decide (L.length ≤ 64)
theorem mayB_no {L : List En} {i : Nat} (hi : i < L.length) (h : chk L i = false) : mayB L = false := by
  have : (List.range L.length).all (chk L) = false := by
    rw [List.all_eq_false]
    exact ⟨i, List.mem_range.2 hi, by rw [h]; simp⟩
  rw [mayB, this]; rfl
theorem mayB_yes {L : List En} {i : Nat} (hi : L.length ≤ i) (h : ∀ j, j < i → chk L j = true) : mayB L = decide (L.length ≤ 64) := by
  have : (List.range L.length).all (chk L) = true := by
    rw [List.all_eq_true]
    exact fun j hj => h j (by have := List.mem_range.1 hj; omega)
  rw [mayB, this, Bool.true_and]
theorem prv_succ {L : List En} {i : Nat} {x : En} (h : L[i]? = some x) : prv L (i + 1) = x.2.1 := by
  rw [prv, if_neg (by omega), Nat.add_sub_cancel, List.getD_eq_getElem?_getD, h]; rfl
theorem table_c (L : List En) (base : Option Addr) (cap : Nat) (H : AH) (hs : SlcIn H 5 base cap (L.map encE)) :
    ACalls Try.prog 118 #[.slice base L.length cap] H (fun v H' => v = .bool (mayB L) ∧ H = H') := by
  have hbig := hs.big
  simp only [List.length_map] at hbig
  refine ACalls.enter2 Try.func118 rfl Try.ntmps118 Try.results118 (by simp) ?_; simp (dsimp := false) (maxSteps := 4000000) only [encE_len, encE_scal, go_sem, ↓reduceIte, Nat.reduceEqDiff, Nat.reduceLT, Nat.reduceLeDiff, Nat.reduceAdd, Nat.reduceMul, Nat.reduceSub, reduceCtorEq, Int.reduceToNat, Int.reduceLT, Int.reduceLE, Int.reduceEq, Int.reduceNe, Int.reduceBEq, Nat.reduceBEq, Int.reduceBNe, Nat.reduceBNe, Int.reduceAdd, Int.reduceSub, Int.reduceMul, Int.reduceNeg]
  refine AWp.loopo (ι := Nat) (fun i => i ≤ L.length ∧ ∀ j, j < i → chk L j = true) (fun i => [(8, .int .i64 i), (7, .int .i64 L.length), (6, .slice base L.length cap), (0, .slice base L.length cap), (3, .int .i64 (prv L i))])
    (fun _ => H) (fun i => L.length - i) 0 ⟨by omega, fun j hj => by omega⟩ (FrLe.of_lks ?_) (AH.le_refl _) fun i hi Q again out => ?_
  · simp (dsimp := false) (maxSteps := 4000000) only [show prv L 0 = 0 from rfl, encE_len, encE_scal, go_sem, ↓reduceIte, Nat.reduceEqDiff, Nat.reduceLT, Nat.reduceLeDiff, Nat.reduceAdd, Nat.reduceMul, Nat.reduceSub, reduceCtorEq, Int.reduceToNat, Int.reduceLT, Int.reduceLE, Int.reduceEq, Int.reduceNe, Int.reduceBEq, Nat.reduceBEq, Int.reduceBNe, Nat.reduceBNe, Int.reduceAdd, Int.reduceSub, Int.reduceMul, Int.reduceNeg]
  · obtain ⟨hi, hall⟩ := hi
    by_cases h : (i : Int) < L.length
    · obtain ⟨⟨k, s, f, r, y⟩, hn⟩ := get_some (l := L) (i := i) (by omega)
      obtain ⟨b, o, rfl, hrow, _⟩ := hs.get (map_get (f := encE) hn)
      rw [encE_mk] at hrow
      have ee := i64_succ (i := i) (by omega)
      have hps := prv_succ hn
      have hc : chk L i = (goodE (k, s, f, r, y) && !(decide (k = 4)) && decide (prv L i < s)) := by rw [chk, hn]
      
      simp (dsimp := false) (maxSteps := 4000000) only [h, hrow, encE_len, encE_scal, go_sem, ↓reduceIte, Nat.reduceEqDiff, Nat.reduceLT, Nat.reduceLeDiff, Nat.reduceAdd, Nat.reduceMul, Nat.reduceSub, reduceCtorEq, Int.reduceToNat, Int.reduceLT, Int.reduceLE, Int.reduceEq, Int.reduceNe, Int.reduceBEq, Nat.reduceBEq, Int.reduceBNe, Nat.reduceBNe, Int.reduceAdd, Int.reduceSub, Int.reduceMul, Int.reduceNeg]
      refine AllB.mk fun b5 h_b5 => ?_; have hn_b5 := h_b5; (try simp only [fresh_add, fresh_set, ne_eq] at hn_b5); have hr_b5 := hn_b5; (try simp only [@eq_comm Nat b5] at hr_b5); simp (dsimp := false) (maxSteps := 4000000) only [encE_len, encE_scal, hn_b5, hr_b5, go_sem, ↓reduceIte, Nat.reduceEqDiff, Nat.reduceLT, Nat.reduceLeDiff, Nat.reduceAdd, Nat.reduceMul, Nat.reduceSub, reduceCtorEq, Int.reduceToNat, Int.reduceLT, Int.reduceLE, Int.reduceEq, Int.reduceNe, Int.reduceBEq, Nat.reduceBEq, Int.reduceBNe, Nat.reduceBNe, Int.reduceAdd, Int.reduceSub, Int.reduceMul, Int.reduceNeg]
      refine (Good_c k s f r y _).mono ?_; rintro _ _ ⟨rfl, rfl⟩
      cases g : goodE (k, s, f, r, y) with
      | false =>
        simp (dsimp := false) (maxSteps := 4000000) only [encE_len, encE_scal, hn_b5, hr_b5, go_sem, ↓reduceIte, Nat.reduceEqDiff, Nat.reduceLT, Nat.reduceLeDiff, Nat.reduceAdd, Nat.reduceMul, Nat.reduceSub, reduceCtorEq, Int.reduceToNat, Int.reduceLT, Int.reduceLE, Int.reduceEq, Int.reduceNe, Int.reduceBEq, Nat.reduceBEq, Int.reduceBNe, Nat.reduceBNe, Int.reduceAdd, Int.reduceSub, Int.reduceMul, Int.reduceNeg]
        refine out _ _ _ (by simp) ?_
        simp (dsimp := false) (maxSteps := 4000000) only [encE_len, encE_scal, hn_b5, hr_b5, go_sem, ↓reduceIte, Nat.reduceEqDiff, Nat.reduceLT, Nat.reduceLeDiff, Nat.reduceAdd, Nat.reduceMul, Nat.reduceSub, reduceCtorEq, Int.reduceToNat, Int.reduceLT, Int.reduceLE, Int.reduceEq, Int.reduceNe, Int.reduceBEq, Nat.reduceBEq, Int.reduceBNe, Nat.reduceBNe, Int.reduceAdd, Int.reduceSub, Int.reduceMul, Int.reduceNeg]
        exact ⟨H, (AH.le_add (AH.le_refl _) ((by simp only [fresh_add, fresh_set, ne_eq, hn_b5, not_false_eq_true, and_self] : Fresh _ b5).2)), (by first | exact ⟨by rw [mayB_no (i := i) (by omega) (by rw [hc, g]; rfl)], rfl⟩ | rfl)⟩
      | true =>
        by_cases k4 : k = 4
        · simp (dsimp := false) (maxSteps := 4000000) only [k4, encE_len, encE_scal, hn_b5, hr_b5, go_sem, ↓reduceIte, Nat.reduceEqDiff, Nat.reduceLT, Nat.reduceLeDiff, Nat.reduceAdd, Nat.reduceMul, Nat.reduceSub, reduceCtorEq, Int.reduceToNat, Int.reduceLT, Int.reduceLE, Int.reduceEq, Int.reduceNe, Int.reduceBEq, Nat.reduceBEq, Int.reduceBNe, Nat.reduceBNe, Int.reduceAdd, Int.reduceSub, Int.reduceMul, Int.reduceNeg]
          refine out _ _ _ (by simp) ?_
          simp (dsimp := false) (maxSteps := 4000000) only [encE_len, encE_scal, hn_b5, hr_b5, go_sem, ↓reduceIte, Nat.reduceEqDiff, Nat.reduceLT, Nat.reduceLeDiff, Nat.reduceAdd, Nat.reduceMul, Nat.reduceSub, reduceCtorEq, Int.reduceToNat, Int.reduceLT, Int.reduceLE, Int.reduceEq, Int.reduceNe, Int.reduceBEq, Nat.reduceBEq, Int.reduceBNe, Nat.reduceBNe, Int.reduceAdd, Int.reduceSub, Int.reduceMul, Int.reduceNeg]
          exact ⟨H, (AH.le_add (AH.le_refl _) ((by simp only [fresh_add, fresh_set, ne_eq, hn_b5, not_false_eq_true, and_self] : Fresh _ b5).2)), (by first | exact ⟨by rw [mayB_no (i := i) (by omega) (by rw [hc, decide_eq_true k4]; simp)], rfl⟩ | rfl)⟩
        by_cases c : s ≤ prv L i
        · simp (dsimp := false) (maxSteps := 4000000) only [k4, c, encE_len, encE_scal, hn_b5, hr_b5, go_sem, ↓reduceIte, Nat.reduceEqDiff, Nat.reduceLT, Nat.reduceLeDiff, Nat.reduceAdd, Nat.reduceMul, Nat.reduceSub, reduceCtorEq, Int.reduceToNat, Int.reduceLT, Int.reduceLE, Int.reduceEq, Int.reduceNe, Int.reduceBEq, Nat.reduceBEq, Int.reduceBNe, Nat.reduceBNe, Int.reduceAdd, Int.reduceSub, Int.reduceMul, Int.reduceNeg]
          refine out _ _ _ (by simp) ?_
          simp (dsimp := false) (maxSteps := 4000000) only [encE_len, encE_scal, hn_b5, hr_b5, go_sem, ↓reduceIte, Nat.reduceEqDiff, Nat.reduceLT, Nat.reduceLeDiff, Nat.reduceAdd, Nat.reduceMul, Nat.reduceSub, reduceCtorEq, Int.reduceToNat, Int.reduceLT, Int.reduceLE, Int.reduceEq, Int.reduceNe, Int.reduceBEq, Nat.reduceBEq, Int.reduceBNe, Nat.reduceBNe, Int.reduceAdd, Int.reduceSub, Int.reduceMul, Int.reduceNeg]
          exact ⟨H, (AH.le_add (AH.le_refl _) ((by simp only [fresh_add, fresh_set, ne_eq, hn_b5, not_false_eq_true, and_self] : Fresh _ b5).2)), (by first | exact ⟨by rw [mayB_no (i := i) (by omega) (by rw [hc, decide_eq_false (p := prv L i < s) (by omega)]; simp)], rfl⟩ | rfl)⟩
        simp (dsimp := false) (maxSteps := 4000000) only [k4, c, ee, encE_len, encE_scal, hn_b5, hr_b5, go_sem, ↓reduceIte, Nat.reduceEqDiff, Nat.reduceLT, Nat.reduceLeDiff, Nat.reduceAdd, Nat.reduceMul, Nat.reduceSub, reduceCtorEq, Int.reduceToNat, Int.reduceLT, Int.reduceLE, Int.reduceEq, Int.reduceNe, Int.reduceBEq, Nat.reduceBEq, Int.reduceBNe, Nat.reduceBNe, Int.reduceAdd, Int.reduceSub, Int.reduceMul, Int.reduceNeg]
        refine again (i + 1) _ _ ⟨by omega, fun j hj => ?_⟩ (FrLe.of_lks (by simp (dsimp := false) (maxSteps := 4000000) only [hps, encE_len, encE_scal, hn_b5, hr_b5, go_sem, ↓reduceIte, Nat.reduceEqDiff, Nat.reduceLT, Nat.reduceLeDiff, Nat.reduceAdd, Nat.reduceMul, Nat.reduceSub, reduceCtorEq, Int.reduceToNat, Int.reduceLT, Int.reduceLE, Int.reduceEq, Int.reduceNe, Int.reduceBEq, Nat.reduceBEq, Int.reduceBNe, Nat.reduceBNe, Int.reduceAdd, Int.reduceSub, Int.reduceMul, Int.reduceNeg])) (by (repeat (first | exact AH.le_refl _ | refine AH.le_add ?_ ?_)); all_goals (first | exact AH.le_refl _ | (show AH.find _ _ = _; simp only [find_add_self, find_add_ne, find_fresh, fresh_add, ne_eq, not_false_eq_true, true_and, and_true, and_self, encE_len, encE_scal, hn_b5, hr_b5]))) (by omega)
        by_cases hji : j = i
        · subst hji; rw [hc, g, decide_eq_false k4, decide_eq_true (by omega)]; rfl
        · exact hall j (by omega)
      
    · have hy := mayB_yes (by omega) hall
      simp (dsimp := false) (maxSteps := 4000000) only [h, encE_len, encE_scal, go_sem, ↓reduceIte, Nat.reduceEqDiff, Nat.reduceLT, Nat.reduceLeDiff, Nat.reduceAdd, Nat.reduceMul, Nat.reduceSub, reduceCtorEq, Int.reduceToNat, Int.reduceLT, Int.reduceLE, Int.reduceEq, Int.reduceNe, Int.reduceBEq, Nat.reduceBEq, Int.reduceBNe, Nat.reduceBNe, Int.reduceAdd, Int.reduceSub, Int.reduceMul, Int.reduceNeg]
      refine out _ _ _ (by simp) ?_
      by_cases c : (L.length : Int) ≤ 64
      · simp (dsimp := false) (maxSteps := 4000000) only [c, encE_len, encE_scal, go_sem, ↓reduceIte, Nat.reduceEqDiff, Nat.reduceLT, Nat.reduceLeDiff, Nat.reduceAdd, Nat.reduceMul, Nat.reduceSub, reduceCtorEq, Int.reduceToNat, Int.reduceLT, Int.reduceLE, Int.reduceEq, Int.reduceNe, Int.reduceBEq, Nat.reduceBEq, Int.reduceBNe, Nat.reduceBNe, Int.reduceAdd, Int.reduceSub, Int.reduceMul, Int.reduceNeg]
        exact ⟨H, (AH.le_refl _), (by first | exact ⟨by rw [hy, decide_eq_true (by omega)], rfl⟩ | rfl)⟩
      · simp (dsimp := false) (maxSteps := 4000000) only [c, encE_len, encE_scal, go_sem, ↓reduceIte, Nat.reduceEqDiff, Nat.reduceLT, Nat.reduceLeDiff, Nat.reduceAdd, Nat.reduceMul, Nat.reduceSub, reduceCtorEq, Int.reduceToNat, Int.reduceLT, Int.reduceLE, Int.reduceEq, Int.reduceNe, Int.reduceBEq, Nat.reduceBEq, Int.reduceBNe, Nat.reduceBNe, Int.reduceAdd, Int.reduceSub, Int.reduceMul, Int.reduceNeg]
        exact ⟨H, (AH.le_refl _), (by first | exact ⟨by rw [hy, decide_eq_false (by omega)], rfl⟩ | rfl)⟩
theorem May_c (L : List En) (base : Option Addr) (cap : Nat) (H : AH) (hs : SlcIn H 5 base cap (L.map encE)) :
    ACalls Try.prog 82 #[.slice base L.length cap] H (fun v H' => v = .bool (mayB L) ∧ H = H') := by
  have hbig := hs.big
  simp only [List.length_map] at hbig
  refine ACalls.enter2 Try.func82 rfl Try.ntmps82 Try.results82 (by simp) ?_; simp (dsimp := false) (maxSteps := 4000000) only [encE_len, encE_scal, go_sem, ↓reduceIte, Nat.reduceEqDiff, Nat.reduceLT, Nat.reduceLeDiff, Nat.reduceAdd, Nat.reduceMul, Nat.reduceSub, reduceCtorEq, Int.reduceToNat, Int.reduceLT, Int.reduceLE, Int.reduceEq, Int.reduceNe, Int.reduceBEq, Nat.reduceBEq, Int.reduceBNe, Nat.reduceBNe, Int.reduceAdd, Int.reduceSub, Int.reduceMul, Int.reduceNeg]
  refine AWp.loopo (ι := Nat) (fun i => i ≤ L.length ∧ ∀ j, j < i → chk L j = true) (fun i => [(3, .int .i64 i), (0, .slice base L.length cap)])
    (fun _ => H) (fun i => L.length - i) 0 ⟨by omega, fun j hj => by omega⟩ (FrLe.of_lks ?_) (AH.le_refl _) fun i hi Q again out => ?_
  · simp (dsimp := false) (maxSteps := 4000000) only [encE_len, encE_scal, go_sem, ↓reduceIte, Nat.reduceEqDiff, Nat.reduceLT, Nat.reduceLeDiff, Nat.reduceAdd, Nat.reduceMul, Nat.reduceSub, reduceCtorEq, Int.reduceToNat, Int.reduceLT, Int.reduceLE, Int.reduceEq, Int.reduceNe, Int.reduceBEq, Nat.reduceBEq, Int.reduceBNe, Nat.reduceBNe, Int.reduceAdd, Int.reduceSub, Int.reduceMul, Int.reduceNeg]
  · obtain ⟨hi, hall⟩ := hi
    by_cases h : (i : Int) < L.length
    · obtain ⟨⟨k, s, f, r, y⟩, hn⟩ := get_some (l := L) (i := i) (by omega)
      obtain ⟨b, o, rfl, hrow, hrd⟩ := hs.get (map_get (f := encE) hn)
      have r0 := hrd 0 _ rfl
      have r1 := hrd 1 _ rfl
      simp only [encE_mk, Nat.add_zero] at r0 r1
      rw [encE_mk] at hrow
      have ee := i64_succ (i := i) (by omega)
      have hc : chk L i = (goodE (k, s, f, r, y) && !(decide (k = 4)) && decide (prv L i < s)) := by rw [chk, hn]
      simp (dsimp := false) (maxSteps := 4000000) only [h, encE_len, encE_scal, go_sem, ↓reduceIte, Nat.reduceEqDiff, Nat.reduceLT, Nat.reduceLeDiff, Nat.reduceAdd, Nat.reduceMul, Nat.reduceSub, reduceCtorEq, Int.reduceToNat, Int.reduceLT, Int.reduceLE, Int.reduceEq, Int.reduceNe, Int.reduceBEq, Nat.reduceBEq, Int.reduceBNe, Nat.reduceBNe, Int.reduceAdd, Int.reduceSub, Int.reduceMul, Int.reduceNeg]
      refine AWp.gen [.pu, .pu, .pu, .rd, .ch, .pu, .pu, .pu, .pu, .pu, .pu, .rd, .pu, .pu, .pu, .pu, .pu, .pu, .pu, .pu, .pu, .pu, .rd, .pu, .pu, .pu, .pu, .pu, .rd, .pu, .pu, .pu] [0, 0, 3, 7, 15, 31, 63, 127, 127, 511, 1023, 2047, 4095, 8191, 16383, 32767, 65535, 131071, 262143, 262143, 1048575, 2097151, 4194303, 262143, 262143, 17039359, 58982399, 126091263, 260308991, 536870911, 1073741823, 2147483647] 5 (_) mixed (by kernel_rfl) (AH.le_refl _) ?_
      simp (dsimp := false) (maxSteps := 4000000) only [h, hrow, AH.le_refl, encE_len, encE_scal, go_sem, ↓reduceIte, Nat.reduceEqDiff, Nat.reduceLT, Nat.reduceLeDiff, Nat.reduceAdd, Nat.reduceMul, Nat.reduceSub, reduceCtorEq, Int.reduceToNat, Int.reduceLT, Int.reduceLE, Int.reduceEq, Int.reduceNe, Int.reduceBEq, Nat.reduceBEq, Int.reduceBNe, Nat.reduceBNe, Int.reduceAdd, Int.reduceSub, Int.reduceMul, Int.reduceNeg]
      refine (RefGood_c k s f r y _).mono ?_; rintro _ _ ⟨rfl, rfl⟩
      cases g : goodE (k, s, f, r, y) with
      | false =>
        simp (dsimp := false) (maxSteps := 4000000) only [AH.le_refl, encE_len, encE_scal, go_sem, ↓reduceIte, Nat.reduceEqDiff, Nat.reduceLT, Nat.reduceLeDiff, Nat.reduceAdd, Nat.reduceMul, Nat.reduceSub, reduceCtorEq, Int.reduceToNat, Int.reduceLT, Int.reduceLE, Int.reduceEq, Int.reduceNe, Int.reduceBEq, Nat.reduceBEq, Int.reduceBNe, Nat.reduceBNe, Int.reduceAdd, Int.reduceSub, Int.reduceMul, Int.reduceNeg]
        refine out _ _ _ (by simp) ?_
        simp (dsimp := false) (maxSteps := 4000000) only [encE_len, encE_scal, go_sem, ↓reduceIte, Nat.reduceEqDiff, Nat.reduceLT, Nat.reduceLeDiff, Nat.reduceAdd, Nat.reduceMul, Nat.reduceSub, reduceCtorEq, Int.reduceToNat, Int.reduceLT, Int.reduceLE, Int.reduceEq, Int.reduceNe, Int.reduceBEq, Nat.reduceBEq, Int.reduceBNe, Nat.reduceBNe, Int.reduceAdd, Int.reduceSub, Int.reduceMul, Int.reduceNeg]
        exact ⟨H, (AH.le_refl _), (by first | exact ⟨by rw [mayB_no (i := i) (by omega) (by rw [hc, g]; rfl)], rfl⟩ | rfl)⟩
      | true =>
        by_cases k4 : k = 4
        · simp (dsimp := false) (maxSteps := 4000000) only [k4, AH.le_refl, h, r0, encE_len, encE_scal, go_sem, ↓reduceIte, Nat.reduceEqDiff, Nat.reduceLT, Nat.reduceLeDiff, Nat.reduceAdd, Nat.reduceMul, Nat.reduceSub, reduceCtorEq, Int.reduceToNat, Int.reduceLT, Int.reduceLE, Int.reduceEq, Int.reduceNe, Int.reduceBEq, Nat.reduceBEq, Int.reduceBNe, Nat.reduceBNe, Int.reduceAdd, Int.reduceSub, Int.reduceMul, Int.reduceNeg]
          refine out _ _ _ (by simp) ?_
          simp (dsimp := false) (maxSteps := 4000000) only [encE_len, encE_scal, go_sem, ↓reduceIte, Nat.reduceEqDiff, Nat.reduceLT, Nat.reduceLeDiff, Nat.reduceAdd, Nat.reduceMul, Nat.reduceSub, reduceCtorEq, Int.reduceToNat, Int.reduceLT, Int.reduceLE, Int.reduceEq, Int.reduceNe, Int.reduceBEq, Nat.reduceBEq, Int.reduceBNe, Nat.reduceBNe, Int.reduceAdd, Int.reduceSub, Int.reduceMul, Int.reduceNeg]
          exact ⟨H, (AH.le_refl _), (by first | exact ⟨by rw [mayB_no (i := i) (by omega) (by rw [hc, decide_eq_true k4]; simp)], rfl⟩ | rfl)⟩
        by_cases i0 : i = 0
        · have z : ¬ (0 : Int) < (i : Int) := by omega
          have pz : prv L i = 0 := by rw [prv, if_pos i0]
          have hs1 : 1 ≤ s := by
            simp only [goodE] at g
            rw [if_neg k4] at g
            simp only [placeB, Bool.and_eq_true, decide_eq_true_eq] at g
            omega
          simp (dsimp := false) (maxSteps := 4000000) only [k4, AH.le_refl, h, r0, z, ee, encE_len, encE_scal, go_sem, ↓reduceIte, Nat.reduceEqDiff, Nat.reduceLT, Nat.reduceLeDiff, Nat.reduceAdd, Nat.reduceMul, Nat.reduceSub, reduceCtorEq, Int.reduceToNat, Int.reduceLT, Int.reduceLE, Int.reduceEq, Int.reduceNe, Int.reduceBEq, Nat.reduceBEq, Int.reduceBNe, Nat.reduceBNe, Int.reduceAdd, Int.reduceSub, Int.reduceMul, Int.reduceNeg]
          refine again (i + 1) _ _ ⟨by omega, fun j hj => ?_⟩ (FrLe.of_lks (by simp (dsimp := false) (maxSteps := 4000000) only [encE_len, encE_scal, go_sem, ↓reduceIte, Nat.reduceEqDiff, Nat.reduceLT, Nat.reduceLeDiff, Nat.reduceAdd, Nat.reduceMul, Nat.reduceSub, reduceCtorEq, Int.reduceToNat, Int.reduceLT, Int.reduceLE, Int.reduceEq, Int.reduceNe, Int.reduceBEq, Nat.reduceBEq, Int.reduceBNe, Nat.reduceBNe, Int.reduceAdd, Int.reduceSub, Int.reduceMul, Int.reduceNeg])) (AH.le_refl _) (by omega)
          obtain rfl : j = i := by omega
          rw [hc, g, decide_eq_false k4, decide_eq_true (p := prv L j < s) (by omega)]; rfl
        · have ip : (0 : Int) < (i : Int) := by omega
          obtain ⟨x', hn'⟩ := get_some (l := L) (i := i - 1) (by omega)
          obtain ⟨b', o', hb', _, hrd'⟩ := hs.get (map_get (f := encE) hn')
          cases hb'
          have r1' := hrd' 1 _ rfl
          have em : IntKind.i64.wrap ((i : Int) - 1) = ((i - 1 : Nat) : Int) := by rw [i64_eq (by omega) (by omega)]; omega
          have hm1 : ((i - 1 : Nat) : Int) < L.length := by omega
          have hpv : prv L i = x'.2.1 := by
            have := prv_succ hn'
            rwa [show i - 1 + 1 = i from by omega] at this
          by_cases c : s ≤ x'.2.1
          · simp (dsimp := false) (maxSteps := 4000000) only [k4, AH.le_refl, h, r0, r1, r1', em, hm1, ip, c, encE_len, encE_scal, go_sem, ↓reduceIte, Nat.reduceEqDiff, Nat.reduceLT, Nat.reduceLeDiff, Nat.reduceAdd, Nat.reduceMul, Nat.reduceSub, reduceCtorEq, Int.reduceToNat, Int.reduceLT, Int.reduceLE, Int.reduceEq, Int.reduceNe, Int.reduceBEq, Nat.reduceBEq, Int.reduceBNe, Nat.reduceBNe, Int.reduceAdd, Int.reduceSub, Int.reduceMul, Int.reduceNeg]
            refine out _ _ _ (by simp) ?_
            simp (dsimp := false) (maxSteps := 4000000) only [encE_len, encE_scal, go_sem, ↓reduceIte, Nat.reduceEqDiff, Nat.reduceLT, Nat.reduceLeDiff, Nat.reduceAdd, Nat.reduceMul, Nat.reduceSub, reduceCtorEq, Int.reduceToNat, Int.reduceLT, Int.reduceLE, Int.reduceEq, Int.reduceNe, Int.reduceBEq, Nat.reduceBEq, Int.reduceBNe, Nat.reduceBNe, Int.reduceAdd, Int.reduceSub, Int.reduceMul, Int.reduceNeg]
            exact ⟨H, (AH.le_refl _), (by first | exact ⟨by rw [mayB_no (i := i) (by omega) (by rw [hc, decide_eq_false (p := prv L i < s) (by omega)]; simp)], rfl⟩ | rfl)⟩
          simp (dsimp := false) (maxSteps := 4000000) only [k4, AH.le_refl, h, r0, r1, r1', em, hm1, ip, c, ee, encE_len, encE_scal, go_sem, ↓reduceIte, Nat.reduceEqDiff, Nat.reduceLT, Nat.reduceLeDiff, Nat.reduceAdd, Nat.reduceMul, Nat.reduceSub, reduceCtorEq, Int.reduceToNat, Int.reduceLT, Int.reduceLE, Int.reduceEq, Int.reduceNe, Int.reduceBEq, Nat.reduceBEq, Int.reduceBNe, Nat.reduceBNe, Int.reduceAdd, Int.reduceSub, Int.reduceMul, Int.reduceNeg]
          refine again (i + 1) _ _ ⟨by omega, fun j hj => ?_⟩ (FrLe.of_lks (by simp (dsimp := false) (maxSteps := 4000000) only [encE_len, encE_scal, go_sem, ↓reduceIte, Nat.reduceEqDiff, Nat.reduceLT, Nat.reduceLeDiff, Nat.reduceAdd, Nat.reduceMul, Nat.reduceSub, reduceCtorEq, Int.reduceToNat, Int.reduceLT, Int.reduceLE, Int.reduceEq, Int.reduceNe, Int.reduceBEq, Nat.reduceBEq, Int.reduceBNe, Nat.reduceBNe, Int.reduceAdd, Int.reduceSub, Int.reduceMul, Int.reduceNeg])) (AH.le_refl _) (by omega)
          by_cases hji : j = i
          · subst hji; rw [hc, g, decide_eq_false k4, decide_eq_true (by omega)]; rfl
          · exact hall j (by omega)
    · have hy := mayB_yes (by omega) hall
      simp (dsimp := false) (maxSteps := 4000000) only [h, encE_len, encE_scal, go_sem, ↓reduceIte, Nat.reduceEqDiff, Nat.reduceLT, Nat.reduceLeDiff, Nat.reduceAdd, Nat.reduceMul, Nat.reduceSub, reduceCtorEq, Int.reduceToNat, Int.reduceLT, Int.reduceLE, Int.reduceEq, Int.reduceNe, Int.reduceBEq, Nat.reduceBEq, Int.reduceBNe, Nat.reduceBNe, Int.reduceAdd, Int.reduceSub, Int.reduceMul, Int.reduceNeg]
      refine out _ _ _ (by simp) ?_
      by_cases c : (L.length : Int) ≤ 64
      · simp (dsimp := false) (maxSteps := 4000000) only [c, encE_len, encE_scal, go_sem, ↓reduceIte, Nat.reduceEqDiff, Nat.reduceLT, Nat.reduceLeDiff, Nat.reduceAdd, Nat.reduceMul, Nat.reduceSub, reduceCtorEq, Int.reduceToNat, Int.reduceLT, Int.reduceLE, Int.reduceEq, Int.reduceNe, Int.reduceBEq, Nat.reduceBEq, Int.reduceBNe, Nat.reduceBNe, Int.reduceAdd, Int.reduceSub, Int.reduceMul, Int.reduceNeg]
        exact ⟨H, (AH.le_refl _), (by first | exact ⟨by rw [hy, decide_eq_true (by omega)], rfl⟩ | rfl)⟩
      · simp (dsimp := false) (maxSteps := 4000000) only [c, encE_len, encE_scal, go_sem, ↓reduceIte, Nat.reduceEqDiff, Nat.reduceLT, Nat.reduceLeDiff, Nat.reduceAdd, Nat.reduceMul, Nat.reduceSub, reduceCtorEq, Int.reduceToNat, Int.reduceLT, Int.reduceLE, Int.reduceEq, Int.reduceNe, Int.reduceBEq, Nat.reduceBEq, Int.reduceBNe, Nat.reduceBNe, Int.reduceAdd, Int.reduceSub, Int.reduceMul, Int.reduceNeg]
        exact ⟨H, (AH.le_refl _), (by first | exact ⟨by rw [hy, decide_eq_false (by omega)], rfl⟩ | rfl)⟩
theorem encE_z5 (x : En) : lput [.int .i64 0, .int .i64 0, .int .i64 0, .int .i64 0, .int .i64 0] 0 (encE x) = encE x := rfl
theorem encE_0 (x : En) : (encE x)[0]? = some (.int .i64 x.1) := rfl
theorem encE_1 (x : En) : (encE x)[1]? = some (.int .i64 x.2.1) := rfl
theorem encE_take (x : En) : (encE x).take 5 = encE x := rfl
theorem Put_v (x : En) (H : AH) : ACalls Try.prog 120 #[.agg (encE x).toArray] H (fun v H' => v = .tuple #[.agg (enc (pR x)).toArray, .int .i64 (pE x)] ∧ H = H') := Put_u x.1 x.2.1 x.2.2.1 x.2.2.2.1 x.2.2.2.2 H
def er : Rc := (4, 0, 0, 0)
def fileS (L : List En) (i : Nat) : List Rc := hd 3 ((L.length + 1 : Nat) : Int) :: ((L.take i).map pR ++ List.replicate (L.length + 1 - i) zr)
def fileE (L : List En) : List Rc := hd 3 ((L.length + 1 : Nat) : Int) :: (L.map pR ++ [er])
theorem fileS_zero (L : List En) : fileS L 0 = newR 3 (L.length + 1) := rfl
theorem fileS_all (L : List En) : (fileS L L.length).set (L.length + 1) er = fileE L := by
  simp only [fileS, fileE, List.take_length, show L.length + 1 - L.length = 1 from by omega, List.replicate_one, List.set_cons_succ]
  rw [List.set_append_right _ _ (by simp)]
  simp
theorem fileS_len {L : List En} {i : Nat} (h : i ≤ L.length) : (fileS L i).length = L.length + 2 := by simp [fileS]; omega
theorem fileE_len (L : List En) : (fileE L).length = L.length + 2 := by simp [fileE]
theorem fileS_set {L : List En} {i : Nat} {x : En} (h : L[i]? = some x) : (fileS L i).set (i + 1) (pR x) = fileS L (i + 1) := by
  have hi := lt_of_get h
  simp only [fileS, List.set_cons_succ]
  rw [List.set_append_right _ _ (by simp; omega), show L.length + 1 - i = (L.length + 1 - (i + 1)) + 1 from by omega, List.replicate_succ]
  have : i - ((L.take i).map pR).length = 0 := by simp; omega
  rw [this, List.set_cons_zero, List.take_add_one, h]
  simp
theorem mayB_len {L : List En} (h : mayB L = true) : L.length ≤ 64 := by
  simp only [mayB, Bool.and_eq_true, decide_eq_true_eq] at h
  exact h.2
theorem pR_er : pR (4, 0, 0, 0, 0) = er := by decide
theorem File_bad {L : List En} {base : Option Addr} {cap : Nat} {H : AH} (hs : SlcIn H 5 base cap (L.map encE)) (g : mayB L = false) :
    ACalls Try.prog 103 #[.slice base L.length cap] H (fun v H' => v = fbad 1 ∧ H = H') := by
  refine ACalls.enter2 Try.func103 rfl Try.ntmps103 Try.results103 (by simp) ?_; simp (dsimp := false) (maxSteps := 4000000) only [go_sem, ↓reduceIte, Nat.reduceEqDiff, Nat.reduceLT, Nat.reduceLeDiff, Nat.reduceAdd, Nat.reduceMul, Nat.reduceSub, reduceCtorEq, Int.reduceToNat, Int.reduceLT, Int.reduceLE, Int.reduceEq, Int.reduceNe, Int.reduceBEq, Nat.reduceBEq, Int.reduceBNe, Nat.reduceBNe, Int.reduceAdd, Int.reduceSub, Int.reduceMul, Int.reduceNeg]
  refine AllB.mk fun b2 h_b2 => ?_; have hn_b2 := h_b2; (try simp only [fresh_add, fresh_set, ne_eq] at hn_b2); have hr_b2 := hn_b2; (try simp only [@eq_comm Nat b2] at hr_b2); simp (dsimp := false) (maxSteps := 4000000) only [hn_b2, hr_b2, go_sem, ↓reduceIte, Nat.reduceEqDiff, Nat.reduceLT, Nat.reduceLeDiff, Nat.reduceAdd, Nat.reduceMul, Nat.reduceSub, reduceCtorEq, Int.reduceToNat, Int.reduceLT, Int.reduceLE, Int.reduceEq, Int.reduceNe, Int.reduceBEq, Nat.reduceBEq, Int.reduceBNe, Nat.reduceBNe, Int.reduceAdd, Int.reduceSub, Int.reduceMul, Int.reduceNeg]
  refine (table_c L base cap _ (hs.add (by simp only [fresh_add, ne_eq, hn_b2, not_false_eq_true, and_self] : Fresh _ b2))).mono ?_; rintro _ _ ⟨rfl, rfl⟩
  simp (dsimp := false) (maxSteps := 4000000) only [g, hn_b2, hr_b2, go_sem, ↓reduceIte, Nat.reduceEqDiff, Nat.reduceLT, Nat.reduceLeDiff, Nat.reduceAdd, Nat.reduceMul, Nat.reduceSub, reduceCtorEq, Int.reduceToNat, Int.reduceLT, Int.reduceLE, Int.reduceEq, Int.reduceNe, Int.reduceBEq, Nat.reduceBEq, Int.reduceBNe, Nat.reduceBNe, Int.reduceAdd, Int.reduceSub, Int.reduceMul, Int.reduceNeg]
  exact ⟨H, (AH.le_add (AH.le_refl _) ((by simp only [fresh_add, fresh_set, ne_eq, hn_b2, not_false_eq_true, and_self] : Fresh _ b2).2)), (by first | exact ⟨rfl, rfl⟩ | rfl)⟩
theorem File_ok {L : List En} {base : Option Addr} {cap : Nat} {H : AH} (hs : SlcIn H 5 base cap (L.map encE)) (g : mayB L = true) :
    ACalls Try.prog 103 #[.slice base L.length cap] H (fun v H' => ∃ b, Fresh H b ∧ v = .tuple #[.agg #[.int .i64 3, .slice (some ⟨b, 0, none⟩) (L.length + 2) (L.length + 2)], .int .i64 0] ∧ H' = H.add b (.cells ((fileE L).map enc).flatten 41 ((L.length + 2) * 4))) := by
  have hl := mayB_len g
  have e0 := i64_succ (i := L.length) (by omega)
  refine ACalls.enter2 Try.func103 rfl Try.ntmps103 Try.results103 (by simp) ?_; simp (dsimp := false) (maxSteps := 4000000) only [e0, enc_len, enc_scal, enc_take, encE_len, encE_scal, encE_z5, encE_take, go_sem, ↓reduceIte, Nat.reduceEqDiff, Nat.reduceLT, Nat.reduceLeDiff, Nat.reduceAdd, Nat.reduceMul, Nat.reduceSub, reduceCtorEq, Int.reduceToNat, Int.reduceLT, Int.reduceLE, Int.reduceEq, Int.reduceNe, Int.reduceBEq, Nat.reduceBEq, Int.reduceBNe, Nat.reduceBNe, Int.reduceAdd, Int.reduceSub, Int.reduceMul, Int.reduceNeg]
  refine AllB.mk fun b2 h_b2 => ?_; have hn_b2 := h_b2; (try simp only [fresh_add, fresh_set, ne_eq] at hn_b2); have hr_b2 := hn_b2; (try simp only [@eq_comm Nat b2] at hr_b2); simp (dsimp := false) (maxSteps := 4000000) only [e0, enc_len, enc_scal, enc_take, encE_len, encE_scal, encE_z5, encE_take, hn_b2, hr_b2, go_sem, ↓reduceIte, Nat.reduceEqDiff, Nat.reduceLT, Nat.reduceLeDiff, Nat.reduceAdd, Nat.reduceMul, Nat.reduceSub, reduceCtorEq, Int.reduceToNat, Int.reduceLT, Int.reduceLE, Int.reduceEq, Int.reduceNe, Int.reduceBEq, Nat.reduceBEq, Int.reduceBNe, Nat.reduceBNe, Int.reduceAdd, Int.reduceSub, Int.reduceMul, Int.reduceNeg]
  refine (table_c L base cap _ (hs.add (by simp only [fresh_add, ne_eq, hn_b2, not_false_eq_true, and_self] : Fresh _ b2))).mono ?_; rintro _ _ ⟨rfl, rfl⟩
  simp (dsimp := false) (maxSteps := 4000000) only [g, e0, enc_len, enc_scal, enc_take, encE_len, encE_scal, encE_z5, encE_take, hn_b2, hr_b2, go_sem, ↓reduceIte, Nat.reduceEqDiff, Nat.reduceLT, Nat.reduceLeDiff, Nat.reduceAdd, Nat.reduceMul, Nat.reduceSub, reduceCtorEq, Int.reduceToNat, Int.reduceLT, Int.reduceLE, Int.reduceEq, Int.reduceNe, Int.reduceBEq, Nat.reduceBEq, Int.reduceBNe, Nat.reduceBNe, Int.reduceAdd, Int.reduceSub, Int.reduceMul, Int.reduceNeg]
  refine (New_c 3 (L.length + 1) ⟨by decide, by decide, by omega, by omega⟩ _).mono ?_; rintro _ _ ⟨bn, h_bn, rfl, rfl⟩
  have hn_bn := h_bn; (try simp only [fresh_add, fresh_set, ne_eq] at hn_bn); have hr_bn := hn_bn; (try simp only [@eq_comm Nat bn] at hr_bn)
  unfold fv
  simp (dsimp := false) (maxSteps := 4000000) only [e0, enc_len, enc_scal, enc_take, encE_len, encE_scal, encE_z5, encE_take, hn_b2, hr_b2, hn_bn, hr_bn, go_sem, ↓reduceIte, Nat.reduceEqDiff, Nat.reduceLT, Nat.reduceLeDiff, Nat.reduceAdd, Nat.reduceMul, Nat.reduceSub, reduceCtorEq, Int.reduceToNat, Int.reduceLT, Int.reduceLE, Int.reduceEq, Int.reduceNe, Int.reduceBEq, Nat.reduceBEq, Int.reduceBNe, Nat.reduceBNe, Int.reduceAdd, Int.reduceSub, Int.reduceMul, Int.reduceNeg]
  refine AllB.mk fun b4 h_b4 => ?_; have hn_b4 := h_b4; (try simp only [fresh_add, fresh_set, ne_eq] at hn_b4); have hr_b4 := hn_b4; (try simp only [@eq_comm Nat b4] at hr_b4); simp (dsimp := false) (maxSteps := 4000000) only [e0, enc_len, enc_scal, enc_take, encE_len, encE_scal, encE_z5, encE_take, hn_b2, hr_b2, hn_bn, hr_bn, hn_b4, hr_b4, go_sem, ↓reduceIte, Nat.reduceEqDiff, Nat.reduceLT, Nat.reduceLeDiff, Nat.reduceAdd, Nat.reduceMul, Nat.reduceSub, reduceCtorEq, Int.reduceToNat, Int.reduceLT, Int.reduceLE, Int.reduceEq, Int.reduceNe, Int.reduceBEq, Nat.reduceBEq, Int.reduceBNe, Nat.reduceBNe, Int.reduceAdd, Int.reduceSub, Int.reduceMul, Int.reduceNeg]
  rw [← fileS_zero]
  refine AWp.loopo (ι := Nat) (fun i => i ≤ L.length) (fun i => [(21, .int .i64 i), (20, .int .i64 L.length), (19, .slice base L.length cap), (0, .slice base L.length cap), (2, .pointer (some ⟨b2, 0, none⟩)), (4, .pointer (some ⟨b4, 0, none⟩)), (5, .int .i64 0)])
    (fun i => ((H.add b2 (.cells [.int .i64 0, .slice none 0 0] 148 2)).add bn (.cells ((fileS L i).map enc).flatten 41 ((L.length + 1 + 1) * 4))).add b4 (.cells [.int .i64 3, .slice (some ⟨bn, 0, none⟩) (L.length + 1 + 1) (L.length + 1 + 1)] 148 2)) (fun i => L.length - i) 0 (by omega) (FrLe.of_lks ?_) (AH.le_refl _) fun i hi Q again out => ?_
  · simp (dsimp := false) (maxSteps := 4000000) only [e0, enc_len, enc_scal, enc_take, encE_len, encE_scal, encE_z5, encE_take, hn_b2, hr_b2, hn_bn, hr_bn, hn_b4, hr_b4, go_sem, ↓reduceIte, Nat.reduceEqDiff, Nat.reduceLT, Nat.reduceLeDiff, Nat.reduceAdd, Nat.reduceMul, Nat.reduceSub, reduceCtorEq, Int.reduceToNat, Int.reduceLT, Int.reduceLE, Int.reduceEq, Int.reduceNe, Int.reduceBEq, Nat.reduceBEq, Int.reduceBNe, Nat.reduceBNe, Int.reduceAdd, Int.reduceSub, Int.reduceMul, Int.reduceNeg]
  · by_cases h : (i : Int) < L.length
    · obtain ⟨x, hn⟩ := get_some (l := L) (i := i) (by omega)
      obtain ⟨b, o, rfl, hrow, _⟩ := hs.get (map_get (f := encE) hn)
      have ee := i64_succ (i := i) (by omega)
      have e2 : IntKind.i64.wrap (1 + (i : Int)) = ((i + 1 : Nat) : Int) := by rw [i64_eq (by omega) (by omega)]; omega
      have c1 : ((i + 1 : Nat) : Int) < ((L.length + 1 + 1 : Nat) : Int) := by omega
      have nr_hrow := (And.intro (Fresh.ne_row (by simp only [hn_b2] : Fresh H b2) hrow) (And.intro (Fresh.ne_row (by simp only [hn_bn] : Fresh H bn) hrow) (Fresh.ne_row (by simp only [hn_b4] : Fresh H b4) hrow)))
      have hst := put4 (pR x) (L := fileS L i) (i := i + 1) (by rw [fileS_len hi]; omega)
      rw [fileS_set hn] at hst
      have hl4 := flat4 (fileS L i)
      rw [fileS_len hi] at hl4
      have c2 : (i + 1) * 4 + 4 ≤ (L.length + 2) * 4 := by omega
      have c3 : (L.length + 2) * 4 ≤ (L.length + 1 + 1) * 4 := by omega
      
      simp (dsimp := false) (maxSteps := 4000000) only [h, hrow, nr_hrow, e0, enc_len, enc_scal, enc_take, encE_len, encE_scal, encE_z5, encE_take, hn_b2, hr_b2, hn_bn, hr_bn, hn_b4, hr_b4, go_sem, ↓reduceIte, Nat.reduceEqDiff, Nat.reduceLT, Nat.reduceLeDiff, Nat.reduceAdd, Nat.reduceMul, Nat.reduceSub, reduceCtorEq, Int.reduceToNat, Int.reduceLT, Int.reduceLE, Int.reduceEq, Int.reduceNe, Int.reduceBEq, Nat.reduceBEq, Int.reduceBNe, Nat.reduceBNe, Int.reduceAdd, Int.reduceSub, Int.reduceMul, Int.reduceNeg]
      refine AllB.mk fun b7 h_b7 => ?_; have hn_b7 := h_b7; (try simp only [fresh_add, fresh_set, ne_eq] at hn_b7); have hr_b7 := hn_b7; (try simp only [@eq_comm Nat b7] at hr_b7); simp (dsimp := false) (maxSteps := 4000000) only [e0, enc_len, enc_scal, enc_take, encE_len, encE_scal, encE_z5, encE_take, hn_b2, hr_b2, hn_bn, hr_bn, hn_b4, hr_b4, hn_b7, hr_b7, go_sem, ↓reduceIte, Nat.reduceEqDiff, Nat.reduceLT, Nat.reduceLeDiff, Nat.reduceAdd, Nat.reduceMul, Nat.reduceSub, reduceCtorEq, Int.reduceToNat, Int.reduceLT, Int.reduceLE, Int.reduceEq, Int.reduceNe, Int.reduceBEq, Nat.reduceBEq, Int.reduceBNe, Nat.reduceBNe, Int.reduceAdd, Int.reduceSub, Int.reduceMul, Int.reduceNeg]
      refine AWp.gen [.pu, .rd, .pu, .pu, .rd, .ch, .pu, .pu, .pu, .pu, .ch] [0, 1, 0, 4, 0, 16, 48, 112, 112, 255, 767] 6 (_) mixed (by kernel_rfl) (AH.le_refl _) ?_
      simp (dsimp := false) (maxSteps := 4000000) only [AH.le_refl, e0, enc_len, enc_scal, enc_take, encE_len, encE_scal, encE_z5, encE_take, hn_b2, hr_b2, hn_bn, hr_bn, hn_b4, hr_b4, hn_b7, hr_b7, go_sem, ↓reduceIte, Nat.reduceEqDiff, Nat.reduceLT, Nat.reduceLeDiff, Nat.reduceAdd, Nat.reduceMul, Nat.reduceSub, reduceCtorEq, Int.reduceToNat, Int.reduceLT, Int.reduceLE, Int.reduceEq, Int.reduceNe, Int.reduceBEq, Nat.reduceBEq, Int.reduceBNe, Nat.reduceBNe, Int.reduceAdd, Int.reduceSub, Int.reduceMul, Int.reduceNeg]
      refine (Put_v x _).mono ?_; rintro _ _ ⟨rfl, rfl⟩
      simp (dsimp := false) (maxSteps := 4000000) only [AH.le_refl, e2, c1, hst, hl4, c2, c3, ee, e0, enc_len, enc_scal, enc_take, encE_len, encE_scal, encE_z5, encE_take, hn_b2, hr_b2, hn_bn, hr_bn, hn_b4, hr_b4, hn_b7, hr_b7, go_sem, ↓reduceIte, Nat.reduceEqDiff, Nat.reduceLT, Nat.reduceLeDiff, Nat.reduceAdd, Nat.reduceMul, Nat.reduceSub, reduceCtorEq, Int.reduceToNat, Int.reduceLT, Int.reduceLE, Int.reduceEq, Int.reduceNe, Int.reduceBEq, Nat.reduceBEq, Int.reduceBNe, Nat.reduceBNe, Int.reduceAdd, Int.reduceSub, Int.reduceMul, Int.reduceNeg]
      exact again (i + 1) _ _ (by omega) (FrLe.of_lks (by simp (dsimp := false) (maxSteps := 4000000) only [ee, e0, enc_len, enc_scal, enc_take, encE_len, encE_scal, encE_z5, encE_take, hn_b2, hr_b2, hn_bn, hr_bn, hn_b4, hr_b4, hn_b7, hr_b7, go_sem, ↓reduceIte, Nat.reduceEqDiff, Nat.reduceLT, Nat.reduceLeDiff, Nat.reduceAdd, Nat.reduceMul, Nat.reduceSub, reduceCtorEq, Int.reduceToNat, Int.reduceLT, Int.reduceLE, Int.reduceEq, Int.reduceNe, Int.reduceBEq, Nat.reduceBEq, Int.reduceBNe, Nat.reduceBNe, Int.reduceAdd, Int.reduceSub, Int.reduceMul, Int.reduceNeg])) (by refine AH.le_cons ?_ ?_; (show AH.find _ _ = _; simp only [find_add_self, find_add_ne, find_fresh, fresh_add, ne_eq, not_false_eq_true, true_and, and_true, and_self, e0, enc_len, enc_scal, enc_take, encE_len, encE_scal, encE_z5, encE_take, hn_b2, hr_b2, hn_bn, hr_bn, hn_b4, hr_b4, hn_b7, hr_b7]); refine AH.le_cons ?_ ?_; (show AH.find _ _ = _; simp only [find_add_self, find_add_ne, find_fresh, fresh_add, ne_eq, not_false_eq_true, true_and, and_true, and_self, e0, enc_len, enc_scal, enc_take, encE_len, encE_scal, encE_z5, encE_take, hn_b2, hr_b2, hn_bn, hr_bn, hn_b4, hr_b4, hn_b7, hr_b7]); refine AH.le_cons ?_ ?_; (show AH.find _ _ = _; simp only [find_add_self, find_add_ne, find_fresh, fresh_add, ne_eq, not_false_eq_true, true_and, and_true, and_self, e0, enc_len, enc_scal, enc_take, encE_len, encE_scal, encE_z5, encE_take, hn_b2, hr_b2, hn_bn, hr_bn, hn_b4, hr_b4, hn_b7, hr_b7]); (repeat (first | exact AH.le_refl _ | refine AH.le_add ?_ ?_)); all_goals (first | exact AH.le_refl _ | (show AH.find _ _ = _; simp only [find_add_self, find_add_ne, find_fresh, fresh_add, ne_eq, not_false_eq_true, true_and, and_true, and_self, e0, enc_len, enc_scal, enc_take, encE_len, encE_scal, encE_z5, encE_take, hn_b2, hr_b2, hn_bn, hr_bn, hn_b4, hr_b4, hn_b7, hr_b7]))) (by omega)
      
    · obtain rfl : i = L.length := by omega
      simp (dsimp := false) (maxSteps := 4000000) only [h, e0, enc_len, enc_scal, enc_take, encE_len, encE_scal, encE_z5, encE_take, hn_b2, hr_b2, hn_bn, hr_bn, hn_b4, hr_b4, go_sem, ↓reduceIte, Nat.reduceEqDiff, Nat.reduceLT, Nat.reduceLeDiff, Nat.reduceAdd, Nat.reduceMul, Nat.reduceSub, reduceCtorEq, Int.reduceToNat, Int.reduceLT, Int.reduceLE, Int.reduceEq, Int.reduceNe, Int.reduceBEq, Nat.reduceBEq, Int.reduceBNe, Nat.reduceBNe, Int.reduceAdd, Int.reduceSub, Int.reduceMul, Int.reduceNeg]
      refine out _ _ _ (by simp) ?_
      simp (dsimp := false) (maxSteps := 4000000) only [e0, enc_len, enc_scal, enc_take, encE_len, encE_scal, encE_z5, encE_take, hn_b2, hr_b2, hn_bn, hr_bn, hn_b4, hr_b4, go_sem, ↓reduceIte, Nat.reduceEqDiff, Nat.reduceLT, Nat.reduceLeDiff, Nat.reduceAdd, Nat.reduceMul, Nat.reduceSub, reduceCtorEq, Int.reduceToNat, Int.reduceLT, Int.reduceLE, Int.reduceEq, Int.reduceNe, Int.reduceBEq, Nat.reduceBEq, Int.reduceBNe, Nat.reduceBNe, Int.reduceAdd, Int.reduceSub, Int.reduceMul, Int.reduceNeg]
      have e2 : IntKind.i64.wrap (1 + (L.length : Int)) = ((L.length + 1 : Nat) : Int) := by rw [i64_eq (by omega) (by omega)]; omega
      have c1 : ((L.length + 1 : Nat) : Int) < ((L.length + 1 + 1 : Nat) : Int) := by omega
      have hst := put4 er (L := fileS L L.length) (i := L.length + 1) (by rw [fileS_len hi]; omega)
      rw [fileS_all] at hst
      have hl4 := flat4 (fileS L L.length)
      rw [fileS_len hi] at hl4
      have c2 : (L.length + 1) * 4 + 4 ≤ (L.length + 2) * 4 := by omega
      have c3 : (L.length + 2) * 4 ≤ (L.length + 1 + 1) * 4 := by omega
      refine AWp.gen [.pu, .rd, .pu, .pu, .pu, .pu, .ch, .pu, .pu, .pu, .pu, .ch] [0, 1, 0, 4, 12, 0, 32, 96, 224, 224, 511, 1535] 7 (_) mixed (by kernel_rfl) (AH.le_refl _) ?_
      simp (dsimp := false) (maxSteps := 4000000) only [e0, enc_len, enc_scal, enc_take, encE_len, encE_scal, encE_z5, encE_take, hn_b2, hr_b2, hn_bn, hr_bn, hn_b4, hr_b4, go_sem, ↓reduceIte, Nat.reduceEqDiff, Nat.reduceLT, Nat.reduceLeDiff, Nat.reduceAdd, Nat.reduceMul, Nat.reduceSub, reduceCtorEq, Int.reduceToNat, Int.reduceLT, Int.reduceLE, Int.reduceEq, Int.reduceNe, Int.reduceBEq, Nat.reduceBEq, Int.reduceBNe, Nat.reduceBNe, Int.reduceAdd, Int.reduceSub, Int.reduceMul, Int.reduceNeg]
      refine (Put_u 4 0 0 0 0 _).mono ?_; rintro _ _ ⟨rfl, rfl⟩
      rw [pR_er]
      simp (dsimp := false) (maxSteps := 4000000) only [AH.le_refl, e2, c1, hst, hl4, c2, c3, e0, enc_len, enc_scal, enc_take, encE_len, encE_scal, encE_z5, encE_take, hn_b2, hr_b2, hn_bn, hr_bn, hn_b4, hr_b4, go_sem, ↓reduceIte, Nat.reduceEqDiff, Nat.reduceLT, Nat.reduceLeDiff, Nat.reduceAdd, Nat.reduceMul, Nat.reduceSub, reduceCtorEq, Int.reduceToNat, Int.reduceLT, Int.reduceLE, Int.reduceEq, Int.reduceNe, Int.reduceBEq, Nat.reduceBEq, Int.reduceBNe, Nat.reduceBNe, Int.reduceAdd, Int.reduceSub, Int.reduceMul, Int.reduceNeg]
      exact ⟨_, (by refine AH.le_cons ?_ ?_; (show AH.find _ _ = _; simp only [find_add_self, find_add_ne, find_fresh, fresh_add, ne_eq, not_false_eq_true, true_and, and_true, and_self, e0, enc_len, enc_scal, enc_take, encE_len, encE_scal, encE_z5, encE_take, hn_b2, hr_b2, hn_bn, hr_bn, hn_b4, hr_b4]); (repeat (first | exact AH.le_refl _ | refine AH.le_add ?_ ?_)); all_goals (first | exact AH.le_refl _ | (show AH.find _ _ = _; simp only [find_add_self, find_add_ne, find_fresh, fresh_add, ne_eq, not_false_eq_true, true_and, and_true, and_self, e0, enc_len, enc_scal, enc_take, encE_len, encE_scal, encE_z5, encE_take, hn_b2, hr_b2, hn_bn, hr_bn, hn_b4, hr_b4]))), bn, hn_bn.2, rfl, rfl⟩
def fP (L : List En) : Int := if mayB L = true then 3 else 0
def fR (L : List En) : List Rc := if mayB L = true then fileE L else []
def fE (L : List En) : Int := if mayB L = true then 0 else 1
theorem File_u {L : List En} {n : Nat} {base : Option Addr} {cap : Nat} {H : AH} (hs : SlcIn H 5 base cap (L.map encE)) (hn : n = L.length) :
    ACalls Try.prog 103 #[.slice base n cap] H (fun v H' => ∃ b c, v = .tuple #[.agg #[.int .i64 (fP L), .slice b (fR L).length c], .int .i64 (fE L)] ∧ Got H H' 4 b c ((fR L).map enc)) := by
  subst hn
  cases g : mayB L with
  | true =>
    have h1 : fR L = fileE L := by simp [fR, g]
    have hl := mayB_len g
    refine (File_ok hs g).mono fun v H' ⟨b, h2, h3, h4⟩ => ⟨some ⟨b, 0, none⟩, L.length + 2, ?_, ?_⟩
    · rw [h1, fileE_len, h3]; simp [fP, fE, g]
    · rw [h1, h4]; exact Got.add h2 (rows4 _) (by rw [List.length_map, fileE_len]; omega) (by rw [List.length_map, fileE_len]; omega)
  | false =>
    have h1 : fR L = [] := by simp [fR, g]
    refine (File_bad hs g).mono fun v H' ⟨h3, h4⟩ => ⟨none, 0, ?_, ?_⟩
    · rw [h1, h3]; simp [fP, fE, g, fbad]
    · rw [h1, ← h4]; exact Got.nil
end Go.Proofs.Ytgikjbfpckjkoaa.Chk
