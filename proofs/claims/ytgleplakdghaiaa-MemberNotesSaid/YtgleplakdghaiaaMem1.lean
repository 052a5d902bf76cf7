/- IndexFunc, ContainsFunc, DeleteFunc of entries. -/
import Derived.Test.YtgleplakdghaiaaTy
import Derived.Test.YtgleplakdghaiaaAx20
namespace Go.Proofs.Ytgleplakdghaiaa.Mem
set_option linter.unusedSimpArgs false
set_option linter.unusedVariables false
open Go Go.AX Go.Proofs Ty
set_option maxHeartbeats 4000000
set_option maxRecDepth 10000

abbrev Ent := Int × Int × Int × Int × Int
def encE (x : Ent) : List Value := [.int .i64 x.1, .int .i64 x.2.1, .int .i64 x.2.2.1, .int .i64 x.2.2.2.1, .int .i64 x.2.2.2.2]
theorem rowsE (L : List Ent) : ∀ r ∈ L.map encE, r.length = 5 := fun r hr => by
  obtain ⟨x, _, rfl⟩ := List.mem_map.1 hr
  rfl
theorem scalE : ∀ (L : List Ent), (L.map encE).flatten.all scal = true
  | [] => rfl
  | x :: L => by
    rw [List.map_cons, List.flatten_cons, List.all_append, scalE L]; rfl
theorem flatE_len : ∀ (L : List Ent), (L.map encE).flatten.length = L.length * 5
  | [] => rfl
  | x :: L => by
    rw [List.map_cons, List.flatten_cons, List.length_append, flatE_len L, List.length_cons]
    show 5 + _ = _
    omega
/-- The first that meets g: what an index of it comes to. -/
def Ix (g : Ent → Bool) (L : List Ent) (r : Int) : Prop := (r = -1 ∧ ∀ x ∈ L, g x = false) ∨ ∃ (i : Nat) (x : Ent), L[i]? = some x ∧ g x = true ∧ r = i ∧ ∀ j, j < i → ∀ y, L[j]? = some y → g y = false
theorem Index_g {g : Ent → Bool} {fid : Nat} {caps : List Value} {L : List Ent} {n : Nat} {base : Option Addr} {cap : Nat} {H : AH} (hs : SlcIn H 5 base cap (L.map encE)) (hn : n = L.length) (hok : fnOk Try.prog fid = true)
    (hf : ∀ x ∈ L, ACalls Try.prog fid ([] ++ [Value.agg (encE x).toArray] ++ caps).toArray H (fun v H' => v = .bool (g x) ∧ H = H')) :
    ACalls Try.prog 18 #[.slice base n cap, .func (.func fid) #[] caps.toArray] H (fun v H' => ∃ r : Int, v = .int .i64 r ∧ Ix g L r ∧ H = H') := by
  subst hn
  have hbig := hs.big
  simp only [List.length_map] at hbig
  refine ACalls.enter2 Try.func18 rfl Try.ntmps18 Try.results18 (by simp) ?_; simp (dsimp := false) (maxSteps := 4000000) only [go_sem, ↓reduceIte, Nat.reduceEqDiff, Nat.reduceLT, Nat.reduceLeDiff, Nat.reduceAdd, Nat.reduceMul, Nat.reduceSub, reduceCtorEq, Int.reduceToNat, Int.reduceLT, Int.reduceLE, Int.reduceEq, Int.reduceNe, Int.reduceBEq, Nat.reduceBEq, Int.reduceBNe, Nat.reduceBNe, Int.reduceAdd, Int.reduceSub, Int.reduceMul, Int.reduceNeg]
  refine AWp.loopo (ι := Nat) (fun i => i ≤ L.length ∧ ∀ j, j < i → ∀ y, L[j]? = some y → g y = false) (fun i => [(8, .int .i64 i), (7, .int .i64 L.length), (0, .slice base L.length cap), (1, .func (.func fid) #[] caps.toArray)])
    (fun _ => H) (fun i => L.length - i) 0 ⟨by omega, fun j hj => by omega⟩ (FrLe.of_lks ?_) (AH.le_refl _) fun i hi Q again out => ?_
  · simp (dsimp := false) (maxSteps := 4000000) only [go_sem, ↓reduceIte, Nat.reduceEqDiff, Nat.reduceLT, Nat.reduceLeDiff, Nat.reduceAdd, Nat.reduceMul, Nat.reduceSub, reduceCtorEq, Int.reduceToNat, Int.reduceLT, Int.reduceLE, Int.reduceEq, Int.reduceNe, Int.reduceBEq, Nat.reduceBEq, Int.reduceBNe, Nat.reduceBNe, Int.reduceAdd, Int.reduceSub, Int.reduceMul, Int.reduceNeg]
  · obtain ⟨hi, hall⟩ := hi
    by_cases h : (i : Int) < L.length
    · obtain ⟨x, hx⟩ := get_some (l := L) (i := i) (by omega)
      obtain ⟨b, o, rfl, hrow, _⟩ := hs.get (map_get (f := encE) hx)
      have ee := i64_succ (i := i) (by omega)
      simp (dsimp := false) (maxSteps := 4000000) only [h, hrow, hok, go_sem, ↓reduceIte, Nat.reduceEqDiff, Nat.reduceLT, Nat.reduceLeDiff, Nat.reduceAdd, Nat.reduceMul, Nat.reduceSub, reduceCtorEq, Int.reduceToNat, Int.reduceLT, Int.reduceLE, Int.reduceEq, Int.reduceNe, Int.reduceBEq, Nat.reduceBEq, Int.reduceBNe, Nat.reduceBNe, Int.reduceAdd, Int.reduceSub, Int.reduceMul, Int.reduceNeg]
      refine (hf x (List.mem_of_getElem? hx)).mono ?_; rintro _ _ ⟨rfl, rfl⟩
      cases hb : g x with
      | true =>
        simp (dsimp := false) (maxSteps := 4000000) only [go_sem, ↓reduceIte, Nat.reduceEqDiff, Nat.reduceLT, Nat.reduceLeDiff, Nat.reduceAdd, Nat.reduceMul, Nat.reduceSub, reduceCtorEq, Int.reduceToNat, Int.reduceLT, Int.reduceLE, Int.reduceEq, Int.reduceNe, Int.reduceBEq, Nat.reduceBEq, Int.reduceBNe, Nat.reduceBNe, Int.reduceAdd, Int.reduceSub, Int.reduceMul, Int.reduceNeg]
        refine out _ _ _ (by simp) ?_
        simp (dsimp := false) (maxSteps := 4000000) only [go_sem, ↓reduceIte, Nat.reduceEqDiff, Nat.reduceLT, Nat.reduceLeDiff, Nat.reduceAdd, Nat.reduceMul, Nat.reduceSub, reduceCtorEq, Int.reduceToNat, Int.reduceLT, Int.reduceLE, Int.reduceEq, Int.reduceNe, Int.reduceBEq, Nat.reduceBEq, Int.reduceBNe, Nat.reduceBNe, Int.reduceAdd, Int.reduceSub, Int.reduceMul, Int.reduceNeg]
        exact ⟨H, (by (repeat (first | exact AH.le_refl _ | refine AH.le_add ?_ ?_)); all_goals (first | exact AH.le_refl _ | (show AH.find _ _ = _; simp only [find_add_self, find_add_ne, find_fresh, fresh_add, ne_eq, not_false_eq_true, true_and, and_true, and_self]))), _, rfl, .inr ⟨i, x, hx, hb, rfl, hall⟩, rfl⟩
      | false =>
        simp (dsimp := false) (maxSteps := 4000000) only [ee, go_sem, ↓reduceIte, Nat.reduceEqDiff, Nat.reduceLT, Nat.reduceLeDiff, Nat.reduceAdd, Nat.reduceMul, Nat.reduceSub, reduceCtorEq, Int.reduceToNat, Int.reduceLT, Int.reduceLE, Int.reduceEq, Int.reduceNe, Int.reduceBEq, Nat.reduceBEq, Int.reduceBNe, Nat.reduceBNe, Int.reduceAdd, Int.reduceSub, Int.reduceMul, Int.reduceNeg]
        refine again (i + 1) _ _ ⟨by omega, fun j hj m hm => ?_⟩ (FrLe.of_lks (by simp (dsimp := false) (maxSteps := 4000000) only [go_sem, ↓reduceIte, Nat.reduceEqDiff, Nat.reduceLT, Nat.reduceLeDiff, Nat.reduceAdd, Nat.reduceMul, Nat.reduceSub, reduceCtorEq, Int.reduceToNat, Int.reduceLT, Int.reduceLE, Int.reduceEq, Int.reduceNe, Int.reduceBEq, Nat.reduceBEq, Int.reduceBNe, Nat.reduceBNe, Int.reduceAdd, Int.reduceSub, Int.reduceMul, Int.reduceNeg])) (AH.le_refl _) (by omega)
        by_cases hji : j = i
        · subst hji; rw [hx] at hm; cases hm; exact hb
        · exact hall j (by omega) m hm
    · simp (dsimp := false) (maxSteps := 4000000) only [h, go_sem, ↓reduceIte, Nat.reduceEqDiff, Nat.reduceLT, Nat.reduceLeDiff, Nat.reduceAdd, Nat.reduceMul, Nat.reduceSub, reduceCtorEq, Int.reduceToNat, Int.reduceLT, Int.reduceLE, Int.reduceEq, Int.reduceNe, Int.reduceBEq, Nat.reduceBEq, Int.reduceBNe, Nat.reduceBNe, Int.reduceAdd, Int.reduceSub, Int.reduceMul, Int.reduceNeg]
      refine out _ _ _ (by simp) ?_
      simp (dsimp := false) (maxSteps := 4000000) only [go_sem, ↓reduceIte, Nat.reduceEqDiff, Nat.reduceLT, Nat.reduceLeDiff, Nat.reduceAdd, Nat.reduceMul, Nat.reduceSub, reduceCtorEq, Int.reduceToNat, Int.reduceLT, Int.reduceLE, Int.reduceEq, Int.reduceNe, Int.reduceBEq, Nat.reduceBEq, Int.reduceBNe, Nat.reduceBNe, Int.reduceAdd, Int.reduceSub, Int.reduceMul, Int.reduceNeg]
      exact ⟨H, (by (repeat (first | exact AH.le_refl _ | refine AH.le_add ?_ ?_)); all_goals (first | exact AH.le_refl _ | (show AH.find _ _ = _; simp only [find_add_self, find_add_ne, find_fresh, fresh_add, ne_eq, not_false_eq_true, true_and, and_true, and_self]))), _, rfl, .inl ⟨rfl, fun y hy => by
        obtain ⟨j, hj⟩ := List.mem_iff_getElem?.1 hy
        exact hall j (by have := lt_of_get hj; omega) y hj⟩, rfl⟩
theorem Contains_g {g : Ent → Bool} {fid : Nat} {caps : List Value} {L : List Ent} {n : Nat} {base : Option Addr} {cap : Nat} {H : AH} (hs : SlcIn H 5 base cap (L.map encE)) (hn : n = L.length) (hok : fnOk Try.prog fid = true)
    (hf : ∀ x ∈ L, ACalls Try.prog fid ([] ++ [Value.agg (encE x).toArray] ++ caps).toArray H (fun v H' => v = .bool (g x) ∧ H = H')) :
    ACalls Try.prog 17 #[.slice base n cap, .func (.func fid) #[] caps.toArray] H (fun v H' => v = .bool (L.any g) ∧ H = H') := by
  refine ACalls.enter2 Try.func17 rfl Try.ntmps17 Try.results17 (by simp) ?_; simp (dsimp := false) (maxSteps := 4000000) only [go_sem, ↓reduceIte, Nat.reduceEqDiff, Nat.reduceLT, Nat.reduceLeDiff, Nat.reduceAdd, Nat.reduceMul, Nat.reduceSub, reduceCtorEq, Int.reduceToNat, Int.reduceLT, Int.reduceLE, Int.reduceEq, Int.reduceNe, Int.reduceBEq, Nat.reduceBEq, Int.reduceBNe, Nat.reduceBNe, Int.reduceAdd, Int.reduceSub, Int.reduceMul, Int.reduceNeg]
  refine (Index_g hs hn hok hf).mono ?_; rintro _ _ ⟨r, rfl, hr, rfl⟩
  rcases hr with ⟨rfl, hno⟩ | ⟨q, x, hq, hg, rfl, hpre⟩
  · have e : L.any g = false := by rw [List.any_eq_false]; intro x hx; rw [hno x hx]; simp
    simp (dsimp := false) (maxSteps := 4000000) only [go_sem, ↓reduceIte, Nat.reduceEqDiff, Nat.reduceLT, Nat.reduceLeDiff, Nat.reduceAdd, Nat.reduceMul, Nat.reduceSub, reduceCtorEq, Int.reduceToNat, Int.reduceLT, Int.reduceLE, Int.reduceEq, Int.reduceNe, Int.reduceBEq, Nat.reduceBEq, Int.reduceBNe, Nat.reduceBNe, Int.reduceAdd, Int.reduceSub, Int.reduceMul, Int.reduceNeg]
    exact ⟨H, (AH.le_refl _), (by first | exact ⟨by rw [e], rfl⟩ | rfl)⟩
  · have e : L.any g = true := List.any_eq_true.2 ⟨x, List.mem_of_getElem? hq, hg⟩
    have q0 : (0 : Int) ≤ (q : Int) := by omega
    simp (dsimp := false) (maxSteps := 4000000) only [go_sem, ↓reduceIte, Nat.reduceEqDiff, Nat.reduceLT, Nat.reduceLeDiff, Nat.reduceAdd, Nat.reduceMul, Nat.reduceSub, reduceCtorEq, Int.reduceToNat, Int.reduceLT, Int.reduceLE, Int.reduceEq, Int.reduceNe, Int.reduceBEq, Nat.reduceBEq, Int.reduceBNe, Nat.reduceBNe, Int.reduceAdd, Int.reduceSub, Int.reduceMul, Int.reduceNeg]
    exact ⟨H, (AH.le_refl _), (by first | exact ⟨by rw [e], rfl⟩ | rfl)⟩
theorem encE_len (x : Ent) : (encE x).length = 5 := rfl
theorem encE_scal (x : Ent) : (encE x).all scal = true := rfl
theorem encE_z (x : Ent) : lput [.int .i64 0, .int .i64 0, .int .i64 0, .int .i64 0, .int .i64 0] 0 (encE x) = encE x := rfl
theorem encE_take (x : Ent) : (encE x).take 5 = encE x := rfl
theorem zfE (n : Nat) : zf [Value.int .i64 0, .int .i64 0, .int .i64 0, .int .i64 0, .int .i64 0] (n * 5) = ((List.replicate n ((0, 0, 0, 0, 0) : Ent)).map encE).flatten := by
  rw [zf_rows (zs := [Value.int .i64 0, .int .i64 0, .int .i64 0, .int .i64 0, .int .i64 0]) (n := n) (m := n * 5) rfl, List.map_replicate]; rfl
theorem ACalls.monoS {P : Program} {f : FuncId} {args : Array Value} {H : AH} {K K' : Value → AH → Prop} (h : ACalls P f args H K) (hk : ∀ v H', K v H' → ∃ H2 : AH, (∀ E w, Sat E H' w → Sat E H2 w) ∧ K' v H2) : ACalls P f args H K' :=
  fun E w hs => (h E w hs).mono fun e w' ⟨v, H', h1, h2, h3⟩ => by
    obtain ⟨H2, h4, h5⟩ := hk v H' h3
    exact ⟨v, H2, h1, h4 E w' h2, h5⟩
/-- What lies in the row while those that are let stay move to the front. -/
structure Mid (p : Ent → Bool) (L M : List Ent) (i j : Nat) : Prop where
  len : M.length = L.length
  ij : i < j
  jl : j ≤ L.length
  front : M.take i = (L.take j).filter (fun x => !p x)
  cnt : i = ((L.take j).filter (fun x => !p x)).length
  back : M.drop j = L.drop j
theorem Mid.keep {p : Ent → Bool} {L M : List Ent} {i j : Nat} {x : Ent} (h : Mid p L M i j) (hx : L[j]? = some x) (hp : p x = false) : Mid p L (M.set i x) (i + 1) (j + 1) := by
  have hj := lt_of_get hx
  have e : (L.take (j + 1)).filter (fun x => !p x) = (L.take j).filter (fun x => !p x) ++ [x] := by
    rw [List.take_add_one, hx, List.filter_append]; simp [hp]
  have hl := h.len
  have hij := h.ij
  refine ⟨by rw [List.length_set]; exact h.len, by omega, by omega, ?_, ?_, ?_⟩
  · rw [e, ← h.front, List.take_add_one, List.getElem?_set_self (by omega)]
    congr 1
    apply List.ext_getElem?
    intro q
    rw [List.getElem?_take, List.getElem?_take]
    split
    · rw [List.getElem?_set_ne (by omega)]
    · rfl
  · rw [e, List.length_append, ← h.cnt]; rfl
  · have := h.back
    apply List.ext_getElem?
    intro q
    rw [List.getElem?_drop, List.getElem?_drop, List.getElem?_set_ne (by omega)]
    have h2 := congrArg (fun l => l[q + 1]?) this
    simp only [List.getElem?_drop] at h2
    rw [show j + 1 + q = j + (q + 1) from by omega]; exact h2
theorem Mid.drop {p : Ent → Bool} {L M : List Ent} {i j : Nat} {x : Ent} (h : Mid p L M i j) (hx : L[j]? = some x) (hp : p x = true) : Mid p L M i (j + 1) := by
  have hj := lt_of_get hx
  have e : (L.take (j + 1)).filter (fun x => !p x) = (L.take j).filter (fun x => !p x) := by
    rw [List.take_add_one, hx, List.filter_append]; simp [hp]
  have hij := h.ij
  refine ⟨h.len, by omega, by omega, by rw [e]; exact h.front, by rw [e]; exact h.cnt, ?_⟩
  have := h.back
  apply List.ext_getElem?
  intro q
  rw [List.getElem?_drop, List.getElem?_drop]
  have h2 := congrArg (fun l => l[q + 1]?) this
  simp only [List.getElem?_drop] at h2
  rw [show j + 1 + q = j + (q + 1) from by omega]; exact h2
theorem Mid.get {p : Ent → Bool} {L M : List Ent} {i j : Nat} {x : Ent} (h : Mid p L M i j) (hx : L[j]? = some x) : M[j]? = some x := by
  have h2 := congrArg (fun l => l[0]?) h.back
  simp only [List.getElem?_drop, Nat.add_zero] at h2
  rw [h2]; exact hx
theorem Mid.start {p : Ent → Bool} {L : List Ent} {i : Nat} {x : Ent} (hx : L[i]? = some x) (hp : p x = true) (hpre : ∀ j, j < i → ∀ y, L[j]? = some y → p y = false) : Mid p L L i (i + 1) := by
  have hi := lt_of_get hx
  have e0 : (L.take i).filter (fun x => !p x) = L.take i := by
    rw [List.filter_eq_self]
    intro y hy
    obtain ⟨q, hq⟩ := List.mem_iff_getElem?.1 hy
    rw [List.getElem?_take] at hq
    split at hq
    · rename_i hq2; rw [hpre q hq2 y hq]; rfl
    · cases hq
  have e : (L.take (i + 1)).filter (fun x => !p x) = L.take i := by
    rw [List.take_add_one, hx, List.filter_append, e0]; simp [hp]
  exact ⟨rfl, by omega, by omega, e.symm, by rw [e, List.length_take]; omega, rfl⟩
theorem DeleteFunc_c {p : Ent → Bool} {fid : Nat} {H A : AH} {base : Option Addr} {cap n : Nat} {L : List Ent} (hO : OwnS H A 50 5 base cap (L.map encE)) (hn : n = L.length) (hok : fnOk Try.prog fid = true)
    (hf : ∀ (x : Ent) (B : AH), ACalls Try.prog fid ([] ++ [Value.agg (encE x).toArray] ++ ([] : List Value)).toArray B (fun v H' => v = .bool (p x) ∧ B = H')) :
    ACalls Try.prog 13 #[.slice base n cap, .func (.func fid) #[] #[]] A (fun v H' => v = .slice base (L.filter fun x => !p x).length cap ∧ OwnS H H' 50 5 base cap ((L.filter fun x => !p x).map encE) ∧ Keep A H' (exB base)) := by
  subst hn
  have hbig := hO.big
  have hle := hO.le
  simp only [List.length_map] at hbig hle
  have hff : ∀ (x : Ent) (B : AH), ACalls Try.prog fid #[Value.agg (encE x).toArray] B (fun v H' => v = .bool (p x) ∧ B = H') := hf
  by_cases hno : ∀ x ∈ L, p x = false
  · have e : (L.filter fun x => !p x) = L := by
      rw [List.filter_eq_self]; intro x hx; rw [hno x hx]; rfl
    rw [e]
    refine ACalls.enter2 Try.func13 rfl Try.ntmps13 Try.results13 (by simp) ?_; simp (dsimp := false) (maxSteps := 4000000) only [go_sem, ↓reduceIte, Nat.reduceEqDiff, Nat.reduceLT, Nat.reduceLeDiff, Nat.reduceAdd, Nat.reduceMul, Nat.reduceSub, reduceCtorEq, Int.reduceToNat, Int.reduceLT, Int.reduceLE, Int.reduceEq, Int.reduceNe, Int.reduceBEq, Nat.reduceBEq, Int.reduceBNe, Nat.reduceBNe, Int.reduceAdd, Int.reduceSub, Int.reduceMul, Int.reduceNeg]
    refine (Index_g (g := p) (caps := []) hO.slc rfl hok fun x _ => hf x A).mono ?_; rintro _ _ ⟨r, rfl, hr, rfl⟩
    rcases hr with ⟨rfl, _⟩ | ⟨q, x, hq, hg, rfl, _⟩
    · simp (dsimp := false) (maxSteps := 4000000) only [go_sem, ↓reduceIte, Nat.reduceEqDiff, Nat.reduceLT, Nat.reduceLeDiff, Nat.reduceAdd, Nat.reduceMul, Nat.reduceSub, reduceCtorEq, Int.reduceToNat, Int.reduceLT, Int.reduceLE, Int.reduceEq, Int.reduceNe, Int.reduceBEq, Nat.reduceBEq, Int.reduceBNe, Nat.reduceBNe, Int.reduceAdd, Int.reduceSub, Int.reduceMul, Int.reduceNeg]
      exact ⟨A, AH.le_refl _, hO, Keep.refl⟩
    · rw [hno x (List.mem_of_getElem? hq)] at hg; cases hg
  · obtain ⟨b, bs, rfl, hfb, hbs, hfr⟩ : ∃ b bs, base = some ⟨b, 0, none⟩ ∧ A.find b = some (.cells (L.map encE).flatten 50 bs) ∧ cap * 5 ≤ bs ∧ Fresh H b := by
      rcases hO.at_ with ⟨_, h0, _⟩ | ⟨b, bs, h1, h2, h3, h4⟩
      · rw [List.map_eq_nil_iff] at h0
        subst h0
        exact (hno (fun x hx => by cases hx)).elim
      · exact ⟨b, bs, h1, h2, h3, h4⟩
    refine ACalls.at hfb ?_
    have hsl := hO.slc.keep (Keep.top1 hfb) fun _ _ h => h
    have hk1 : ∀ k, Keep A ((A.del b).add b k) (exB (some ⟨b, 0, none⟩)) := fun k => Keep.put.mono fun b' hb' => exB_some.2 hb'
    generalize hB : A.del b = B at hsl hk1 ⊢
    clear hfb hO
    suffices hm : ACalls Try.prog 13 #[.slice (some ⟨b, 0, none⟩) L.length cap, .func (.func fid) #[] #[]] (B.add b (.cells (L.map encE).flatten 50 bs)) (fun v H' => v = .slice (some ⟨b, 0, none⟩) (L.filter fun x => !p x).length cap ∧ ∃ rest, H' = B.add b (.cells (((L.filter fun x => !p x).map encE).flatten ++ rest) 50 bs)) by
      refine ACalls.monoS hm ?_
      rintro v H' ⟨rfl, rest, rfl⟩
      refine ⟨_, fun E w hs => hs.pre, rfl, ⟨rowsE _, ?_, ?_, .inr ⟨b, bs, rfl, find_add_self _ _ _, hbs, hfr⟩⟩, hk1 _⟩
      · rw [List.length_map]
        exact Nat.le_trans (List.length_filter_le _ _) hle
      · rw [List.length_map]
        exact Nat.lt_of_le_of_lt (List.length_filter_le _ _) hbig
    refine ACalls.enter2 Try.func13 rfl Try.ntmps13 Try.results13 (by simp) ?_; simp (dsimp := false) (maxSteps := 4000000) only [encE_len, encE_scal, encE_z, encE_take, go_sem, ↓reduceIte, Nat.reduceEqDiff, Nat.reduceLT, Nat.reduceLeDiff, Nat.reduceAdd, Nat.reduceMul, Nat.reduceSub, reduceCtorEq, Int.reduceToNat, Int.reduceLT, Int.reduceLE, Int.reduceEq, Int.reduceNe, Int.reduceBEq, Nat.reduceBEq, Int.reduceBNe, Nat.reduceBNe, Int.reduceAdd, Int.reduceSub, Int.reduceMul, Int.reduceNeg]
    refine (Index_g (g := p) (caps := []) hsl rfl hok fun x _ => hf x _).mono ?_; rintro _ _ ⟨r, rfl, hr, rfl⟩
    rcases hr with ⟨rfl, hall⟩ | ⟨i0, x0, hi0, hg0, rfl, hpre⟩
    · exact absurd hall hno
    have hst := Mid.start hi0 hg0 hpre
    have hi0l := lt_of_get hi0
    have e0 := i64_succ (i := i0) (by omega)
    have c0 : ¬ (i0 : Int) = -1 := by omega
    simp (dsimp := false) (maxSteps := 4000000) only [e0, c0, encE_len, encE_scal, encE_z, encE_take, go_sem, ↓reduceIte, Nat.reduceEqDiff, Nat.reduceLT, Nat.reduceLeDiff, Nat.reduceAdd, Nat.reduceMul, Nat.reduceSub, reduceCtorEq, Int.reduceToNat, Int.reduceLT, Int.reduceLE, Int.reduceEq, Int.reduceNe, Int.reduceBEq, Nat.reduceBEq, Int.reduceBNe, Nat.reduceBNe, Int.reduceAdd, Int.reduceSub, Int.reduceMul, Int.reduceNeg]
    refine AWp.loopo (ι := Nat × Nat × List Ent) (fun x => Mid p L x.2.2 x.1 x.2.1) (fun x => [(5, .int .i64 x.1), (6, .int .i64 x.2.1), (0, .slice (some ⟨b, 0, none⟩) L.length cap), (1, .func (.func fid) #[] #[])])
      (fun x => B.add b (.cells (x.2.2.map encE).flatten 50 bs)) (fun x => L.length - x.2.1) (i0, i0 + 1, L) hst (FrLe.of_lks ?_) (AH.le_refl _) fun x hi Q again out => ?_
    · simp (dsimp := false) (maxSteps := 4000000) only [encE_len, encE_scal, encE_z, encE_take, go_sem, ↓reduceIte, Nat.reduceEqDiff, Nat.reduceLT, Nat.reduceLeDiff, Nat.reduceAdd, Nat.reduceMul, Nat.reduceSub, reduceCtorEq, Int.reduceToNat, Int.reduceLT, Int.reduceLE, Int.reduceEq, Int.reduceNe, Int.reduceBEq, Nat.reduceBEq, Int.reduceBNe, Nat.reduceBNe, Int.reduceAdd, Int.reduceSub, Int.reduceMul, Int.reduceNeg]
    obtain ⟨i, j, M⟩ := x
    dsimp only at hi again ⊢
    have hij := hi.ij
    have hjl := hi.jl
    have hMl := hi.len
    by_cases h : (j : Int) < L.length
    · obtain ⟨x, hx⟩ := get_some (l := L) (i := j) (by omega)
      have hmx := hi.get hx
      have hS2 : SlcIn (B.add b (.cells (M.map encE).flatten 50 bs)) 5 (some ⟨b, 0, none⟩) cap (M.map encE) := SlcIn.own (rowsE _) (by rw [List.length_map]; omega) (by rw [List.length_map]; omega)
      have hrow := hS2.row b 0 rfl j _ (map_get (f := encE) hmx)
      rw [Nat.zero_add, row_add_self] at hrow
      have ej := i64_succ (i := j) (by omega)
      have ei := i64_succ (i := i) (by omega)
      simp (dsimp := false) (maxSteps := 4000000) only [h, hrow, row_add_self, encE_len, encE_scal, encE_z, encE_take, go_sem, ↓reduceIte, Nat.reduceEqDiff, Nat.reduceLT, Nat.reduceLeDiff, Nat.reduceAdd, Nat.reduceMul, Nat.reduceSub, reduceCtorEq, Int.reduceToNat, Int.reduceLT, Int.reduceLE, Int.reduceEq, Int.reduceNe, Int.reduceBEq, Nat.reduceBEq, Int.reduceBNe, Nat.reduceBNe, Int.reduceAdd, Int.reduceSub, Int.reduceMul, Int.reduceNeg]
      refine AllB.mk fun b7 h_b7 => ?_
      have hn7 : ¬ b7 = b := h_b7.ne_find (find_add_self _ _ _)
      have hr7 : ¬ b = b7 := fun e => hn7 e.symm
      simp (dsimp := false) (maxSteps := 4000000) only [hn7, hr7, hok, encE_len, encE_scal, encE_z, encE_take, go_sem, ↓reduceIte, Nat.reduceEqDiff, Nat.reduceLT, Nat.reduceLeDiff, Nat.reduceAdd, Nat.reduceMul, Nat.reduceSub, reduceCtorEq, Int.reduceToNat, Int.reduceLT, Int.reduceLE, Int.reduceEq, Int.reduceNe, Int.reduceBEq, Nat.reduceBEq, Int.reduceBNe, Nat.reduceBNe, Int.reduceAdd, Int.reduceSub, Int.reduceMul, Int.reduceNeg]
      refine (hff x _).mono ?_; rintro _ _ ⟨rfl, rfl⟩
      cases hp : p x with
      | true =>
        simp (dsimp := false) (maxSteps := 4000000) only [ej, encE_len, encE_scal, encE_z, encE_take, go_sem, ↓reduceIte, Nat.reduceEqDiff, Nat.reduceLT, Nat.reduceLeDiff, Nat.reduceAdd, Nat.reduceMul, Nat.reduceSub, reduceCtorEq, Int.reduceToNat, Int.reduceLT, Int.reduceLE, Int.reduceEq, Int.reduceNe, Int.reduceBEq, Nat.reduceBEq, Int.reduceBNe, Nat.reduceBNe, Int.reduceAdd, Int.reduceSub, Int.reduceMul, Int.reduceNeg]
        exact again (i, j + 1, M) _ _ (hi.drop hx hp) (FrLe.of_lks (by simp (dsimp := false) (maxSteps := 4000000) only [encE_len, encE_scal, encE_z, encE_take, go_sem, ↓reduceIte, Nat.reduceEqDiff, Nat.reduceLT, Nat.reduceLeDiff, Nat.reduceAdd, Nat.reduceMul, Nat.reduceSub, reduceCtorEq, Int.reduceToNat, Int.reduceLT, Int.reduceLE, Int.reduceEq, Int.reduceNe, Int.reduceBEq, Nat.reduceBEq, Int.reduceBNe, Nat.reduceBNe, Int.reduceAdd, Int.reduceSub, Int.reduceMul, Int.reduceNeg])) (AH.le_add (AH.le_refl _) h_b7.2) (by simp only; omega)
      | false =>
        have hil : (i : Int) < L.length := by omega
        have hfl : (M.map encE).flatten.length = L.length * 5 := by rw [flatE_len, hMl]
        have k2 : i * 5 + 5 ≤ L.length * 5 := by omega
        have k3 : L.length * 5 ≤ bs := by omega
        have hput : lput (M.map encE).flatten (i * 5) (encE x) = ((M.set i x).map encE).flatten := by
          rw [flat_lput (rowsE M) i (encE x) (by rw [List.length_map]; omega) rfl, List.map_set]
        simp (dsimp := false) (maxSteps := 4000000) only [hn7, hr7, hil, hfl, k2, k3, hput, ei, ej, encE_len, encE_scal, encE_z, encE_take, go_sem, ↓reduceIte, Nat.reduceEqDiff, Nat.reduceLT, Nat.reduceLeDiff, Nat.reduceAdd, Nat.reduceMul, Nat.reduceSub, reduceCtorEq, Int.reduceToNat, Int.reduceLT, Int.reduceLE, Int.reduceEq, Int.reduceNe, Int.reduceBEq, Nat.reduceBEq, Int.reduceBNe, Nat.reduceBNe, Int.reduceAdd, Int.reduceSub, Int.reduceMul, Int.reduceNeg]
        exact again (i + 1, j + 1, M.set i x) _ _ (hi.keep hx hp) (FrLe.of_lks (by simp (dsimp := false) (maxSteps := 4000000) only [encE_len, encE_scal, encE_z, encE_take, go_sem, ↓reduceIte, Nat.reduceEqDiff, Nat.reduceLT, Nat.reduceLeDiff, Nat.reduceAdd, Nat.reduceMul, Nat.reduceSub, reduceCtorEq, Int.reduceToNat, Int.reduceLT, Int.reduceLE, Int.reduceEq, Int.reduceNe, Int.reduceBEq, Nat.reduceBEq, Int.reduceBNe, Nat.reduceBNe, Int.reduceAdd, Int.reduceSub, Int.reduceMul, Int.reduceNeg])) (AH.le_add (AH.le_refl _) (by rw [find_add_ne _ hr7, ← find_add_ne _ hr7 (k := .cells (M.map encE).flatten 50 bs)]; exact (by rw [find_add_ne _ hr7]; have := h_b7.2; rw [find_add_ne _ hr7] at this; exact this))) (by simp only; omega)
    · obtain rfl : j = L.length := by omega
      have hfr2 := hi.front
      have hcn := hi.cnt
      rw [List.take_length] at hfr2 hcn
      have hile : (i : Int) ≤ L.length := by omega
      have hicap : (i : Int) ≤ cap := by omega
      have hne : ¬ cap = i := by omega
      have hfl : (M.map encE).flatten.length = L.length * 5 := by rw [flatE_len, hMl]
      simp (dsimp := false) (maxSteps := 4000000) only [h, encE_len, encE_scal, encE_z, encE_take, go_sem, ↓reduceIte, Nat.reduceEqDiff, Nat.reduceLT, Nat.reduceLeDiff, Nat.reduceAdd, Nat.reduceMul, Nat.reduceSub, reduceCtorEq, Int.reduceToNat, Int.reduceLT, Int.reduceLE, Int.reduceEq, Int.reduceNe, Int.reduceBEq, Nat.reduceBEq, Int.reduceBNe, Nat.reduceBNe, Int.reduceAdd, Int.reduceSub, Int.reduceMul, Int.reduceNeg]
      refine out _ _ _ (by simp) ?_
      have hZl : (zf [Value.int .i64 0, .int .i64 0, .int .i64 0, .int .i64 0, .int .i64 0] ((L.length - i) * 5)).length = (L.length - i) * 5 := by rw [zfE, flatE_len, List.length_replicate]
      have hZs : (zf [Value.int .i64 0, .int .i64 0, .int .i64 0, .int .i64 0, .int .i64 0] ((L.length - i) * 5)).all scal = true := by rw [zfE]; exact scalE _
      simp (dsimp := false) (maxSteps := 4000000) only [hile, hicap, hne, encE_len, encE_scal, encE_z, encE_take, go_sem, ↓reduceIte, Nat.reduceEqDiff, Nat.reduceLT, Nat.reduceLeDiff, Nat.reduceAdd, Nat.reduceMul, Nat.reduceSub, reduceCtorEq, Int.reduceToNat, Int.reduceLT, Int.reduceLE, Int.reduceEq, Int.reduceNe, Int.reduceBEq, Nat.reduceBEq, Int.reduceBNe, Nat.reduceBNe, Int.reduceAdd, Int.reduceSub, Int.reduceMul, Int.reduceNeg]
      refine CLR.row (n := L.length - i) rfl se_51 (by omega) (by rw [wrs_add_self, if_pos ⟨by rw [hZl, hfl]; omega, by omega, hZs⟩]) rfl ?_
      simp (dsimp := false) (maxSteps := 4000000) only [hicap, ite_self, Nat.sub_zero, encE_len, encE_scal, encE_z, encE_take, go_sem, ↓reduceIte, Nat.reduceEqDiff, Nat.reduceLT, Nat.reduceLeDiff, Nat.reduceAdd, Nat.reduceMul, Nat.reduceSub, reduceCtorEq, Int.reduceToNat, Int.reduceLT, Int.reduceLE, Int.reduceEq, Int.reduceNe, Int.reduceBEq, Nat.reduceBEq, Int.reduceBNe, Nat.reduceBNe, Int.reduceAdd, Int.reduceSub, Int.reduceMul, Int.reduceNeg]
      refine ⟨_, AH.le_refl _, by rw [hcn], zf [Value.int .i64 0, .int .i64 0, .int .i64 0, .int .i64 0, .int .i64 0] ((L.length - i) * 5) ++ (M.map encE).flatten.drop (i * 5 + (zf [Value.int .i64 0, .int .i64 0, .int .i64 0, .int .i64 0, .int .i64 0] ((L.length - i) * 5)).length), ?_⟩
      rw [lput_eq _ _ _ (by rw [hZl, hfl]; omega), List.append_assoc]
      congr 3
      rw [← hfr2]
      have e1 : (M.map encE).flatten = ((M.take i).map encE).flatten ++ ((M.drop i).map encE).flatten := by
        rw [← List.flatten_append, ← List.map_append, List.take_append_drop]
      rw [e1, List.take_append_of_le_length (by rw [flatE_len, List.length_take]; omega), List.take_of_length_le (by rw [flatE_len, List.length_take]; omega)]
end Go.Proofs.Ytgleplakdghaiaa.Mem
